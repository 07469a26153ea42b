/- A part. -/
import Derived.Test.YtdphgbjaijlckaaGreatDoorG24
import Derived.Deep.Strs
open Go.Proofs.Tryz
set_option linter.all false
open _root_.Go.Addr renaming add->aM
open _root_.Go.Builtin renaming append_->cI
open Classical renaming byContradiction->aR
open Int renaming toNat_natCast->aH,natAbs_natCast->aZ,natCast_mul->cH
open List renaming range->aE,replicate->aJ,length_set->aS,length_replicate->aU,length_range->bC,getElem?_map->bD,getElem?_eq_getElem->bF,length_map->bJ,length_append->bN,mem_append->cF,mem_range->cJ,mem_map->cN
open List.cons renaming injEq->cG
open Nat renaming le_refl->aC,mul_le_mul_right->aD,le_mul_of_pos_left->aI,div_lt_of_lt_mul->aO,le_trans->aQ,mul_le_mul->aT,lt_irrefl->aV,mul_comm->aX,add_mul_mod_self_right->aY,pow_pos->bB,mod_lt->bH,add_mul_div_right->bK,mul_le_mul_left->bM,zero_add->bV,mod_eq_of_lt->bX,div_eq_of_lt->bY,add_mul->cC,not_lt_zero->cD,zero_mul->cL,add_comm->cM
open Option.some renaming inj->bI,injEq->bU
open Rat renaming zero_mul->bG,mul_comm->bO,one_mul->bZ
open _root_.Go.Value renaming string->cK
open _root_.Go renaming Addr->aN,TypeId->aW,Program->bW
open _root_.Go.Proofs.YtdphgbjaijlckaaGreatDoor renaming RowV->aF,Heap->aG,FCall->aK,IsNum->aL,OwnSl->aP,RowsV->bL
namespace Go.Proofs.YtdphgbjaijlckaaGreatDoor
set_option maxRecDepth 20000
open Go
def Br.nt{X Y:Prop}(y:Y):Br (!true) X Y:=y
def Fz{X Y:Prop}(x:X):Br (!false) X Y:=x
structure MOut where
 r:Int
 c:Int
 n:Nat
 f:Nat->List UInt8
 e:Int
def noM(e:Int):MOut:=⟨0,0,0,fun _=>[],e⟩
section
variable {h:aG} {K:VP} {A B:Option aN} {n n2 cap cap2 m w:Nat} {r c r2 c2:Int} {la lb:Nat->List UInt8}
end
structure VV where
 A:Option aN
 n:Nat
 c:Nat
 s:Bool
 B:Option aN
 bn:Nat
 bc:Nat
abbrev VV.v(w:VV):Value:=.agg #[.slice w.A w.n w.c,.bool w.s,.slice w.B w.bn w.bc]
instance:Enc VV:=⟨⟨fun w=>[.slice w.A w.n w.c,.bool w.s,.slice w.B w.bn w.bc],3,fun _=>rfl,fun w v hv=>by
 simp only [List.mem_cons,List.not_mem_nil,or_false] at hv
 rcases hv with rfl|rfl|rfl<;>rfl⟩⟩
def VQr(w:Nat):aG->VV->(Nat->Rat)->Prop:=fun h v f=>v.n=w/\ZI h v.s v.B v.bn v.bc (Y5 f w:Int)/\aF ZIr h v.A w (fun j=>scl (f j) (Y5 f w:Int))
def Tr(w:Nat):Mon (VQr w):=fun _ _ _ _ l i=>⟨i.1,i.2.1.mono l,i.2.2.mono Ez l⟩
section
variable {h:aG} {K:VP} {A B:Option aN} {n cap m w:Nat} {f f2:Nat->Rat}
def Lo(gl:Gl h)(r:aF RQr h A n f)(hn:n<=10000)(hs:∀ i,i<n->Sz m (f i))(hm:1+n*m+m<=6400000000)
 (hK:∀ v h',h.le h'->VQr n h' v f->K v.v h'):aK prog 171 #[.slice A n cap] h K:=by
 refine (fnk func171 [(3,[14],[],[I 0])] (os:=[(1,[0,1,3,6,2,4,5,7])]) (al:=[(1,[(2,[4])])]) (own:=[2,3,5])) ?_
 have hd:=Fs (f:=f) n hs
 refine ⟨?_,?_⟩
 ·refine J1 tZs (zx:=(⟨false,none,0,0⟩:IV)) rfl oo oo oo oo ?_
  intro b O
  simp only [aH]
  have V:=(Sep.refl h).new O (.cells ((aJ n (⟨false,none,0,0⟩:IV)).flatMap enc).toArray 91)
  refine ⟨_,_,_,rfl,V.le,V.call (Af gl r oo hs hm ?_)⟩
  intro M Bd Q X x t id h1 D
  refine ⟨_,_,_,_,rfl,V.le_le D t,?_⟩
  refine ⟨fun L p=>∃ (k:Nat) (g o:aG) (l:List IV),k<=n/\L=[I (k:Int)]/\x.le g/\Sep p g o/\RowX o b l/\l.length=n/\Row ZIr g l k (fun j=>scl (f j) (Y5 f n:Int)),fun L _=>n-(iAt L 0).toNat,⟨0,x,_,aJ n ⟨false,none,0,0⟩,oo,rfl,B4 _,D,RowX.mk,aU,Row.nil⟩,?_⟩
  rintro z p ⟨k,g,o,l,hk,eL,e,s,E,C,B⟩
  obtain rfl:=sI1 eL
  refine B6 (fun H=>?_) (fun F=>?_)
  ·have c:k<n:=oo
   obtain ⟨a,w,ea,G,c0,c1,c2,c3⟩:=(r.mono J0 (B0 t e)).qat c
   refine ⟨a,ea,oo,oo,_,_,_,_,_,_,_,_,B5 s.le c0,B5 s.le c1,B5 s.le c2,B5 s.le c3,?_⟩
   refine s.call (Fm (m:=1+n*m+m) G (id.mono e) ((hs k c).mono oo) (hd.mono oo) hm ?_)
   intro T A2 n2 c2 R u N h2 d
   refine ⟨_,_,_,_,rfl,s.le_le d u,_,rfl,oo,oo,?_⟩
   refine S1 Pu (y:=(⟨T,A2,n2,c2⟩:IV)) rfl d E (i:=k) oo ?_
   intro h7 W x7 eo S q
   rw [wiS k oo]
   exact ⟨⟨k+1,R,W,_,oo,rfl,B0 e u,S,q,by rw [aS];exact C,(B.mono Ez u).set oo N⟩,by simp only [V9];omega⟩
  ·have:k=n:=oo
   subst this
   exact hK ⟨some ⟨b,0,none⟩,k,k,M,Bd,Q,X⟩ p (B0 t (B0 e s.le)) ⟨rfl,id.mono (B0 e s.le),l,E.rowB.slF s.ole,C,B.mono Ez s.le⟩
 ·refine Af gl r oo hs hm ?_
  intro M Bd Q X x t id
  refine ⟨_,_,_,_,rfl,t,J1 tZs (zx:=(⟨false,none,0,0⟩:IV)) rfl oo oo oo oo ?_⟩
  intro b O
  simp only [aH]
  have D:=(Sep.refl x).new O (.cells ((aJ n (⟨false,none,0,0⟩:IV)).flatMap enc).toArray 91)
  refine ⟨_,_,_,rfl,D.le,?_⟩
  refine ⟨fun L p=>∃ (k:Nat) (g o:aG) (l:List IV),k<=n/\L=[I (k:Int)]/\x.le g/\Sep p g o/\RowX o b l/\l.length=n/\Row ZIr g l k (fun j=>scl (f j) (Y5 f n:Int)),fun L _=>n-(iAt L 0).toNat,⟨0,x,_,aJ n ⟨false,none,0,0⟩,oo,rfl,B4 _,D,RowX.mk,aU,Row.nil⟩,?_⟩
  rintro z p ⟨k,g,o,l,hk,eL,e,s,E,C,B⟩
  obtain rfl:=sI1 eL
  refine B6 (fun H=>?_) (fun F=>?_)
  ·have c:k<n:=oo
   obtain ⟨a,w,ea,G,c0,c1,c2,c3⟩:=(r.mono J0 (B0 t e)).qat c
   refine ⟨a,ea,oo,oo,_,_,_,_,_,_,_,_,B5 s.le c0,B5 s.le c1,B5 s.le c2,B5 s.le c3,?_⟩
   refine s.call (Fm (m:=1+n*m+m) G (id.mono e) ((hs k c).mono oo) (hd.mono oo) hm ?_)
   intro T A2 n2 c2 R u N h2 d
   refine ⟨_,_,_,_,rfl,s.le_le d u,_,rfl,oo,oo,?_⟩
   refine S1 Pu (y:=(⟨T,A2,n2,c2⟩:IV)) rfl d E (i:=k) oo ?_
   intro h7 W x7 eo S q
   rw [wiS k oo]
   exact ⟨⟨k+1,R,W,_,oo,rfl,B0 e u,S,q,by rw [aS];exact C,(B.mono Ez u).set oo N⟩,by simp only [V9];omega⟩
  ·have:k=n:=oo
   subst this
   exact hK ⟨some ⟨b,0,none⟩,k,k,M,Bd,Q,X⟩ p (B0 t (B0 e s.le)) ⟨rfl,id.mono (B0 e s.le),l,E.rowB.slF s.ole,C,B.mono Ez s.le⟩
def smZ(x y:Nat->Int):Nat->Int
 | 0=>0
 | k+1=>smZ x y k+x k*y k
def smA(x y:Nat->Int):Nat->Int
 | 0=>0
 | k+1=>smA x y k+(x k*y k).natAbs
def A6h{x y:Nat->Int}{m w:Nat}(hx:∀ j,j<w->ZB m (x j))(hy:∀ j,j<w->ZB m (y j)):∀ k,k<=w->smA x y k<=k*2^(2*m):=by
 intro k
 induction k with
 | zero=>intro _;simp [smA]
 | succ k ih=>
  intro c
  have d:=ih o
  have b:=Wi (hx k o) (hy k o)
  have a:((k+1:Nat):Int)*2^(2*m)=(k:Int)*2^(2*m)+2^(2*m):=by rw [Int.natCast_add,Int.add_mul];simp
  show smA x y k+((x k*y k).natAbs:Int)<=_
  rw [a]
  omega
def A7j(x y:Nat->Int):∀ k,((smZ x y k).natAbs:Int)<=smA x y k:=by
 intro k
 induction k with
 | zero=>exact Int.le_refl _
 | succ k ih=>
  show ((smZ x y k+x k*y k).natAbs:Int)<=smA x y k+((x k*y k).natAbs:Int)
  omega
def A9x{x y:Nat->Int}{m w:Nat}(hx:∀ j,j<w->ZB m (x j))(hy:∀ j,j<w->ZB m (y j))(hw:w<=10000):ZB (2*m+14) (smZ x y w):=by
 have b:=A6h hx hy w (aC _)
 have c:=A7j x y w
 have e:(2:Int)^(2*m)=((2^(2*m):Nat):Int):=by simp
 rw [e,<- cH] at b
 have f:w*2^(2*m)<=10000*2^(2*m):=aD _ hw
 have a:2^(2*m+14)=2^(2*m)*16384:=by rw [Nat.pow_add]
 have d:0<2^(2*m):=bB dc
 unfold ZB
 rw [a]
 omega
def A9y{p q:Nat->Rat}{x y:Nat->Int}{d e:Int}{w:Nat}(hx:∀ j,j<w->(x j:Rat)=p j*d)(hy:∀ j,j<w->(y j:Rat)=q j*e):∀ k,k<=w->(smZ x y k:Rat)=sm k (fun j=>p j*q j)*((d*e:Int):Rat):=by
 intro k
 induction k with
 | zero=>intro _;show ((0:Int):Rat)=0*_;rw [bG];rfl
 | succ k ih=>
  intro a
  show ((smZ x y k+x k*y k:Int):Rat)=(sm k (fun j=>p j*q j)+p k*q k)*((d*e:Int):Rat)
  rw [Rat.intCast_add,ih o,Rat.intCast_mul d e,Rat.intCast_mul (x k) (y k),hx k o,hy k o]
  grind
def Og{v u:VV}(gl:Gl h)(iv:VQr w h v f)(iu:VQr w h u f2)(hw:w<=10000)(hs:∀ i,i<w->Sz m (f i))(hs2:∀ i,i<w->Sz m (f2 i))(hm1:1<=m)(hm:2*(1+w*m+m)+14<=100000000)
 (hK:∀ q h',h.le h'->RQ h' q (sm w (fun j=>f j*f2 j))->K q.v h'):aK prog 170 #[v.v,u.v] h K:=by
 refine (fnk func170 [(3,[11],[],[I 0])] (os:=[(7,[1,2,3,4,0,5,6,7])]) (own:=[2,3,4,7]) (wr:=[220])) ?_
 obtain ⟨ad,C,E⟩:=iv
 obtain ⟨aa,A,y⟩:=iu
 have d:=Fs (f:=f) w hs
 have c:=Fs (f:=f2) w hs2
 have D:∀ j,j<w->ZB (1+w*m+m) (scl (f j) (Y5 f w:Int)):=fun j e=>(A1n (hs j e) d).mono o
 have B:∀ j,j<w->ZB (1+w*m+m) (scl (f2 j) (Y5 f2 w:Int)):=fun j e=>(A1n (hs2 j e) c).mono o
 refine Z7 Xu ?_
 intro bs s
 have Z0:SumS (h.put bs (.cells #[.slice none 0 0,.slice none 0 0] 205)) h bs 205 200000001 0 0:=SumS.zero s
 refine ⟨_,rfl,fun L N=>∃ (k:Nat) (g:aG),k<=w/\L=[I (k:Int)]/\h.le g/\SumS N g bs 205 200000001 (smA (fun j=>scl (f j) (Y5 f w:Int)) (fun j=>scl (f2 j) (Y5 f2 w:Int)) k) (smZ (fun j=>scl (f j) (Y5 f w:Int)) (fun j=>scl (f2 j) (Y5 f2 w:Int)) k),fun L _=>w-(iAt L 0).toNat,⟨0,h,o,rfl,B4 _,Z0⟩,?_⟩
 rintro z N ⟨k,g,hk,eL,r,Z⟩
 obtain rfl:=sI1 eL
 refine B6 (fun V=>?_) (fun S=>?_)
 ·have b:k<w:=o
  obtain ⟨a,x1,ea,O,c0,c1⟩:=(E.mono Ez r).zat b
  obtain ⟨a2,X,t,H,d0,d1⟩:=(y.mono Ez r).zat b
  refine ⟨a,ea,o,o,_,_,_,_,B5 Z.le c0,B5 Z.le c1,a2,t,o,o,_,_,_,_,B5 Z.le d0,B5 Z.le d1,?_⟩
  have lx:x1.n<=100000000:=ZI.len O (D k b) o
  have ly:X.n<=100000000:=ZI.len H (B k b) o
  have hA:=A6h D B (k+1) b
  have R:=A2a (m:=1+w*m+m) (k:=k+1) o o
  refine T7 Z O H o o (N1:=1+w*m+m) (by show smA _ _ (k+1)<_;omega) o ?_
  intro h3 g3 l3 Z3
  rw [wiS k o]
  exact ⟨rfl,⟨k+1,g3,o,rfl,B0 r l3,Z3⟩,by simp only [V9];omega⟩
 ·have:k=w:=o
  subst this
  refine Gr Z o ?_
  intro sv Av nv cv h5 G W
  have l:=B0 r (B0 Z.le G)
  refine ⟨_,_,_,_,rfl,G,?_⟩
  refine J3 (m:=1+k*m+m) (C.mono l) (A.mono l) (d.mono o) (c.mono o) o ?_
  intro s6 A6 n6 c6 h6 F z6
  refine ⟨_,_,_,_,rfl,F,?_⟩
  have p:=B0 l F
  have e1:∀ j,j<k->(scl (f j) (Y5 f k:Int):Rat)=f j*((Y5 f k:Int):Rat):=fun j e=>A1o (Int.natCast_dvd_natCast.2 (Qr f k j e))
  have e2:∀ j,j<k->(scl (f2 j) (Y5 f2 k:Int):Rat)=f2 j*((Y5 f2 k:Int):Rat):=fun j e=>A1o (Int.natCast_dvd_natCast.2 (Qr f2 k j e))
  have es:=A9y e1 e2 k (aC _)
  have T:=Qq f k
  have ac:=Qq f2 k
  have x:((Y5 f k:Int)*(Y5 f2 k:Int))≠0:=Int.mul_ne_zero o o
  have zb:ZB (2*(1+k*m+m)+14) (smZ (fun j=>scl (f j) (Y5 f k:Int)) (fun j=>scl (f2 j) (Y5 f2 k:Int)) k):=A9x D B o
  refine U6 (m:=2*(1+k*m+m)+14) (gl.mono p).tz (W.mono F) z6 zb ((d.mul c).mono o) o ?_
  intro q h7 Q M
  refine ⟨_,_,_,_,_,_,_,_,rfl,Q,hK q h7 (B0 p Q) ?_⟩
  have:Rat.divInt (smZ (fun j=>scl (f j) (Y5 f k:Int)) (fun j=>scl (f2 j) (Y5 f2 k:Int)) k) ((Y5 f k:Int)*(Y5 f2 k:Int))=sm k (fun j=>f j*f2 j):=by
   rw [Rat.divInt_eq_div,es]
   exact Rat.mul_div_cancel (R5 x)
  rw [this] at M
  exact M
end
def A4v:prog.cellsOf 209=1/\(prog.info? 209).isSome=true:=by constructor<;>kernel_rfl
section
variable {h:aG} {K:VP} {A:Option aN} {cap m rows cols:Nat} {E:Nat->Rat}
def Dj(gl:Gl h)(r:aF RQr h A (rows*cols) E)(hcap:rows*cols<=cap)(hr2:rows<=10000)(hc:1<=cols)(hc2:cols<=10000)(hs:∀ i,i<rows*cols->Sz m (E i))(hm:1+cols*m+m<=6400000000)
 (hK:∀ A' c' h',h.le h'->aF (VQr cols) h' A' rows (Wa E cols)->K (.slice A' rows c') h'):aK prog 168 #[.slice A (rows*cols) cap,I (cols:Int)] h K:=by
 refine (fnk func168 (rs:=[(4,[.slice none 0 0])]) (wr:=[1000000000])) ?_
 have ac:rows*cols<=100000000:=by
  have:rows*cols<=10000*10000:=aT hr2 hc2
  omega
 refine Z7 (z:=.slice none 0 0) (by kernel_rfl) ?_
 intro q M
 refine ⟨_,rfl,?_⟩
 have s0:=(Sep.refl h).new M (.cells #[.slice none 0 0] 209)
 refine s0.call (Pd hc ?_)
 intro v Q S ic ae s3
 have bound:∀ k,k<rows->∀ j,j<cols->Sz m (E (k*cols+j)):=fun k hk j hj=>hs _ (X7 hk hj)
 refine ⟨_,rfl,Ld ic hc o hcap (fun k R=>∃ (t s:aG) (n:List VV) (A1:Option aN) (c1:Nat),Q.le t/\Sep R t s/\(∃ e,s q=some (.cells #[.slice A1 k c1] e))/\aP s 213 A1 c1 n/\A1≠some ⟨q,0,none⟩/\n.length=k/\Row (VQr cols) t n k (Wa E cols)) ?_ ?_ ?_ ?_⟩
 ·exact ⟨Q,_,[],none,0,B4 _,s3,⟨_,C0 _ _ _⟩,OwnSl.nil,by simp,rfl,Row.nil⟩
 ·rintro k R ⟨t,s,n,A1,c1,lg,s1,_⟩
  exact B0 lg s1.le
 ·rintro k d u ⟨t,s,n,A1,c1,f,g,⟨e,a⟩,H,V,p,G⟩
  have bk:=bound k u
  have ad:(k+1)*cols<=rows*cols:=aD _ u
  have aa:(k+1)*cols=k*cols+cols:=by rw [cC,Nat.one_mul]
  have B:=B0 S f
  have x:aF RQr h A ((k+1)*cols) E:=by
   have:=r.cut (c:=cap) (l:=0) (k:=(k+1)*cols) o hcap
   rw [G0] at this
   exact this.congr fun i _=>by rw [bV]
  have C:aF RQr h (P7 A ((k+1)*cols) (k*cols) 4) cols (Wa E cols k):=x.cut (c:=(k+1)*cols) (l:=k*cols) (k:=cols) o (aC _)
  have cp:d.cell? ⟨q,0,none⟩=some (.slice A1 k c1):=g.cell (by unfold Heap.cell?;simp only [a];rfl)
  refine ⟨_,_,_,rfl,_,_,_,cp,g.call (Lo (gl.mono B) (C.mono J0 B) o bk hm ?_)⟩
  intro w g2 N iw D W
  refine ⟨_,_,_,_,_,_,_,rfl,g.le_le W N,?_⟩
  subst p
  refine OwnSl.push (ty:=209) B2e W H (y:=w) (v:=w.v) rfl dc o o (K1:=fun hq=>D.le hq) (fun _ l=>l) ?_
  intro A3 c3 h6 X o6 O s6 F kp
  have L:=kp q _ a V
  show wpH _ (Instr.storeAt _ (.pointer (some (aM ⟨q,0,none⟩ 0))) _) _ _
  refine Rn A4v rfl rfl s6 L.1 (by simp) ?_
  intro h7 o7 s7 T
  exact ⟨X,o7,n++[w],A3,c3,B0 f (B0 N O),s7,⟨e,by rw [T,C0];simp⟩,F.keep fun b y hb he=>by rw [T,B8 _ _ (fun e=>L.2 (by rw [<- e];exact hb))];exact he,L.2,by simp,by
   have:=(Row.push (G.mono (Tr cols) (B0 N O)) (Tr cols _ _ _ _ O iw))
   simpa using this⟩
 ·rintro d ⟨t,s,n,A1,c1,f,g,⟨e,a⟩,H,V,p,G⟩
  have cp:d.cell? ⟨q,0,none⟩=some (.slice A1 rows c1):=g.cell (by unfold Heap.cell?;simp only [a];rfl)
  exact ⟨_,_,_,cp,hK A1 c1 d (B0 S (B0 f g.le)) ⟨n,H.slF g.ole,p,G.mono (Tr cols) g.le⟩⟩
end
section
variable {h:aG} {K:VP} {A B:Option aN} {n n2 cap cap2 m:Nat} {r c r2 c2:Int} {la lb:Nat->List UInt8} {w:QV} {q:Rat}
end
section
variable {h:aG} {K:VP} {A B:Option aN} {n w cap cap2 m:Nat} {f f2:Nat->Rat} {R:Nat->Nat->Rat}
def Ky(hs:∀ i,i<w->Sz m (f i))(hs2:∀ i,i<w->Sz m (f2 i)):∀ k,k<=w->Sz (1+k*(2*m+1)) (sm k (fun j=>f j*f2 j)):=by
 intro k
 induction k with
 | zero=>intro _;exact Sz.zero o
 | succ k ih=>
  intro c
  have b:=ih o
  have a:=(hs k o).mul (hs2 k o)
  have e:1+(k+1)*(2*m+1)=1+k*(2*m+1)+(m+m)+1:=by rw [cC];omega
  rw [e]
  exact b.add a
def A36(ra:aF NQr h A w f)(rb:aF NQr h B w f2)(hw:w<=10000)(hs:∀ i,i<w->Sz m (f i))(hs2:∀ i,i<w->Sz m (f2 i))(hm:1+w*(2*m+1)+2*m<=400000000)
 (hK:∀ v h',h.le h'->NQ h' v (sm w (fun j=>f j*f2 j))->K v.v h'):aK prog 177 #[.slice A w cap,.slice B w cap2] h K:=by
 refine (fnk func177 [(3,[6],[(5,4)],[I 0,.bool false,.slice none 0 0,.bool false,.slice none 0 0])] (own:=[4,5])) ?_
 refine ⟨fun L x=>∃ (k:Nat) (v:QV),k<=w/\L=I (k:Int)::qc v/\h.le x/\NQ x v (sm k (fun j=>f j*f2 j)),fun L _=>w-(iAt L 0).toNat,⟨0,W9,o,rfl,B4 _,NQ.zero⟩,?_⟩
 rintro z C t g r y e q p x ⟨k,v,E,u,l,G⟩
 simp only [cG,Value.int.injEq,true_and] at u
 obtain ⟨rfl,u⟩:=u
 obtain ⟨rfl,_⟩:=A7q (by simpa only [cG,Value.bool.injEq,Value.slice.injEq,and_true] using u:(.bool C:Value) :: .slice t g r :: .bool y :: .slice e q p::[]= .bool v.s :: .slice v.A v.n v.c :: .bool v.s2 :: .slice v.A2 v.n2 v.c2::[])
 refine B6 (fun N=>?_) (fun H=>?_)
 ·have d:k<w:=o
  obtain ⟨a5,w5,M,O,c0,c1,c2,c3⟩:=(ra.mono L5 l).qat d
  obtain ⟨a6,S,W,n6,g0,g1,V,g3⟩:=(rb.mono L5 l).qat d
  have Q:k*(2*m+1)<=w*(2*m+1):=aD _ E
  refine ⟨a5,M,o,o,_,_,_,_,_,_,_,_,c0,c1,c2,c3,a6,W,o,o,_,_,_,_,_,_,_,_,g0,g1,V,g3,?_⟩
  refine Gw (a:=w5) (b:=S) O n6 (hs k d) (hs2 k d) o ?_
  intro T h7 D X
  refine ⟨_,_,_,_,_,_,_,_,rfl,D,?_⟩
  refine Gy (a:=⟨C,t,g,r,y,e,q,p⟩) (b:=T) (m:=1+k*(2*m+1)+2*m) (NQ.mono D G) X ((Ky hs hs2 k E).mono o) (((hs k d).mul (hs2 k d)).mono o) o ?_
  intro w8 h8 F R
  rw [wiS k o]
  refine ⟨_,_,_,_,_,_,_,_,rfl,F,⟨k+1,w8,o,rfl,B0 l (B0 D F),R⟩,?_⟩
  show w-((k+1:Nat):Int).toNat<w-(k:Int).toNat
  omega
 ·have:k=w:=o
  subst this
  exact hK ⟨C,t,g,r,y,e,q,p⟩ x l G
def Ug(rs:bL h A n w R)(rx:aF NQr h B w f)(hn:n<=10000)(hw:w<=10000)(hs:∀ i j,i<n->j<w->Sz m (R i j))(hs2:∀ i,i<w->Sz m (f i))(hm:1+w*(2*m+1)+2*m<=400000000)
 (hK:∀ b h',Own NQr h h' b n (fun i=>sm w (fun j=>R i j*f j))->K (.slice (some ⟨b,0,none⟩) n n) h'):aK prog 109 #[.slice A n cap,.slice B w cap2] h K:=by
 refine (fnk func109 [(3,[6],[],[I 0])]) ?_
 refine J1 Ij (zx:=W9) rfl oo oo oo oo ?_
 intro b C
 simp only [aH]
 refine ⟨_,_,_,rfl,fun L l=>∃ k:Nat,k<=n/\L=[I (k:Int)]/\OwnK NQr h l b n k (fun i=>sm w (fun j=>R i j*f j)),fun L _=>n-(iAt L 0).toNat,⟨0,oo,rfl,OwnK.zero C⟩,?_⟩
 rintro z l ⟨k,W,F,g,o,G,c,s,r,t,q⟩
 obtain rfl:=sI1 F
 refine B6 (fun x=>?_) (fun u=>?_)
 ·have a:k<n:=oo
  obtain ⟨O,X,e,D,M,p,d⟩:=rs.at a
  refine ⟨O,e,oo,oo,_,_,_,B5 (B0 c s.le) p,?_⟩
  rw [D]
  refine s.call (A36 (d.mono L5 c) (rx.mono L5 c) hw (fun j N=>hs k j a N) hs2 hm ?_)
  intro v V Q S T E
  refine ⟨_,_,_,_,_,_,_,_,rfl,_,rfl,oo,oo,?_⟩
  refine OwnK.store L5 An (y:=v) c Q E r t q a rfl S ?_
  intro h3 H
  rw [wiS k oo]
  exact ⟨⟨k+1,oo,rfl,H⟩,by simp only [V9];omega⟩
 ·have:k=n:=oo
  subst this
  exact hK b l ⟨g,o,G,c,s,r,t,q⟩
end
structure VOut where
 n:Nat
 f:Nat->List UInt8
 e:Int
def noV(e:Int):VOut:=⟨0,fun _=>[],e⟩
def B3r(r c:Int)(n:Nat)(la:Nat->List UInt8)(n2:Nat)(lx:Nat->List UInt8)(o:VOut):Prop:=
 (¬ (Mx r c n la/\∀ i,i<n2->aL (lx i))/\o=noV 1)\/(Mx r c n la/\(∀ i,i<n2->aL (lx i))/\(n2:Int)≠c/\o=noV 4)\/(∃ rows cols,MOk r c n la rows cols/\(∀ i,i<n2->aL (lx i))/\(n2:Int)=c/\o=⟨rows,fun i=>H1 (sm cols (fun j=>mtx (rvs la) cols i j*rv (lx j))),0⟩)
section
variable {h:aG} {K:VP} {A B:Option aN} {n n2 cap cap2 m:Nat} {r c:Int} {la lx:Nat->List UInt8}
end
section
variable {h:aG} {K:VP} {A B:Option aN} {n n2 cap cap2 m:Nat} {r c:Int} {la lx:Nat->List UInt8}
def RowV.vat{w n:Nat}{f:Nat->Nat->Rat}(r:aF (VQr w) h A n f){i:Nat}(hi:i<n):∃ a v,A=some a/\VQr w h v (f i)/\h.cell? (aM (aM a (i*3)) 0)=some (.slice v.A v.n v.c)/\h.cell? (aM (aM a (i*3)) 1)=some (.bool v.s)/\h.cell? (aM (aM a (i*3)) 2)=some (.slice v.B v.bn v.bc):=by
 obtain ⟨a,v,e,q,b⟩:=RowV.at dc r hi
 exact ⟨a,v,e,q,b 0 _ rfl,b 1 _ rfl,b 2 _ rfl⟩
def OwnS.none{h h':aG}{f:Nat->List UInt8}(l:h.le h'):OwnS h h' none 0 0 f:=⟨h',X6,[],l,Sep.refl h',OwnSl.nil,rfl,Row.nil⟩
def Jr(gl:Gl h)(ra:aF SSr h A n la)(rx:aF SSr h B n2 lx)(hn:n<=1000000)(hn2:n2<=1000000)(hl:∀ i,i<n->(la i).length<=140737488351232)(hl2:∀ i,i<n2->(lx i).length<=140737488351232)(hs:∀ i,i<n->Sz m (rv (la i)))(hs2:∀ i,i<n2->Sz m (rv (lx i)))(hm1:1<=m)(hm:∀ rows cols,MOk r c n la rows cols->2*(1+cols*(2*m+1)+2*m)+14<=40000000)
 (hK:∀ o,B3r r c n la n2 lx o->∀ A' cap' h',OwnS h h' A' cap' o.n o.f->K (.tuple #[.slice A' o.n cap',I o.e]) h'):aK prog 104 #[Nx r c A n cap,.slice B n2 cap2] h K:=by
 refine (fnk func104 [(10,[11,45],[],[.slice none 0 0,I 0])] (own:=[2,10,13])) ?_
 have M:¬ (Mx r c n la/\∀ i,i<n2->aL (lx i))->∀ h',h.le h'->K (.tuple #[.slice none 0 0,I 1]) h':=fun hx h' l=>hK (noV 1) (.inl ⟨hx,rfl⟩) none 0 h' (OwnS.none l)
 refine Az gl ra hn hl (fun rows cols mk b1 h1 own=>?_) (fun D h1 F=>⟨_,_,_,_,rfl,?_⟩)
 ·have F:=own.le
  refine ⟨_,_,_,_,rfl,S8 (gl.mono F) (rx.mono I7 F) hn2 hl2 (fun t b2 G p=>⟨_,_,_,_,rfl,Br.nt (Br.nt ?_)⟩) (fun D G Q=>⟨_,_,_,_,rfl,Br.nt (Fz (M (fun x=>D x.2) G (B0 F Q)))⟩)⟩
  have Q:=p.le
  have E:=B0 F Q
  refine G7 (fun e=>hK (noV 4) (.inr (.inl ⟨⟨_,_,mk⟩,t,e,rfl⟩)) none 0 G (OwnS.none E)) (fun e=>?_)
  have S:=hK _ (.inr (.inr ⟨rows,cols,mk,t,e,rfl⟩))
  have:=mk.r1;have:=mk.r2;have:=mk.c1;have:=mk.c2
  obtain rfl:n2=cols:=by have:=mk.ec;omega
  obtain ⟨rfl,rfl,_,_,_,_,rfl,_⟩:=id mk
  have ms:=Jq hs
  have af:=hm _ _ mk
  have ac:n2*m<=n2*(2*m+1):=bM n2 oo
  refine Lo (m:=m) (gl.mono E) (p.vis J0) oo hs2 oo ?_
  intro w h3 l3 iw
  refine ⟨_,_,_,_,_,_,_,rfl,?_⟩
  refine J1 S3 (zx:=([]:List UInt8)) rfl oo oo oo oo ?_
  intro b hb
  simp only [aH]
  refine ⟨_,_,_,rfl,Sep.call ((Sep.refl h3).new hb _) (Dj (m:=m) (gl.mono (B0 E l3)) ((own.vis J0).mono J0 (B0 Q l3)) (aC _) oo oo oo hs oo ?_)⟩
  intro A4 c4 g4 l4 V h4 s4
  have N:=B0 E (B0 l3 l4)
  refine ⟨_,_,_,rfl,fun L hp=>∃ (k:Nat) (g o:aG) (xs:List (List UInt8)) (A':Option aN) (T:Nat),k<=rows/\L=[.slice A' k T,I (k:Int)]/\g4.le g/\Sep hp g o/\aP o 9 A' T xs/\xs.length=k/\Row SSr g xs k (fun i=>H1 (sm n2 (fun j=>mtx (rvs la) n2 i j*rv (lx j)))),fun L _=>rows-(iAt L 1).toNat,
   ⟨0,g4,_,[],_,_,oo,rfl,B4 _,s4,Eu,rfl,Row.nil⟩,?_⟩
  rintro rA C rc z hp ⟨k,g,o,xs,A',T,hk,eL,O,s,ow,d,rr⟩
  obtain ⟨⟨rfl,rfl,rfl⟩,rfl⟩:=sI2 eL
  refine B6 (fun ae=>?_) (fun ad=>?_)
  ·have H:C<rows:=oo
   obtain ⟨a,v,ea,iv,c0,c1,aa⟩:=(V.mono (Tr n2) O).vat H
   refine ⟨a,ea,oo,oo,_,_,_,_,_,_,_,B5 s.le c0,B5 s.le c1,B5 s.le aa,?_⟩
   refine s.call (Og (m:=m) (v:=v) (u:=w) (gl.mono (B0 N O)) iv (Tr n2 _ _ _ _ (B0 l4 O) iw) oo (fun j hj=>ms C j H hj) hs2 hm1 oo ?_)
   intro q g5 W iq h5 s5
   refine ⟨_,_,_,_,_,_,_,_,rfl,s5.call (P6 (gl.mono (B0 N (B0 O W))).p10 iq (Ky (fun j hj=>ms C j H hj) hs2 n2 (aC _)) oo ?_)⟩
   intro h6 s6
   refine ⟨_,rfl,?_⟩
   refine N7 (ty:=52) S3 s6 ow d.symm (y:=H1 (sm n2 (fun j=>mtx (rvs la) n2 C j*rv (lx j)))) rfl dc oo oo ?_
   intro A7 c7 h7 g7 o7 l7 s7 X _
   rw [d,wiS C oo]
   refine ⟨⟨C+1,g7,o7,_,A7,c7,oo,rfl,B0 O (B0 W l7),s7,X,by rw [bN,d];rfl,?_⟩,?_⟩
   ·have rB:=Row.push (R:=SSr) (g:=g7) (xs:=xs) (f:=fun i=>H1 (sm n2 (fun j=>mtx (rvs la) n2 i j*rv (lx j)))) (by rw [d];exact rr.mono I7 (B0 W l7)) (w:=H1 (sm n2 (fun j=>mtx (rvs la) n2 C j*rv (lx j)))) (by rw [d])
    rw [bN,d] at rB
    exact rB
   ·show rows-((C+1:Nat):Int).toNat<rows-(C:Int).toNat
    omega
  ·have:C=rows:=oo
   subst this
   exact S rA rc hp ⟨g,o,xs,B0 N O,s,ow,d,rr⟩
 ·refine S8 (gl.mono F) (rx.mono I7 F) hn2 hl2 (fun t b2 G p=>⟨_,_,_,_,rfl,Fz (M (fun x=>D x.1) G (B0 F p.le))⟩) (fun _ G Q=>⟨_,_,_,_,rfl,Fz (M (fun x=>D x.1) G (B0 F Q))⟩)
end
def B40(r c:Int)(n:Nat)(la:Nat->List UInt8)(r2 c2:Int)(n2:Nat)(lb:Nat->List UInt8)(o:MOut):Prop:=
 (¬ (Mx r c n la/\Mx r2 c2 n2 lb)/\o=noM 1)\/(Mx r c n la/\Mx r2 c2 n2 lb/\c≠r2/\o=noM 4)\/(∃ rows mid cols,MOk r c n la rows mid/\MOk r2 c2 n2 lb mid cols/\o=⟨r,c2,rows*cols,fun k=>H1 (sm mid (fun j=>mtx (rvs la) mid (k/cols) j*mtx (rvs lb) cols j (k%cols))),0⟩)
def A03{f f':Nat->Rat}: ∀ n,(∀ i,i<n->f i=f' i)->Y5 f n=Y5 f' n:=by
 intro n
 induction n with
 | zero=>intro _;rfl
 | succ n ih=>
  intro e
  show Nat.lcm (Y5 f n) (f n).den=Nat.lcm (Y5 f' n) (f' n).den
  grind
def VQr.congr{h:aG}{w:Nat}{v:VV}{f f':Nat->Rat}(x:VQr w h v f)(e:∀ i,i<w->f i=f' i):VQr w h v f':=by
 have d:Y5 f w=Y5 f' w:=A03 w e
 obtain ⟨a,b,c⟩:=x
 rw [d] at b c
 exact ⟨a,b,c.congr fun j g=>gz0⟩
section
variable {h:aG} {K:VP} {A B:Option aN} {n n2 cap cap2 m:Nat} {r c r2 c2:Int} {la lb:Nat->List UInt8} {E:Nat->Rat}
def Hf{rows cols:Nat}(rv':aF RQr h A (rows*cols) E)(hr:rows<=10000)(hc:cols<=10000)
 (hK:∀ A' c' h' g' o' xs,h.le g'->Sep h' g' o'->aP o' 93 A' c' xs->xs.length=rows*cols->Row RQr g' xs (rows*cols) (fun k=>E (k%rows*cols+k/rows))->K (.slice A' (rows*cols) c') h'):aK prog 169 #[.slice A (rows*cols) cap,I (rows:Int),I (cols:Int)] h K:=by
 refine (fnk func169 [(3,[7,14],[],[.slice none 0 0,I 0]),(6,[7,18],[],[.slice none 0 0,I 0])]) ?_
 have W:rows*cols<=10000*10000:=aT hr hc
 refine J1 A1f (zx:=W9) rfl oo oo oo oo ?_
 intro b X
 refine ⟨_,_,_,rfl,fun L u=>∃ (j:Nat) (g o:aG) (xs:List QV) (A':Option aN) (c':Nat),j<=cols/\L=[.slice A' (j*rows) c',I (j:Int)]/\h.le g/\Sep u g o/\aP o 93 A' c' xs/\xs.length=j*rows/\Row RQr g xs (j*rows) (fun k=>E (k%rows*cols+k/rows)),fun L _=>cols-(iAt L 1).toNat,
  ⟨0,h,X6.put b _,[],some ⟨b,0,none⟩,rows*cols,oo,gz0,B4 _,W7 X,Eu,by simp,by rw [cL];exact Row.nil⟩,?_⟩
 rintro rA rn rc z u ⟨j,g,o,xs,A',c',hj,G,lg,s,ow,B,rr⟩
 obtain ⟨⟨rfl,rfl,rfl⟩,rfl⟩:=G
 refine B6 (fun V=>?_) (fun S=>?_)
 ·have t:j<cols:=oo
  have p:(j+1)*rows=j*rows+rows:=gz0
  have M:(j+1)*rows<=cols*rows:=aD _ t
  rw [aX cols rows] at M
  refine ⟨fun L u=>∃ (i:Nat) (g o:aG) (xs:List QV) (A':Option aN) (c':Nat),i<=rows/\L=[.slice A' (j*rows+i) c',I (i:Int)]/\h.le g/\Sep u g o/\aP o 93 A' c' xs/\xs.length=j*rows+i/\Row RQr g xs (j*rows+i) (fun k=>E (k%rows*cols+k/rows)),fun L _=>rows-(iAt L 1).toNat,
   ⟨0,g,o,xs,rA,rc,oo,rfl,lg,s,ow,B,rr⟩,?_⟩
  rintro qA qn qc z aa ⟨i,g2,o2,x,A2,c2,hi,G,d,m,r,c,e⟩
  obtain ⟨⟨rfl,rfl,rfl⟩,rfl⟩:=G
  refine B6 (fun Q=>?_) (fun O=>?_)
  ·have l:i<rows:=oo
   have q:=X7 l t
   have ew:B9 (B9 ((i:Int)*(cols:Int))+(j:Int))=((i*cols+j:Nat):Int):=by
    rw [<- cH,O6 oo]
    exact O6 (n:=i*cols+j) oo
   rw [ew]
   obtain ⟨a,w,ea,T,c0,c1,C,H⟩:=(rv'.mono J0 d).qat q
   refine ⟨a,ea,oo,oo,_,_,_,_,_,_,_,_,B5 m.le c0,B5 m.le c1,B5 m.le C,B5 m.le H,?_⟩
   refine N7 (ty:=132) A1f m r c.symm (y:=w) rfl dc oo oo ?_
   intro A3 H h3 N o3 F s3 D _
   rw [c,wiS i oo]
   refine ⟨⟨i+1,N,o3,_,A3,H,oo,by rw [Nat.add_assoc],B0 d F,s3,D,gz0,?_⟩,?_⟩
   ·have rB:=Row.push (R:=RQr) (g:=N) (xs:=x) (f:=fun k=>E (k%rows*cols+k/rows)) (by rw [c];exact e.mono J0 F) (w:=w) (by
     show RQ N w (E (x.length%rows*cols+x.length/rows))
     rw [c,cM (j*rows) i,aY,bX l,bK _ _ oo,bY l,bV]
     exact J0 _ _ _ _ F T)
    grind
   ·show rows-((i+1:Nat):Int).toNat<rows-(i:Int).toNat
    omega
  ·have:i=rows:=oo
   subst this
   rw [wiS j oo,<- p]
   rw [<- p] at c e
   refine ⟨⟨j+1,g2,o2,x,qA,qc,oo,rfl,d,m,r,c,e⟩,?_⟩
   show cols-((j+1:Nat):Int).toNat<cols-(j:Int).toNat
   omega
 grind
def Tp{rows cols:Nat}(rv':aF RQr h A (rows*cols) E)(hr:rows<=10000)(hc:cols<=10000)
 (hK:∀ A' c' h',h.le h'->rows*cols<=c'->aF RQr h' A' (rows*cols) (fun k=>E (k%rows*cols+k/rows))->K (.slice A' (rows*cols) c') h'):aK prog 169 #[.slice A (rows*cols) cap,I (rows:Int),I (cols:Int)] h K:=
 Hf rv' hr hc fun A' c' h' _ _ d e s b a c=>hK A' c' h' (B0 e s.le) (by have:=b.1;omega) ⟨d,b.slF s.ole,a,c.mono J0 s.le⟩
def A00{d:Nat}(gl:Gl h)(ra:aF SSr h A n la)(rb:aF SSr h B n2 lb)(hn:n<=1000000)(hn2:n2<=1000000)(hl:∀ i,i<n->(la i).length<=140737488351232)(hl2:∀ i,i<n2->(lb i).length<=140737488351232)(hs:∀ i,i<n->Sz m (rv (la i)))(hs2:∀ i,i<n2->Sz m (rv (lb i)))(hm1:1<=m)(hd:∀ rows mid,MOk r c n la rows mid->mid<=d)(hm:2*(1+d*(2*m+1)+2*m)+14<=40000000)
 (hK:∀ o,B40 r c n la r2 c2 n2 lb o->∀ A' cap' h',h.le h'->aF SSr h' A' o.n o.f->K (.tuple #[Nx o.r o.c A' o.n cap',I o.e]) h'):aK prog 103 #[Nx r c A n cap,Nx r2 c2 B n2 cap2] h K:=by
 refine (fnk func103 [(11,[12,61],[],[.slice none 0 0,I 0]),(14,[12,67],[],[.slice none 0 0,I 0])] (os:=[(8,[0,1,2,3,4,6,7,5,8,9])]) (own:=[2,3,4,14,16])) ?_
 have W:¬ (Mx r c n la/\Mx r2 c2 n2 lb)->∀ h',h.le h'->K (.tuple #[Nx 0 0 none 0 0,I 1]) h':=fun hx h' l=>hK (noM 1) (.inl ⟨hx,rfl⟩) none 0 h' l RowV.nil
 refine Az gl ra hn hl (fun rows mid mk b1 h1 own=>?_) (fun H h1 N=>⟨_,_,_,_,rfl,?_⟩)
 ·have N:=own.le
  refine ⟨_,_,_,_,rfl,Az (gl.mono N) (rb.mono I7 N) hn2 hl2 (fun C p F b2 V D=>⟨_,_,_,_,rfl,Br.nt (Br.nt ?_)⟩) (fun H V l2=>⟨_,_,_,_,rfl,Br.nt (Fz (W (fun x=>H x.2) V (B0 N l2)))⟩)⟩
  have l2:=D.le
  have T:=B0 N l2
  refine G7 (fun e=>hK (noM 4) (.inr (.inl ⟨⟨_,_,mk⟩,⟨_,_,F⟩,e,rfl⟩)) none 0 V T RowV.nil) (fun e=>?_)
  obtain rfl:C=mid:=by have:=mk.ec;have:=F.er;omega
  have ad:=hK _ (.inr (.inr ⟨rows,C,p,mk,F,rfl⟩))
  obtain ⟨rfl,rfl,_,_,_,_,rfl,_⟩:=id mk
  obtain ⟨rfl,rfl,_,_,_,_,rfl,_⟩:=id F
  have ms:=Jq hs
  have ag:=Jq hs2
  have aj:=hd _ _ mk
  have a3:C*(2*m+1)<=d*(2*m+1):=aD _ aj
  have ax:C*m<=d*m:=aD _ aj
  have az:d*(2*m+1)=2*(d*m)+d:=gz0
  have a4:rows*p<=64*64:=aT oo oo
  refine Dj (m:=m) (gl.mono T) ((own.vis J0).mono J0 l2) (aC _) oo oo oo hs oo ?_
  intro A3 c3 h3 l3 av
  refine ⟨_,_,_,rfl,?_⟩
  refine Tp ((D.vis J0).mono J0 l3) oo oo ?_
  intro A4 c4 h4 l4 ai aa
  refine ⟨_,_,_,rfl,l4,?_⟩
  have af:=B0 T (B0 l3 l4)
  rw [aX C p] at aa ai ⊢
  refine Dj (m:=m) (gl.mono af) aa ai oo oo oo (fun i hi=>?_) oo ?_
  ·have an:i/C<p:=aO gz0
   exact hs2 _ (X7 (bH i (show 0<C from oo)) an)
  intro A5 c5 h5 l5 al
  have aw:aF (VQr C) h5 A5 p (fun j i=>mtx (rvs lb) p i j):=by
   obtain ⟨vs,sv,el,rr⟩:=al
   refine ⟨vs,sv,el,fun j hj=>?_⟩
   obtain ⟨w,e1,hw⟩:=rr j hj
   refine ⟨w,e1,?_⟩
   have:=VQr.congr (f':=fun i=>mtx (rvs lb) p i j) hw fun i hi=>?_
   ·exact this
   ·show rvs lb ((j*C+i)%C*p+(j*C+i)/C)=rvs lb (i*p+j)
    rw [cM (j*C) i,aY,bX hi,bK _ _ oo,bY hi,bV]
  refine ⟨_,_,_,rfl,l5,?_⟩
  have am:=B0 af l5
  have aq:=B0 l4 l5
  have ao:B9 ((rows:Int)*(p:Int))=((rows*p:Nat):Int):=by exact O6 oo
  rw [ao]
  refine J1 A1f (zx:=W9) rfl oo oo oo oo ?_
  intro b hb
  have sz:∀ i j,i<rows->j<p->Sz (1+d*(2*m+1)) (sm C (fun t=>mtx (rvs la) C i t*mtx (rvs lb) p t j)):=fun i j hi hj=>(Ky (f:=fun t=>mtx (rvs la) C i t) (f2:=fun t=>mtx (rvs lb) p t j) (fun t O=>ms i t hi O) (fun t O=>ag t j O hj) C (aC _)).mono oo
  refine ⟨_,_,_,rfl,fun L hp=>∃ (k:Nat) (g o:aG) (xs:List QV) (A':Option aN) (c':Nat),k<=rows/\L=[.slice A' (k*p) c',I (k:Int)]/\h5.le g/\Sep hp g o/\aP o 93 A' c' xs/\xs.length=k*p/\Row RQr g xs (k*p) (fun k=>sm C (fun j=>mtx (rvs la) C (k/p) j*mtx (rvs lb) p j (k%p))),fun L _=>rows-(iAt L 1).toNat,
   ⟨0,h5,X6.put b _,[],some ⟨b,0,none⟩,rows*p,oo,gz0,B4 _,W7 hb,Eu,by simp,by rw [cL];exact Row.nil⟩,?_⟩
  rintro rA rn rc z hp ⟨k,g,o,xs,A',c',hk,eL,lg,s,ow,ac,rr⟩
  obtain ⟨⟨rfl,rfl,rfl⟩,rfl⟩:=eL
  refine B6 (fun a2=>?_) (fun a7=>?_)
  ·have S:k<rows:=oo
   have ae:(k+1)*p=k*p+p:=gz0
   have a1:(k+1)*p<=rows*p:=aD _ S
   obtain ⟨a,v,ea,iv,c0,c1,ap⟩:=(av.mono (Tr C) (B0 aq lg)).vat S
   refine ⟨a,ea,oo,oo,_,_,_,_,_,_,_,B5 s.le c0,B5 s.le c1,B5 s.le ap,?_⟩
   refine ⟨fun L hp=>∃ (j:Nat) (g' o:aG) (xs:List QV) (A':Option aN) (c':Nat),j<=p/\L=[.slice A' (k*p+j) c',I (j:Int)]/\g.le g'/\Sep hp g' o/\aP o 93 A' c' xs/\xs.length=k*p+j/\Row RQr g' xs (k*p+j) (fun k=>sm C (fun j=>mtx (rvs la) C (k/p) j*mtx (rvs lb) p j (k%p))),fun L _=>p-(iAt L 1).toNat,
    ⟨0,g,o,xs,rA,rc,oo,rfl,B4 _,s,ow,ac,rr⟩,?_⟩
   rintro qA qn qc z a5 ⟨j,g2,o2,ys,A2,c2,hj,eL,G,s2,ak,E,X⟩
   obtain ⟨⟨rfl,rfl,rfl⟩,rfl⟩:=eL
   refine B6 (fun a0=>?_) (fun ay=>?_)
   ·have M:j<p:=oo
    obtain ⟨a6,u,ar,iu,d0,d1,d2⟩:=(aw.mono (Tr C) (B0 lg G)).vat M
    refine ⟨a6,ar,oo,oo,_,_,_,_,_,_,_,B5 s2.le d0,B5 s2.le d1,B5 s2.le d2,?_⟩
    refine s2.call (Og (m:=m) (v:=v) (u:=u) (gl.mono (B0 am (B0 lg G))) (Tr C _ _ _ _ G iv) iu oo (fun t O=>ms k t S O) (fun t O=>ag t j O M) hm1 oo ?_)
    intro q g7 l7 iq h7 s7
    refine ⟨_,_,_,_,_,_,_,_,rfl,?_⟩
    refine N7 (ty:=132) A1f s7 ak E.symm (y:=q) rfl dc oo oo ?_
    intro A8 c8 h8 g8 o8 l8 s8 au _
    rw [E,wiS j oo]
    refine ⟨⟨j+1,g8,o8,_,A8,c8,oo,by rw [Nat.add_assoc],B0 G (B0 l7 l8),s8,au,gz0,?_⟩,?_⟩
    ·have rB:=Row.push (R:=RQr) (g:=g8) (xs:=ys) (f:=fun k=>sm C (fun j=>mtx (rvs la) C (k/p) j*mtx (rvs lb) p j (k%p))) (by rw [E];exact X.mono J0 (B0 l7 l8)) (w:=q) (by
      show RQ g8 q (sm C (fun t=>mtx (rvs la) C (ys.length/p) t*mtx (rvs lb) p t (ys.length%p)))
      rw [E,cM (k*p) j,aY,bX M,bK _ _ oo,bY M,bV]
      exact J0 _ _ _ _ l8 iq)
     grind
    ·show p-((j+1:Nat):Int).toNat<p-(j:Int).toNat
     omega
   ·have:j=p:=oo
    subst this
    rw [wiS k oo,<- ae]
    rw [<- ae] at E X
    refine ⟨⟨k+1,g2,o2,ys,qA,qc,oo,rfl,B0 lg G,s2,ak,E,X⟩,?_⟩
    show rows-((k+1:Nat):Int).toNat<rows-(k:Int).toNat
    omega
  ·have:k=rows:=oo
   subst this
   have ah:=B0 am (B0 lg s.le)
   have rq:aF RQr hp rA (k*p) (fun t=>sm C (fun j=>mtx (rvs la) C (t/p) j*mtx (rvs lb) p j (t%p))):=⟨xs,ow.slF s.ole,ac,rr.mono J0 s.le⟩
   refine Wo (m:=1+d*(2*m+1)) (gl.mono ah) rq oo (fun t O=>?_) oo ?_
   ·exact sz _ _ (aO gz0) (bH t (show 0<p from oo))
   intro b9 h9 Q
   exact ⟨_,_,_,_,_,rfl,ad _ _ h9 (B0 ah Q.le) (Q.vis I7)⟩
 ·refine Az (gl.mono N) (rb.mono I7 N) hn2 hl2 (fun C p F b2 V D=>⟨_,_,_,_,rfl,Fz (W (fun x=>H x.1) V (B0 N D.le))⟩) (fun _ V l2=>⟨_,_,_,_,rfl,Fz (W (fun x=>H x.1) V (B0 N l2))⟩)
def A2r(gl:Gl h)(ra:aF SSr h A n la)(rb:aF SSr h B n2 lb)(hn:n<=1000000)(hn2:n2<=1000000)(hl:∀ i,i<n->(la i).length<=140737488351232)(hl2:∀ i,i<n2->(lb i).length<=140737488351232)(hs:∀ i,i<n->Sz m (rv (la i)))(hs2:∀ i,i<n2->Sz m (rv (lb i)))(hm1:1<=m)(hm:2*(1+64*(2*m+1)+2*m)+14<=40000000)
 (hK:∀ o,B40 r c n la r2 c2 n2 lb o->∀ A' cap' h',h.le h'->aF SSr h' A' o.n o.f->K (.tuple #[Nx o.r o.c A' o.n cap',I o.e]) h'):aK prog 103 #[Nx r c A n cap,Nx r2 c2 B n2 cap2] h K:=
 A00 gl ra rb hn hn2 hl hl2 hs hs2 hm1 (d:=64) (fun _ _ mk=>mk.c2) hm hK
end
def B3o(r c:Int)(n:Nat)(la:Nat->List UInt8)(n2:Nat)(lx:Nat->List UInt8)(o:VOut):Prop:=
 (¬ (Mx r c n la/\∀ i,i<n2->aL (lx i))/\o=noV 1)\/(Mx r c n la/\(∀ i,i<n2->aL (lx i))/\(n2:Int)≠r/\o=noV 4)\/(∃ rows cols,MOk r c n la rows cols/\(∀ i,i<n2->aL (lx i))/\(n2:Int)=r/\((Ai (rvs la) (rvs lx) rows cols/\o=⟨cols,fun i=>H1 (Rr (rvs la) (rvs lx) rows cols i),0⟩)\/(¬ Ai (rvs la) (rvs lx) rows cols/\o=noV 8)))
def B4a(r c:Int)(n:Nat)(la:Nat->List UInt8)(n2:Nat)(lx:Nat->List UInt8)(e:Int)(ny:Nat)(fy:Nat->List UInt8):Prop:=
 (e≠8/\ny=0)\/(e=8/\∃ rows cols,MOk r c n la rows cols/\(∀ i,i<n2->aL (lx i))/\(n2:Int)=r/\¬ Ai (rvs la) (rvs lx) rows cols/\ny=rows/\fy=fun i=>H1 (Rr (Rs (rvs la) (rvs lx) rows cols) (A1w cols) (cols+1) rows i))
def Gt{E b:Nat->Rat}{rows cols m nq:Nat}(hs:∀ i,i<rows*cols->Sz m (E i))(hb:∀ i,i<rows->Sz m (b i))(hm:1<=m)(hnq:(Ic E b rows cols).cs.length<=nq):∀ j,Sz (7^nq*m) (Rr E b rows cols j):=
 A7k (m:=m) (Qk nq m hm) (A8t (n:=rows) (w:=cols+1) (c:=cols) (Jq (Xn hs hb)) hm o hnq (aC _)).1
def A1u{E b:Nat->Rat}{rows cols m:Nat}(hr:1<=rows)(hs:∀ i,i<rows*cols->Sz m (E i))(hb:∀ i,i<rows->Sz m (b i)):∀ i,i<(cols+1)*rows->Sz m (Rs E b rows cols i):=by
 intro i a
 unfold Rs
 by_cases e:i<cols*rows
 ·rw [iP e]
  refine hs _ (X7 (bH i o) (aO gz0))
 grind
def A1v{cols m:Nat}(hm:1<=m):∀ i,i<cols+1->Sz m (A1w cols i):=by
 intro i _
 unfold A1w
 split
 ·exact ⟨ZB.one hm,ZB.one hm⟩
 ·exact Sz.zero hm
section
variable {h:aG} {K:VP} {A B:Option aN} {n n2 cap cap2 m:Nat} {r c:Int} {la lx:Nat->List UInt8}
def Tq(gl:Gl h)(ra:aF SSr h A n la)(rx:aF SSr h B n2 lx)(hn:n<=1000000)(hn2:n2<=1000000)(hl:∀ i,i<n->(la i).length<=140737488351232)(hl2:∀ i,i<n2->(lx i).length<=140737488351232)(hs:∀ i,i<n->Sz m (rv (la i)))(hs2:∀ i,i<n2->Sz m (rv (lx i)))(hm1:1<=m)
 (hb1:∀ rows cols,MOk r c n la rows cols->∃ nq nk,(∀ j,j<=cols->(elE (F6 (rvs la) (rvs lx) cols) rows (cols+1) j).cs.length<=nq)/\(∀ j,j<=rows->(elE (F6 (Rs (rvs la) (rvs lx) rows cols) (A1w cols) rows) (cols+1) (rows+1) j).cs.length<=nk)/\2*(3^nq*bnd (cols+1) m)+1<=40000000/\2*(3^nk*bnd (rows+1) m)+1<=40000000/\7^nq*m<=40000000/\7^nk*m<=40000000)
 (hK:∀ o,B3o r c n la n2 lx o->∀ ny fy,B4a r c n la n2 lx o.e ny fy->∀ A' cap' A2 cap2' h',h.le h'->aF SSr h' A' o.n o.f->aF SSr h' A2 ny fy->K (.tuple #[.slice A' o.n cap',.slice A2 ny cap2',I o.e]) h'):aK prog 105 #[Nx r c A n cap,.slice B n2 cap2] h K:=by
 refine (fnk func105 (own:=[2])) ?_
 have F:¬ (Mx r c n la/\∀ i,i<n2->aL (lx i))->∀ h',h.le h'->K (.tuple #[.slice none 0 0,.slice none 0 0,I 1]) h':=fun hx h' l=>hK (noV 1) (.inl ⟨hx,rfl⟩) 0 (fun _=>[]) (.inl ⟨dc,rfl⟩) none 0 none 0 h' l RowV.nil RowV.nil
 refine Az gl ra hn hl (fun rows cols mk b1 h1 own=>?_) (fun g h1 s=>⟨_,_,_,_,rfl,?_⟩)
 ·have s:=own.le
  refine ⟨_,_,_,_,rfl,S8 (gl.mono s) (rx.mono I7 s) hn2 hl2 (fun d b2 D a=>⟨_,_,_,_,rfl,Br.nt (Br.nt ?_)⟩) (fun g D C=>⟨_,_,_,_,rfl,Br.nt (Fz (F (fun x=>g x.2) D (B0 s C)))⟩)⟩
  have C:=a.le
  have p:=B0 s C
  refine G7 (fun e=>hK (noV 4) (.inr (.inl ⟨⟨_,_,mk⟩,d,e,rfl⟩)) 0 (fun _=>[]) (.inl ⟨dc,rfl⟩) none 0 none 0 D p RowV.nil RowV.nil) (fun e=>?_)
  have N:=fun x=>hK ⟨cols,fun i=>H1 (Rr (rvs la) (rvs lx) rows cols i),0⟩ (.inr (.inr ⟨rows,cols,mk,d,e,.inl ⟨x,rfl⟩⟩)) 0 (fun _=>[]) (.inl ⟨show (0:Int)≠8 from dc,rfl⟩)
  have ah:=fun w=>hK (noV 8) (.inr (.inr ⟨rows,cols,mk,d,e,.inr ⟨w,rfl⟩⟩)) rows (fun i=>H1 (Rr (Rs (rvs la) (rvs lx) rows cols) (A1w cols) (cols+1) rows i)) (.inr ⟨rfl,rows,cols,mk,d,e,w,rfl,rfl⟩)
  obtain ⟨nq,nk,u1,u2,k1,k2,k3,k4⟩:=hb1 rows cols mk
  obtain rfl:n2=rows:=by have:=mk.er;omega
  obtain ⟨rfl,rfl,_,_,_,_,rfl,_⟩:=id mk
  have hX:=Gt hs hs2 hm1 (u1 cols (aC _))
  refine Hg (nq:=nq) (E:=rvs la) (b:=rvs lx) (m:=m) (gl.mono p) ((own.vis J0).mono J0 C) (aC _) (a.vis J0) (aC _) oo oo oo oo hs hs2 u1 k1 (fun M b3 h3 H S=>⟨_,_,_,_,rfl,?_⟩) (fun g h3 H=>⟨_,_,_,_,rfl,?_⟩)
  ·refine Dm (m:=7^nq*m) (gl.mono (B0 p H)) S oo (fun i _=>hX i) k3 ?_
   intro b4 h4 t
   exact ⟨_,_,_,rfl,N M _ _ none 0 h4 (B0 p (B0 H t.le)) (t.vis I7) RowV.nil⟩
  ·refine Hf ((own.vis J0).mono J0 (B0 C H)) oo oo ?_
   intro A4 c4 h4 g4 o4 xs l4 s4 ac u ai
   refine ⟨_,_,_,rfl,?_⟩
   have W:=B0 p (B0 H l4)
   obtain ⟨ys,sy,ag,qy⟩:=(a.vis J0).mono J0 (B0 H l4)
   refine OwnSl.app (ty:=132) A1f s4 ac u.symm ag.symm gz0 (sy.mono s4.le) oo oo ?_
   intro A5 c5 h5 g5 o5 l5 Q L _
   refine ⟨_,_,_,rfl,?_⟩
   have e2:n2*cols+n2=(cols+1)*n2:=gz0
   have G:(xs++ys).length=(cols+1)*n2:=gz0
   have r5:aF RQr h5 A5 ((cols+1)*n2) (Rs (rvs la) (rvs lx) n2 cols):=by
    refine ⟨xs++ys,L.slF Q.ole,G,?_⟩
    rw [<- e2]
    refine Row.app u (((ai.mono J0 l5).mono J0 Q.le).congr fun k hk=>?_) (((qy.mono J0 l5).mono J0 Q.le).congr fun k hk=>?_)
    ·unfold Rs
     grind
    ·unfold Rs
     rw [aX cols n2,iN oo,Nat.add_sub_cancel_left]
   have af:(cols+1)*n2<=c5:=by have:=L.1;omega
   have aj:=B0 W (B0 l5 Q.le)
   rw [u,e2]
   have ew:B9 ((cols:Int)+1)=((cols+1:Nat):Int):=B7 oo oo
   rw [ew]
   refine J1 A1f (zx:=W9) rfl oo oo oo oo ?_
   intro b6 ad
   have s6:=(Sep.refl h5).new ad (.cells ((aJ (cols+1) W9).flatMap enc).toArray 93)
   refine ⟨_,_,_,rfl,s6.call (Vo ⟨oo,oo⟩ ?_)⟩
   intro w7 g7 V i7 h7 s7
   refine ⟨_,_,_,_,_,_,_,_,rfl,s6.le_le s7 V,_,rfl,oo,oo,?_⟩
   refine S1 Kk (y:=w7) rfl s7 RowX.mk (i:=cols) gz0 ?_
   intro h8 o8 x8 al R ae
   have z:=B0 aj (B0 V R.le)
   have T:=B0 V R.le
   have r0:Row RQr g7 (aJ (cols+1) W9) (cols+1) (fun _=>0):=fun i hi=>⟨W9,gz0,RQ.zero⟩
   have r8:aF RQr h8 (some ⟨b6,0,none⟩) (cols+1) (A1w cols):=⟨_,ae.rowB.slF R.ole,gz0,((r0.upd gz0 i7).mono J0 R.le)⟩
   have X:=Gt (A1u oo hs hs2) (A1v (cols:=cols) hm1) hm1 (u2 n2 (aC _))
   refine Hg (nq:=nk) (E:=Rs (rvs la) (rvs lx) n2 cols) (b:=A1w cols) (rows:=cols+1) (cols:=n2) (m:=m) (gl.mono z) (r5.mono J0 T) af r8 (aC _) oo oo oo oo (A1u oo hs hs2) (A1v hm1) u2 k2 (fun M b9 h9 l9 S=>⟨_,_,_,_,rfl,?_⟩) (fun O _ _=>absurd (B01 g) O)
   refine Dm (m:=7^nk*m) (gl.mono (B0 z l9)) S oo (fun i _=>X i) k4 ?_
   intro ak aa q
   exact ⟨_,_,_,rfl,ah g none 0 _ _ aa (B0 z (B0 l9 q.le)) RowV.nil (q.vis I7)⟩
 ·refine S8 (gl.mono s) (rx.mono I7 s) hn2 hl2 (fun d b2 D a=>⟨_,_,_,_,rfl,Fz (F (fun x=>g x.1) D (B0 s a.le))⟩) (fun _ D C=>⟨_,_,_,_,rfl,Fz (F (fun x=>g x.1) D (B0 s C))⟩)
end
end Go.Proofs.YtdphgbjaijlckaaGreatDoor
namespace Go.Proofs.YtdphgbjaijlckaaGreatDoor
set_option maxRecDepth 20000
def ldA(A:Nat->Nat->Rat):Nat->Nat->Nat->Rat
 | 0=>A
 | k+1=>fun i j=>if ldA A k k k=0 then ldA A k i j else ldA A k i j-ldA A k i k*(ldA A k k j/ldA A k k k)
def B4b(n:Nat)(A:Nat->Nat->Rat):Prop:=∀ i j,i<n->j<n->A i j=A j i
structure LdR (n k:Nat) (A:Nat->Nat->Rat) (s:ES):Prop where
 len:s.cs.length<=k
 low:∀ i j,k<=i->i<n->j<n->s.R i j=ldA A k i j
 zero:∀ i j,s.cs.length<=i->i<k->j<n->s.R i j=0
def qf(n:Nat)(A:Nat->Nat->Rat)(x:Nat->Rat):Rat:=sm n fun i=>x i*sm n fun j=>A i j*x j
end Go.Proofs.YtdphgbjaijlckaaGreatDoor
namespace Go.Proofs.YtdphgbjaijlckaaGreatDoor
set_option maxRecDepth 20000
def A4s{k a:Nat}(ha:a<=k)(t:Nat->Rat):sm (k+1) t=t a+sm k (fun i=>t (rhx a i)):=by
 rw [A6f ha]
 have e:sm (k+1) t=sm (k+1) (fun i=>if i=a then t a else 0)+sm (k+1) (fun i=>if i=a then 0 else t i):=by
  rw [<- Kz]
  refine D0 fun i _=>?_
  by_cases c:i=a
  ·rw [iP c,iP c,c,Rat.add_zero]
  ·rw [iN c,iN c,Rat.zero_add]
 rw [e,Sm (show a<k+1 from o) fun i _ c=>iN c,iP rfl]
def A8j:∀ (L:List (Nat->Rat)) (n:Nat),L.length<n->∃ x:Nat->Rat,(∃ j,j<n/\x j≠0)/\∀ f∈L,sm n (fun j=>f j*x j)=0:=by
 intro L
 generalize hm:L.length=m
 induction m generalizing L with
 | zero=>
  intro n w
  have:L=[]:=List.length_eq_zero_iff.1 hm
  subst this
  exact ⟨fun _=>1,⟨0,w,by decide +kernel⟩,fun f z=>by cases z⟩
 | succ m ih=>
  intro n w
  match L,hm with
  | f::L,hm=>
   have t:L.length=m:=by simpa using hm
   by_cases h:∀ j,j<n->f j=0
   ·obtain ⟨x,D,d⟩:=ih L t n o
    refine ⟨x,D,fun g r=>?_⟩
    rcases List.mem_cons.1 r with e|e
    ·rw [e];exact By fun j l=>by rw [h j l,bG]
    ·exact d g e
   ·have:∃ a,a<n/\f a≠0:=aR fun c=>h fun j l=>aR fun C=>c ⟨j,l,C⟩
    obtain ⟨a,F,A⟩:=this
    obtain ⟨k,rfl⟩:∃ k,n=k+1:=⟨n-1,o⟩
    obtain ⟨y,⟨j,l,B⟩,d⟩:=ih (L.map fun g=>fun j=>g (rhx a j)-g a/f a*f (rhx a j)) (by simpa using t) k o
    have p:∀ i,(if rhx a i<a then rhx a i else rhx a i-1)=i:=fun i=>by unfold rhx;repeat' split
                                                                       all_goals omega
    refine ⟨fun b=>if b=a then-(sm k (fun i=>f (rhx a i)*y i)/f a) else y (if b<a then b else b-1),⟨rhx a j,Sw l,?_⟩,fun g r=>?_⟩
    ·show (if rhx a j=a then _ else _)≠(0:Rat)
     rw [iN (A1s a j),p];exact B
    ·rw [A4s (show a<=k from o)]
     have s:sm k (fun i=>g (rhx a i)*(if rhx a i=a then-(sm k (fun i=>f (rhx a i)*y i)/f a) else y (if rhx a i<a then rhx a i else rhx a i-1)))=sm k (fun i=>g (rhx a i)*y i):=D0 fun i _=>by rw [iN (A1s a i),p]
     show g a*(if a=a then _ else _)+sm k (fun i=>g (rhx a i)*(if rhx a i=a then _ else _))=0
     rw [iP rfl,s]
     rcases List.mem_cons.1 r with e|e
     ·rw [e]
      generalize sm k (fun i=>f (rhx a i)*y i)=q
      clear s h ih d
      grind
     ·have E:=d _ (List.mem_map.2 ⟨g,e,rfl⟩)
      have u:sm k (fun i=>(g (rhx a i)-g a/f a*f (rhx a i))*y i)=sm k (fun i=>g (rhx a i)*y i)-g a/f a*sm k (fun i=>f (rhx a i)*y i):=by
       rw [Rat.sub_eq_add_neg,<- Cm,<- Sn,<- Kz]
       exact D0 fun i _=>by grind
      rw [u] at E
      generalize sm k (fun i=>f (rhx a i)*y i)=q at *
      generalize sm k (fun i=>g (rhx a i)*y i)=q' at *
      clear s h ih d u
      grind
def ev(n:Nat)(f x:Nat->Rat):Rat:=sm n fun j=>f j*x j
structure Diag (n:Nat) (A:Nat->Nat->Rat) (d:Nat->Rat) (F:Nat->Nat->Rat):Prop where
 val:∀ x,qf n A x=sm n fun m=>d m*(ev n (F m) x*ev n (F m) x)
 inj:∀ x,(∀ m,m<n->ev n (F m) x=0)->∀ j,j<n->x j=0
structure PD (n k:Nat) (A0:Nat->Nat->Rat) (d:Nat->Rat) (F A:Nat->Nat->Rat):Prop where
 val:∀ x,qf n A0 x=sm k (fun m=>d m*(ev n (F m) x*ev n (F m) x))+qf n A (fun i=>ev n (F i) x)
 inj:∀ x,(∀ m,m<n->ev n (F m) x=0)->∀ j,j<n->x j=0
 zero:∀ i j,i<n->j<n->i<k\/j<k->A i j=0
 symm:B4b n A
end Go.Proofs.YtdphgbjaijlckaaGreatDoor
namespace Go.Proofs.YtdphgbjaijlckaaGreatDoor
set_option maxRecDepth 20000
structure TE (n k:Nat) (R:Nat->Nat->Rat) (M:Nat->Nat->Int) (S:Nat->Rat) (last:Int):Prop where
 elim:∃ B R',(∀ i j,i<n->j<n->Wh (B i j))/\Elim n n B R' (fun m=>m) k/\(last:Rat)=dp B (fun m=>m) k/\∀ i j,k<=i->i<n->j<n->R' i j=S i*R i j
 ne:last≠0
 val:∀ i j,k<=i->i<n->j<n->(M i j:Rat)=last*(S i*R i j)
 scale:∀ i,k<=i->i<n->0<S i
end Go.Proofs.YtdphgbjaijlckaaGreatDoor
namespace Go.Proofs.YtdphgbjaijlckaaGreatDoor
set_option maxRecDepth 20000
def A9w{n:Nat}(p:Nat->Rat)(q:Rat):sm n (fun t=>p t*q)=(sm n p)*q:=by
 rw [bO,<- Cm]
 exact D0 fun t _=>bO _ _
end Go.Proofs.YtdphgbjaijlckaaGreatDoor
namespace Go.Proofs.YtdphgbjaijlckaaGreatDoor
set_option maxRecDepth 20000
def prC(M:Nat->Nat->Rat)(w:Nat->Rat):Nat->Nat->Rat:=fun i j=>M j i/w i
def prP(m:Nat)(M:Nat->Nat->Rat)(w:Nat->Rat):Nat->Nat->Rat:=fun i j=>sm m fun t=>M i t*prC M w t j
def prR(m:Nat)(M:Nat->Nat->Rat)(b x:Nat->Rat):Nat->Rat:=fun i=>b i-sm m fun t=>M i t*x t
def prZ(n:Nat)(M:Nat->Nat->Rat)(w x y:Nat->Rat):Nat->Rat:=fun i=>x i+sm n fun j=>prC M w i j*y j
def A6g{n m:Nat}(f:Nat->Rat)(C:Nat->Nat->Rat)(y:Nat->Rat):(sm m fun t=>f t*sm n fun j=>C t j*y j)=sm n fun j=>(sm m fun t=>f t*C t j)*y j:=by
 have e:(sm m fun t=>f t*sm n fun j=>C t j*y j)=sm m fun t=>sm n fun j=>f t*C t j*y j:=D0 fun t _=>by
  rw [<- Cm]
  exact D0 fun j _=>by grind
 rw [e,Vt]
 exact D0 fun j _=>A9w _ _
end Go.Proofs.YtdphgbjaijlckaaGreatDoor
namespace Go.Proofs.YtdphgbjaijlckaaGreatDoor
set_option maxRecDepth 20000
def A6p{n w c q:Nat}{M P Q:Nat->Nat->Rat}(hc:c<=w)(hM:∀ i j,i<n->j<c->M i j=sm q fun t=>P i t*Q t j):(ecE M n c).cs.length<=q:=by
 refine aR fun g=>?_
 have h:=EqA.run (n:=n) (w:=w) M c hc
 have A:=h.len
 obtain ⟨T,F⟩:=h.comb
 obtain ⟨B,E,_⟩:=h.elim
 have y:=h.lt
 change ¬ (Xz n ⟨M,[],1⟩ c).cs.length<=q at g
 generalize Xz n ⟨M,[],1⟩ c=s at *
 obtain ⟨x,⟨a,b,H⟩,C⟩:=A8j ((aE q).map fun t m=>Q t (s.cs.getD m 0)) s.cs.length (by rw [bJ,bC];omega)
 have k:∀ t,t<q->sm s.cs.length (fun m=>Q t (s.cs.getD m 0)*x m)=0:=fun t r=>C _ (List.mem_map.2 ⟨t,List.mem_range.2 r,rfl⟩)
 have f:∀ m,m<s.cs.length->s.cs.getD m 0<c:=fun m d=>by
  refine y _ ?_
  rw [List.getD_eq_getElem?_getD,bF d]
  exact List.getElem_mem d
 have z:sm s.cs.length (fun m=>s.R a (s.cs.getD m 0)*x m)=x a:=by
  rw [Sm b fun m d p=>by rw [E.piv a m b d,iN (fun e=>p e.symm),bG],E.piv a a b b,iP rfl,bZ]
 have G:sm s.cs.length (fun m=>s.R a (s.cs.getD m 0)*x m)=sm s.cs.length fun m=>(sm n fun l=>T a l*M l (s.cs.getD m 0))*x m:=D0 fun m d=>by rw [F a _ o (by have:=f m d;omega)]
 have L:(sm s.cs.length fun m=>(sm n fun l=>T a l*M l (s.cs.getD m 0))*x m)=sm n fun l=>T a l*sm s.cs.length fun m=>M l (s.cs.getD m 0)*x m:=(A6g (fun l=>T a l) (fun l m=>M l (s.cs.getD m 0)) x).symm
 have N:∀ l,l<n->(sm s.cs.length fun m=>M l (s.cs.getD m 0)*x m)=0:=fun l u=>by
  have D:(sm s.cs.length fun m=>M l (s.cs.getD m 0)*x m)=sm s.cs.length fun m=>(sm q fun t=>P l t*Q t (s.cs.getD m 0))*x m:=D0 fun m d=>by rw [hM l _ u (f m d)]
  rw [D,<- A6g (fun t=>P l t) (fun t m=>Q t (s.cs.getD m 0)) x]
  exact By fun t r=>by rw [k t r,Rat.mul_zero]
 rw [G,L,By fun l u=>by rw [N l u,Rat.mul_zero]] at z
 exact H z.symm
def prE(m n:Nat)(M:Nat->Nat->Rat)(w:Nat->Rat):Nat->Rat:=fun k=>prP m M w (k/n) (k%n)
def Wk{m n:Nat}(M:Nat->Nat->Rat)(w:Nat->Rat){i j:Nat}(hj:j<n):mtx (prE m n M w) n i j=prP m M w i j:=by
 obtain ⟨a,b⟩:=dm1 (i:=i) hj
 show prP m M w ((i*n+j)/n) ((i*n+j)%n)=_
 rw [a,b]
def Tj{m n j:Nat}(M:Nat->Nat->Rat)(w r:Nat->Rat)(hj:j<=n):(elE (F6 (prE m n M w) r n) n (n+1) j).cs.length<=m/\(elE (F6 (prE m n M w) r n) n (n+1) j).cs.length<=n:=by
 refine ⟨A6p (w:=n+1) (P:=M) (Q:=prC M w) o fun i k a b=>?_,aQ (Ja _ n j).1 hj⟩
 rw [Di _ _ o,Wk M w o]
 rfl
def A8g{m n j:Nat}(M:Nat->Nat->Rat)(w r:Nat->Rat)(hj:j<=n):(elE (F6 (Rs (prE m n M w) r n n) (A1w n) n) (n+1) (n+1) j).cs.length<=m+1/\(elE (F6 (Rs (prE m n M w) r n n) (A1w n) n) (n+1) (n+1) j).cs.length<=n:=by
 refine ⟨A6p (w:=n+1) (P:=fun i t=>if i<n then (if t<m then prC M w t i else 0) else (if t<m then 0 else 1)) (Q:=fun t k=>if t<m then M k t else r k) o fun i k c d=>?_,aQ (Ja _ (n+1) j).1 hj⟩
 rw [Di _ _ o]
 by_cases e:i<n
 ·rw [Yd _ _ e o,Wk M w e]
  have b:(sm (m+1) fun t=>(if i<n then (if t<m then prC M w t i else 0) else (if t<m then 0 else 1))*(if t<m then M k t else r k))=(sm m fun t=>(if i<n then (if t<m then prC M w t i else 0) else (if t<m then 0 else 1))*(if t<m then M k t else r k))+(if i<n then (if m<m then prC M w m i else 0) else (if m<m then 0 else 1))*(if m<m then M k m else r k):=rfl
  rw [b,iP e,iN (aV m),iN (aV m),bG,Rat.add_zero]
  unfold prP
  exact D0 fun t a=>by rw [iP e,iP a,iP a];exact bO _ _
 ·have:i=n:=o
  subst this
  have b:(sm (m+1) fun t=>(if i<i then (if t<m then prC M w t i else 0) else (if t<m then 0 else 1))*(if t<m then M k t else r k))=(sm m fun t=>(if i<i then (if t<m then prC M w t i else 0) else (if t<m then 0 else 1))*(if t<m then M k t else r k))+(if i<i then (if m<m then prC M w m i else 0) else (if m<m then 0 else 1))*(if m<m then M k m else r k):=rfl
  rw [b,Ta,iN e,iN (aV m),iN (aV m),bZ,By fun t a=>by rw [iN e,iP a,bG],Rat.zero_add]
section
variable {m n s k Y:Nat} {M:Nat->Nat->Rat} {w b x y:Nat->Rat}
def Lk(hs1:1<=s)(hM:∀ i j,i<n->j<m->Sz s (M i j))(hw:∀ t,t<m->Sz s (w t)):∀ t i,t<m->i<n->Sz (2*s) (prC M w t i):=fun t i a b=>((hM i t b a).div (hw t a) hs1).mono o
def B1e(hs1:1<=s)(hM:∀ i j,i<n->j<m->Sz s (M i j))(hw:∀ t,t<m->Sz s (w t)):∀ i j,i<n->j<n->Sz (1+m*(2*(2*s)+1)) (prP m M w i j):=fun i j c b=>
 Ky (m:=2*s) (w:=m) (f:=fun t=>M i t) (f2:=fun t=>prC M w t j) (fun t a=>(hM i t c a).mono o) (fun t a=>Lk hs1 hM hw t j a b) m (aC m)
def A29(hs1:1<=s)(hM:∀ i j,i<n->j<m->Sz s (M i j))(hw:∀ t,t<m->Sz s (w t)):∀ k,k<n*n->Sz (1+m*(2*(2*s)+1)) (prE m n M w k):=fun k b=>by
 have a:k/n<n:=aO b
 exact B1e hs1 hM hw _ _ a (bH k (Nat.lt_of_le_of_lt (Nat.zero_le _) a))
def B1d(hsk:s<=k)(hM:∀ i j,i<n->j<m->Sz s (M i j))(hb:∀ i,i<n->Sz k (b i))(hx:∀ t,t<m->Sz k (x t)):∀ i,i<n->Sz (1+m*(2*k+1)+k+1) (prR m M b x i):=fun i a=>by
 have c:=Ky (m:=k) (w:=m) (f:=fun t=>M i t) (f2:=x) (fun t d=>(hM i t a d).mono hsk) hx m (aC m)
 exact ((hb i a).sub c).mono o
def B1c(hs1:1<=s)(hsY:2*s<=Y)(hM:∀ i j,i<n->j<m->Sz s (M i j))(hw:∀ t,t<m->Sz s (w t))(hx:∀ t,t<m->Sz k (x t))(hy:∀ j,j<n->Sz Y (y j)):∀ i,i<m->Sz (1+n*(2*Y+1)+k+1) (prZ n M w x y i):=fun i a=>by
 have b:=Ky (m:=Y) (w:=n) (f:=fun j=>prC M w i j) (f2:=y) (fun j c=>(Lk hs1 hM hw i j a c).mono hsY) hy n (aC n)
 exact ((hx i a).add b).mono o
def A5e{sx se nq:Nat}(hs1:1<=s)(hM:∀ i j,i<n->j<m->Sz s (M i j))(hw:∀ t,t<m->Sz s (w t))(hx:∀ t,t<m->Sz sx (x t))(q0:m<=nq\/n<=nq)(q1:2*s<=se)(q2:1+m*(2*(2*s)+1)<=se)(q3:∀ i,i<n->Sz se (prR m M b x i)):∀ i,i<m->Sz (1+n*(2*(7^nq*se)+1)+sx+1) (prZ n M w x (Rr (prE m n M w) (prR m M b x) n n) i):=by
 have f:=Gt (b:=prR m M b x) (fun k a=>(A29 (m:=m) hs1 hM hw k a).mono q2) q3 o (nq:=nq) (by
  obtain ⟨c,e⟩:=Tj (m:=m) M w (prR m M b x) (aC n)
  rcases q0 with q0|q0
  ·exact aQ c q0
  ·exact aQ e q0)
 have d:se<=7^nq*se:=aI se (bB dc)
 exact B1c hs1 o hM hw hx fun j _=>f j
end
structure CS where
 p':Int
 r':Int
 p:Int
 r:Int
def CS.next(s:CS)(a:Int):CS:=⟨s.p,s.r,s.p'+a*s.p,s.r'+a*s.r⟩
structure CSI (s:CS) (q x:Rat):Prop where
 det:s.p*s.r'-s.p'*s.r=1\/s.p*s.r'-s.p'*s.r= -1
 eq:q*(s.r*x+s.r')=s.p*x+s.p'
 r0:0<=s.r/\0<=s.r'/\0<s.r+s.r'
section
set_option maxRecDepth 100000
variable {h:aG} {K:VP}
end
def Vw{q:Rat}:q.num.sign<0↔q<0:=by rw [Int.sign_neg_iff,Rat.lt_iff];simp
def Vx{q:Rat}:0<q.num.sign↔0<q:=by rw [Int.sign_pos_iff,Rat.lt_iff];simp
def Qc{q:Rat}:q.num.sign<=0↔q<=0:=by rw [<- Rat.not_lt,<- Vx];omega
def A15(z:Int):Ej z=H1 (z:Rat):=by rw [Pq (by simp),Rat.num_intCast]
def A1k{m:Nat}{q:Rat}{f:Int}(h:Sz m q)(h1:(f:Rat)<q)(h2:q<f+1):Sz m (q-f)/\Sz m (q-f)⁻¹:=by
 obtain ⟨a,b,c,_⟩:=Dv h1 h2
 obtain ⟨d,e⟩:=Py q f
 have g:=h.den
 refine ⟨⟨?_,by rw [e];exact g⟩,⟨by rw [a];exact g,?_⟩⟩
 ·rw [d,<- b];exact g.le (by rw [aZ,aZ];omega)
 ·exact g.le (by rw [aZ,aZ];omega)
def A5n{m:Nat}{q:Rat}(h:Sz m q)(hm:1<=m):Sz m (q.floor:Rat):=Sz.int (Kn h) hm
def A93{m:Nat}{q:Rat}(h:Sz m q):ZB m q.ceil:=by
 rw [Rat.ceil_eq_neg_floor_neg];exact (Kn h.neg).neg
def A94{m:Nat}{q:Rat}(h:Sz m q)(hm:1<=m):Sz m (q.ceil:Rat):=Sz.int (A93 h) hm
section
variable {h:aG} {K:VP} {m:Nat} {a b w:QV} {p q:Rat}
def U8(gl:Gl h)(hq:Sz m q)(hm1:1<=m)(hm:m<=283)(h0:q≠0)(hK:K (.string (bs (H1 q⁻¹))) h):aK prog 102 #[.string (bs (H1 q))] h K:=by
 refine (fnk func102) ?_
 have b:H1 1=[49]:=by simp [H1,Ej,K7,T2,H9,dch]
 show aK _ _ #[.string (bs [49]),_] _ _
 rw [<- b]
 refine A1b gl (Tx.of (Sz.int (z:=1) (ZB.one hm1) hm1) o) (Tx.of hq o) hm1 o ?_ ?_
 ·intro _
  rw [D6,D6,Rat.div_def]
  refine ⟨_,_,rfl,?_⟩
  have a:((1:Int):Rat)*q⁻¹=q⁻¹:=by rw [Rat.intCast_one,bZ]
  first
  | (rw [a];exact hK)
  | (rw [bZ];exact hK)
 ·intro e;rw [D6] at e;exact absurd e h0
def Hp:∀ n (lo hi:Rat) (h:aG) (K:VP),lo.den+hi.den<=n->Gl h->0<lo->lo<=hi->Sz m lo->Sz m hi->1<=m->m<=280->K (.string (bs (H1 (Dc lo hi)))) h->aK prog 165 #[.string (bs (H1 lo)),.string (bs (H1 hi))] h K:=by
 intro n
 induction n with
 | zero=>intro lo hi h K D;have:=lo.den_nz;omega
 | succ n ih=>
  intro lo hi h K D b A f sl w a E k
  have C:0<hi:=Std.lt_of_lt_of_le A f
  have i:=Tx.of sl o
  have r:=Tx.of w o
  refine (fnk func165) ?_
  refine V6 b r.len ⟨_,rfl,B6 (fun e=>?_) (fun _=>?_)⟩
  ·rw [D6,Vw] at e;exfalso;grind
  refine V6 b i.len ⟨_,rfl,B6 (fun e=>?_) (fun _=>?_)⟩
  ·rw [D6,Qc] at e;exfalso;grind
  refine Zi b i o ⟨_,rfl,?_⟩
  rw [D6,A15]
  refine Gn b (Tx.of (A94 sl a) o) r o ⟨_,rfl,B6 (fun e=>?_) (fun e=>?_)⟩
  ·rw [D6,D6,A3o] at e
   rw [Lb e] at k
   exact k
  ·rw [D6,D6,A3o] at e
   obtain ⟨j,l,p⟩:=A2l (fun x=>x.elim e (fun y=>y f))
   rw [Il e f] at k
   refine Vq b i o ⟨_,rfl,?_⟩
   rw [D6,A15]
   have B:=A5n sl a
   have s:=Tx.of B o
   obtain ⟨u,t⟩:=A1k sl j (Std.lt_of_le_of_lt l p)
   obtain ⟨q,g⟩:=A1k w (Std.lt_of_lt_of_le j l) p
   obtain ⟨_,_,G,M⟩:=Dv j (Std.lt_of_le_of_lt l p)
   obtain ⟨_,_,F,H⟩:=Dv (Std.lt_of_lt_of_le j l) p
   refine Kt b r s o ⟨_,rfl,?_⟩
   rw [D6,D6]
   refine U8 b q a o gz0 ⟨_,rfl,?_⟩
   refine Kt b i s o ⟨_,rfl,?_⟩
   rw [D6,D6]
   refine U8 b u a o gz0 ⟨_,rfl,?_⟩
   have c:(hi-lo.floor)⁻¹<=(lo-lo.floor)⁻¹:=V8 gz0 gz0
   have d:0<(hi-lo.floor)⁻¹:=gz0
   refine ih _ _ _ _ o b d c g t a E ⟨_,rfl,?_⟩
   have z:=Xw d c g
   have L:=(A4y d c).1
   generalize Dc (hi-lo.floor)⁻¹ (lo-lo.floor)⁻¹=x at *
   refine U8 b z a o gz0 ⟨_,rfl,?_⟩
   refine Sj b s (Tx.of (z.inv a) o) o ⟨_,rfl,?_⟩
   rw [D6,D6];exact k
def Oa{lo hi:Rat}(gl:Gl h)(hle:lo<=hi)(sl:Sz m lo)(sh:Sz m hi)(hm1:1<=m)(hm:m<=280)(hK:K (.string (bs (H1 (A1m lo hi)))) h):aK prog 165 #[.string (bs (H1 lo)),.string (bs (H1 hi))] h K:=by
 unfold A1m at hK
 have g:=Tx.of sl o
 have f:=Tx.of sh o
 by_cases a:hi<0
 ·rw [iP a] at hK
  refine (fnk func165) ?_
  refine V6 gl f.len ⟨_,rfl,B6 (fun _=>?_) (fun e=>?_)⟩
  ·refine Ku gl f.len ⟨_,rfl,Ku gl g.len ⟨_,rfl,?_⟩⟩
   rw [D6,D6]
   have d:0 < -hi:=gz0
   have c: -hi <= -lo:=gz0
   refine Hp _ _ _ _ _ (aC _) gl d c sh.neg sl.neg hm1 hm ⟨_,rfl,?_⟩
   have i:=Xw d c sh.neg
   refine Ku gl (Tx.of i o).len ⟨_,rfl,?_⟩
   rw [D6];exact hK
  ·rw [D6,Vw] at e;exact absurd a e
 ·rw [iN a] at hK
  by_cases b:lo<=0
  ·rw [iP b,A4h] at hK
   refine (fnk func165) ?_
   refine V6 gl f.len ⟨_,rfl,B6 (fun e=>?_) (fun _=>?_)⟩
   ·rw [D6,Vw] at e;exact absurd e a
   refine V6 gl g.len ⟨_,rfl,B6 (fun _=>hK) (fun e=>?_)⟩
   rw [D6,Qc] at e;exact absurd b e
  ·rw [iN b] at hK
   exact Hp _ _ _ _ _ (aC _) gl (Rat.not_le.1 b) hle sl sh hm1 hm hK
def Ml{x y:List UInt8}(gl:Gl h)(hx:x.length<=570)(hy:y.length<=570)(sx:Sz m (rv x))(sy:Sz m (rv y))(hm1:1<=m)(hm:m<=280)(hK:∀ (r:List UInt8) (e:Int),(¬ (aL x/\aL y)->r=[]/\e=1)->(aL x->aL y->rv y<rv x->r=[]/\e=3)->(aL x->aL y->rv x<=rv y->r=H1 (A1m (rv x) (rv y))/\e=0)->K (.tuple #[.string (bs r),I e]) h):aK prog 99 #[.string (bs x),.string (bs y)] h K:=by
 refine (fnk func99 (cs:=[(2,[13],[],[.bool false])])) ?_
 refine ⟨fun L k=>k=h/\∃ t:Bool,L=[.bool t]/\(t=true ↔ ¬ (aL x/\aL y)),V4 gl o (fun e=>?_) (fun e=>?_),?_⟩
 ·refine ⟨_,rfl,Br.not (V4 gl o (fun f=>?_) (fun f=>?_))⟩
  ·exact ⟨_,rfl,rfl,false,rfl,by simp [e,f]⟩
  ·exact ⟨_,rfl,rfl,true,rfl,by simp [f]⟩
 ·exact ⟨_,rfl,Br.not ⟨rfl,true,rfl,by simp [e]⟩⟩
 rintro i s ⟨rfl,t,q,j⟩
 obtain rfl:i=t:=by simpa using q
 refine Br.of (fun e=>?_) (fun e=>?_)
 ·have:=j.1 e
  exact hK [] 1 (fun _=>⟨rfl,rfl⟩) (fun a b=>absurd ⟨a,b⟩ this) (fun a b=>absurd ⟨a,b⟩ this)
 ·have c:aL x/\aL y:=by
   apply aR
   intro p
   rw [j.2 p] at e;cases e
  refine Gn gl ⟨o,sy⟩ ⟨o,sx⟩ o ⟨_,rfl,B6 (fun d=>?_) (fun d=>?_)⟩
  ·rw [A3n] at d
   exact hK [] 3 (fun a=>absurd c a) (fun _ _ _=>⟨rfl,rfl⟩) (fun _ _ a=>absurd d (Rat.not_lt.2 a))
  ·rw [A3n,Rat.not_lt] at d
   have ex:=A0z c.1
   have n:=A0z c.2
   have key:=Oa (K:=fun l g=>∃ (t20:ByteArray),l= .string t20/\K (.tuple #[.string t20,I (0:Int)]) g) gl d sx sy hm1 hm ⟨_,rfl,hK _ 0 (fun a=>absurd c a) (fun _ _ a=>absurd a (Rat.not_lt.2 d)) (fun _ _ _=>⟨rfl,rfl⟩)⟩
   rw [ex,n] at key
   exact key
end
def A04:A1m (mkRat 3 10) (mkRat 2 5)=mkRat 1 3:=by
 unfold A1m
 rw [iN (by decide +kernel),iN (by decide +kernel),Il (by decide +kernel) (by decide +kernel)]
 have c:(mkRat 3 10).floor=0:=by decide +kernel
 have b:(mkRat 2 5-((0:Int):Rat))⁻¹=mkRat 5 2:=by decide +kernel
 have a:(mkRat 3 10-((0:Int):Rat))⁻¹=mkRat 10 3:=by decide +kernel
 rw [c,b,a,Lb (by decide +kernel)]
 decide +kernel
def A6d:H1 (mkRat 3 10)=[51,47,49,48]:=by
 have a:(mkRat 3 10).num=3:=by decide +kernel
 have b:(mkRat 3 10).den=10:=by decide +kernel
 simp [H1,Ej,a,b,K7,T2,H9,dch]
def A9s:H1 (mkRat 2 5)=[50,47,53]:=by
 have a:(mkRat 2 5).num=2:=by decide +kernel
 have b:(mkRat 2 5).den=5:=by decide +kernel
 simp [H1,Ej,a,b,K7,T2,H9,dch]
def B2b:H1 (mkRat 1 3)=[49,47,51]:=by
 have a:(mkRat 1 3).num=1:=by decide +kernel
 have b:(mkRat 1 3).den=3:=by decide +kernel
 simp [H1,Ej,a,b,K7,T2,H9,dch]
section
variable {h:aG} {K:VP} {x y:List UInt8}
def Oy(gl:Gl h)(hK:K (.bool true) h):aK prog 49 #[] h K:=by
 refine (fnk func49) ?_
 show aK _ _ #[.string (bs [51,47,49,48]),.string (bs [50,47,53])] _ _
 rw [<- A6d,<- A9s]
 have d:Sz 8 (rv (H1 (mkRat 3 10))):=by rw [D6];exact ⟨by unfold ZB;decide +kernel,by unfold ZB;decide +kernel⟩
 have c:Sz 8 (rv (H1 (mkRat 2 5))):=by rw [D6];exact ⟨by unfold ZB;decide +kernel,by unfold ZB;decide +kernel⟩
 refine Ml gl (by rw [A6d];decide) (by rw [A9s];decide) d c dc dc ?_
 intro r e _ _ b
 have a:rv (H1 (mkRat 3 10))<=rv (H1 (mkRat 2 5)):=by rw [D6,D6];decide +kernel
 obtain ⟨rfl,rfl⟩:=b ⟨_,rfl⟩ ⟨_,rfl⟩ a
 rw [D6,D6,A04,B2b]
 refine ⟨_,_,rfl,D5 (fun _=>?_) (fun e=>absurd rfl e)⟩
 have:((bs [49,47,51]).toList==({ data:=#[49,47,51] }:ByteArray).toList)=true:=by rw [show ({ data:=#[49,47,51] }:ByteArray)=bs [49,47,51] from rfl,Fg];simp
 rw [this];exact hK
end
section
variable {h:aG} {K:VP} {A B:Option aN} {n m a b:Nat} {ls ls2:Nat->List UInt8}
def Lj{k:Int}(r:aF SSr h A n ls)(hn:n<=1000000000)(hK1:(∀ i,i<n->((ls i).length:Int)<=k)->K (.bool true) h)(hK0:¬ (∀ i,i<n->((ls i).length:Int)<=k)->K (.bool false) h):aK prog 48 #[I k,.slice A n a] h K:=by
 refine (fnk func48 [(2,[9],[],[I 0])]) ?_
 refine ⟨fun L c=>∃ i:Nat,i<=n/\L=[I (i:Int)]/\c=h/\∀ j,j<i->((ls j).length:Int)<=k,fun L _=>n-(iAt L 0).toNat,⟨0,o,rfl,rfl,fun j l=>o⟩,?_⟩
 rintro z c ⟨i,t,s,rfl,d⟩
 obtain rfl:=sI1 s
 refine B6 (fun g=>?_) (fun f=>?_)
 ·have b:i<n:=o
  obtain ⟨x,rfl,m⟩:=r.sat b
  refine ⟨x,rfl,o,o,_,m,?_⟩
  rw [G1]
  refine B6 (fun e=>hK0 fun q=>by have:=q i b;omega) (fun e=>?_)
  rw [wiS i o]
  refine ⟨⟨i+1,o,rfl,rfl,fun j l=>?_⟩,by simp only [V9];omega⟩
  by_cases p:j=i
  ·subst p;omega
  ·exact d j o
 ·have:i=n:=o
  subst this
  exact hK1 d
def A1p(x:aF SSr h A n ls)(y:aF SSr h B m ls2)(hn:n<=1000000000)(hK1:n=m->(∀ i,i<n->ls i=ls2 i)->K (.bool true) h)(hK0:¬ (n=m/\∀ i,i<n->ls i=ls2 i)->K (.bool false) h):aK prog 55 #[.slice A n a,.slice B m b] h K:=by
 refine (fnk func55 [(4,[13],[],[I 0])]) ?_
 refine G7 (fun e=>hK0 fun g=>e o) (fun e=>?_)
 have e:n=m:=o
 subst e
 refine ⟨fun L d=>∃ i:Nat,i<=n/\L=[I (i:Int)]/\d=h/\∀ j,j<i->ls j=ls2 j,fun L _=>n-(iAt L 0).toNat,⟨0,o,rfl,rfl,fun j q=>o⟩,?_⟩
 rintro z d ⟨i,w,t,rfl,f⟩
 obtain rfl:=sI1 t
 refine B6 (fun p=>?_) (fun l=>?_)
 ·have c:i<n:=o
  obtain ⟨u,rfl,r⟩:=x.sat c
  obtain ⟨v,rfl,k⟩:=y.sat c
  refine ⟨u,rfl,o,o,_,r,v,rfl,o,o,_,k,?_⟩
  dsimp only;rw [Fg]
  refine Br.not (B6 (fun e=>?_) (fun e=>hK0 fun g=>e (g.2 i c)))
  rw [wiS i o]
  refine ⟨⟨i+1,o,rfl,rfl,fun j q=>?_⟩,by simp only [V9];omega⟩
  by_cases s:j=i
  ·subst s;exact e
  ·exact f j o
 ·have:i=n:=o
  subst this
  exact hK1 rfl f
end
def Qd(f:Nat->Rat):rvs (fun k=>H1 (f k))=f:=funext fun _=>D6 _
def Ve(r c:Int)(n:Nat)(la:Nat->List UInt8)(nb:Nat)(lb:Nat->List UInt8)(nx:Nat)(lx:Nat->List UInt8)(nw:Nat)(lw:Nat->List UInt8):Prop:=Mx r c n la/\(∀ i,i<nb->aL (lb i))/\(∀ i,i<nx->aL (lx i))/\∀ i,i<nw->aL (lw i)
def PChk(r c:Int)(n:Nat)(la:Nat->List UInt8)(nb:Nat)(lb:Nat->List UInt8)(nx:Nat)(lx:Nat->List UInt8)(nw:Nat)(lw:Nat->List UInt8)(e:Int):Prop:=
 (¬ Ve r c n la nb lb nx lx nw lw/\e=1)\/(Ve r c n la nb lb nx lx nw lw/\¬ ((nb:Int)=r/\(nx:Int)=c/\(nw:Int)=c)/\e=4)\/
 (Ve r c n la nb lb nx lx nw lw/\((nb:Int)=r/\(nx:Int)=c/\(nw:Int)=c)/\(∃ i,i<nw/\rv (lw i)<=0)/\e=3)\/
 (Ve r c n la nb lb nx lx nw lw/\((nb:Int)=r/\(nx:Int)=c/\(nw:Int)=c)/\(∀ i,i<nw->0<rv (lw i))/\e=0)
def PChk.eq{r c:Int}{n:Nat}{la:Nat->List UInt8}{nb:Nat}{lb:Nat->List UInt8}{nx:Nat}{lx:Nat->List UInt8}{nw:Nat}{lw:Nat->List UInt8}{e f:Int}(x:PChk r c n la nb lb nx lx nw lw e)(y:PChk r c n la nb lb nx lx nw lw f):e=f:=by
 have g:(∃ i,i<nw/\rv (lw i)<=0)->(∀ i,i<nw->0<rv (lw i))->False:=fun ⟨i,j,l⟩ k=>by have:=k i j;grind
 rcases x with ⟨a,rfl⟩|⟨a,b,rfl⟩|⟨a,b,d,rfl⟩|⟨a,b,d,rfl⟩<;>rcases y with ⟨a',rfl⟩|⟨a',b',rfl⟩|⟨a',b',d',rfl⟩|⟨a',b',d',rfl⟩<;>first
 | rfl
 | exact absurd a' a
 | exact absurd a a'
 | exact absurd b' b
 | exact absurd b b'
 | exact (g d d').elim
 | exact (g d' d).elim
section
variable {h:aG} {K:VP}
def Rb{L:Option aN}{lc:Nat}{hs:List HV}{fs:Nat->Nat->List UInt8}(gl:Gl h)(sl:SlF h L hs)(hr:∀ i (hi:i<hs.length),aF SSr h hs[i].A hs[i].n (fs i))(hlen:hs.length<=1000)(hn:∀ i (hi:i<hs.length),hs[i].n<=1000000)(hl:∀ i (hi:i<hs.length) j,j<hs[i].n->(fs i j).length<=140737488351232)
 (hK1:(∀ i (hi:i<hs.length) j,j<hs[i].n->aL (fs i j))->K (.bool true) h) (hK0:¬ (∀ i (hi:i<hs.length) j,j<hs[i].n->aL (fs i j))->K (.bool false) h):aK prog 166 #[.slice L hs.length lc] h K:=by
 refine (fnk func166 [(2,[9],[],[I 0]),(5,[15],[],[I 0])]) ?_
 refine ⟨fun q r=>∃ i:Nat,i<=hs.length/\q=[I (i:Int)]/\r=h/\∀ k (c:k<hs.length),k<i->∀ j,j<hs[k].n->aL (fs k j),fun q _=>hs.length-(iAt q 0).toNat,⟨0,o,rfl,rfl,fun k _ c=>o⟩,?_⟩
 rintro z r ⟨i,hi,F,rfl,w⟩
 obtain rfl:=sI1 F
 refine B6 (fun C=>?_) (fun y=>hK1 fun k c=>w k c o)
 have b:i<hs.length:=o
 obtain ⟨a,O,Q⟩:=SlF.at dc sl b
 have f:=Q 0 _ rfl
 rw [Ni] at f
 refine ⟨a,O,o,o,_,_,_,f,?_⟩
 have N:=hn i b
 have row:=hr i b
 refine ⟨fun q m=>∃ j:Nat,j<=hs[i].n/\q=[I (j:Int)]/\m=r/\∀ k,k<j->aL (fs i k),fun q _=>hs[i].n-(iAt q 0).toNat,⟨0,o,rfl,rfl,fun k c=>o⟩,?_⟩
 rintro R E ⟨j,S,l,rfl,g⟩
 obtain rfl:=sI1 l
 refine B6 (fun x=>?_) (fun t=>?_)
 ·have d:j<hs[i].n:=o
  obtain ⟨u,H,s⟩:=row.sat d
  refine ⟨u,H,o,o,_,s,V4 gl (hl i b j d) (fun e=>⟨_,rfl,Br.nt ?_⟩) (fun e=>⟨_,rfl,Fz (hK0 fun M=>e (M i b j d))⟩)⟩
  rw [wiS j o]
  refine ⟨⟨j+1,o,rfl,rfl,fun k c=>?_⟩,by simp only [V9];omega⟩
  by_cases p:k=j
  ·rw [p];exact e
  ·exact g k o
 ·rw [wiS i o]
  refine ⟨⟨i+1,o,rfl,rfl,fun k c D=>?_⟩,by simp only [V9];omega⟩
  by_cases p:k=i
  ·subst p
   exact fun B G=>g B o
  ·exact w k c o
variable {A B X W:Option aN} {n nb nx nw cap bc xc wc:Nat} {r c:Int} {la lb lx lw:Nat->List UInt8}
def Wx(gl:Gl h)(ra:aF SSr h A n la)(rb:aF SSr h B nb lb)(rx:aF SSr h X nx lx)(rw':aF SSr h W nw lw)(hn:n<=1000000)(hnb:nb<=1000000)(hnx:nx<=1000000)(hnw:nw<=1000000)(hl:∀ i,i<n->(la i).length<=140737488351232)(hlb:∀ i,i<nb->(lb i).length<=140737488351232)(hlx:∀ i,i<nx->(lx i).length<=140737488351232)(hlw:∀ i,i<nw->(lw i).length<=140737488351232)
 (hK:∀ e h',h.le h'->PChk r c n la nb lb nx lx nw lw e->K (I e) h'):aK prog 100 #[Nx r c A n cap,.slice B nb bc,.slice X nx xc,.slice W nw wc] h K:=by
 refine (fnk func100 [(6,[43],[],[I 0])] (own:=[4])) ?_
 refine Lp gl ra hn hl (fun m=>⟨_,rfl,Br.nt ?_⟩) (fun m=>⟨_,rfl,Fz (hK 1 h (B4 _) (.inl ⟨fun x=>m x.1,rfl⟩))⟩)
 refine Hi A9u (vs:=[.slice B nb bc,.slice X nx xc,.slice W nw wc]) (fun v E=>by simp at E;rcases E with rfl|rfl|rfl<;>rfl) rfl (show 3*1<=16777216 from dc) rfl ?_
 intro b H
 have sl:SlF (h.put b (.cells ([(⟨B,nb,bc⟩:HV),⟨X,nx,xc⟩,⟨W,nw,wc⟩].flatMap enc).toArray 52)) (some ⟨b,0,none⟩) [(⟨B,nb,bc⟩:HV),⟨X,nx,xc⟩,⟨W,nw,wc⟩]:=Fw _ _ _ _
 have a:h.le (h.put b (.cells ([(⟨B,nb,bc⟩:HV),⟨X,nx,xc⟩,⟨W,nw,wc⟩].flatMap enc).toArray 52)):=Heap.le_put _ H
 refine ⟨_,_,_,rfl,Rb (hs:=[(⟨B,nb,bc⟩:HV),⟨X,nx,xc⟩,⟨W,nw,wc⟩]) (fs:=fun i=>if i=0 then lb else if i=1 then lx else lw) (gl.mono a) sl (fun i d=>?_) (show 3<=1000 from dc) (fun i d=>?_) (fun i d=>?_) (fun j=>⟨_,rfl,Br.nt ?_⟩) (fun j=>⟨_,rfl,Fz (hK 1 _ a (.inl ⟨fun y=>j fun i d=>?_,rfl⟩))⟩)⟩
 ·match i,d with
  | 0,_=>exact rb.mono I7 a
  | 1,_=>exact rx.mono I7 a
  | 2,_=>exact rw'.mono I7 a
 ·match i,d with
  | 0,_=>exact hnb
  | 1,_=>exact hnx
  | 2,_=>exact hnw
 ·match i,d with
  | 0,_=>exact hlb
  | 1,_=>exact hlx
  | 2,_=>exact hlw
 ·have val:Ve r c n la nb lb nx lx nw lw:=⟨m,j 0 (show 0<3 from dc),j 1 (show 1<3 from dc),j 2 (show 2<3 from dc)⟩
  have f:=fun e=>hK 4 _ a (.inr (.inl ⟨val,e,rfl⟩))
  refine G7 (fun e=>f fun x=>e x.1) (fun C=>G7 (fun e=>f fun x=>e x.2.1) (fun s=>G7 (fun e=>f fun x=>e x.2.2) (fun D=>?_)))
  refine ⟨fun q t=>∃ i:Nat,i<=nw/\q=[I (i:Int)]/\t=h.put b (.cells ([(⟨B,nb,bc⟩:HV),⟨X,nx,xc⟩,⟨W,nw,wc⟩].flatMap enc).toArray 52)/\∀ k,k<i->0<rv (lw k),fun q _=>nw-(iAt q 0).toNat,⟨0,o,rfl,rfl,fun k p=>o⟩,?_⟩
  rintro z t ⟨i,d,M,rfl,w⟩
  obtain rfl:=sI1 M
  refine B6 (fun G=>?_) (fun F=>hK 0 _ a (.inr (.inr (.inr ⟨val,⟨C,s,D⟩,fun k p=>w k o,rfl⟩))))
  have g:i<nw:=o
  obtain ⟨u,N,l⟩:=(rw'.mono I7 a).sat g
  refine ⟨u,N,o,o,_,l,V6 (gl.mono a) (hlw i g) ⟨_,rfl,B6 (fun e=>?_) (fun e=>?_)⟩⟩
  ·exact hK 3 _ a (.inr (.inr (.inl ⟨val,⟨C,s,D⟩,⟨i,g,Qc.1 e⟩,rfl⟩)))
  ·rw [wiS i o]
   refine ⟨⟨i+1,o,rfl,rfl,fun k p=>?_⟩,by simp only [V9];omega⟩
   by_cases L:k=i
   ·rw [L]
    exact Vx.1 o
   ·exact w k o
 ·match i,d with
  | 0,_=>exact y.2.1
  | 1,_=>exact y.2.2.1
  | 2,_=>exact y.2.2.2
end
def B1f(M:Nat->Nat->Rat)(w:Nat->Rat)(i j:Nat):prC M w i j=(w i)⁻¹*M j i:=by unfold prC;rw [Rat.div_def,bO]
def lcT(rows:Nat)(M:Nat->Nat->Rat)(w:Nat->Rat):Nat->List UInt8:=fun k=>H1 (prC M w (k/rows) (k%rows))
def Wq{rows:Nat}(M:Nat->Nat->Rat)(w:Nat->Rat){i j:Nat}(hj:j<rows):mtx (rvs (lcT rows M w)) rows i j=prC M w i j:=by
 obtain ⟨a,b⟩:=dm1 (i:=i) hj
 show rv (H1 (prC M w ((i*rows+j)/rows) ((i*rows+j)%rows)))=_
 rw [D6,a,b]
def A8m{rows cols:Nat}(hr:1<=rows)(la:Nat->List UInt8)(w:Nat->Rat):(fun k=>H1 (sm cols (fun j=>mtx (rvs la) cols (k/rows) j*mtx (rvs (lcT rows (mtx (rvs la) cols) w)) rows j (k%rows))))=fun k=>H1 (prE cols rows (mtx (rvs la) cols) w k):=by
 funext k
 refine congrArg H1 (D0 fun j _=>?_)
 rw [Wq _ _ (bH k o)]
section
variable {h:aG} {K:VP} {A B X W:Option aN} {n nb nx nw cap bc xc wc s sx:Nat} {r c:Int} {la lb lx lw:Nat->List UInt8}
def Ra(gl:Gl h)(ra:aF SSr h A n la)(rb:aF SSr h B nb lb)(rx:aF SSr h X nx lx)(rw':aF SSr h W nw lw)(hn:n<=1000000)(hnb:nb<=1000000)(hnx:nx<=1000000)(hnw:nw<=1000000)(hl:∀ i,i<n->(la i).length<=140737488351232)(hlb:∀ i,i<nb->(lb i).length<=140737488351232)(hlx:∀ i,i<nx->(lx i).length<=140737488351232)(hlw:∀ i,i<nw->(lw i).length<=140737488351232)
 (hs1:1<=s) (hs283:s<=283) (hssx:s<=sx) (hs:∀ i,i<n->Sz s (rv (la i))) (hsw:∀ i,i<nw->Sz s (rv (lw i))) (hsb:∀ i,i<nb->Sz sx (rv (lb i))) (hsx:∀ i,i<nx->Sz sx (rv (lx i)))
 (hb:∀ rows cols,MOk r c n la rows cols->nb=rows->nx=cols->nw=cols->∃ se nq,(cols<=nq\/rows<=nq)/\2*s<=se/\1+cols*(2*(2*s)+1)<=se/\(∀ i,i<rows->Sz se (prR cols (mtx (rvs la) cols) (rvs lb) (rvs lx) i))/\2*(3^(nq+1)*bnd (rows+1) se)+1<=40000000/\7^(nq+1)*se<=40000000/\2*(1+cols*(2*sx+1)+2*sx)+14<=40000000/\2*(1+rows*(2*(7^nq*se)+1)+2*(7^nq*se)+sx)+14<=40000000)
 (hKe:∀ e h',h.le h'->PChk r c n la nb lb nx lx nw lw e->e≠0->K (.tuple #[.slice none 0 0,I e]) h')
 (hK8:∀ rows cols,MOk r c n la rows cols->PChk r c n la nb lb nx lx nw lw 0->nb=rows->nx=cols->nw=cols->¬ Ai (prE cols rows (mtx (rvs la) cols) (rvs lw)) (prR cols (mtx (rvs la) cols) (rvs lb) (rvs lx)) rows rows->∀ h',h.le h'->K (.tuple #[.slice none 0 0,I 8]) h')
 (hK0:∀ rows cols,MOk r c n la rows cols->PChk r c n la nb lb nx lx nw lw 0->nb=rows->nx=cols->nw=cols->Ai (prE cols rows (mtx (rvs la) cols) (rvs lw)) (prR cols (mtx (rvs la) cols) (rvs lb) (rvs lx)) rows rows->∀ A' c' h',h.le h'->aF SSr h' A' cols (fun i=>H1 (prZ rows (mtx (rvs la) cols) (rvs lw) (rvs lx) (Rr (prE cols rows (mtx (rvs la) cols) (rvs lw)) (prR cols (mtx (rvs la) cols) (rvs lb) (rvs lx)) rows rows) i))->K (.tuple #[.slice A' cols c',I 0]) h'):
 aK prog 50 #[Nx r c A n cap,.slice B nb bc,.slice X nx xc,.slice W nw wc] h K:=by
 refine (fnk func50 [(8,[44],[],[I 0]),(12,[53],[],[I 0]),(24,[99],[],[I 0]),(35,[135],[],[I 0])] (own:=[4,11,17])) ?_
 refine Wx gl ra rb rx rw' hn hnb hnx hnw hl hlb hlx hlw ?_
 intro e h1 l1 aw
 refine ⟨_,rfl,G7 (fun he=>hKe e h1 l1 aw he) (fun he=>?_)⟩
 subst he
 have k0:Ve r c n la nb lb nx lx nw lw/\((nb:Int)=r/\(nx:Int)=c/\(nw:Int)=c)/\∀ i,i<nw->0<rv (lw i):=by
  rcases aw with ⟨_,e⟩|⟨_,_,e⟩|⟨_,_,_,e⟩|⟨a1,R,a3,_⟩
  ·exact absurd e dc
  ·exact absurd e dc
  ·exact absurd e dc
  ·exact ⟨a1,R,a3⟩
 obtain ⟨⟨⟨rows,cols,mk⟩,vb,vx,vw⟩,⟨s1,s2,s3⟩,c4⟩:=k0
 obtain rfl:nb=rows:=by have:=mk.er;omega
 obtain rfl:nx=cols:=by have:=mk.ec;omega
 obtain rfl:nw=nx:=oo
 obtain ⟨se,nq,q0,q1,q2,q3,q4,q5,q6,q7⟩:=hb nb nw mk rfl rfl rfl
 have ao:=hK8 nb nw mk aw rfl rfl rfl
 have aq:=hK0 nb nw mk aw rfl rfl rfl
 clear hb hK8 hK0 hKe aw s1 s2 s3
 have bq:=mk
 obtain ⟨rfl,rfl,r1,r2,c1,c2,rfl,dm⟩:=mk
 have hM:∀ i j,i<nb->j<nw->Sz s (mtx (rvs la) nw i j):=Jq hs
 have dx:nb*nw<=64*64:=aT r2 c2
 refine Ls (gl.mono l1) (ra.mono I7 l1) hn hl (fun a d bt h2 A2 dr cy=>?_) (fun bk=>absurd ⟨_,_,bq⟩ bk)
 obtain rfl:a=nb:=by have:=bt.er;omega
 obtain rfl:d=nw:=by have:=bt.ec;omega
 refine ⟨_,_,_,_,_,_,rfl,G7 (fun e=>absurd rfl e) (fun _=>?_)⟩
 obtain ⟨g2,o2,c3,l2,ci,b7,bf,ck⟩:=cy
 have dj:0<a*d:=Nat.mul_pos r1 c1
 obtain ⟨a0,rfl,bb⟩:=b7.rowB (by rintro rfl;simp at bf;omega)
 have ch:=B0 l1 l2
 clear b7
 refine ⟨fun L hp=>∃ (i:Nat) (g o:aG) (G:List (List UInt8)),i<=d/\L=[I (i:Int)]/\h.le g/\Sep hp g o/\RowB o a0 G/\G.length=a*d/\Row SSr g G (a*d) (fun k=>if k<i*a then lcT a (mtx (rvs la) d) (rvs lw) k else la (k%a*d+k/a)),fun L _=>d-(iAt L 0).toNat,
  ⟨0,g2,o2,c3,oo,rfl,ch,ci,bb,bf,ck.congr fun k _=>by rw [cL,iN oo]⟩,?_⟩
 clear ck bf bb ci ch l2
 rintro z ca ⟨i,g,o,G,hi,eL,lg,sp,a6,az,rr⟩
 obtain rfl:=sI1 eL
 refine B6 (fun ag=>?_) (fun aj=>?_)
 ·have ac:i<d:=oo
  have ak:=B0 lg sp.le
  obtain ⟨u,hu,ax⟩:=(rw'.mono I7 ak).sat ac
  have d6:=c4 i ac
  refine ⟨u,hu,oo,oo,_,ax,?_⟩
  rw [<- A0z (vw i ac)]
  refine sp.call (U8 (gl.mono lg) (hsw i ac) hs1 hs283 gz0 ?_)
  intro h3 cm
  refine ⟨_,rfl,fun L hp=>∃ (j:Nat) (g o:aG) (G:List (List UInt8)),j<=a/\L=[I (j:Int)]/\h.le g/\Sep hp g o/\RowB o a0 G/\G.length=a*d/\Row SSr g G (a*d) (fun k=>if k<i*a+j then lcT a (mtx (rvs la) d) (rvs lw) k else la (k%a*d+k/a)),fun L _=>a-(iAt L 0).toNat,
   ⟨0,g,o,G,oo,rfl,lg,cm,a6,az,rr⟩,?_⟩
  clear rr az a6 cm sp lg ak
  rintro z2 cv ⟨j,g4,o4,b9,hj,cr,bh,ay,al,bg,bp⟩
  obtain rfl:=sI1 cr
  have dq:(i+1)*a<=d*a:=aD _ ac
  have cu:(i+1)*a=i*a+a:=by rw [cC,Nat.one_mul]
  have d4:d*a=a*d:=aX _ _
  refine B6 (fun dl=>?_) (fun dk=>?_)
  ·have bv:j<a:=oo
   have x:i*a+j<a*d:=oo
   have ei:B9 (B9 ((i:Int)*(a:Int))+(j:Int))=((i*a+j:Nat):Int):=by
    rw [show B9 ((i:Int)*(a:Int))=((i*a:Nat):Int) by rw [<- cH];exact O6 oo,B7 oo oo]
    omega
   rw [ei]
   have ct:aF SSr cv (some ⟨a0,0,none⟩) (a*d) _:=⟨b9,al.slF ay.ole,bg,bp.mono I7 ay.le⟩
   obtain ⟨v,hv,O⟩:=ct.sat x
   obtain ⟨f1,f2⟩:=dm1 (i:=i) bv
   have cb:j*d+i<a*d:=X7 bv ac
   rw [iN oo,f1,f2] at O
   obtain rfl:=bI hv
   refine ⟨_,rfl,oo,oo,_,O,?_⟩
   refine ay.call (A18 (m:=s) (gl.mono bh) (Tx.of ((hsw i ac).inv hs1) oo) ⟨hl _ cb,hs _ cb⟩ oo ?_)
   intro h5 cn
   refine ⟨_,rfl,ay.le_le cn (B4 _),_,rfl,oo,oo,?_⟩
   rw [D8,aH]
   refine Sep.store S6 (y:=lcT a (mtx (rvs la) d) (rvs lw) (i*a+j)) ?_ cn al (i:=i*a+j) oo (by show 0+(i*a+j)*1=(i*a+j)*1;omega) ?_
   ·show (cK (bs _)).cells=_
    unfold lcT
    rw [f1,f2,B1f,D6]
    rfl
   intro h6 o6 x6 dz c9 cl
   rw [wiS j oo]
   refine ⟨⟨j+1,g4,o6,_,oo,rfl,bh,c9,cl,by rw [aS];exact bg,(bp.upd oo rfl).congr fun k bw=>?_⟩,by simp only [V9];omega⟩
   by_cases ek:k=i*a+j
   ·rw [iP ek,iP oo,ek]
   ·rw [iN ek]
    by_cases N:k<i*a+j
    ·rw [iP N,iP oo]
    ·rw [iN N,iN oo]
  ·obtain rfl:j=a:=oo
   rw [wiS i oo]
   refine ⟨⟨i+1,g4,o4,b9,oo,rfl,bh,ay,al,bg,?_⟩,by simp only [V9];omega⟩
   rw [cu]
   exact bp
 obtain rfl:i=d:=oo
 have ak:=B0 lg sp.le
 have rc:aF SSr ca (some ⟨a0,0,none⟩) (a*i) (lcT a (mtx (rvs la) i) (rvs lw)):=⟨G,a6.slF sp.ole,az,(rr.mono I7 sp.le).congr fun k x=>iP (by rw [aX];exact x)⟩
 clear rr az a6 sp lg G
 have bi:∀ k,k<a*i->Sz (2*s) (rv (lcT a (mtx (rvs la) i) (rvs lw) k)):=fun k x=>by
  unfold lcT
  rw [D6]
  exact Lk hs1 hM hsw _ _ (aO x) (bH k oo)
 have b0:∀ k,k<a*i->(lcT a (mtx (rvs la) i) (rvs lw) k).length<=140737488351232:=fun k x=>by
  have h1:=bi k x
  unfold lcT at h1 ⊢
  rw [D6] at h1
  have:=Gj h1
  omega
 have bz:MOk (i:Int) (a:Int) (a*i) (lcT a (mtx (rvs la) i) (rvs lw)) i a:=⟨rfl,rfl,c1,c2,r1,r2,aX _ _,fun k _=>⟨_,rfl⟩⟩
 refine A2r (m:=2*s) (gl.mono ak) (ra.mono I7 ak) rc hn hn hl b0 (fun k x=>(hs k x).mono oo) bi oo oo ?_
 intro o7 cz A7 c7 h7 l7 r7
 rcases cz with ⟨V,_⟩|⟨_,_,V,_⟩|⟨a1,b1,d1,k1,k2,rfl⟩
 ·exact absurd ⟨⟨_,_,bq⟩,⟨_,_,bz⟩⟩ V
 ·exact absurd rfl V
 obtain rfl:a1=a:=by have:=k1.er;omega
 obtain rfl:b1=i:=by have:=k1.ec;omega
 obtain rfl:d1=a1:=by have:=k2.ec;omega
 clear k1 k2
 refine ⟨_,_,_,_,_,_,rfl,G7 (fun e=>absurd rfl e) (fun _=>?_)⟩
 have db:aF SSr h7 A7 (d1*d1) (fun k=>H1 (prE b1 d1 (mtx (rvs la) b1) (rvs lw) k)):=by
  rw [<- A8m r1]
  exact r7
 clear r7
 have a7:=B0 ak l7
 refine Jr (m:=sx) (gl.mono a7) (ra.mono I7 a7) (rx.mono I7 a7) hn hnx hl hlx (fun k x=>(hs k x).mono hssx) hsx oo (fun C t ai=>?_) ?_
 ·obtain rfl:t=b1:=by have:=ai.ec;omega
  exact q6
 intro o8 cs A8 c8 h8 w8
 rcases cs with ⟨V,_⟩|⟨_,_,V,_⟩|⟨R,l,k1,_,_,rfl⟩
 ·exact absurd ⟨⟨_,_,bq⟩,vx⟩ V
 ·exact absurd rfl V
 obtain rfl:R=d1:=by have:=k1.er;omega
 obtain rfl:l=b1:=by have:=k1.ec;omega
 clear k1
 refine ⟨_,_,_,_,rfl,G7 (fun e=>absurd rfl e) (fun _=>?_)⟩
 obtain ⟨g8,o8,bo,l8,b5,cd,a8,bl⟩:=w8
 change bo.length=R at a8
 change Row SSr g8 bo R _ at bl
 obtain ⟨b8,rfl,be⟩:=cd.rowB (by rintro rfl;simp at a8;omega)
 clear cd
 have c6:∀ i,i<R->Sz (1+l*(2*sx+1)) (sm l (fun j=>mtx (rvs la) l i j*rv (lx j))):=fun i hi=>Ky (m:=sx) (w:=l) (f:=fun j=>mtx (rvs la) l i j) (f2:=fun j=>rv (lx j)) (fun j hj=>(hM i j hi hj).mono hssx) hsx l (aC _)
 refine ⟨fun L hp=>∃ (i:Nat) (g o:aG) (G:List (List UInt8)),i<=R/\L=[I (i:Int)]/\h7.le g/\Sep hp g o/\RowB o b8 G/\G.length=R/\Row SSr g G R (fun k=>if k<i then H1 (prR l (mtx (rvs la) l) (rvs lb) (rvs lx) k) else H1 (sm l (fun j=>mtx (rvs la) l k j*rv (lx j)))),fun L _=>R-(iAt L 0).toNat,
  ⟨0,g8,o8,bo,oo,rfl,l8,b5,be,a8,bl.congr fun k _=>by rw [iN oo]⟩,?_⟩
 clear bl a8 be b5 l8
 rintro z ah ⟨p,g9,o9,af,c5,bj,ad,q,D,Q,S⟩
 obtain rfl:=sI1 bj
 have T:h.le g9:=B0 a7 ad
 refine B6 (fun ag=>?_) (fun aj=>?_)
 ·have ag:((p:Nat):Int)<((R:Nat):Int):=ag
  have E:p<R:=oo
  have bn:aF SSr ah (some ⟨b8,0,none⟩) R _:=⟨af,D.slF q.ole,Q,S.mono I7 q.le⟩
  obtain ⟨v,hv,O⟩:=bn.sat E
  obtain rfl:=bI hv
  rw [iN oo] at O
  obtain ⟨u,hu,ax⟩:=(rb.mono I7 (B0 T q.le)).sat E
  refine ⟨_,rfl,oo,show ((p:Nat):Int)<((R:Nat):Int) from oo,_,O,u,hu,oo,oo,_,ax,?_⟩
  have t1:=(c6 p E).mono (show 1+l*(2*sx+1)<=1+l*(2*sx+1)+2*sx from oo)
  refine q.call (Kt (m:=1+l*(2*sx+1)+2*sx) (gl.mono T) ⟨hlb p E,(hsb p E).mono oo⟩ (Tx.of t1 oo) oo ?_)
  intro cx av
  refine ⟨_,rfl,_,rfl,oo,show ((p:Nat):Int)<((R:Nat):Int) from oo,?_⟩
  rw [D8,aH]
  refine Sep.store S6 (y:=H1 (prR l (mtx (rvs la) l) (rvs lb) (rvs lx) p)) ?_ av D (i:=p) oo (by show 0+p*1=p*1;omega) ?_
  ·rw [D6];rfl
  intro dh bm df cc an aa
  rw [wiS p oo]
  refine ⟨⟨p+1,g9,bm,_,oo,rfl,ad,an,aa,by rw [aS];exact Q,(S.upd oo rfl).congr fun k bw=>?_⟩,by simp only [V9];omega⟩
  by_cases ek:k=p
  ·rw [iP ek,iP oo,ek]
  ·rw [iN ek]
   by_cases N:k<p
   ·rw [iP N,iP oo]
   ·rw [iN N,iN oo]
 have aj:¬ ((p:Nat):Int)<((R:Nat):Int):=aj
 obtain rfl:p=R:=oo
 have ba:=B0 T q.le
 have bu:h7.le ah:=B0 ad q.le
 have rm:aF SSr ah (some ⟨b8,0,none⟩) p (fun k=>H1 (prR l (mtx (rvs la) l) (rvs lb) (rvs lx) k)):=⟨af,D.slF q.ole,Q,(S.mono I7 q.le).congr fun k x=>iP x⟩
 clear S Q D q ad T af
 have hE:∀ k,k<p*p->Sz se (prE l p (mtx (rvs la) l) (rvs lw) k):=fun k x=>(A29 hs1 hM hsw k x).mono q2
 have dg:MOk (p:Int) (p:Int) (p*p) (fun k=>H1 (prE l p (mtx (rvs la) l) (rvs lw) k)) p p:=⟨rfl,rfl,r1,r2,r1,r2,rfl,fun k _=>⟨_,rfl⟩⟩
 have d0:se<=40000000:=by
  have:=aI se (show 0<7^(nq+1) from bB dc)
  omega
 have d5:p*p<=64*64:=aT r2 r2
 have dv:3^nq*bnd (p+1) se<=3^(nq+1)*bnd (p+1) se:=aD _ (Nat.pow_le_pow_right dc (Nat.le_succ nq))
 have du:7^nq*se<=7^(nq+1)*se:=aD _ (Nat.pow_le_pow_right dc (Nat.le_succ nq))
 refine Tq (m:=se) (n:=p*p) (n2:=p) (gl.mono ba) (db.mono I7 bu) rm oo oo (fun k x=>by have:=Gj (hE k x);omega) (fun k x=>by have:=Gj (q3 k x);omega) (fun k x=>by rw [D6];exact hE k x) (fun k x=>by rw [D6];exact q3 k x) oo (fun C t ai=>?_) ?_
 ·obtain rfl:C=p:=by have h1:((p:Nat):Int)=C:=ai.er;omega
  obtain rfl:t=C:=by have h1:((C:Nat):Int)=t:=ai.ec;omega
  rw [Qd,Qd]
  refine ⟨nq,nq+1,fun j hj=>?_,fun j hj=>?_,oo,q4,oo,q5⟩
  ·obtain ⟨p1,p2⟩:=Tj (m:=l) (mtx (rvs la) l) (rvs lw) (prR l (mtx (rvs la) l) (rvs lb) (rvs lx)) hj
   rcases q0 with q0|q0<;>omega
  ·obtain ⟨p1,p2⟩:=A8g (m:=l) (mtx (rvs la) l) (rvs lw) (prR l (mtx (rvs la) l) (rvs lb) (rvs lx)) hj
   rcases q0 with q0|q0<;>omega
 intro dy ce ny fy _ A12 dw B12 d2 a5 cj cq _
 have ar:=B0 ba cj
 rcases ce with ⟨V,_⟩|⟨_,_,V,_⟩|⟨a3,F,k1,_,_,cf⟩
 ·exact absurd ⟨⟨_,_,dg⟩,fun k _=>⟨_,rfl⟩⟩ V
 ·exact absurd rfl V
 obtain rfl:a3=p:=by have h1:((p:Nat):Int)=a3:=k1.er;omega
 obtain rfl:F=a3:=by have h1:((a3:Nat):Int)=F:=k1.ec;omega
 clear k1
 rw [Qd,Qd] at cf
 rcases cf.symm with ⟨bk,rfl⟩|⟨cw,rfl⟩
 ·exact ⟨_,_,_,_,_,_,_,rfl,G7 (fun _=>ao bk a5 ar) (fun e=>absurd e dc)⟩
 refine ⟨_,_,_,_,_,_,_,rfl,G7 (fun e=>absurd rfl e) (fun _=>?_)⟩
 have hg:=aq cw
 clear aq ao
 have hX:=Gt (b:=prR l (mtx (rvs la) l) (rvs lb) (rvs lx)) hE q3 oo (nq:=nq) (by
  obtain ⟨p1,p2⟩:=Tj (m:=l) (mtx (rvs la) l) (rvs lw) (prR l (mtx (rvs la) l) (rvs lb) (rvs lx)) (aC F)
  rcases q0 with q0|q0
  ·exact aQ p1 q0
  ·exact aQ p2 q0)
 generalize Rr (prE l F (mtx (rvs la) l) (rvs lw)) (prR l (mtx (rvs la) l) (rvs lb) (rvs lx)) F F=y at *
 have ds:se<=7^nq*se:=aI se (bB dc)
 generalize 7^nq*se=Y at *
 change aF SSr a5 A12 F (fun j=>H1 (y j)) at cq
 have de:ca.le a5:=B0 l7 (B0 bu cj)
 have di:∀ i,i<l->Sz (1+F*(2*Y+1)) (sm F (fun j=>mtx (rvs (lcT F (mtx (rvs la) l) (rvs lw))) F i j*rv (H1 (y j)))):=fun i hi=>Ky (m:=Y) (w:=F) (f:=fun j=>mtx (rvs (lcT F (mtx (rvs la) l) (rvs lw))) F i j) (f2:=fun j=>rv (H1 (y j))) (fun j hj=>by
  show Sz Y (mtx (rvs (lcT F (mtx (rvs la) l) (rvs lw))) F i j)
  rw [Wq _ _ hj]
  exact (Lk hs1 hM hsw i j hi hj).mono oo) (fun j hj=>by rw [D6];exact hX j) F (aC _)
 refine Jr (m:=Y) (n2:=F) (gl.mono ar) (rc.mono I7 de) cq hn (by show F<=1000000;omega) b0 (fun k _=>by have:=Gj (hX k);show (H1 (y k)).length<=_;omega) (fun k x=>(bi k x).mono oo) (fun k _=>by show Sz Y (rv (H1 (y k)));rw [D6];exact hX k) oo (fun C t ai=>?_) ?_
 ·obtain rfl:t=F:=by have:=ai.ec;omega
  omega
 intro br cg A13 d3 dn da
 rcases cg with ⟨V,_⟩|⟨_,_,V,_⟩|⟨M,b4,k1,_,_,rfl⟩
 ·exact absurd ⟨⟨_,_,bz⟩,fun k _=>⟨_,rfl⟩⟩ V
 ·exact absurd rfl V
 obtain rfl:M=l:=by have:=k1.er;omega
 obtain rfl:b4=F:=by have:=k1.ec;omega
 clear k1
 refine ⟨_,_,_,_,rfl,G7 (fun e=>absurd rfl e) (fun _=>?_)⟩
 obtain ⟨co,br,am,bx,bd,a9,ae,au⟩:=da
 change am.length=M at ae
 change Row SSr co am M _ at au
 obtain ⟨b6,rfl,ap⟩:=a9.rowB (by rintro rfl;simp at ae;omega)
 clear a9
 refine ⟨fun L hp=>∃ (i:Nat) (g o:aG) (G:List (List UInt8)),i<=M/\L=[I (i:Int)]/\a5.le g/\Sep hp g o/\RowB o b6 G/\G.length=M/\Row SSr g G M (fun k=>if k<i then H1 (prZ b4 (mtx (rvs la) M) (rvs lw) (rvs lx) y k) else H1 (sm b4 (fun j=>mtx (rvs (lcT b4 (mtx (rvs la) M) (rvs lw))) b4 k j*rv (H1 (y j))))),fun L _=>M-(iAt L 0).toNat,
  ⟨0,co,br,am,oo,rfl,bx,bd,ap,ae,au.congr fun k _=>by rw [iN oo]⟩,?_⟩
 clear au ae ap bd bx
 rintro z ah ⟨H,g9,o9,af,c5,bj,ad,q,D,Q,S⟩
 obtain rfl:=sI1 bj
 have T:h.le g9:=B0 ar ad
 refine B6 (fun ag=>?_) (fun aj=>?_)
 ·have ag:((H:Nat):Int)<((M:Nat):Int):=ag
  have E:H<M:=oo
  have bn:aF SSr ah (some ⟨b6,0,none⟩) M _:=⟨af,D.slF q.ole,Q,S.mono I7 q.le⟩
  obtain ⟨v,hv,O⟩:=bn.sat E
  obtain rfl:=bI hv
  rw [iN oo] at O
  obtain ⟨u,hu,ax⟩:=(rx.mono I7 (B0 T q.le)).sat E
  refine ⟨_,rfl,oo,show ((H:Nat):Int)<((M:Nat):Int) from oo,_,O,u,hu,oo,oo,_,ax,?_⟩
  have t1:=(di H E).mono (show 1+b4*(2*Y+1)<=1+b4*(2*Y+1)+sx from oo)
  refine q.call (Sj (m:=1+b4*(2*Y+1)+sx) (gl.mono T) ⟨hlx H E,(hsx H E).mono oo⟩ (Tx.of t1 oo) oo ?_)
  intro cx av
  refine ⟨_,rfl,_,rfl,oo,show ((H:Nat):Int)<((M:Nat):Int) from oo,?_⟩
  rw [D8,aH]
  refine Sep.store S6 (y:=H1 (prZ b4 (mtx (rvs la) M) (rvs lw) (rvs lx) y H)) ?_ av D (i:=H) oo (by show 0+H*1=H*1;omega) ?_
  ·rw [D6,D0 (g:=fun j=>prC (mtx (rvs la) M) (rvs lw) H j*y j) fun j hj=>by rw [Wq _ _ hj,D6]]
   rfl
  intro dh bm df cc an aa
  rw [wiS H oo]
  refine ⟨⟨H+1,g9,bm,_,oo,rfl,ad,an,aa,by rw [aS];exact Q,(S.upd oo rfl).congr fun k bw=>?_⟩,by simp only [V9];omega⟩
  by_cases ek:k=H
  ·rw [iP ek,iP oo,ek]
  ·rw [iN ek]
   by_cases N:k<H
   ·rw [iP N,iP oo]
   ·rw [iN N,iN oo]
 have aj:¬ ((H:Nat):Int)<((M:Nat):Int):=aj
 obtain rfl:H=M:=oo
 exact hg _ _ ah (B0 T q.le) ⟨af,D.slF q.ole,Q,(S.mono I7 q.le).congr fun k x=>iP x⟩
end
def Cd(P Q:Nat->Nat->Rat)(w i k j:Nat):Nat->Nat->Rat:=fun a b=>if a<i then sm w (fun t=>P a t*Q t b) else if a=i then (if b<j then sm (k+1) (fun t=>P a t*Q t b) else sm k (fun t=>P a t*Q t b)) else 0
def Wj(P Q:Nat->Nat->Rat)(w a b:Nat):Cd P Q w 0 0 0 a b=0:=by
 unfold Cd
 rw [iN (cD a),iN (cD b)]
 split<;>rfl
def Zt(P Q:Nat->Nat->Rat)(w i k j a b:Nat):A7c (Cd P Q w i k j) i j (sm k (fun t=>P i t*Q t j)+P i k*Q k j) a b=Cd P Q w i k (j+1) a b:=by
 unfold A7c Cd
 by_cases e:a=i/\b=j
 ·obtain ⟨rfl,rfl⟩:=e
  rw [iP ⟨rfl,rfl⟩,iN (aV a),iP rfl,iP (Nat.lt_succ_self b)]
  rfl
 grind
def Zu(P Q:Nat->Nat->Rat){w i k j c:Nat}(h:j=c\/P i k=0){a b:Nat}(hb:b<c):Cd P Q w i k j a b=Cd P Q w i (k+1) 0 a b:=by
 unfold Cd
 by_cases d:a<i
 ·grind
 ·rw [iN d,iN d]
  by_cases e:a=i
  ·subst e
   rw [iP rfl,iP rfl,iN (cD b)]
   by_cases f:b<j
   ·grind
   ·rcases h with h|h
    ·omega
    ·show _=sm k (fun t=>P a t*Q t b)+P a k*Q k b
     grind
  grind
def A28(P Q:Nat->Nat->Rat)(w i a b:Nat):Cd P Q w i w 0 a b=Cd P Q w (i+1) 0 0 a b:=by
 unfold Cd
 by_cases c:a<i
 ·grind
 ·rw [iN c]
  by_cases d:a=i
  ·grind
  ·rw [iN d,iN o]
   split
   ·rfl
   ·rfl
section
variable {h:aG} {K:VP} {A B:Option aN} {n n2 cap cap2 m w cols:Nat} {r c r2 c2:Int} {la lb:Nat->List UInt8} {P Q:Nat->Nat->Rat}
def Ud(ra:bL h A n w P)(rb:bL h B w cols Q)(hn1:1<=n)(hn:n<=10000)(hw1:1<=w)(hw:w<=10000)(hc1:1<=cols)(hc:cols<=10000)(hs:∀ i j,i<n->j<w->Sz m (P i j))(hs2:∀ i j,i<w->j<cols->Sz m (Q i j))(hm:1+w*(2*m+1)+2*m<=400000000)
 (hK:∀ h' g' o' bo rb,h.le g'->Mt h' g' o' bo rb n cols (fun a b=>sm w (fun t=>P a t*Q t b))->K (.slice (some ⟨bo,0,none⟩) n n) h'):aK prog 112 #[.slice A n cap,.slice B w cap2] h K:=by
 refine (fnk func112 [(3,[6],[],[I 0]),(6,[7],[],[I 0]),(9,[8],[],[I 0])]) ?_
 obtain ⟨W,sB,eB,T,aj,D,_⟩:=rb.at (i:=0) oo
 refine ⟨W,eB,oo,oo,_,_,_,D,?_⟩
 rw [T]
 refine Mh hn hc ?_
 intro h1 g1 o1 bo p l1 t1
 refine ⟨_,_,_,rfl,fun L s=>∃ (i:Nat) (g o:aG),i<=n/\L=[I (i:Int)]/\h.le g/\Mt s g o bo p n cols (Cd P Q w i 0 0),fun L _=>n-(iAt L 0).toNat,⟨0,g1,o1,oo,rfl,l1,t1.congr fun a b _ _=>(Wj P Q w a b).symm⟩,?_⟩
 rintro z s ⟨i,g,o,hi,eL,lg,t⟩
 obtain rfl:z=(i:Int):=gz0
 refine B6 (fun ag=>?_) (fun al=>?_)
 ·have d:i<n:=oo
  obtain ⟨a1,s1,C,f1,f2,hc1,E⟩:=ra.at d
  refine ⟨fun L s=>∃ (k:Nat) (g o:aG),k<=w/\L=[I (k:Int)]/\h.le g/\Mt s g o bo p n cols (Cd P Q w i k 0),fun L _=>w-(iAt L 0).toNat,⟨0,g,o,oo,rfl,lg,t⟩,?_⟩
  rintro z ak ⟨k,g2,o2,hk,ae,F,t2⟩
  obtain rfl:z=(k:Int):=gz0
  refine B6 (fun ad=>?_) (fun ac=>?_)
  ·have l:k<w:=oo
   obtain ⟨a2,s2,N,f3,f4,S,u⟩:=rb.at l
   refine ⟨fun L s=>∃ (j:Nat) (g o:aG),j<=cols/\L=[I (j:Int)]/\h.le g/\Mt s g o bo p n cols (Cd P Q w i k j),fun L _=>cols-(iAt L 0).toNat,⟨0,g2,o2,oo,rfl,F,t2⟩,?_⟩
   rintro z M ⟨j,g3,X,hj,ai,q,c⟩
   obtain rfl:z=(j:Int):=gz0
   have r:=B0 q c.sep.le
   have next:(j=cols\/P i k=0)->((∃ (k':Nat) (g o:aG),k'<=w/\[I (B9 ((k:Int)+1))]=[I (k':Int)]/\h.le g/\Mt M g o bo p n cols (Cd P Q w i k' 0))/\w-(iAt [I (B9 ((k:Int)+1))] 0).toNat<w-(iAt [I (k:Int)] 0).toNat):=by
    intro hx
    rw [wiS k oo]
    exact ⟨⟨k+1,g3,X,oo,rfl,q,c.congr fun a b _ hb=>Zu P Q hx hb⟩,by simp only [V9];omega⟩
   refine ⟨W,eB,oo,oo,_,_,_,B5 r D,?_⟩
   refine B6 (fun aa=>?_) (fun V=>next (.inl oo))
   have e:j<cols:=oo
   obtain ⟨a5,w5,e5,n5,c0,c1,y,c3⟩:=(E.mono L5 q).qat l
   obtain ⟨a6,w6,e6,n6,d0,d1,d2,d3⟩:=(u.mono L5 q).qat e
   obtain ⟨cc,am,hh⟩:=c.head d
   obtain ⟨x,ix,x0,x1,x2,x3⟩:=c.elem d e
   refine ⟨a1,C,oo,oo,_,_,_,B5 r hc1,a5,e5,oo,oo,_,_,_,_,_,_,_,_,B5 c.sep.le c0,B5 c.sep.le c1,B5 c.sep.le y,B5 c.sep.le c3,?_⟩
   refine V7 (NQ.mono c.sep.le n5) ⟨_,rfl,G7 (fun af=>?_) (fun he=>next (.inr (by simp_all)))⟩
   refine ⟨_,rfl,oo,oo,_,_,_,c.sep.cell hh,_,rfl,oo,oo,_,_,_,c.sep.cell hh,_,rfl,oo,oo,_,_,_,_,_,_,_,_,c.sep.cell x0,c.sep.cell x1,c.sep.cell x2,c.sep.cell x3,a1,C,oo,oo,_,_,_,B5 r hc1,a5,e5,oo,oo,_,_,_,_,_,_,_,_,B5 c.sep.le c0,B5 c.sep.le c1,B5 c.sep.le y,B5 c.sep.le c3,a2,N,oo,oo,_,_,_,B5 r S,a6,e6,oo,oo,_,_,_,_,_,_,_,_,B5 c.sep.le d0,B5 c.sep.le d1,B5 c.sep.le d2,B5 c.sep.le d3,?_⟩
   refine c.sep.call (Gw (a:=w5) (b:=w6) n5 n6 (hs i k d l) (hs2 k j l e) oo ?_)
   intro w7 g7 G i7 h7 O
   refine ⟨_,_,_,_,_,_,_,_,rfl,c.sep.le_le O G,?_⟩
   have ev:Cd P Q w i k j i j=sm k (fun t=>P i t*Q t j):=by
    unfold Cd
    grind
   rw [ev] at ix
   have ah:k*(2*m+1)<=w*(2*m+1):=aD _ hk
   refine O.call (Gy (a:=x) (b:=w7) (m:=1+k*(2*m+1)+2*m) (NQ.mono G ix) i7 ((Ky (f:=fun t=>P i t) (f2:=fun t=>Q t j) (fun t H=>hs i t d H) (fun t H=>hs2 t j H e) k hk).mono oo) (((hs i k d l).mul (hs2 k j l e)).mono oo) oo ?_)
   intro w8 g8 R i8 h8 s8
   have t8:Mt h8 g8 X bo p n cols (Cd P Q w i k j):=c.next s8 (B0 G R)
   refine ⟨_,_,_,_,_,_,_,_,rfl,O.le_le s8 R,_,rfl,oo,oo,?_⟩
   refine t8.store d e i8 ?_
   intro h9 o9 t9 _
   rw [wiS j oo]
   exact ⟨⟨j+1,g8,o9,oo,rfl,B0 q (B0 G R),t9.congr fun a b _ _=>Zt P Q w i k j a b⟩,by simp only [V9];omega⟩
  ·have:k=w:=oo
   subst this
   rw [wiS i oo]
   exact ⟨⟨i+1,g2,o2,oo,rfl,F,t2.congr fun a b _ _=>A28 P Q k i a b⟩,by simp only [V9];omega⟩
 ·exact hK s g o bo p lg (t.congr fun a b ha _=>by unfold Cd;grind)
def Wt(ra:bL h A n w P)(rb:bL h B w cols Q)(hn1:1<=n)(hn:n<=10000)(hw1:1<=w)(hw:w<=10000)(hc1:1<=cols)(hc:cols<=10000)(hs:∀ i j,i<n->j<w->Sz m (P i j))(hs2:∀ i j,i<w->j<cols->Sz m (Q i j))(hm:1+w*(2*m+1)+2*m<=400000000)
 (hK:∀ bo h',h.le h'->bL h' (some ⟨bo,0,none⟩) n cols (fun a b=>sm w (fun t=>P a t*Q t b))->K (.slice (some ⟨bo,0,none⟩) n n) h'):aK prog 112 #[.slice A n cap,.slice B w cap2] h K:=
 Ud ra rb hn1 hn hw1 hw hc1 hc hs hs2 hm fun h' c _ bo _ l t=>hK bo h' (B0 l t.sep.le) t.rowsV
end
section
variable {h g o:aG} {wA B:Option aN} {wc be m d:Nat} {hd:List HV} {xs ys:List QV}
def Sep.free(s:Sep h g o){b:Nat}(hb:h b=none):g b=none:=by
 cases hx:g b with
 | none=>rfl
 | some y=>rw [s.le _ _ hx] at hb;cases hb
def Aj{α:Type}[E:Enc α]{e:aW}{A:Option aN}{c:Nat}{zs:List α}(s:Sep h g o)(w:aP o e A c zs)(hb:h be=none):A≠some ⟨be,0,none⟩:=by
 rcases w.2 with ⟨_,i⟩|⟨b,f,d,a,_⟩
 ·grind
 ·rw [d]
  intro e
  simp only [bU,Addr.mk.injEq,and_true] at e
  subst e
  rw [s.own _ _ a] at hb;cases hb
def A01{u:QV}{v:Value}(hv:v.cells=(enc u).toArray){K:VP}(x:∀ b,h b=none->K (.slice (some ⟨b,0,none⟩) 1 1) (h.put b (.cells ([u].flatMap enc).toArray 44))):wpH prog (Instr.buildSlice 79 1 #[(0,v)]) K h:=by
 refine Hi Ij (vs:=[v]) (fun w a=>by rw [List.mem_singleton.1 a,hv];rfl) rfl (by simp) rfl ?_
 grind
def In(s:Sep h g o)(hb:o be=some (.cells #[] 44))(ow:aP o 79 wA wc hd)(hne:wA≠some ⟨be,0,none⟩)(sx:SlF h B xs)(hx:xs≠[])(hm:m=xs.length)(hl:xs.length<=10000){K:VP}
 (x:∀ A2 c2 h2 g2 o2,g.le g2->Sep h2 g2 o2->aP o2 44 A2 c2 xs->aP o2 79 wA wc hd->(∀ b,wA=some ⟨b,0,none⟩->A2≠wA)->K (.slice A2 m c2) h2):wpH prog (cI #[79,79] 79 #[.slice (some ⟨be,0,none⟩) 0 0,.slice B m d]) K h:=by
 have p:aP o 44 (some ⟨be,0,none⟩) 0 ([]:List QV):=⟨aC _,.inr ⟨be,[],rfl,hb,by simp,rfl⟩⟩
 refine OwnSl.app (ty:=79) Ij s p (n:=0) rfl hm hx sx gz0 gz0 ?_
 intro A2 c2 h2 g2 o2 l j a f
 have k:∀ b y,wA=some ⟨b,0,none⟩->o b=some y->o2 b=some y/\A2≠some ⟨b,0,none⟩:=fun b y e c=>f b y c (fun w=>hne gz0)
 have:=x A2 c2 h2 g2 o2 l j a (ow.keep fun b y e c=>(k b y e c).1) (fun b e=>by
  rcases ow.2 with ⟨_,t⟩|⟨r,q,u,i,_⟩
  ·grind
  grind)
 grind
def Im{A2:Option aN}{c2 n1 wn:Nat}(s:Sep h g o)(ow2:aP o 44 A2 c2 xs)(ow:aP o 79 wA wc hd)(ha:∀ b,wA=some ⟨b,0,none⟩->A2≠wA)(sy:SlF h B ys)(hy:ys≠[])(hn1:n1=xs.length)(hm:m=ys.length)(hwn:wn=hd.length)(hl:xs.length<=10000)(hl2:ys.length<=10000)(hl3:hd.length<=10000){K:Option aN->Nat->Nat->aG->Prop}
 (x:∀ A3 c3 A9 c9 h9 g9 o9,g.le g9->Sep h9 g9 o9->xs.length+ys.length<=c3->SlF g9 A3 (xs++ys)->aP o9 79 A9 c9 (hd++[(⟨A3,xs.length+ys.length,c3⟩:HV)])->K A9 (hd.length+1) c9 h9):
 wpH prog (cI #[79,79] 79 #[.slice A2 n1 c2,.slice B m d]) (fun v3 hp4=>∃ (a:Option aN) (b c:Nat),v3= .slice a b c/\wpH prog (Instr.buildSlice 76 1 #[(0,.slice a b c)]) (fun v4 hp5=>∃ (a2:Option aN) (b2 c2:Nat),v4= .slice a2 b2 c2/\Heap.le hp4 hp5/\wpH prog (cI #[76,76] 76 #[.slice wA wn wc,.slice a2 b2 c2]) (fun v5 hp6=>∃ (a3:Option aN) (b3 c3:Nat),v5= .slice a3 b3 c3/\K a3 b3 c3 hp6) hp5) hp4) h:=by
 subst hwn
 refine OwnSl.app (ty:=79) Ij s ow2 hn1 hm hy sy oo oo ?_
 intro A3 c3 H W k F A j D
 have N:∀ b y,wA=some ⟨b,0,none⟩->o b=some y->k b=some y/\A3≠some ⟨b,0,none⟩:=fun b y e hy=>D b y hy (fun V=>ha b e gz0)
 have r:aP k 79 wA wc hd:=ow.keep fun b y e hy=>(N b y e hy).1
 have n:∀ b,wA=some ⟨b,0,none⟩->A3≠wA:=fun b e=>by
  rcases ow.2 with ⟨_,R⟩|⟨Q,L,T,M,_⟩
  ·grind
  grind
 obtain ⟨q,G,w⟩:=A.give (A2j k wA)
 have sl:SlF q A3 (xs++ys):=by
  obtain ⟨b3,rfl,C,i,u⟩:=j.rowB (by simp [hy])
  have p:Ln k wA b3=none:=Wn k (fun e=>n b3 e e.symm)
  have l:q b3=some (.cells ((xs++ys).flatMap enc++i).toArray C):=by
   rw [<- w.rest b3 p]
   exact A.own _ _ u
  exact RowB.slF (o:=q) ⟨C,i,l⟩ (B4 _)
 have f:=j.1
 rw [bN] at f
 rw [hm]
 refine ⟨_,_,_,rfl,?_⟩
 refine OwnSl.push (ty:=76) B25 w r.only (y:=(⟨A3,xs.length+ys.length,c3⟩:HV)) (K1:=fun hp5=>Heap.le H hp5) rfl dc oo oo (fun S O=>O) ?_
 intro A9 c9 h9 g9 o9 z E t _
 exact x A3 c3 A9 c9 h9 g9 o9 (B0 F (B0 G z)) E f (sl.mono z) t
end
def A0h{α:Type}[E:Enc α]{o:aG}{b:Nat}{e:aW}{c:Nat}{xs:List α}(hc:xs.length=c):aP (o.put b (.cells (xs.flatMap enc).toArray e)) e (some ⟨b,0,none⟩) c xs:=by
 subst hc
 exact ⟨aC _,.inr ⟨b,xs.flatMap enc,rfl,C0 _ _ _,by rw [I4],by rw [<- I4 xs,List.take_length]⟩⟩
section
variable {h:aG} {K:VP} {A B:Option aN} {n n2 cap cap2 m w:Nat} {r c:Int} {la lx:Nat->List UInt8} {E b:Nat->Rat}
def Mc{nq:Nat}(rs:bL h A n w (mtx E w))(rb:aF NQr h B n b)(hn1:1<=n)(hn:n<=1000)(hw1:1<=w)(hw:w<=1000)(hm1:1<=m)(hs:∀ i j,i<n->j<w->Sz m (mtx E w i j))(hs2:∀ i,i<n->Sz m (b i))(hnq:∀ j,j<w->(ecE (mtx (F6 E b w) (w+1)) n j).cs.length<nq)(hm:7^nq*m<=100000000)
 (hK1:Ai E b n w->∀ b' h' g' o' ys,h.le g'->Sep h' g' o'->aP o' 44 (some ⟨b',0,none⟩) w ys->ys.length=w->Row NQr g' ys w (Rr E b n w)->K (.tuple #[.slice (some ⟨b',0,none⟩) w w,.bool true]) h')
 (hK0:¬ Ai E b n w->∀ h',h.le h'->K (.tuple #[.slice none 0 0,.bool false]) h'):aK prog 111 #[.slice A n cap,.slice B n cap2] h K:=by
 refine (fnk func111 [(4,[7,8],[],[.slice none 0 0,I 0]),(9,[12],[],[I 0]),(15,[14],[],[I 0])] (os:=[(6,[0,2,3,4,5,7,8,9,10,1,6,11,12,13,14,15])]) (al:=[(6,[(1,[11]),(6,[11]),(10,[1,6])])]) (own:=[11]) (wr:=[1000000000])) ?_
 obtain ⟨a0,bk,a4,bb,bj,a6,_⟩:=rs.at (i:=0) oo
 refine ⟨a0,a4,oo,oo,_,_,_,a6,?_⟩
 rw [bb]
 have wM:∀ k,k<n->∀ j,j<w+1->mtx (F6 E b w) (w+1) k j=if j<w then mtx E w k j else b k:=by
  intro k _ j hj
  by_cases e:j<w
  ·rw [iP e,Di E b e]
  ·rw [iN e,show j=w from oo,If]
 refine ⟨fun L hp=>∃ (k:Nat) (g o:aG) (W:List HV) (A':Option aN) (c':Nat),k<=n/\L=[.slice A' k c',I (k:Int)]/\h.le g/\Sep hp g o/\aP o 79 A' c' W/\W.length=k/\Row (RWr (w+1)) g W k (mtx (F6 E b w) (w+1)),fun L _=>n-(iAt L 1).toNat,
  ⟨0,h,X6,[],none,0,oo,rfl,B4 _,Sep.refl h,OwnSl.nil,rfl,Row.nil⟩,?_⟩
 rintro wA d wc z hp ⟨k,g,o,W,A',c',hk,eL,lg,s,ow,M,rr⟩
 obtain ⟨⟨rfl,rfl,rfl⟩,rfl⟩:=eL
 refine B6 (fun am=>?_) (fun aq=>?_)
 ·have ac:d<n:=oo
  obtain ⟨a1,s1,ad,f1,f2,af,xs,sx,ak,qx⟩:=rs.at ac
  obtain ⟨a2,u,ay,iu,d0,d1,d2,d3⟩:=rb.qat ac
  have H:xs≠[]:=gz0
  have ar:g.le hp:=s.le
  have done:∀ {A3:Option aN} {V:Nat} {A9:Option aN} {c9:Nat} {h9 g9 o9:aG},g.le g9->Sep h9 g9 o9->xs.length+[u].length<=V->SlF g9 A3 (xs++[u])->aP o9 79 A9 c9 (W++[(⟨A3,xs.length+[u].length,V⟩:HV)])->
   ((∃ (k:Nat) (g o:aG) (hd':List HV) (A':Option aN) (c':Nat),k<=n/\[Value.slice A9 (W.length+1) c9,I (B9 ((d:Int)+1))]=[.slice A' k c',I (k:Int)]/\h.le g/\Sep h9 g o/\aP o 79 A' c' hd'/\hd'.length=k/\Row (RWr (w+1)) g hd' k (mtx (F6 E b w) (w+1)))/\n-(iAt [Value.slice A9 (W.length+1) c9,I (B9 ((d:Int)+1))] 1).toNat<n-(iAt [Value.slice wA d wc,I (d:Int)] 1).toNat):=by
   intro A3 V A9 c9 h9 g9 o9 S X C sl r
   rw [M,wiS d oo]
   refine ⟨⟨d+1,g9,o9,_,A9,c9,oo,rfl,B0 lg S,X,r,gz0,?_⟩,?_⟩
   ·have rA:Row (RWr (w+1)) g9 W W.length (mtx (F6 E b w) (w+1)):=by rw [M];exact rr.mono (A5i (w+1)) S
    have rB:=rA.push (w:=(⟨A3,xs.length+[u].length,V⟩:HV)) (by
     refine ⟨gz0,gz0,xs++[u],sl,gz0,?_⟩
     have q1:Row NQr g9 xs xs.length (mtx (F6 E b w) (w+1) d):=by
      rw [ak]
      exact (qx.mono L5 (B0 lg S)).congr fun j hj=>by grind
     have q2:=q1.push (w:=u) (by
      rw [ak,wM d ac w oo,iN (aV w)]
      exact L5 _ _ _ _ (B0 lg S) iu)
     grind)
    grind
   ·show n-((d+1:Nat):Int).toNat<n-(d:Int).toNat
    omega
  have T:h.le hp:=B0 lg ar
  have x:xs.length<=10000:=oo
  have aa:W.length<=10000:=oo
  have hu:∀ {q:aG} {b1:Nat} {e:aW},q b1=none->SlF (q.put b1 (.cells ([u].flatMap enc).toArray e)) (some ⟨b1,0,none⟩) [u]:=fun hb=>Fw _ _ _ [u]
  have cells:∀ {q:aG},hp.le q->q.cell? (aM (aM a2 (d*4)) 0)=some (.bool u.s)/\q.cell? (aM (aM a2 (d*4)) 1)=some (.slice u.A u.n u.c)/\q.cell? (aM (aM a2 (d*4)) 2)=some (.bool u.s2)/\q.cell? (aM (aM a2 (d*4)) 3)=some (.slice u.A2 u.n2 u.c2):=fun l=>⟨B5 (B0 T l) d0,B5 (B0 T l) d1,B5 (B0 T l) d2,B5 (B0 T l) d3⟩
  refine ⟨a1,ad,oo,oo,_,_,_,B5 T af,a2,ay,oo,oo,?_,?_⟩
  ·obtain ⟨p0,p1,p2,p3⟩:=cells (B4 hp)
   refine ⟨_,_,_,_,_,_,_,_,p0,p1,p2,p3,?_,?_⟩
   ·refine Fq Ij ?_
    intro be D
    have p:=Aj s ow D
    have O:aP (o.put be (.cells #[] 44)) 79 wA wc W:=ow.keep fun b y e hy=>by rw [B8 _ _ (fun e2=>p gz0)];exact hy
    have f:=s.new D (.cells #[] 44)
    refine ⟨_,_,_,rfl,Heap.le_put _ D,?_,?_⟩
    ·refine In f (C0 _ _ _) O p (sx.mono (B0 lg f.le)) H oo x ?_
     intro A2 c2 h2 g2 o2 Q N F G ha
     refine ⟨_,_,_,rfl,A01 (u:=u) rfl ?_⟩
     intro b1 a
     exact ⟨_,_,_,rfl,Heap.le_put _ a,Im (N.vis a _) F G ha (hu a) (by simp) oo rfl M.symm x (by simp) aa fun A3 V A9 c9 h9 g9 o9 S X C sl r=>done (B0 Q (B0 (Heap.le_put _ (N.free a)) S)) X C sl r⟩
    ·refine A01 (u:=u) rfl ?_
     intro b1 a
     have s3:=f.vis a (.cells ([u].flatMap enc).toArray 44)
     have l3:=Heap.le_put (h:=g) (.cells ([u].flatMap enc).toArray 44) (f.free a)
     refine ⟨_,_,_,rfl,Heap.le_put _ a,?_⟩
     refine In s3 (C0 _ _ _) O p (sx.mono (B0 lg (B0 l3 s3.le))) H oo x ?_
     intro A2 c2 h2 g2 o2 Q N F G ha
     refine ⟨_,_,_,rfl,?_⟩
     exact Im N F G ha ((Fw 44 g b1 [u]).mono (B0 Q N.le)) (by simp) oo rfl M.symm x (by simp) aa fun A3 V A9 c9 h9 g9 o9 S X C sl r=>done (B0 l3 (B0 Q S)) X C sl r
   ·refine A01 (u:=u) rfl ?_
    intro b1 a
    have f:=s.vis a (.cells ([u].flatMap enc).toArray 44)
    have l1:=Heap.le_put (h:=g) (.cells ([u].flatMap enc).toArray 44) (s.free a)
    refine ⟨_,_,_,rfl,Heap.le_put _ a,Fq Ij ?_⟩
    intro be D
    have p:=Aj f ow D
    have O:aP (o.put be (.cells #[] 44)) 79 wA wc W:=ow.keep fun b y e hy=>by rw [B8 _ _ (fun e2=>p gz0)];exact hy
    have s3:=f.new D (.cells #[] 44)
    refine ⟨_,_,_,rfl,Heap.le_put _ D,?_⟩
    refine In s3 (C0 _ _ _) O p (sx.mono (B0 lg (B0 l1 s3.le))) H oo x ?_
    intro A2 c2 h2 g2 o2 Q N F G ha
    refine ⟨_,_,_,rfl,?_⟩
    exact Im N F G ha ((Fw 44 g b1 [u]).mono (B0 Q N.le)) (by simp) oo rfl M.symm x (by simp) aa fun A3 V A9 c9 h9 g9 o9 S X C sl r=>done (B0 l1 (B0 Q S)) X C sl r
  ·refine Fq Ij ?_
   intro be D
   have p:=Aj s ow D
   have O:aP (o.put be (.cells #[] 44)) 79 wA wc W:=ow.keep fun b y e hy=>by rw [B8 _ _ (fun e2=>p gz0)];exact hy
   have f:=s.new D (.cells #[] 44)
   refine ⟨_,_,_,rfl,Heap.le_put _ D,?_,?_⟩
   ·obtain ⟨p0,p1,p2,p3⟩:=cells (Heap.le_put (.cells #[] 44) D)
    refine ⟨_,_,_,_,_,_,_,_,p0,p1,p2,p3,?_,?_⟩
    ·refine In f (C0 _ _ _) O p (sx.mono (B0 lg f.le)) H oo x ?_
     intro A2 c2 h2 g2 o2 Q N F G ha
     refine ⟨_,_,_,rfl,A01 (u:=u) rfl ?_⟩
     intro b1 a
     exact ⟨_,_,_,rfl,Heap.le_put _ a,Im (N.vis a _) F G ha (hu a) (by simp) oo rfl M.symm x (by simp) aa fun A3 V A9 c9 h9 g9 o9 S X C sl r=>done (B0 Q (B0 (Heap.le_put _ (N.free a)) S)) X C sl r⟩
    ·refine A01 (u:=u) rfl ?_
     intro b1 a
     have s3:=f.vis a (.cells ([u].flatMap enc).toArray 44)
     have l3:=Heap.le_put (h:=g) (.cells ([u].flatMap enc).toArray 44) (f.free a)
     refine ⟨_,_,_,rfl,Heap.le_put _ a,?_⟩
     refine In s3 (C0 _ _ _) O p (sx.mono (B0 lg (B0 l3 s3.le))) H oo x ?_
     intro A2 c2 h2 g2 o2 Q N F G ha
     refine ⟨_,_,_,rfl,?_⟩
     exact Im N F G ha ((Fw 44 g b1 [u]).mono (B0 Q N.le)) (by simp) oo rfl M.symm x (by simp) aa fun A3 V A9 c9 h9 g9 o9 S X C sl r=>done (B0 l3 (B0 Q S)) X C sl r
   ·refine In f (C0 _ _ _) O p (sx.mono (B0 lg f.le)) H oo x ?_
    intro A2 c2 h2 g2 o2 Q N F G ha
    have lq:h.le h2:=B0 lg (B0 Q N.le)
    refine ⟨_,_,_,rfl,_,_,_,_,_,_,_,_,B5 lq d0,B5 lq d1,B5 lq d2,B5 lq d3,A01 (u:=u) rfl ?_⟩
    intro b1 a
    exact ⟨_,_,_,rfl,Heap.le_put _ a,Im (N.vis a _) F G ha (hu a) (by simp) oo rfl M.symm x (by simp) aa fun A3 V A9 c9 h9 g9 o9 S X C sl r=>done (B0 Q (B0 (Heap.le_put _ (N.free a)) S)) X C sl r⟩
 have ac:d=n:=oo
 subst ac
 have aw:bL hp wA d (w+1) (mtx (F6 E b w) (w+1)):=RowsV.of ⟨W,ow.slF s.ole,M,rr.mono (A5i (w+1)) s.le⟩
 have a8:∀ i j,i<d->j<w+1->Sz m (mtx (F6 E b w) (w+1) i j):=fun i j hi hj=>by
  grind
 have T:h.le hp:=B0 lg s.le
 refine Nz (m:=m) aw hn1 oo oo oo oo hm1 a8 hnq hm ?_
 intro h2 g2 o2 bo bi c2 A2 az wd Q t av ap iq
 refine ⟨_,_,_,_,_,_,_,_,_,_,_,_,_,_,rfl,?_⟩
 have a7:Asc (ecE (mtx (F6 E b w) (w+1)) d w).cs w:=Xy d ⟨_,[],1⟩ rfl w
 have ai:(ecE (mtx (F6 E b w) (w+1)) d w).cs.length<=w/\(ecE (mtx (F6 E b w) (w+1)) d w).cs.length<=d:=Ja _ d w
 have ax:Ai E b d w ↔ ∀ i,i<d->(ecE (mtx (F6 E b w) (w+1)) d w).cs.length<=i->(ecE (mtx (F6 E b w) (w+1)) d w).R i w=0:=Iff.rfl
 have eX:Rr E b d w=A0p (fun m=>(ecE (mtx (F6 E b w) (w+1)) d w).R m w) (ecE (mtx (F6 E b w) (w+1)) d w).cs (ecE (mtx (F6 E b w) (w+1)) d w).cs.length:=(Qj _ _).symm
 have aj:=t.rowsV
 have sp:=av.slF t.sep.ole
 have lh:=B0 T (B0 Q t.sep.le)
 rw [eX] at hK1
 generalize (ecE (mtx (F6 E b w) (w+1)) d w).cs=cs at *
 generalize (ecE (mtx (F6 E b w) (w+1)) d w).R=R at *
 refine ⟨fun L q=>∃ i:Nat,cs.length<=i/\i<=d/\L=[I (i:Int)]/\q=h2/\∀ j,j<i->cs.length<=j->R j w=0,fun L _=>d-(iAt L 0).toNat,⟨cs.length,aC _,ai.2,rfl,rfl,fun j h1 h2=>oo⟩,?_⟩
 rintro z q ⟨i,bh,bd,eL,rfl,hz⟩
 obtain rfl:z=(i:Int):=gz0
 refine B6 (fun am=>?_) (fun aq=>?_)
 ·have ah:i<d:=oo
  obtain ⟨a1,s1,ad,f1,f2,af,ae⟩:=aj.at ah
  obtain ⟨a5,w5,e5,n5,c0,c1,ag,V⟩:=ae.qat (i:=w) oo
  refine ⟨a1,ad,oo,oo,_,_,_,af,a5,e5,oo,oo,_,_,_,_,_,_,_,_,c0,c1,ag,V,?_⟩
  refine V7 n5 ⟨_,rfl,G7 (fun p=>hK0 (fun hx=>p (by simp_all)) _ lh) (fun he=>?_)⟩
  have bf:R i w=0:=by simp_all
  rw [wiS i oo]
  refine ⟨⟨i+1,oo,oo,rfl,rfl,fun j h1 h2=>?_⟩,by simp only [V9];omega⟩
  grind
 have ah:i=d:=oo
 subst ah
 have ba:=hK1 (ax.2 fun j h1 h2=>hz j h1 h2)
 refine J1 Ij (zx:=W9) rfl oo oo oo oo ?_
 intro b2 a3
 refine ⟨_,_,_,rfl,?_⟩
 have s5:=(Sep.refl q).new a3 (.cells ((aJ w W9).flatMap enc).toArray 44)
 have r0:Row NQr q (aJ w W9) w (A0p (fun m=>R m w) cs 0):=fun i hi=>⟨W9,gz0,NQ.zero⟩
 refine ⟨fun L q'=>∃ (i:Nat) (o':aG) (ys:List QV),i<=cs.length/\L=[I (i:Int)]/\Sep q' q o'/\aP o' 44 (some ⟨b2,0,none⟩) w ys/\ys.length=w/\Row NQr q ys w (A0p (fun m=>R m w) cs i),fun L _=>cs.length-(iAt L 0).toNat,⟨0,_,_,oo,rfl,s5,A0h (by simp),aU,r0⟩,?_⟩
 rintro z q6 ⟨k,o6,ys,hk,eL,s6,an,hy,ao⟩
 obtain rfl:z=(k:Int):=gz0
 refine B6 (fun am=>?_) (fun aq=>?_)
 ·have au:k<cs.length:=oo
  obtain ⟨u,eu,a9⟩:=A6q (sp.mono s6.le) au
  have bg:=A2y a7 au
  obtain ⟨a1,s1,ad,f1,f2,af,ae⟩:=aj.at (i:=k) oo
  obtain ⟨a5,w5,e5,n5,c0,c1,ag,V⟩:=ae.qat (i:=w) oo
  refine ⟨u,eu,oo,oo,_,a9,a1,ad,oo,oo,_,_,_,B5 s6.le af,a5,e5,oo,oo,_,_,_,_,_,_,_,_,B5 s6.le c0,B5 s6.le c1,B5 s6.le ag,B5 s6.le V,_,rfl,oo,oo,?_⟩
  refine OwnSl.store An (y:=w5) rfl s6 an (i:=cs.getD k 0) oo rfl ?_
  intro h7 o7 s7 bc _
  rw [wiS k oo]
  exact ⟨⟨k+1,o7,_,oo,rfl,s7,bc,gz0,ao.upd oo n5⟩,by simp only [V9];omega⟩
 ·have:k=cs.length:=oo
  subst this
  exact ba b2 q6 _ _ ys lh s6 an hy ao
def Ly{nq:Nat}(rs:bL h A n w (mtx E w))(rb:aF NQr h B n b)(hn1:1<=n)(hn:n<=1000)(hw1:1<=w)(hw:w<=1000)(hm1:1<=m)(hs:∀ i j,i<n->j<w->Sz m (mtx E w i j))(hs2:∀ i,i<n->Sz m (b i))(hnq:∀ j,j<w->(ecE (mtx (F6 E b w) (w+1)) n j).cs.length<nq)(hm:7^nq*m<=100000000)
 (hK1:Ai E b n w->∀ b' h',h.le h'->aF NQr h' (some ⟨b',0,none⟩) w (Rr E b n w)->K (.tuple #[.slice (some ⟨b',0,none⟩) w w,.bool true]) h')
 (hK0:¬ Ai E b n w->∀ h',h.le h'->K (.tuple #[.slice none 0 0,.bool false]) h'):aK prog 111 #[.slice A n cap,.slice B n cap2] h K:=
 Mc rs rb hn1 hn hw1 hw hm1 hs hs2 hnq hm (fun f b' h' _ _ e l a c g d=>hK1 f b' h' (B0 l a.le) ⟨e,c.slF a.ole,g,d.mono L5 a.le⟩) hK0
end
def A72(M:Nat->Nat->Rat)(w:Nat->Rat)(i k:Nat):Nat->Nat->Rat:=fun a b=>if a<i\/(a=i/\b<k) then prC M w a b else M b a
section
variable {h:aG} {K:VP} {A B X W:Option aN} {rows cols ac bc xc wc s sx se nq:Nat} {M:Nat->Nat->Rat} {w b x:Nat->Rat}
def Qu(rs:bL h A rows cols M)(rb:aF NQr h B rows b)(rx:aF NQr h X cols x)(rw':aF NQr h W cols w)(r1:1<=rows)(r2:rows<=64)(c1:1<=cols)(c2:cols<=64)
 (hs1:1<=s) (hssx:s<=sx) (hM:∀ i j,i<rows->j<cols->Sz s (M i j)) (hw:∀ t,t<cols->Sz s (w t)) (hb:∀ i,i<rows->Sz sx (b i)) (hx:∀ t,t<cols->Sz sx (x t))
 (q0:cols<=nq\/rows<=nq) (q1:2*s<=se) (q2:1+cols*(2*(2*s)+1)<=se) (q3:∀ i,i<rows->Sz se (prR cols M b x i)) (q5:7^(nq+1)*se<=40000000) (q6:1+cols*(2*sx+1)+2*sx<=40000000) (q7:1+rows*(2*(7^nq*se)+1)+2*(7^nq*se)+sx<=40000000)
 (hK1:Ai (prE cols rows M w) (prR cols M b x) rows rows->∀ b' h',h.le h'->aF NQr h' (some ⟨b',0,none⟩) cols (prZ rows M w x (Rr (prE cols rows M w) (prR cols M b x) rows rows))->K (.tuple #[.slice (some ⟨b',0,none⟩) cols cols,.bool true]) h')
 (hK0:¬ Ai (prE cols rows M w) (prR cols M b x) rows rows->∀ h',h.le h'->K (.tuple #[.slice none 0 0,.bool false]) h'):
 aK prog 54 #[.slice A rows ac,.slice B rows bc,.slice X cols xc,.slice W cols wc] h K:=by
 refine (fnk func54 [(3,[24],[],[I 0]),(6,[32],[],[I 0]),(14,[63],[],[I 0]),(23,[94],[],[I 0])]) ?_
 refine Ws rs r1 oo oo ?_
 intro h1 g1 o1 bo ap l1 t1
 refine ⟨_,_,_,rfl,fun L O=>∃ (i:Nat) (g o:aG),i<=cols/\L=[I (i:Int)]/\h.le g/\Mt O g o bo ap cols rows (A72 M w i 0),fun L _=>cols-(iAt L 0).toNat,⟨0,g1,o1,oo,rfl,l1,t1.congr fun a b _ _=>by unfold A72;rw [iN oo]⟩,?_⟩
 rintro z O ⟨i,g,o,hi,eL,C,t⟩
 obtain rfl:=sI1 eL
 refine B6 (fun af=>?_) (fun ar=>?_)
 ·have r:i<cols:=oo
  obtain ⟨cc,av,hh⟩:=t.head r
  refine ⟨_,rfl,oo,oo,_,_,_,t.sep.cell hh,fun L O=>∃ (k:Nat) (g o:aG),k<=rows/\L=[I (k:Int)]/\h.le g/\Mt O g o bo ap cols rows (A72 M w i k),fun L _=>rows-(iAt L 0).toNat,⟨0,g,o,oo,rfl,C,t⟩,?_⟩
  clear hh av t C
  rintro z bp ⟨k,g2,o2,hk,ay,ad,p⟩
  obtain rfl:=sI1 ay
  refine B6 (fun bl=>?_) (fun bk=>?_)
  ·have d:k<rows:=oo
   obtain ⟨cc,av,hh⟩:=p.head r
   obtain ⟨y,iy,y0,y1,y2,y3⟩:=p.elem r d
   obtain ⟨a5,w5,e5,V,d0,d1,d2,d3⟩:=(rw'.mono L5 ad).qat r
   have ey:A72 M w i k i k=M k i:=by unfold A72;rw [iN oo]
   rw [ey] at iy
   refine ⟨_,rfl,oo,oo,_,_,_,p.sep.cell hh,_,rfl,oo,oo,_,_,_,p.sep.cell hh,_,rfl,oo,oo,_,_,_,_,_,_,_,_,p.sep.cell y0,p.sep.cell y1,p.sep.cell y2,p.sep.cell y3,a5,e5,oo,oo,_,_,_,_,_,_,_,_,B5 p.sep.le d0,B5 p.sep.le d1,B5 p.sep.le d2,B5 p.sep.le d3,?_⟩
   refine p.sep.call (Td (a:=y) (b:=w5) (m:=s) iy V (hM k i d r) (hw i r) oo ?_)
   intro v g3 l3 iv h3 s3
   refine ⟨_,_,_,_,_,_,_,_,rfl,p.sep.le_le s3 l3,_,rfl,oo,oo,?_⟩
   refine (p.next s3 l3).store r d iv ?_
   intro h6 o6 t6 _
   rw [wiS k oo]
   refine ⟨⟨k+1,g3,o6,oo,rfl,B0 ad l3,t6.congr fun a b _ _=>?_⟩,by simp only [V9];omega⟩
   unfold A7c A72
   by_cases e:a=i/\b=k
   ·rw [iP e,iP oo,e.1,e.2];rfl
   ·rw [iN e]
    by_cases e3:a<i\/(a=i/\b<k)
    ·rw [iP e3,iP oo]
    ·rw [iN e3,iN oo]
  ·obtain rfl:k=rows:=oo
   rw [wiS i oo]
   refine ⟨⟨i+1,g2,o2,oo,rfl,ad,p.congr fun a b _ hb=>?_⟩,by simp only [V9];omega⟩
   unfold A72
   by_cases e3:a<i\/(a=i/\b<k)
   ·rw [iP e3,iP oo]
   ·rw [iN e3,iN oo]
 obtain rfl:i=cols:=oo
 have Q:=B0 C t.sep.le
 have rt:bL O (some ⟨bo,0,none⟩) i rows (prC M w):=(t.congr fun a b ha _=>by unfold A72;rw [iP (.inl ha)]).rowsV
 clear t C t1
 refine J1 Ij (zx:=W9) rfl oo oo oo oo ?_
 intro b2 a9
 simp only [aH]
 have au:=(Sep.refl O).new a9 (.cells ((aJ rows W9).flatMap enc).toArray 44)
 refine ⟨_,_,_,rfl,au.call (Ug (m:=sx) (RowsV.mono Q rs) (rx.mono L5 Q) oo oo (fun i j hi u=>(hM i j hi u).mono hssx) hx oo ?_)⟩
 intro b3 g3 D h3 aw
 have l3:=D.le
 have ba:=B0 Q l3
 have am:=D.vis L5
 refine ⟨_,_,_,rfl,fun L az=>∃ k:Nat,k<=rows/\L=[I (k:Int)]/\OwnK NQr g3 az b2 rows k (prR i M b x),fun L _=>rows-(iAt L 0).toNat,⟨0,oo,rfl,g3,_,_,B4 _,aw,RowX.mk,aU,Row.nil⟩,?_⟩
 rintro z aj ⟨k,hk,eL,g,o,H,C,c,l,q,T⟩
 obtain rfl:=sI1 eL
 have bb:∀ k,k<rows->Sz (1+i*(2*sx+1)) (sm i (fun j=>M k j*x j)):=fun k hk=>Ky (m:=sx) (w:=i) (f:=fun j=>M k j) (f2:=x) (fun j u=>(hM k j hk u).mono hssx) hx i (aC _)
 refine B6 (fun af=>?_) (fun ar=>?_)
 ·have d:k<rows:=oo
  obtain ⟨a5,w5,e5,V,c0,bh,a4,c3⟩:=(rb.mono L5 (B0 ba C)).qat d
  obtain ⟨a6,w6,e6,n6,d0,d1,d2,d3⟩:=(am.mono L5 C).qat d
  refine ⟨a5,e5,oo,oo,_,_,_,_,_,_,_,_,B5 c.le c0,B5 c.le bh,B5 c.le a4,B5 c.le c3,a6,e6,oo,oo,_,_,_,_,_,_,_,_,B5 c.le d0,B5 c.le d1,B5 c.le d2,B5 c.le d3,?_⟩
  refine c.call (Ss (a:=w5) (b:=w6) (m:=1+i*(2*sx+1)+2*sx) V n6 ((hb k d).mono oo) ((bb k d).mono oo) oo ?_)
  intro v g8 l8 iv h8 E
  refine ⟨_,_,_,_,_,_,_,_,rfl,c.le_le E l8,_,rfl,oo,oo,?_⟩
  refine OwnK.store L5 An (y:=v) C l8 E l q T d rfl iv ?_
  intro h9 ow
  rw [wiS k oo]
  exact ⟨⟨k+1,oo,rfl,ow⟩,by simp only [V9];omega⟩
 obtain rfl:k=rows:=oo
 have G:aF NQr aj (some ⟨b2,0,none⟩) k (prR i M b x):=⟨H,l.rowB.slF c.ole,q,T.mono L5 c.le⟩
 have aa:O.le aj:=B0 l3 (B0 C c.le)
 have aq:=B0 Q aa
 clear T q l c C am D aw au
 have bq:se<=40000000:=by
  have:=aI se (show 0<7^(nq+1) from bB dc)
  omega
 refine Wt (m:=2*s) (RowsV.mono aq rs) (RowsV.mono aa rt) r1 oo c1 oo r1 oo (fun i j hi u=>(hM i j hi u).mono oo) (fun t j R u=>Lk hs1 hM hw t j R u) (by
  have:i*(2*(2*s)+1)<=40000000:=oo
  omega) ?_
 intro a7 h4 l4 r4
 have hE:∀ k',k'<k*k->Sz se (prE i k M w k'):=fun k' hk=>(A29 hs1 hM hw k' hk).mono q2
 have bd:bL h4 (some ⟨a7,0,none⟩) k k (mtx (prE i k M w) k):=RowsV.congr r4 fun a b _ hb=>(Wk M w hb).symm
 refine ⟨_,_,_,rfl,?_⟩
 have ag:=B0 aq l4
 have a0:=B0 aa l4
 refine Ly (nq:=nq+1) (m:=se) bd (G.mono L5 l4) r1 oo r1 oo oo (Jq hE) q3 (fun j u=>?_) oo (fun a1 b5 h5 l5 r5=>?_) (fun a2 h5 l5=>⟨_,_,_,_,rfl,Fz (hK0 a2 h5 (B0 ag l5))⟩)
 ·obtain ⟨p1,p2⟩:=Tj (m:=i) M w (prR i M b x) (Nat.le_of_lt u)
  change (elE (F6 (prE i k M w) (prR i M b x) k) k (k+1) j).cs.length<nq+1
  rcases q0 with q0|q0<;>omega
 refine ⟨_,_,_,_,rfl,Br.nt ?_⟩
 have hg:=hK1 a1
 clear hK1 hK0
 have hX:=Gt (b:=prR i M b x) hE q3 oo (nq:=nq) (by
  obtain ⟨p1,p2⟩:=Tj (m:=i) M w (prR i M b x) (aC k)
  rcases q0 with q0|q0
  ·exact aQ p1 q0
  ·exact aQ p2 q0)
 generalize Rr (prE i k M w) (prR i M b x) k k=y at *
 have bm:se<=7^nq*se:=aI se (bB dc)
 generalize 7^nq*se=Y at *
 have bj:=B0 ag l5
 refine Ug (m:=Y) (RowsV.mono (B0 a0 l5) rt) r5 oo oo (fun t j R u=>(Lk hs1 hM hw t j R u).mono oo) (fun j _=>hX j) oo ?_
 intro b6 h6 ax
 obtain ⟨g6,o6,bg,l6,ao,ah,an,ak⟩:=ax
 have bi:∀ t,t<i->Sz (1+k*(2*Y+1)) (sm k (fun j=>prC M w t j*y j)):=fun t R=>Ky (m:=Y) (w:=k) (f:=fun j=>prC M w t j) (f2:=y) (fun j u=>(Lk hs1 hM hw t j R u).mono oo) (fun j _=>hX j) k (aC _)
 refine ⟨_,_,_,rfl,fun L O=>∃ (n:Nat) (g o:aG) (H:List QV),n<=i/\L=[I (n:Int)]/\h5.le g/\Sep O g o/\RowX o b6 H/\H.length=i/\Row NQr g H i (fun t=>if t<n then prZ k M w x y t else sm k (fun j=>prC M w t j*y j)),fun L _=>i-(iAt L 0).toNat,⟨0,g6,o6,bg,oo,rfl,l6,ao,ah,an,ak.congr fun t _=>by rw [iN oo]⟩,?_⟩
 clear ak an ah ao l6
 rintro z S ⟨n,g,o,H,hn,eL,C,c,l,q,T⟩
 obtain rfl:=sI1 eL
 have ai:=B0 bj C
 refine B6 (fun af=>?_) (fun ar=>?_)
 ·have N:n<i:=oo
  have rz:aF NQr S (some ⟨b6,0,none⟩) i _:=⟨H,l.rowB.slF c.ole,q,T.mono L5 c.le⟩
  obtain ⟨w5,al,V⟩:=T n N
  have be:=l.rowB.slF c.ole
  obtain ⟨a5,e5,F⟩:=SlF.at dc be (i:=n) oo
  have a3:H[n]'oo=w5:=by rw [bF oo] at al;exact bI al
  rw [a3] at F
  change NQr g w5 (if n<n then _ else _) at V
  rw [iN oo] at V
  obtain ⟨a6,w6,e6,n6,d0,d1,d2,d3⟩:=(rx.mono L5 ai).qat N
  refine ⟨a5,e5,oo,oo,_,_,_,_,_,_,_,_,F 0 _ rfl,F 1 _ rfl,F 2 _ rfl,F 3 _ rfl,a6,e6,oo,oo,_,_,_,_,_,_,_,_,B5 c.le d0,B5 c.le d1,B5 c.le d2,B5 c.le d3,?_⟩
  refine c.call (Gy (a:=w5) (b:=w6) (m:=1+k*(2*Y+1)+sx) V n6 ((bi n N).mono oo) ((hx n N).mono oo) oo ?_)
  intro v g8 l8 iv h8 E
  refine ⟨_,_,_,_,_,_,_,_,rfl,c.le_le E l8,_,rfl,oo,oo,?_⟩
  refine S1 An (y:=v) rfl E l (i:=n) oo ?_
  intro h9 o9 x9 bn a8 bf
  rw [wiS n oo]
  refine ⟨⟨n+1,g8,o9,_,oo,rfl,B0 C l8,a8,bf,by rw [aS];exact q,((T.mono L5 l8).upd oo iv).congr fun t R=>?_⟩,by simp only [V9];omega⟩
  by_cases ek:t=n
  ·rw [iP ek,iP oo,ek];exact Rat.add_comm _ _
  ·rw [iN ek]
   by_cases ae:t<n
   ·rw [iP ae,iP oo]
   ·rw [iN ae,iN oo]
 obtain rfl:n=i:=oo
 exact hg b6 S (B0 ai c.le) ⟨H,l.rowB.slF c.ole,q,(T.mono L5 c.le).congr fun t R=>iP R⟩
end
section
variable {h:aG} {K:VP} {A B X W:Option aN} {n nb nx nw cap bc xc wc:Nat} {r c:Int} {la lb lx lw:Nat->List UInt8}
def RowV.listS{h:aG}{A:Option aN}{n:Nat}{ls:Nat->List UInt8}(r:aF SSr h A n ls):SlF h A ((aE n).map ls):=by
 obtain ⟨b,s,rfl,q⟩:=r
 have:b=(aE b.length).map ls:=by
  refine List.ext_getElem (by simp) fun i a c=>?_
  have:=q.get (i:=i) a a
  rw [List.getElem_map,List.getElem_range]
  exact this
 rw [<- this];exact s
def Is(r:aF SSr h A n la)(hn:n<=1000000)(hl:∀ i,i<n->(la i).length<=140737488351232):aK prog 52 #[.slice A n cap] h (fun v hp=>∃ A' n' c' t,v= .tuple #[.slice A' n' c',.bool t]/\h.le hp/\((t=true/\(∀ i,i<n->aL (la i))/\n'=n/\aF NQr hp A' n (rvs la))\/(t=false/\¬ ∀ i,i<n->aL (la i)))):=
 Tm r hn hl (fun x _ _ own=>⟨_,_,_,_,rfl,own.le,.inl ⟨rfl,x,rfl,own.vis L5⟩⟩) (fun x _ l=>⟨_,_,_,_,rfl,l,.inr ⟨rfl,x⟩⟩)
def Wu(rv':aF SSr h A n la)(hn:n<=1000000)(hl:∀ i,i<n->(la i).length<=140737488351232):aK prog 51 #[Nx r c A n cap] h (fun v hp=>∃ A' n' c' t,v= .tuple #[.slice A' n' c',.bool t]/\h.le hp/\((t=true/\∃ rows cols,MOk r c n la rows cols/\n'=rows/\bL hp A' rows cols (mtx (rvs la) cols))\/(t=false/\¬ Mx r c n la))):=
 A06 rv' hn hl (fun rows cols mk _ _ l a=>⟨_,_,_,_,rfl,l,.inl ⟨rfl,rows,cols,mk,rfl,a⟩⟩) (fun x _ l=>⟨_,_,_,_,rfl,l,.inr ⟨rfl,x⟩⟩)
def B49(r c:Int)(n:Nat)(la:Nat->List UInt8)(nb:Nat)(lb:Nat->List UInt8)(nx:Nat)(lx:Nat->List UInt8)(nw:Nat)(lw:Nat->List UInt8)(hp:aG)(zA:Option aN)(zn:Nat)(e0:Int):Prop:=
 (PChk r c n la nb lb nx lx nw lw e0/\e0≠0/\zn=0)\/(∃ rows cols,MOk r c n la rows cols/\PChk r c n la nb lb nx lx nw lw 0/\nb=rows/\nx=cols/\nw=cols/\((¬ Ai (prE cols rows (mtx (rvs la) cols) (rvs lw)) (prR cols (mtx (rvs la) cols) (rvs lb) (rvs lx)) rows rows/\e0=8/\zn=0)\/(Ai (prE cols rows (mtx (rvs la) cols) (rvs lw)) (prR cols (mtx (rvs la) cols) (rvs lb) (rvs lx)) rows rows/\e0=0/\zn=cols/\aF SSr hp zA cols (fun i=>H1 (prZ rows (mtx (rvs la) cols) (rvs lw) (rvs lx) (Rr (prE cols rows (mtx (rvs la) cols) (rvs lw)) (prR cols (mtx (rvs la) cols) (rvs lb) (rvs lx)) rows rows) i)))))
def W1A(r c:Int)(n:Nat)(la:Nat->List UInt8)(nb:Nat)(lb:Nat->List UInt8)(nx:Nat)(lx:Nat->List UInt8)(nw:Nat)(lw:Nat->List UInt8)(w:Int):Prop:=
 (¬ Ve r c n la nb lb nx lx nw lw/\w=1)\/(Ve r c n la nb lb nx lx nw lw/\¬ ((nb:Int)=r/\(nx:Int)=c/\(nw:Int)=c)/\w=4)\/(Ve r c n la nb lb nx lx nw lw/\((nb:Int)=r/\(nx:Int)=c/\(nw:Int)=c)/\w=0)
def W2A(r c:Int)(n:Nat)(la:Nat->List UInt8)(nb:Nat)(lb:Nat->List UInt8)(nx:Nat)(lx:Nat->List UInt8)(nw:Nat)(lw:Nat->List UInt8)(k:Nat)(w:Int):Prop:=
 (¬ Ve r c n la nb lb nx lx nw lw/\w=1)\/(Ve r c n la nb lb nx lx nw lw/\¬ ((nb:Int)=r/\(nx:Int)=c/\(nw:Int)=c)/\w=4)\/(Ve r c n la nb lb nx lx nw lw/\((nb:Int)=r/\(nx:Int)=c/\(nw:Int)=c)/\((w=0/\k<=nw/\∀ i,i<k->0<rv (lw i))\/(w=3/\∃ i,i<nw/\rv (lw i)<=0)))
def Qa{rows cols:Nat}(h:rows*cols<=12)(r1:1<=rows)(c1:1<=cols):rows<=12/\cols<=12/\(cols<=3\/rows<=3):=by
 have c:rows<=rows*cols:=Nat.le_mul_of_pos_right rows c1
 have d:cols<=rows*cols:=aI cols r1
 refine ⟨o,o,?_⟩
 by_cases b:cols<=3
 ·exact .inl b
 ·by_cases a:rows<=3
  ·exact .inr a
  ·have:4*4<=rows*cols:=aT o o
   omega
def Xv{rows cols:Nat}(h:rows*cols<=12)(r1:1<=rows)(c1:1<=cols)(hx:rows+2*cols<=16):∃ nq,(cols<=nq\/rows<=nq)/\2*(3^(nq+1)*bnd (rows+1) (1+cols*481))+1<=40000000/\7^(nq+1)*(1+cols*481)<=40000000/\2*(1+rows*(2*(7^nq*(1+cols*481))+1)+2*(7^nq*(1+cols*481))+120)+14<=40000000:=by
 obtain ⟨l,j,f⟩:=Qa h r1 c1
 have k:rows=1\/rows=2\/rows=3\/rows=4\/rows=5\/rows=6\/rows=7\/rows=8\/rows=9\/rows=10\/rows=11\/rows=12:=o
 unfold bnd
 have key:∀ nq,nq<=3->(cols<=nq\/rows<=nq)->(nq=1\/nq=2\/nq=3)->rows*(cols*481)<=5772->((nq=3->rows<=4/\cols<=4)/\(nq=2->rows<=6/\cols<=6))->2*(3^(nq+1)*(1+(rows+1)*(1+cols*481)+(1+cols*481)))+1<=40000000/\7^(nq+1)*(1+cols*481)<=40000000/\2*(1+rows*(2*(7^nq*(1+cols*481))+1)+2*(7^nq*(1+cols*481))+120)+14<=40000000:=by
  intro nq i _ d b m
  have c:(rows+1)*(1+cols*481)=rows+rows*(cols*481)+(1+cols*481):=by rw [cC,Nat.one_mul,Nat.mul_add,Nat.mul_one]
  rcases d with rfl|rfl|rfl
  ·have a:rows*(2*(7^1*(1+cols*481))+1)=14*rows+14*(rows*(cols*481))+rows:=gz0
   rw [c,a]
   omega
  ·have a:rows*(2*(7^2*(1+cols*481))+1)=98*rows+98*(rows*(cols*481))+rows:=gz0
   rw [c,a]
   omega
  ·have a:rows*(2*(7^3*(1+cols*481))+1)=686*rows+686*(rows*(cols*481))+rows:=gz0
   rw [c,a]
   omega
 have b:rows*(cols*481)<=5772:=by
  rw [<- Nat.mul_assoc]
  omega
 by_cases e:cols<=1\/rows<=1
 ·exact ⟨1,e,key 1 o e o b ⟨o,o⟩⟩
 by_cases g:cols<=2\/rows<=2
 ·refine ⟨2,g,key 2 o g o b ⟨o,fun _=>?_⟩⟩
  have c1:rows*2<=rows*cols:=bM _ o
  have c2:2*cols<=rows*cols:=aD _ o
  omega
 ·refine ⟨3,f,key 3 o f o b ⟨fun _=>?_,o⟩⟩
  have c1:rows*3<=rows*cols:=bM _ o
  have c2:3*cols<=rows*cols:=aD _ o
  omega
def law_refuses(gl:Gl h)(ra:aF SSr h A n la)(rb:aF SSr h B nb lb)(hnb:nb<=8796093021952)(rx:aF SSr h X nx lx)(hnx:nx<=8796093021952)(rw':aF SSr h W nw lw)(hnw:nw<=8796093021952):aK prog 7 #[Nx r c A n cap,.slice B nb bc,.slice X nx xc,.slice W nw wc] h (B41 h):=by
 refine (fnk func7 [(14,[19,20],[],[I 0,I 0])] (cs:=[(2,[54],[],[.bool false]),(13,[19],[],[I 0]),(15,[19],[],[I 0]),(18,[19],[],[I 0])]) (own:=[4])) ?_
 have a6:B9 (B9 ((nb:Int)+(nx:Int))+(nw:Int))=((nb+nx+nw:Nat):Int):=by
  rw [B7 (n:=(nb:Int)+(nx:Int)) o o,B7 o o]
  omega
 rw [a6]
 refine ⟨fun L u=>∃ t,L=[.bool t]/\h.le u/\(t=false->n<=12/\nb+nx+nw<=16/\(∀ i,i<n->(la i).length<=30)/\(∀ i,i<nb->(lb i).length<=30)/\(∀ i,i<nx->(lx i).length<=30)/\∀ i,i<nw->(lw i).length<=30),?_,?_⟩
 ·refine B6 (fun _=>⟨_,rfl,B4 _,fun e=>by cases e⟩) (fun br=>B6 (fun _=>⟨_,rfl,B4 _,fun e=>by cases e⟩) (fun bh=>?_))
  refine Lj ra o (fun sa=>⟨_,rfl,Br.nt ?_⟩) (fun _=>⟨_,rfl,Fz ⟨_,rfl,B4 _,fun e=>by cases e⟩⟩)
  refine Fq S3 ?_
  intro be b1
  have l1:h.le (h.put be (.cells #[] 9)):=Heap.le_put _ b1
  have sb:=(rb.mono I7 l1).listS
  refine ⟨_,_,_,rfl,S0 (α:=List UInt8) S3 (PrivF.nil _ 9 (some ⟨be,0,none⟩)) (ys:=(aE nb).map lb) (by simp) sb (by simp;omega) (by simp;omega) ?_⟩
  intro A2 c2 h2 g2 l2 p2
  have bq:=B0 l1 (B0 l2 p2.le)
  refine ⟨_,_,_,rfl,S0 (α:=List UInt8) S3 p2 (ys:=(aE nx).map lx) (by simp) (rx.mono I7 bq).listS (by simp;omega) (by simp;omega) ?_⟩
  intro A3 c3 h3 g3 l3 p3
  have b0:=B0 l1 (B0 l2 (B0 l3 p3.le))
  refine ⟨_,_,_,rfl,S0 (α:=List UInt8) S3 p3 (ys:=(aE nw).map lw) (by simp) (rw'.mono I7 b0).listS (by simp;omega) (by simp;omega) ?_⟩
  intro A4 c4 h4 g4 l4 p4
  have a8:=B0 l1 (B0 l2 (B0 l3 (B0 l4 p4.le)))
  refine ⟨_,_,_,rfl,?_⟩
  have hL:((([]++(aE nb).map lb)++(aE nx).map lx)++(aE nw).map lw).length<=1000000000:=by simp;omega
  have bn:=p4.sl
  have mb:∀ i,i<nb->lb i∈(([]++(aE nb).map lb)++(aE nx).map lx)++(aE nw).map lw:=fun i p=>by
   simp only [cF,cN,cJ]
   exact .inl (.inl (.inr ⟨i,p,rfl⟩))
  have mx:∀ i,i<nx->lx i∈(([]++(aE nb).map lb)++(aE nx).map lx)++(aE nw).map lw:=fun i p=>by
   simp only [cF,cN,cJ]
   exact .inl (.inr ⟨i,p,rfl⟩)
  have mw:∀ i,i<nw->lw i∈(([]++(aE nb).map lb)++(aE nx).map lx)++(aE nw).map lw:=fun i p=>by
   simp only [cF,cN,cJ]
   exact .inr ⟨i,p,rfl⟩
  generalize (([]++(aE nb).map lb)++(aE nx).map lx)++(aE nw).map lw=L at *
  have rL:aF SSr h4 A4 L.length (fun i=>L.getD i []):=⟨L,bn,rfl,fun i p=>⟨L[i],bF p,by simp [List.getD,p]⟩⟩
  refine Lj rL hL (fun sL=>⟨_,rfl,_,rfl,a8,fun _=>?_⟩) (fun _=>⟨_,rfl,_,rfl,a8,fun e=>by cases e⟩)
  have al:∀ s∈L,s.length<=30:=fun s hs=>by
   obtain ⟨i,p,e⟩:=List.getElem_of_mem hs
   have:=sL i p
   rw [show L.getD i []=s by simp [List.getD,p,e]] at this
   omega
  exact ⟨o,o,fun i p=>by have:=sa i p;omega,fun i p=>al _ (mb i p),fun i p=>al _ (mx i p),fun i p=>al _ (mw i p)⟩
 rintro bg cc ⟨t,eL,T,ht⟩
 obtain rfl:bg=t:=by simpa using eL
 refine Br.of (fun _=>Oy (gl.mono T) ⟨_,rfl,rfl,T⟩) (fun e=>?_)
 obtain ⟨br,bh,sa,sb,sx,sw⟩:=ht e
 clear ht eL
 have kn:∀ {hq:aG} {K2:Bool->aG->Prop},h.le hq->K2 true hq->aK prog 49 #[] hq (fun r u=>∃ t,r= .bool t/\K2 t u):=fun l k=>Oy (gl.mono l) ⟨_,rfl,k⟩
 have ae:∀ {x:List UInt8},x.length<=30->Sz 120 (rv x):=fun hx=>B2g (k:=30) hx o
 have hs:∀ i,i<n->Sz 120 (rv (la i)):=fun i p=>ae (sa i p)
 have ap:∀ i,i<nb->Sz 120 (rv (lb i)):=fun i p=>ae (sb i p)
 have af:∀ i,i<nx->Sz 120 (rv (lx i)):=fun i p=>ae (sx i p)
 have aq:∀ i,i<nw->Sz 120 (rv (lw i)):=fun i p=>ae (sw i p)
 have hl:∀ i,i<n->(la i).length<=140737488351232:=fun i p=>by have:=sa i p;omega
 have bb:∀ i,i<nb->(lb i).length<=140737488351232:=fun i p=>by have:=sb i p;omega
 have a3:∀ i,i<nx->(lx i).length<=140737488351232:=fun i p=>by have:=sx i p;omega
 have a1:∀ i,i<nw->(lw i).length<=140737488351232:=fun i p=>by have:=sw i p;omega
 have hR:∀ m f,MOk r c n la m f->nb=m->nx=f->nw=f->m*f<=12/\m+2*f<=16/\∀ i,i<m->Sz (1+f*481) (prR f (mtx (rvs la) f) (rvs lb) (rvs lx) i):=by
  intro m f mk H z R
  subst H z
  refine ⟨by have:=mk.len;omega,o,fun i p=>?_⟩
  have e:n=nb*nx:=mk.len
  rw [e] at hs
  refine (B1d (s:=120) (k:=120) o (Jq hs) ap af i p).mono ?_
  have:=mk.c1
  omega
 refine FCall.mono (Ra (K:=fun v u=>∃ zA zn zc e0,v= .tuple #[.slice zA zn zc,I e0]/\h.le u/\B49 r c n la nb lb nx lx nw lw u zA zn e0) (s:=120) (sx:=120) (gl.mono T) (ra.mono I7 T) (rb.mono I7 T) (rx.mono I7 T) (rw'.mono I7 T) o o o o hl bb a3 a1 o o o hs aq ap af (fun m f mk H z R=>?_) (fun e u l x E=>⟨_,_,_,_,rfl,B0 T l,.inl ⟨x,E,rfl⟩⟩) (fun m f mk x H z R g u l=>⟨_,_,_,_,rfl,B0 T l,.inr ⟨m,f,mk,x,H,z,R,.inl ⟨g,rfl,rfl⟩⟩⟩) (fun m f mk x H z R M A' c' u l rz=>⟨_,_,_,_,rfl,B0 T l,.inr ⟨m,f,mk,x,H,z,R,.inr ⟨M,rfl,rfl,rz⟩⟩⟩)) ?_
 ·obtain ⟨f1,f2,f3⟩:=hR m f mk H z R
  obtain ⟨nq,q0,q4,q5,q7⟩:=Xv f1 mk.r1 mk.c1 f2
  have b2:=mk.c1
  obtain ⟨_,a9,_⟩:=Qa f1 mk.r1 mk.c1
  exact ⟨1+f*481,nq,q0,o,o,f3,q4,q5,o,q7⟩
 rintro r3 ce ⟨zA,zn,zc,e0,rfl,l8,hz⟩
 refine ⟨_,_,_,_,rfl,?_⟩
 refine FCall.mono (Wu (ra.mono I7 l8) o hl) ?_
 rintro r4 ca ⟨A9,n9,c9,t9,rfl,l9,d9⟩
 have a4:=B0 l8 l9
 refine ⟨_,_,_,_,rfl,FCall.mono (Is (rb.mono I7 a4) o bb) ?_⟩
 rintro r5 b6 ⟨A10,bo,b8,bj,rfl,an,ba⟩
 have ai:=B0 a4 an
 refine ⟨_,_,_,_,rfl,FCall.mono (Is (rx.mono I7 ai) o a3) ?_⟩
 rintro r6 b7 ⟨A11,a0,cf,bi,rfl,ac,av⟩
 have am:=B0 ai ac
 refine ⟨_,_,_,_,rfl,FCall.mono (Is (rw'.mono I7 am) o a1) ?_⟩
 rintro r7 D ⟨A12,C,cb,bv,rfl,Q,ad⟩
 have G:=B0 am Q
 have y9:t9=true↔Mx r c n la:=by
  rcases d9 with ⟨e,m,f,mk,_⟩|⟨e,g⟩
  ·exact ⟨fun _=>⟨_,_,mk⟩,fun _=>e⟩
  ·exact ⟨fun z=>(by rw [e] at z;cases z),fun x=>absurd x g⟩
 have au:bj=true ↔ ∀ i,i<nb->aL (lb i):=by
  rcases ba with ⟨e,x,_⟩|⟨e,g⟩
  ·exact ⟨fun _=>x,fun _=>e⟩
  ·exact ⟨fun z=>(by rw [e] at z;cases z),fun x=>absurd x g⟩
 have a2:bi=true ↔ ∀ i,i<nx->aL (lx i):=by
  rcases av with ⟨e,x,_⟩|⟨e,g⟩
  ·exact ⟨fun _=>x,fun _=>e⟩
  ·exact ⟨fun z=>(by rw [e] at z;cases z),fun x=>absurd x g⟩
 have az:bv=true ↔ ∀ i,i<nw->aL (lw i):=by
  rcases ad with ⟨e,x,_⟩|⟨e,g⟩
  ·exact ⟨fun _=>x,fun _=>e⟩
  ·exact ⟨fun z=>(by rw [e] at z;cases z),fun x=>absurd x g⟩
 have tf:∀ {t:Bool} {P:Prop},(t=true↔P)->(!t)=true->¬ P:=fun y e x=>by rw [y.2 x] at e;cases e
 have tt:∀ {t:Bool} {P:Prop},(t=true↔P)->(!t)=false->P:=fun {t P} y e=>y.1 (by cases t<;>simp_all)
 refine ⟨_,_,_,_,rfl,fun L u=>u=D/\∃ w,L=[I w]/\W1A r c n la nb lb nx lx nw lw w,?_,?_⟩
 ·have aa:¬ Ve r c n la nb lb nx lx nw lw->(D=D/\∃ w,[I (1:Int)]=[I w]/\W1A r c n la nb lb nx lx nw lw w):=fun x=>⟨rfl,_,rfl,.inl ⟨x,rfl⟩⟩
  refine Br.of (fun e=>aa fun x=>tf y9 e x.1) (fun e9=>Br.of (fun e=>aa fun x=>tf au e x.2.1) (fun bu=>Br.of (fun e=>aa fun x=>tf a2 e x.2.2.1) (fun bz=>Br.of (fun e=>aa fun x=>tf az e x.2.2.2) (fun bx=>?_))))
  have val:Ve r c n la nb lb nx lx nw lw:=⟨tt y9 e9,tt au bu,tt a2 bz,tt az bx⟩
  have N:¬ ((nb:Int)=r/\(nx:Int)=c/\(nw:Int)=c)->(D=D/\∃ w,[I (4:Int)]=[I w]/\W1A r c n la nb lb nx lx nw lw w):=fun x=>⟨rfl,_,rfl,.inr (.inl ⟨val,x,rfl⟩)⟩
  exact G7 (fun e=>N fun x=>e x.1) (fun H=>G7 (fun e=>N fun x=>e x.2.1) (fun z=>G7 (fun e=>N fun x=>e x.2.2) (fun R=>⟨rfl,_,rfl,.inr (.inr ⟨val,⟨H,z,R⟩,rfl⟩)⟩)))
 rintro ak ah ⟨rfl,w0,eL,bw⟩
 obtain rfl:ak=w0:=by simpa using eL
 refine ⟨fun L u=>u=ah/\∃ w,L=[I w]/\PChk r c n la nb lb nx lx nw lw w,?_,?_⟩
 ·refine ⟨fun L u=>u=ah/\∃ (k:Nat) (w:Int),L=[I w,I (k:Int)]/\W2A r c n la nb lb nx lx nw lw k w,fun L _=>nw-(iAt L 1).toNat,⟨rfl,0,ak,rfl,?_⟩,?_⟩
  ·rcases bw with ⟨a,b⟩|⟨a,b,d⟩|⟨a,b,d⟩
   ·exact .inl ⟨a,b⟩
   ·exact .inr (.inl ⟨a,b,d⟩)
   ·exact .inr (.inr ⟨a,b,.inl ⟨d,o,fun i p=>o⟩⟩)
  rintro F n0 aw ⟨rfl,k,w,eL,hw⟩
  simp only [cG,Value.int.injEq,true_and,and_true] at eL
  obtain ⟨rfl,rfl⟩:=eL
  have out:F≠0->PChk r c n la nb lb nx lx nw lw F:=fun E=>by
   rcases hw with ⟨a,b⟩|⟨a,b,d⟩|⟨a,b,⟨d,_⟩|⟨d,i,p⟩⟩
   ·exact .inl ⟨a,b⟩
   ·exact .inr (.inl ⟨a,b,d⟩)
   ·exact absurd d E
   ·exact .inr (.inr (.inl ⟨a,b,⟨i,p⟩,d⟩))
  refine B6 (fun b9=>D5 (fun e=>?_) (fun e=>⟨rfl,_,rfl,out e⟩)) (fun cd=>⟨rfl,_,rfl,?_⟩)
  ·subst e
   obtain ⟨val,sh,hk,u⟩:Ve r c n la nb lb nx lx nw lw/\((nb:Int)=r/\(nx:Int)=c/\(nw:Int)=c)/\k<=nw/\∀ i,i<k->0<rv (lw i):=by
    rcases hw with ⟨a,b⟩|⟨a,b,d⟩|⟨a,b,⟨d,hk,u⟩|⟨d,_⟩⟩
    ·exact absurd b dc
    ·exact absurd d dc
    ·exact ⟨a,b,hk,u⟩
    ·exact absurd d dc
   rcases ad with ⟨_,_,rfl,ag⟩|⟨_,g⟩
   ·have ar:k<C:=o
    obtain ⟨a5,w5,e5,n5,c0,c1,c2,c3⟩:=ag.qat ar
    refine ⟨fun L u=>u=aw/\∃ w,L=[I w]/\W2A r c n la nb lb nx lx C lw (k+1) w,⟨a5,e5,o,o,_,_,_,_,_,_,_,_,c0,c1,c2,c3,V7 n5 ⟨_,rfl,B6 (fun e=>⟨rfl,_,rfl,.inr (.inr ⟨val,sh,.inr ⟨rfl,k,ar,Qc.1 e⟩⟩)⟩) (fun e=>⟨rfl,_,rfl,.inr (.inr ⟨val,sh,.inl ⟨rfl,o,fun i p=>?_⟩⟩)⟩)⟩⟩,?_⟩
    ·by_cases ek:i=k
     ·rw [ek];exact Vx.1 (show 0<(rvs lw k).num.sign from o)
     ·exact u i o
    rintro O b5 ⟨rfl,w2,bd,bf⟩
    obtain rfl:O=w2:=by simpa using bd
    rw [wiS k o]
    refine ⟨⟨rfl,k+1,O,rfl,bf⟩,?_⟩
    show C-((k+1:Nat):Int).toNat<C-(k:Int).toNat
    omega
   ·exact absurd val.2.2.2 g
  ·by_cases e:F=0
   ·subst e
    rcases hw with ⟨a,b⟩|⟨a,b,d⟩|⟨a,b,⟨d,hk,u⟩|⟨d,_⟩⟩
    ·exact absurd b dc
    ·exact absurd d dc
    ·rcases ad with ⟨_,_,rfl,ag⟩|⟨_,g⟩
     ·exact .inr (.inr (.inr ⟨a,b,fun i p=>u i o,rfl⟩))
     ·exact absurd a.2.2.2 g
    ·exact absurd d dc
   ·exact out e
 rintro ao b3 ⟨rfl,w3,bm,V⟩
 obtain rfl:ao=w3:=by simpa using bm
 refine G7 (fun E=>?_) (fun he=>?_)
 ·refine kn G (K2:=fun t u=>Br t _ _) (Br.of (fun _=>?_) (fun e=>by cases e))
  rcases hz with ⟨x,_,rfl⟩|⟨m,f,_,x,_⟩
  ·exact D5 (fun _=>⟨rfl,G⟩) (fun e=>absurd (x.eq V) e)
  ·exact absurd (V.eq x) E
 subst he
 rcases hz with ⟨x,E,_⟩|⟨m,f,mk,_,H,z,R,hz⟩
 ·exact absurd (x.eq V) E
 have val:Ve r c n la nb lb nx lx nw lw:=by
  rcases V with ⟨_,e⟩|⟨_,_,e⟩|⟨_,_,_,e⟩|⟨a,_⟩
  ·exact absurd e dc
  ·exact absurd e dc
  ·exact absurd e dc
  ·exact a
 rcases d9.symm with ⟨_,g⟩|⟨_,bp,q,ax,rfl,r9⟩
 ·exact absurd val.1 g
 rcases ba.symm with ⟨_,g⟩|⟨_,_,rfl,bt⟩
 ·exact absurd val.2.1 g
 rcases av.symm with ⟨_,g⟩|⟨_,_,rfl,bk⟩
 ·exact absurd val.2.2.1 g
 rcases ad.symm with ⟨_,g⟩|⟨_,_,rfl,ag⟩
 ·exact absurd val.2.2.2 g
 obtain rfl:n9=m:=by have:=mk.er;have:=ax.er;omega
 obtain rfl:q=f:=by have:=mk.ec;have:=ax.ec;omega
 obtain ⟨f1,f2,f3⟩:=hR n9 q mk H z R
 obtain ⟨nq,q0,q4,q5,q7⟩:=Xv f1 mk.r1 mk.c1 f2
 obtain ⟨_,a9,_⟩:=Qa f1 mk.r1 mk.c1
 have b2:=mk.c1
 have hM:∀ i j,i<n9->j<q->Sz 120 (mtx (rvs la) q i j):=by
  have e:n=n9*q:=mk.len
  rw [e] at hs
  exact Jq hs
 obtain rfl:bo=n9:=H
 obtain rfl:a0=q:=z
 obtain rfl:C=a0:=R
 have bl:=RowsV.mono (B0 an (B0 ac Q)) r9
 have ay:=bt.mono L5 (B0 ac Q)
 have a7:=bk.mono L5 Q
 have pz:=A5e (b:=rvs lb) o hM aq af q0 (show 2*120<=1+C*481 from o) (show 1+C*(2*(2*120)+1)<=1+C*481 from o) f3
 refine Qu (s:=120) (sx:=120) (se:=1+C*481) (nq:=nq) bl ay a7 ag mk.r1 mk.r2 mk.c1 mk.c2 o o hM aq ap af q0 o o f3 q5 o o (fun M b' h' l rz=>⟨_,_,_,_,rfl,Br.nt ?_⟩) (fun g h' l=>⟨_,_,_,_,rfl,Fz ?_⟩)
 ·have S:=B0 G l
  refine kn S (K2:=fun t u=>Br t _ _) (Br.of (fun _=>?_) (fun e=>by cases e))
  rcases hz with ⟨g,_⟩|⟨_,rfl,rfl,r0⟩
  ·exact absurd M g
  refine D5 (fun _=>?_) (fun e=>absurd rfl e)
  refine Zg rz o pz o ?_
  intro b4 h4 aj
  have l4:=aj.le
  refine ⟨_,_,_,rfl,A1p (r0.mono I7 (B0 l9 (B0 an (B0 ac (B0 Q (B0 l l4)))))) (aj.vis I7) o (fun _ _=>⟨_,rfl,rfl,B0 S l4⟩) (fun hx=>absurd ⟨rfl,fun i _=>rfl⟩ hx)⟩
 ·have S:=B0 G l
  refine kn S (K2:=fun t u=>Br t _ _) (Br.of (fun _=>?_) (fun e=>by cases e))
  rcases hz with ⟨_,rfl,rfl⟩|⟨M,_⟩
  ·exact D5 (fun _=>⟨rfl,S⟩) (fun e=>absurd rfl e)
  ·exact absurd M g
end
def A1y:reachBytes=140737488351232:=dc
def wts_at{H:Type}{P:bW}{ts:List aW}{ds:List (DataW H)}(h:(DataW.weightsEach P ts ds).all (· <= reachBytes)=true){j:Nat}{t:aW}{d:DataW H}(ht:ts[j]? = some t)(hd:ds[j]? = some d):∀ n∈d.weights P t,n<=140737488351232:=by
 intro n a
 have:=List.all_eq_true.1 h _ (DataW.weights_mem_each ht hd n a)
 rw [<- A1y];simpa using this
def A79{H:Type}{P:bW}{e:aW}{d:DataW H}{n:Nat}(hn:n∈d.weights P e):∀ {l:List (DataW H)},d∈l->n∈DataW.weightsAll P e l:=by
 intro l
 induction l with
 | nil=>intro h;cases h
 | cons x l ih=>
  intro h
  rw [DataW.weightsAll]
  rcases List.mem_cons.1 h with rfl|h
  ·exact List.mem_append_left _ hn
  ·exact List.mem_append_right _ (ih h)
def A78{H:Type}{P:bW}{t e:aW}{es sp:List (DataW H)}(u:P.underlying t=some (.slice e))(h:∀ n∈(DataW.slice es sp).weights P t,n<=140737488351232):(es.length+sp.length)*P.bytesOf e<=140737488351232:=by
 simp only [DataW.weights,u] at h
 exact h _ (by simp)
def A9p{H:Type}{P:bW}{t e:aW}{es sp:List (DataW H)}(u:P.underlying t=some (.slice e))(h:∀ n∈(DataW.slice es sp).weights P t,n<=140737488351232){d:DataW H}(hd:d∈es):∀ n∈d.weights P e,n<=140737488351232:=by
 intro n a
 simp only [DataW.weights,u] at h
 exact h _ (List.mem_cons_of_mem _ (List.mem_append_left _ (A79 a hd)))
end Go.Proofs.YtdphgbjaijlckaaGreatDoor
namespace Go.Proofs.YtdphgbjaijlckaaGreatDoor
set_option maxRecDepth 20000
open Go Go.RowKit
def A74(s:ByteArray):bs s.data.toList=s:=by
 cases s;simp [bs]
def A2h{H:Type}{enc:aW × Value->H}{P:bW}{W:World}{base:Nat}{sp:Nat->Bool}{held:Bool}{t e:aW}{fuel:Nat}{A:Option aN}{len cap:Nat}{x:DataW H × List MemPlace}(ht:P.underlying t=some (.slice e))(he:P.underlying e=some .string)(hc:P.cellsOf e=1)
 (hf:DataW.trod enc P W base sp held fuel t [.slice A len cap]=some x):∃ ls:Nat->List UInt8,aF SSr (memOf W) A len ls/\len<=maxLen:=by
 rcases Deep.open_strs ht he hc hf with ⟨b,_⟩|⟨a,l,c,m,Sx,b,_,p,n,g,_,d⟩
 ·simp at b
  obtain ⟨rfl,rfl,rfl⟩:=b
  exact ⟨fun _=>[],RowV.nil,Nat.zero_le _⟩
 ·simp at b
  obtain ⟨rfl,rfl,rfl⟩:=b
  have k:len<=m:=by rw [g];split<;>omega
  have sl:SlV (memOf W) (some a) (((aE len).map fun i=>(Sx i).data.toList).map fun l=>cK (bs l)):=by
   refine .inr ⟨a,rfl,fun i v f=>?_⟩
   rw [bD,bD] at f
   by_cases j:i<len
   ·rw [List.getElem?_range j] at f
    simp only [Option.map_some,bU,A74] at f
    rw [<- f]
    exact Ep (d i o).1
   ·rw [List.getElem?_eq_none (by simpa using j)] at f;cases f
  have:=St sl
  rw [bJ,bC] at this
  exact ⟨_,this,o⟩
def open_mat{H:Type}{enc:aW × Value->H}{P:bW}{W:World}{base:Nat}{sp:Nat->Bool}{held:Bool}{r:Reach}{b0:Nat}{t e:aW}{f0 f1 f2:Field}{v:Value}{d:DataW H}{ps:List MemPlace}(ht:P.underlying t=some (.struct #[f0,f1,f2]))(u0:P.underlying f0.type=some (.int .i64))(u1:P.underlying f1.type=some (.int .i64))(u2:P.underlying f2.type=some (.slice e))(ue:P.underlying e=some .string)
 (hoff:f0.offset=0/\f1.offset=1/\f2.offset=2/\P.cellsOf f0.type=1/\P.cellsOf f1.type=1/\P.cellsOf f2.type=1/\P.cellsOf t=3/\P.cellsOf e=1)
 (hval:Value.okWide P W r b0 t v) (hd:DataW.Trod enc P W base sp held t v d ps):∃ (x y:Int) (A:Option aN) (len cap:Nat) (ls:Nat->List UInt8),v= .agg #[.int .i64 x,.int .i64 y,.slice A len cap]/\aF SSr (memOf W) A len ls/\len<=maxLen:=by
 obtain ⟨O,L,G,c0,c1,c2,Q,E⟩:=hoff
 obtain ⟨g,rfl,b⟩:=WideShapes.okWide_struct ht hval
 obtain ⟨D,M⟩:=hd
 obtain ⟨V,R,X,n,T,S,u,B,f⟩:=Deep.trod_struct3 ht M
 rw [O,c0] at u
 rw [L,c1] at B
 rw [G,c2] at f
 obtain ⟨w,j,_,_⟩:=DataW.trod_int u0 u
 obtain ⟨C,k,_,_⟩:=DataW.trod_int u1 B
 rw [Q] at b
 have i:g.toList.length=3:=by simpa using b
 obtain ⟨p,q,z,hm⟩:∃ p q z,g.toList=[p,q,z]:=by
  match h:g.toList,i with
  | [p,q,z],_=>exact ⟨p,q,z,rfl⟩
 simp only [Value.cells] at j k f
 rw [hm] at j k f
 simp at j k f
 have F:∃ A len cap,z= .slice A len cap:=by
  rcases Deep.open_strs u2 ue E f with ⟨b,_⟩|⟨a,l,c,m,Sx,b,_⟩
  ·simp at b;exact ⟨_,_,_,b⟩
  ·simp at b;exact ⟨_,_,_,b⟩
 obtain ⟨A,len,cap,rfl⟩:=F
 obtain ⟨ls,N,s⟩:=A2h u2 ue E f
 have:g=#[.int .i64 w,.int .i64 C,.slice A len cap]:=by rw [<- Array.toArray_toList (xs:=g),hm,j,k]
 exact ⟨w,C,A,len,cap,ls,by rw [this],N,s⟩
end Go.Proofs.YtdphgbjaijlckaaGreatDoor
namespace Go.Proofs.YtdphgbjaijlckaaGreatDoor
set_option maxRecDepth 20000
open Go Go.RowKit
def open_strZ{H:Type}{enc:aW × Value->H}{P:bW}{W:World}{base:Nat}{sp:Nat->Bool}{held:Bool}{t e:aW}{fuel:Nat}{A:Option aN}{len cap:Nat}{x:DataW H × List MemPlace}(ht:P.underlying t=some (.slice e))(he:P.underlying e=some .string)(hc:P.cellsOf e=1)(hb:P.bytesOf e=16)
 (hf:DataW.trod enc P W base sp held fuel t [.slice A len cap]=some x) (hw:∀ n∈x.1.weights P t,n<=140737488351232):∃ ls:Nat->List UInt8,aF SSr (memOf W) A len ls/\len<=8796093021952/\∀ i,i<len->(ls i).length<=140737488351232:=by
 rcases Deep.open_strs ht he hc hf with ⟨b,_⟩|⟨a,l,c,m,Sx,b,_,w,u,k,s,d⟩
 ·simp at b
  obtain ⟨rfl,rfl,rfl⟩:=b
  exact ⟨fun _=>[],RowV.nil,Nat.zero_le _,fun i g=>o⟩
 ·simp at b
  obtain ⟨rfl,rfl,rfl⟩:=b
  have r:len<=m:=by rw [k];split<;>omega
  have sl:SlV (memOf W) (some a) (((aE len).map fun i=>(Sx i).data.toList).map fun l=>cK (bs l)):=by
   refine .inr ⟨a,rfl,fun i v f=>?_⟩
   rw [bD,bD] at f
   by_cases g:i<len
   ·rw [List.getElem?_range g] at f
    simp only [Option.map_some,bU,A74] at f
    rw [<- f]
    exact Ep (d i o).1
   ·rw [List.getElem?_eq_none (by simpa using g)] at f;cases f
  have:=St sl
  rw [bJ,bC] at this
  rw [s] at hw
  refine ⟨_,this,?_,fun i g=>?_⟩
  ·have q:=A78 ht hw
   rw [hb,bJ,bC] at q
   omega
  ·have p:((aE len).map fun i=>(Sx i).data.toList).getD i []=(Sx i).data.toList:=by simp [g]
   rw [p]
   have j:(DataW.lit (.string (Sx i).data.toList):DataW H)∈(aE len).map fun i=>(DataW.lit (.string (Sx i).data.toList):DataW H):=List.mem_map.2 ⟨i,List.mem_range.2 g,rfl⟩
   exact A9p ht hw j _ (by simp [DataW.weights])
