/- A part. -/
import Derived.Test.YtkfhdoblhajcbaaGreatDoorG24
open Go.Proofs.Tryz
set_option linter.all false
open _root_.Go.Addr renaming add->aK
open Bool renaming and_eq_true->cU
open _root_.Go.Builtin renaming append_->bW,copy_->dF
open Classical renaming byContradiction->bI
open _root_.Go.Instr renaming buildSlice->bH,storeAt->bK
open Int renaming toNat_natCast->aD,natCast_mul->aV,tdiv->cZ
open List renaming replicate->aC,getElem?_cons_zero->aF,getElem?_cons_succ->aG,length_replicate->aI,range->aM,sum_append->bC,range_succ->bD,not_mem_nil->bG,getElem?_eq_getElem->bJ,map_append->bL,take_length->bU,mem_cons->bV,getElem?_replicate->cD,mem_of_mem_take->cK,map_congr_left->cL,length_flatMap->cM,take_succ_eq_append_getElem->cR,append_assoc->cT,length_set->cW,getD_eq_getElem?_getD->cY,drop_eq_getElem_cons->dB
open List.cons renaming injEq->cX
open Nat renaming le_refl->aE,mul_le_mul_right->aJ,mul_le_mul->aP,div_lt_of_lt_mul->aQ,add_mul_mod_self_right->aR,zero_add->aS,add_mul_div_right->aU,mod_eq_of_lt->aX,div_eq_of_lt->aY,zero_mul->bN,add_comm->bO,le_trans->bY,mul_comm->cH,add_assoc->cN,mod_lt->cO,lt_trichotomy->cQ,not_lt_zero->cV,lt_irrefl->dE
open Rat renaming mul_zero->aZ,mul_inv_cancel->bM,mul_comm->bX,divInt->cF,mul_nonneg->cI,div_def->cJ,divInt_eq_div->cP,mul_assoc->dC,zero_mul->dG,zero_add->dH
open _root_.Go.Value renaming string->aO
open _root_.Go renaming Addr->aL,Value->aT,TypeId->bF,Program->bZ
open _root_.Go.Proofs.YtkfhdoblhajcbaaGreatDoor renaming Heap->aH,FCall->aN,RowV->aW,SliceT->cC,OwnSl->cG
namespace Go.Proofs.YtkfhdoblhajcbaaGreatDoor
set_option maxRecDepth 20000
open Go
def Q4(E b:Nat->Rat)(cols:Nat):Nat->Rat:=fun k=>if k%(cols+1)<cols then E (k/(cols+1)*cols+k%(cols+1)) else b (k/(cols+1))
def dm1{i j c:Nat}(hj:j<c):(i*c+j)/c=i/\(i*c+j)%c=j:=by
 rw [bO,aR,aX hj,aU _ _ o,aY hj,aS]
 omega
def Rf(E b:Nat->Rat){cols i j:Nat}(hj:j<cols):mtx (Q4 E b cols) (cols+1) i j=mtx E cols i j:=by
 obtain ⟨c,a⟩:=dm1 (i:=i) (show j<cols+1 from o)
 show Q4 E b cols (i*(cols+1)+j)=_
 unfold Q4
 rw [c,a,iP hj]
 rfl
def Nv(E b:Nat->Rat)(cols i:Nat):mtx (Q4 E b cols) (cols+1) i cols=b i:=by
 obtain ⟨c,a⟩:=dm1 (i:=i) (show cols<cols+1 from o)
 show Q4 E b cols (i*(cols+1)+cols)=_
 unfold Q4
 grind
def Wz{E b:Nat->Rat}{rows cols m:Nat}(hs:∀ i,i<rows*cols->Sz m (E i))(hb:∀ i,i<rows->Sz m (b i)):∀ i,i<rows*(cols+1)->Sz m (Q4 E b cols i):=by
 intro i c
 have a:i/(cols+1)<rows:=aQ gz0
 unfold Q4
 by_cases e:i%(cols+1)<cols
 ·rw [iP e];exact hs _ (R4 a e)
 grind
abbrev Li(E b:Nat->Rat)(rows cols:Nat):ES:=elE (Q4 E b cols) rows (cols+1) cols
def Cq(E b:Nat->Rat)(rows cols:Nat):Prop:=∀ i,i<rows->(Li E b rows cols).cs.length<=i->(Li E b rows cols).R i cols=0
def Qf(E b:Nat->Rat)(rows cols:Nat):Nat->Rat:=Vn (fun _=>0) (fun m=>(Li E b rows cols).R m cols) 0 (Li E b rows cols).cs
def A9m(f:Nat->Rat)(cs:List Nat):Nat->Nat->Rat
 | 0=>fun _=>0
 | k+1=>fun j=>if j=cs.getD k 0 then f k else A9m f cs k j
def A9l(f:Nat->Rat)(cs:List Nat):∀ k,k<=cs.length->Vn (A9m f cs k) f k (cs.drop k)=Vn (fun _=>0) f 0 cs:=by
 intro k
 induction k with
 | zero=>intro _;rfl
 | succ k ih=>
  intro a
  rw [<- ih o,dB (show k<cs.length from o)]
  have e:cs.getD k 0=cs[k]:=gz0
  show Vn (A9m f cs (k+1)) f (k+1) (cs.drop (k+1))=Vn (fun j=>if j=cs[k] then f k else A9m f cs k j) f (k+1) (cs.drop (k+1))
  rw [<- e]
  rfl
def Xu(f:Nat->Rat)(cs:List Nat):A9m f cs cs.length=Vn (fun _=>0) f 0 cs:=by
 have:=A9l f cs cs.length (aE _)
 rw [List.drop_length] at this
 exact this
def A53(E b:Nat->Rat)(rows cols:Nat):EqA rows (cols+1) cols (mtx (Q4 E b cols) (cols+1)) (Li E b rows cols):=EqA.run _ cols o
def A2e{cs:List Nat}{c:Nat}(h:Asc cs c):cs.Nodup:=h.asc.imp fun h=>Nat.ne_of_lt h
def A8y{E b:Nat->Rat}{rows cols:Nat}(h:Cq E b rows cols){i:Nat}(hi:i<rows):sm cols (fun j=>mtx E cols i j*Qf E b rows cols j)=b i:=by
 have c:(Li E b rows cols).cs.Nodup:=A2e (Fn rows ⟨_,[],1⟩ rfl cols)
 have:=(A53 E b rows cols).sol c h hi
 rw [Nv] at this
 rw [<- this]
 exact C5 fun j a=>by rw [Rf E b a];rfl
def A8z{E b:Nat->Rat}{rows cols:Nat}(x:Nat->Rat)(h:∀ i,i<rows->sm cols (fun j=>mtx E cols i j*x j)=b i):Cq E b rows cols:=by
 intro i c e
 obtain ⟨T,d⟩:=(A53 E b rows cols).comb
 rw [d i cols c o]
 have k:∀ j,j<cols->sm rows (fun l=>T i l*mtx E cols l j)=0:=by
  intro j a
  rw [C5 (g:=fun l=>T i l*mtx (Q4 E b cols) (cols+1) l j) fun l _=>by rw [Rf E b a],<- d i j c o]
  exact (A53 E b rows cols).zero i j c e a
 rw [C5 (g:=fun l=>sm cols fun j=>T i l*mtx E cols l j*x j) fun l f=>by
  rw [Nv,<- h l f,<- J7]
  grind]
 rw [T8]
 refine Q5 fun j a=>?_
 rw [C5 (g:=fun l=>x j*(T i l*mtx E cols l j)) fun l _=>bX _ _,J7,k j a,aZ]
def B2k{E b:Nat->Rat}{rows cols:Nat}(h:¬ Cq E b rows cols):∃ y:Nat->Rat,(∀ j,j<cols->sm rows (fun l=>y l*mtx E cols l j)=0)/\sm rows (fun l=>y l*b l)=1:=by
 have:∃ i,i<rows/\(Li E b rows cols).cs.length<=i/\(Li E b rows cols).R i cols≠0:=by
  refine bI fun k=>h fun i d c=>bI fun a=>k ⟨i,d,c,a⟩
 obtain ⟨i,d,c,a⟩:=this
 obtain ⟨y,g,f⟩:=(A53 E b rows cols).none d c a
 refine ⟨y,fun j e=>?_,?_⟩
 ·rw [<- g j e]
  exact C5 fun l _=>by rw [Rf E b e]
 ·rw [<- f]
  exact C5 fun l _=>by rw [Nv]
def A2q(E b:Nat->Rat)(rows cols:Nat):Nat->Rat:=fun k=>if k<cols*rows then E (k%rows*cols+k/rows) else b (k-cols*rows)
def B2w(cols:Nat):Nat->Rat:=fun i=>if i=cols then 1 else 0
def B2v(E b:Nat->Rat){rows cols i j:Nat}(hi:i<cols)(hj:j<rows):mtx (A2q E b rows cols) rows i j=mtx E cols j i:=by
 obtain ⟨c,a⟩:=dm1 (i:=i) hj
 show A2q E b rows cols (i*rows+j)=_
 unfold A2q
 rw [iP (R4 hi hj),c,a]
 rfl
def A98(E b:Nat->Rat){rows cols j:Nat}:mtx (A2q E b rows cols) rows cols j=b j:=by
 show A2q E b rows cols (cols*rows+j)=_
 unfold A2q
 grind
def B8p{E b:Nat->Rat}{rows cols:Nat}(h:¬ Cq E b rows cols):Cq (A2q E b rows cols) (B2w cols) (cols+1) rows:=by
 obtain ⟨y,a,d⟩:=B2k h
 refine A8z y fun i f=>?_
 unfold B2w
 by_cases e:i=cols
 ·subst e
  rw [iP rfl,<- d]
  exact C5 fun j _=>by rw [A98,bX]
 ·rw [iN e,<- a i o]
  exact C5 fun j c=>by rw [B2v E b o c,bX]
def A90{E b:Nat->Rat}{rows cols m B:Nat}(hB:1<=B)(hs:∀ i j,i<rows->j<cols+1->Sz B ((Li E b rows cols).R i j))(j:Nat):Sz B (Qf E b rows cols j):=by
 have a:(Li E b rows cols).cs.length<=rows:=(U8 (mtx (Q4 E b cols) (cols+1)) rows cols).2
 unfold Qf
 rw [<- Xu]
 have:∀ k,k<=(Li E b rows cols).cs.length->Sz B (A9m (fun m=>(Li E b rows cols).R m cols) (Li E b rows cols).cs k j):=by
  intro k
  induction k with
  | zero=>intro _;exact Sz.zero hB
  | succ k ih=>
   intro c
   show Sz B (if j=_ then _ else _)
   grind
 grind
def B2l(E b:Nat->Rat)(rows cols:Nat):fnd (fun i=>decide ((elP (Q4 E b cols) rows (cols+1) cols).M i cols≠0)) (rows-(Li E b rows cols).cs.length) (Li E b rows cols).cs.length=rows↔Cq E b rows cols:=by
 have rel:=A1z (Q4 E b cols) (rows:=rows) (cols:=cols+1) (c:=cols) o
 have m:(Li E b rows cols).cs.length<=rows:=(U8 (mtx (Q4 E b cols) (cols+1)) rows cols).2
 have l:∀ i,i<rows->(Li E b rows cols).cs.length<=i->((elP (Q4 E b cols) rows (cols+1) cols).M i cols=0↔(Li E b rows cols).R i cols=0):=by
  intro i g k
  have a:=rel.val i cols g o
  have f:=P8 rel.last
  have n:=rel.scale i g
  constructor
  ·intro e
   rw [e] at a
   grind
  ·intro e
   simp_all
 have d:=Qy (fun i=>decide ((elP (Q4 E b cols) rows (cols+1) cols).M i cols≠0)) (rows-(Li E b rows cols).cs.length) (Li E b rows cols).cs.length
 constructor
 ·intro e i g k
  grind
 ·intro h
  refine We _ m o (fun j a f=>?_) (fun p=>o)
  simpa using (l j f a).2 (h j f a)
section
variable {h:aH} {K:VP} {A B:Option aL} {n n2 cap cap2 m rows cols nb:Nat} {E b:Nat->Rat}
def Me{nq:Nat}(gl:Gl h)(ra:aW RQr h A (rows*cols) E)(hcap:rows*cols<=cap)(rb:aW RQr h B nb b)(hnb:rows<=nb)(hr:1<=rows)(hr2:rows<=1000)(hc:1<=cols)(hc2:cols<=1000)(hs:∀ i,i<rows*cols->Sz m (E i))(hsb:∀ i,i<rows->Sz m (b i))(hnq:∀ j,j<=cols->(elE (Q4 E b cols) rows (cols+1) j).cs.length<=nq)(hm:2*(3^nq*bnd (cols+1) m)+1<=40000000)
 (hK1:Cq E b rows cols->∀ b' h',h.le h'->aW RQr h' (some ⟨b',0,none⟩) cols (Qf E b rows cols)->K (.tuple #[.slice (some ⟨b',0,none⟩) cols cols,.bool true]) h')
 (hK0:¬ Cq E b rows cols->∀ h',h.le h'->K (.tuple #[.slice none 0 0,.bool false]) h'):aN prog 154 #[.slice A (rows*cols) cap,I (rows:Int),I (cols:Int),.slice B nb cap2] h K:=by
 refine (fnk func154 [(3,[10,22],[],[.slice none 0 0,I 0]),(15,[68],[],[I 0])] (os:=[(17,[0,1,2,3,5,8,4,6,7,9,10,11])]) (own:=[14]) (wr:=[152])) ?_
 have a5:rows*cols<=1000*1000:=aP hr2 hc2
 have a4:rows*(cols+1)<=1000*1001:=aP hr2 oo
 refine ⟨fun L hp=>∃ (k:Nat) (g o:aH) (xs:List QV) (A':Option aL) (c':Nat),k<=rows/\L=[.slice A' (k*(cols+1)) c',I (k:Int)]/\h.le g/\Sep hp g o/\cG o 244 A' c' xs/\xs.length=k*(cols+1)/\Row RQr g xs (k*(cols+1)) (Q4 E b cols),fun L _=>rows-(iAt L 1).toNat,
  ⟨0,h,An,[],none,0,oo,gz0,B7 _,Sep.refl h,OwnSl.nil,by simp,by rw [bN];exact Row.nil⟩,?_⟩
 rintro wA wn wc z hp ⟨k,g,o,xs,A',c',hk,eL,lg,s,ow,n,rr⟩
 obtain ⟨⟨rfl,rfl,rfl⟩,rfl⟩:=eL
 refine C0 (fun aa=>?_) (fun au=>?_)
 ·have d:k<rows:=oo
  have h2:(k+1)*cols<=rows*cols:=aJ _ d
  have e:(k+1)*cols=k*cols+cols:=gz0
  have h4:(k+1)*(cols+1)=k*(cols+1)+cols+1:=gz0
  have h5:(k+1)*(cols+1)<=rows*(cols+1):=aJ _ d
  have e0:C4 ((k:Int)+1)=((k+1:Nat):Int):=C1 oo oo
  have e1:C4 ((k:Int)*(cols:Int))=((k*cols:Nat):Int):=by exact J4 oo
  have e2:C4 (C4 ((k:Int)+1)*(cols:Int))=(((k+1)*cols:Nat):Int):=by rw [e0,<- aV];exact J4 oo
  rw [e1,e2,e0]
  refine ⟨⟨oo,oo⟩,⟨oo,oo⟩,?_⟩
  simp only [aD]
  have e5:(k+1)*cols-k*cols=cols:=oo
  rw [e5]
  have row:aW RQr h (T9 A cap (k*cols) 4) cols (fun j=>E (k*cols+j)):=ra.cut (c:=cap) (l:=k*cols) (k:=cols) oo hcap
  obtain ⟨a,sy,ax,qy⟩:=row
  refine OwnSl.app (ty:=232) Zq s ow n.symm ax.symm gz0 (sy.mono (B0 lg s.le)) oo oo ?_
  intro A2 c2 a8 g2 o2 l2 s2 ao _
  have C:=B0 lg l2
  obtain ⟨a6,u,aq,iu,d0,d1,d2,d3⟩:=(rb.mono G2 C).qat (i:=k) oo
  refine ⟨_,_,_,rfl,a6,aq,oo,oo,_,_,_,_,_,_,_,_,C2 s2.le d0,C2 s2.le d1,C2 s2.le d2,C2 s2.le d3,?_⟩
  have p:(xs++a).length=k*(cols+1)+cols:=gz0
  rw [n]
  refine K6 (ty:=232) Zq s2 ao p.symm (y:=u) rfl dc oo oo ?_
  intro A3 c3 ba g3 o3 W s3 r _
  rw [p]
  have r1:Row RQr g2 (xs++a) (k*(cols+1)+cols) (Q4 E b cols):=by
   refine Row.app n (rr.mono G2 l2) ((qy.mono G2 C).congr fun j hj=>?_)
   obtain ⟨f1,f2⟩:=dm1 (i:=k) (show j<cols+1 from oo)
   unfold Q4
   grind
  refine ⟨⟨k+1,g3,o3,_,A3,c3,oo,by rw [h4],B0 C W,s3,r,gz0,?_⟩,?_⟩
  ·have rB:=Row.push (R:=RQr) (g:=g3) (xs:=xs++a) (f:=Q4 E b cols) (by rw [p];exact r1.mono G2 W) (w:=u) (by
    obtain ⟨f1,f2⟩:=dm1 (i:=k) (show cols<cols+1 from oo)
    show RQ g3 u (Q4 E b cols (xs++a).length)
    unfold Q4
    rw [p,f1,f2,iN (dE cols)]
    exact G2 _ _ _ _ W iu)
   grind
  ·show rows-((k+1:Nat):Int).toNat<rows-(k:Int).toNat
   omega
 have d:k=rows:=oo
 subst d
 have ew:C4 ((cols:Int)+1)=((cols+1:Nat):Int):=C1 oo oo
 rw [ew]
 have ai:=B0 lg s.le
 have rq:aW RQr hp wA (k*(cols+1)) (Q4 E b cols):=⟨xs,ow.slF s.ole,n,rr.mono G2 s.le⟩
 have ag:=Wz (cols:=cols) hs hsb
 refine Pn (nq:=nq) (E:=Q4 E b cols) (cc:=cols) (m:=m) (gl.mono ai) rq (by have:=ow.1;omega) oo oo oo oo oo ag (fun j hj=>by rw [A4c _ oo];grind) oo ?_
 intro T h2 ac l2 e1 e2
 refine ⟨_,rfl,FCall.mono ac ?_⟩
 rintro r3 e ⟨g3,o3,A3,az,w,W,Q,r,a9,aw,rfl⟩
 refine ⟨_,_,_,_,_,_,_,_,rfl,?_⟩
 have X:=A1y (E:=Q4 E b cols) (rows:=k) (cols:=cols+1) (c:=cols) ag oo
 have al:3^(elP (Q4 E b cols) k (cols+1) cols).cs.length*bnd (cols+1) m<=3^nq*bnd (cols+1) m:=aJ _ (Nat.pow_le_pow_right dc (by rw [A4c _ oo];grind))
 have aj:∀ i,i<(Li E b k cols).cs.length->i<k->cF ((elP (Q4 E b cols) k (cols+1) cols).M i cols) (elP (Q4 E b cols) k (cols+1) cols).last=(Li E b k cols).R i cols:=fun i h1 hi=>A5z (Q4 E b cols) oo hi oo (.inl h1)
 have ap:Asc (Li E b k cols).cs cols:=Fn k ⟨_,[],1⟩ rfl cols
 have ay:(Li E b k cols).cs.length<=cols/\(Li E b k cols).cs.length<=k:=U8 _ k cols
 have F:=B2l E b k cols
 have eX:Qf E b k cols=A9m (fun m=>(Li E b k cols).R m cols) (Li E b k cols).cs (Li E b k cols).cs.length:=(Xu _ _).symm
 rw [A4c _ oo] at r ⊢
 rw [eX] at hK1
 generalize elP (Q4 E b cols) k (cols+1) cols=st at *
 generalize (elE (Q4 E b cols) k (cols+1) cols).cs=cs at *
 generalize (elE (Q4 E b cols) k (cols+1) cols).R=R at *
 have ah:=X.M
 have V:=X.last
 generalize 3^st.cs.length*bnd (cols+1) m=bb at ah V al
 have sp:=r.slF Q.sep.ole
 have D:h.le e:=B0 ai (B0 W Q.sep.le)
 have iw:ZIr e w st.last:=Dn _ _ _ _ Q.sep.le aw
 refine A1v Q (start:=cs.length) (col:=cols) oo oo (fun aa=>⟨_,_,rfl,hK0 (fun hx=>gz0) e D⟩) (fun a7=>⟨_,_,rfl,?_⟩)
 have av:=hK1 (F.1 gz0)
 have G:∀ t,e.le t->∃ gT,Tab t gT o3 T st.M st.S:=fun t l=>by
  obtain ⟨gT,l',s'⟩:=Q.sep.after l
  exact ⟨gT,Q.next s' l'⟩
 refine I3 Zq (zx:=S3) rfl oo oo oo oo ?_
 intro b2 an
 refine ⟨_,_,_,rfl,?_⟩
 have s5:=(Sep.refl e).new an (.cells ((aC cols S3).flatMap enc).toArray 244)
 have r0:Row RQr e (aC cols S3) cols (A9m (fun m=>R m cols) cs 0):=fun i hi=>⟨S3,gz0,RQ.zero⟩
 refine ⟨fun L q=>∃ (i:Nat) (t o':aH) (a:List QV),i<=cs.length/\L=[I (i:Int)]/\e.le t/\Sep q t o'/\RowX o' b2 a/\a.length=cols/\Row RQr t a cols (A9m (fun m=>R m cols) cs i),fun L _=>cs.length-(iAt L 0).toNat,⟨0,e,_,_,oo,rfl,B7 _,s5,RowX.mk,aI,r0⟩,?_⟩
 rintro z q ⟨i,g6,o6,a,hi,eL,O,N,ad,hy,af⟩
 obtain rfl:z=(i:Int):=gz0
 refine C0 (fun aa=>?_) (fun au=>?_)
 ·have H:i<cs.length:=oo
  obtain ⟨u,eu,ar⟩:=C04 (sp.mono (B0 O N.le)) H
  have a1:=B76 ap H
  obtain ⟨gT,tT⟩:=G g6 O
  refine ⟨u,eu,oo,oo,_,ar,?_⟩
  refine N.call (W8 tT (i:=i) oo ?_)
  intro h7 s7
  obtain ⟨wv,zv,c0,c1⟩:=tT.at (i:=i) (j:=cols) oo oo
  refine ⟨_,_,_,rfl,N.le_le s7 (B7 _),_,rfl,oo,oo,_,_,_,_,C2 s7.le c0,C2 s7.le c1,?_⟩
  refine s7.call (O5 (gl.mono (B0 D O)).tz (Dn _ _ _ _ tT.sep.le zv) (Dn _ _ _ _ O iw) (ah _ _ oo oo) V oo ?_)
  intro w9 g9 l9 i9 h9 s9
  rw [aj i H oo] at i9
  refine ⟨_,_,_,_,_,_,_,_,rfl,s7.le_le s9 l9,_,rfl,oo,oo,?_⟩
  refine Q1 Fi (y:=w9) rfl s9 ad (i:=cs.getD i 0) oo ?_
  intro a2 am a3 a0 ak ae
  rw [wiS i oo]
  exact ⟨⟨i+1,g9,am,_,oo,rfl,B0 O l9,ak,ae,gz0,(af.mono G2 l9).upd oo i9⟩,by simp only [R9];omega⟩
 ·have:i=cs.length:=oo
  subst this
  exact av b2 q (B0 D (B0 O N.le)) ⟨a,ad.rowB.slF N.ole,hy,af.mono G2 N.le⟩
end
section
variable {h:aH} {K:VP} {A:Option aL} {n cap m w:Nat} {r c:Int} {ls:Nat->List UInt8} {R:Nat->Nat->Rat}
def Ta(hn:n<=10000)(hw:w<=10000)
 (hK:∀ h' g' o' bo rb,h.le g'->Mt h' g' o' bo rb n w (fun _ _=>0)->K (.slice (some ⟨bo,0,none⟩) n n) h'):aN prog 80 #[I (n:Int),I (w:Int)] h K:=by
 refine (fnk func80 [(3,[6],[],[I 0])]) ?_
 refine I3 B8e (zx:=(⟨none,0,0⟩:HV)) rfl oo oo oo oo ?_
 intro bo u
 simp only [aD]
 refine ⟨_,_,_,rfl,fun L B=>∃ (k:Nat) (g o:aH) (l:List HV) (rb:Nat->Nat),k<=n/\L=[I (k:Int)]/\h.le g/\Sep B g o/\RowX o bo l/\l.length=n/\(∀ i,i<k->l[i]? = some ⟨some ⟨rb i,0,none⟩,w,w⟩)/\(∀ i,i<k->rb i≠bo)/\(∀ i j,i<k->j<k->rb i=rb j->i=j)/\(∀ i,i<k->RowX o (rb i) (aC w S3)),fun L _=>n-(iAt L 0).toNat,
  ⟨0,h,An.put bo _,aC n ⟨none,0,0⟩,fun _=>0,oo,rfl,B7 _,V8 u,RowX.mk,aI,fun i a=>oo,fun i a=>oo,fun i j a=>oo,fun i a=>oo⟩,?_⟩
 rintro z B ⟨k,g,o,l,rb,X,V,G,s,C,N,M,t,O,A⟩
 obtain rfl:=sI1 V
 refine C0 (fun T=>?_) (fun S=>?_)
 ·have R:k<n:=oo
  refine I3 Un (zx:=S3) rfl oo oo oo oo ?_
  intro b d
  simp only [aD]
  have p:∀ q x,o q=some x->q≠b:=by
   rintro q x e rfl
   rw [s.own q x e] at d;cases d
  have c:bo≠b:=by obtain ⟨e,F⟩:=C;exact p _ _ F
  have f:∀ i,i<k->rb i≠b:=fun i a=>by obtain ⟨e,F⟩:=A i a;exact p _ _ F
  refine ⟨_,_,_,rfl,_,rfl,oo,oo,?_⟩
  refine Q1 Xh (y:=(⟨some ⟨b,0,none⟩,w,w⟩:HV)) rfl (s.new d _) (C.other c _) (i:=k) oo ?_
  intro h5 H x5 m W D
  rw [wiS k oo]
  refine ⟨⟨k+1,g,H,_,fun i=>if i=k then b else rb i,oo,rfl,G,W,D,by rw [cW];exact N,fun i a=>?_,fun i a=>?_,fun i j a Q e=>?_,fun i a=>?_⟩,by simp only [R9];omega⟩
  ·show (l.set k _)[i]? = some (⟨some ⟨if i=k then b else rb i,0,none⟩,w,w⟩:HV)
   by_cases e:i=k
   ·subst e
    rw [iP rfl,List.getElem?_set_self oo]
   ·rw [iN e,List.getElem?_set_ne (fun x=>e x.symm)]
    exact M i oo
  ·show (if i=k then b else rb i)≠bo
   by_cases e:i=k
   ·rw [iP e];exact c.symm
   ·rw [iN e];exact t i oo
  ·change (if i=k then b else rb i)=(if j=k then b else rb j) at e
   by_cases E:i=k
   ·by_cases r:j=k
    ·omega
    ·rw [iP E,iN r] at e
     exact absurd e.symm (f j oo)
   ·by_cases r:j=k
    ·rw [iN E,iP r] at e
     exact absurd e (f i oo)
    ·rw [iN E,iN r] at e
     exact O i j oo oo e
  ·show RowX H (if i=k then b else rb i) _
   by_cases e:i=k
   ·rw [iP e,m]
    exact RowX.mk.other c.symm _
   ·rw [iN e,m]
    exact ((A i oo).other (f i oo) _).other (t i oo) _
 ·have:k=n:=oo
  subst this
  refine hK B g o bo rb G ⟨s,⟨l,C.rowB,N,fun i a=>⟨w,M i a,aE _⟩⟩,t,O,fun i a=>⟨_,(A i a).rowB,aI,fun j Q=>⟨S3,by rw [cD,iP Q],NQ.zero⟩⟩⟩
def Pe{α:Type}[E:Enc α]{o:aH}{b:Nat}{e:bF}{c:Nat}{zx:α}:cG (o.put b (.cells ((aC c zx).flatMap enc).toArray e)) e (some ⟨b,0,none⟩) c ([]:List α):=
 ⟨Nat.zero_le _,.inr ⟨b,_,rfl,C3 _ _ _,by rw [K7,aI],by simp⟩⟩
end
def Br.nt{X Y:Prop}(y:Y):Br (!true) X Y:=y
def Zp{X Y:Prop}(x:X):Br (!false) X Y:=x
structure MOut where
 r:Int
 c:Int
 n:Nat
 f:Nat->List UInt8
 e:Int
def noM(e:Int):MOut:=⟨0,0,0,fun _=>[],e⟩
section
variable {h:aH} {K:VP} {A B:Option aL} {n n2 cap cap2 m w:Nat} {r c r2 c2:Int} {la lb:Nat->List UInt8}
end
structure VV where
 A:Option aL
 n:Nat
 c:Nat
 s:Bool
 B:Option aL
 bn:Nat
 bc:Nat
abbrev VV.v(w:VV):aT:=.agg #[.slice w.A w.n w.c,.bool w.s,.slice w.B w.bn w.bc]
instance:Enc VV:=⟨⟨fun w=>[.slice w.A w.n w.c,.bool w.s,.slice w.B w.bn w.bc],3,fun _=>rfl,fun w v hv=>by
 simp only [bV,bG,or_false] at hv
 rcases hv with rfl|rfl|rfl<;>rfl⟩⟩
def VQr(w:Nat):aH->VV->(Nat->Rat)->Prop:=fun h v f=>v.n=w/\ZI h v.s v.B v.bn v.bc (Cp f w:Int)/\aW ZIr h v.A w (fun j=>scl (f j) (Cp f w:Int))
def A76(w:Nat):Mon (VQr w):=fun _ _ _ _ l i=>⟨i.1,i.2.1.mono l,i.2.2.mono Dn l⟩
section
variable {h:aH} {K:VP} {A B:Option aL} {n cap m w:Nat} {f f2:Nat->Rat}
def A40(gl:Gl h)(r:aW RQr h A n f)(hn:n<=10000)(hs:∀ i,i<n->Sz m (f i))(hm:1+n*m+m<=6400000000)
 (hK:∀ v h',h.le h'->VQr n h' v f->K v.v h'):aN prog 268 #[.slice A n cap] h K:=by
 refine (fnk func268 [(3,[14],[],[I 0])] (os:=[(1,[0,1,3,6,2,4,5,7])]) (al:=[(1,[(2,[4])])]) (own:=[2,3,5])) ?_
 have hd:=Kc (f:=f) n hs
 refine ⟨?_,?_⟩
 ·refine I3 tZs (zx:=(⟨false,none,0,0⟩:IV)) rfl oo oo oo oo ?_
  intro b Q
  simp only [aD]
  have W:=(Sep.refl h).new Q (.cells ((aC n (⟨false,none,0,0⟩:IV)).flatMap enc).toArray 219)
  refine ⟨_,_,_,rfl,W.le,W.call (Ds gl r oo hs hm ?_)⟩
  intro N Bd R bc B t id h1 E
  refine ⟨_,_,_,_,rfl,W.le_le E t,?_⟩
  refine ⟨fun L p=>∃ (k:Nat) (g o:aH) (l:List IV),k<=n/\L=[I (k:Int)]/\B.le g/\Sep p g o/\RowX o b l/\l.length=n/\Row ZIr g l k (fun j=>scl (f j) (Cp f n:Int)),fun L _=>n-(iAt L 0).toNat,⟨0,B,_,aC n ⟨false,none,0,0⟩,oo,rfl,B7 _,E,RowX.mk,aI,Row.nil⟩,?_⟩
  rintro z p ⟨k,g,o,l,hk,eL,e,s,F,D,C⟩
  obtain rfl:=sI1 eL
  refine C0 (fun M=>?_) (fun G=>?_)
  ·have c:k<n:=oo
   obtain ⟨a,w,ea,H,c0,c1,c2,c3⟩:=(r.mono G2 (B0 t e)).qat c
   refine ⟨a,ea,oo,oo,_,_,_,_,_,_,_,_,C2 s.le c0,C2 s.le c1,C2 s.le c2,C2 s.le c3,?_⟩
   refine s.call (Jt (m:=1+n*m+m) H (id.mono e) ((hs k c).mono oo) (hd.mono oo) hm ?_)
   intro V A2 n2 c2 S u O h2 d
   refine ⟨_,_,_,_,rfl,s.le_le d u,_,rfl,oo,oo,?_⟩
   refine Q1 Rk (y:=(⟨V,A2,n2,c2⟩:IV)) rfl d F (i:=k) oo ?_
   intro h7 X x7 eo T q
   rw [wiS k oo]
   exact ⟨⟨k+1,S,X,_,oo,rfl,B0 e u,T,q,by rw [cW];exact D,(C.mono Dn u).set oo O⟩,by simp only [R9];omega⟩
  ·have:k=n:=oo
   subst this
   exact hK ⟨some ⟨b,0,none⟩,k,k,N,Bd,R,bc⟩ p (B0 t (B0 e s.le)) ⟨rfl,id.mono (B0 e s.le),l,F.rowB.slF s.ole,D,C.mono Dn s.le⟩
 ·refine Ds gl r oo hs hm ?_
  intro N Bd R bc B t id
  refine ⟨_,_,_,_,rfl,t,I3 tZs (zx:=(⟨false,none,0,0⟩:IV)) rfl oo oo oo oo ?_⟩
  intro b Q
  simp only [aD]
  have E:=(Sep.refl B).new Q (.cells ((aC n (⟨false,none,0,0⟩:IV)).flatMap enc).toArray 219)
  refine ⟨_,_,_,rfl,E.le,?_⟩
  refine ⟨fun L p=>∃ (k:Nat) (g o:aH) (l:List IV),k<=n/\L=[I (k:Int)]/\B.le g/\Sep p g o/\RowX o b l/\l.length=n/\Row ZIr g l k (fun j=>scl (f j) (Cp f n:Int)),fun L _=>n-(iAt L 0).toNat,⟨0,B,_,aC n ⟨false,none,0,0⟩,oo,rfl,B7 _,E,RowX.mk,aI,Row.nil⟩,?_⟩
  rintro z p ⟨k,g,o,l,hk,eL,e,s,F,D,C⟩
  obtain rfl:=sI1 eL
  refine C0 (fun M=>?_) (fun G=>?_)
  ·have c:k<n:=oo
   obtain ⟨a,w,ea,H,c0,c1,c2,c3⟩:=(r.mono G2 (B0 t e)).qat c
   refine ⟨a,ea,oo,oo,_,_,_,_,_,_,_,_,C2 s.le c0,C2 s.le c1,C2 s.le c2,C2 s.le c3,?_⟩
   refine s.call (Jt (m:=1+n*m+m) H (id.mono e) ((hs k c).mono oo) (hd.mono oo) hm ?_)
   intro V A2 n2 c2 S u O h2 d
   refine ⟨_,_,_,_,rfl,s.le_le d u,_,rfl,oo,oo,?_⟩
   refine Q1 Rk (y:=(⟨V,A2,n2,c2⟩:IV)) rfl d F (i:=k) oo ?_
   intro h7 X x7 eo T q
   rw [wiS k oo]
   exact ⟨⟨k+1,S,X,_,oo,rfl,B0 e u,T,q,by rw [cW];exact D,(C.mono Dn u).set oo O⟩,by simp only [R9];omega⟩
  ·have:k=n:=oo
   subst this
   exact hK ⟨some ⟨b,0,none⟩,k,k,N,Bd,R,bc⟩ p (B0 t (B0 e s.le)) ⟨rfl,id.mono (B0 e s.le),l,F.rowB.slF s.ole,D,C.mono Dn s.le⟩
def smZ(x y:Nat->Int):Nat->Int
 | 0=>0
 | k+1=>smZ x y k+x k*y k
def smA(x y:Nat->Int):Nat->Int
 | 0=>0
 | k+1=>smA x y k+(x k*y k).natAbs
def B4n{x y:Nat->Int}{m w:Nat}(hx:∀ j,j<w->ZB m (x j))(hy:∀ j,j<w->ZB m (y j)):∀ k,k<=w->smA x y k<=k*2^(2*m):=by
 intro k
 induction k with
 | zero=>intro _;simp [smA]
 | succ k ih=>
  intro c
  have d:=ih o
  have b:=A3q (hx k o) (hy k o)
  have a:((k+1:Nat):Int)*2^(2*m)=(k:Int)*2^(2*m)+2^(2*m):=by rw [Int.natCast_add,Int.add_mul];simp
  show smA x y k+((x k*y k).natAbs:Int)<=_
  rw [a]
  omega
def B5t(x y:Nat->Int):∀ k,((smZ x y k).natAbs:Int)<=smA x y k:=by
 intro k
 induction k with
 | zero=>exact Int.le_refl _
 | succ k ih=>
  show ((smZ x y k+x k*y k).natAbs:Int)<=smA x y k+((x k*y k).natAbs:Int)
  omega
def B8j{x y:Nat->Int}{m w:Nat}(hx:∀ j,j<w->ZB m (x j))(hy:∀ j,j<w->ZB m (y j))(hw:w<=10000):ZB (2*m+14) (smZ x y w):=by
 have b:=B4n hx hy w (aE _)
 have c:=B5t x y w
 have e:(2:Int)^(2*m)=((2^(2*m):Nat):Int):=by simp
 rw [e,<- aV] at b
 have f:w*2^(2*m)<=10000*2^(2*m):=aJ _ hw
 have a:2^(2*m+14)=2^(2*m)*16384:=by rw [Nat.pow_add]
 have d:0<2^(2*m):=Nat.pow_pos dc
 unfold ZB
 rw [a]
 omega
def B8k{p q:Nat->Rat}{x y:Nat->Int}{d e:Int}{w:Nat}(hx:∀ j,j<w->(x j:Rat)=p j*d)(hy:∀ j,j<w->(y j:Rat)=q j*e):∀ k,k<=w->(smZ x y k:Rat)=sm k (fun j=>p j*q j)*((d*e:Int):Rat):=by
 intro k
 induction k with
 | zero=>intro _;show ((0:Int):Rat)=0*_;rw [dG];rfl
 | succ k ih=>
  intro a
  show ((smZ x y k+x k*y k:Int):Rat)=(sm k (fun j=>p j*q j)+p k*q k)*((d*e:Int):Rat)
  rw [Rat.intCast_add,ih o,Rat.intCast_mul d e,Rat.intCast_mul (x k) (y k),hx k o,hy k o]
  grind
def A6f{v u:VV}(gl:Gl h)(iv:VQr w h v f)(iu:VQr w h u f2)(hw:w<=10000)(hs:∀ i,i<w->Sz m (f i))(hs2:∀ i,i<w->Sz m (f2 i))(hm1:1<=m)(hm:2*(1+w*m+m)+14<=100000000)
 (hK:∀ q h',h.le h'->RQ h' q (sm w (fun j=>f j*f2 j))->K q.v h'):aN prog 230 #[v.v,u.v] h K:=by
 refine (fnk func230 [(3,[11],[],[I 0])] (os:=[(7,[1,2,3,4,0,5,6,7])]) (own:=[2,3,4,7]) (wr:=[255])) ?_
 obtain ⟨ad,D,F⟩:=iv
 obtain ⟨aa,B,A⟩:=iu
 have d:=Kc (f:=f) w hs
 have c:=Kc (f:=f2) w hs2
 have E:∀ j,j<w->ZB (1+w*m+m) (scl (f j) (Cp f w:Int)):=fun j e=>(A91 (hs j e) d).mono o
 have C:∀ j,j<w->ZB (1+w*m+m) (scl (f2 j) (Cp f2 w:Int)):=fun j e=>(A91 (hs2 j e) c).mono o
 refine Dd A51 ?_
 intro bs s
 have Z0:SumS (h.put bs (.cells #[.slice none 0 0,.slice none 0 0] 345)) h bs 345 200000001 0 0:=SumS.zero s
 refine ⟨_,rfl,fun L O=>∃ (k:Nat) (g:aH),k<=w/\L=[I (k:Int)]/\h.le g/\SumS O g bs 345 200000001 (smA (fun j=>scl (f j) (Cp f w:Int)) (fun j=>scl (f2 j) (Cp f2 w:Int)) k) (smZ (fun j=>scl (f j) (Cp f w:Int)) (fun j=>scl (f2 j) (Cp f2 w:Int)) k),fun L _=>w-(iAt L 0).toNat,⟨0,h,o,rfl,B7 _,Z0⟩,?_⟩
 rintro z O ⟨k,g,hk,eL,r,Z⟩
 obtain rfl:=sI1 eL
 refine C0 (fun W=>?_) (fun T=>?_)
 ·have b:k<w:=o
  obtain ⟨a,x1,ea,Q,c0,c1⟩:=(F.mono Dn r).zat b
  obtain ⟨a2,y1,t,M,d0,d1⟩:=(A.mono Dn r).zat b
  refine ⟨a,ea,o,o,_,_,_,_,C2 Z.le c0,C2 Z.le c1,a2,t,o,o,_,_,_,_,C2 Z.le d0,C2 Z.le d1,?_⟩
  have lx:x1.n<=100000000:=ZI.len Q (E k b) o
  have ly:y1.n<=100000000:=ZI.len M (C k b) o
  have hA:=B4n E C (k+1) b
  have S:=A9p (m:=1+w*m+m) (k:=k+1) o o
  refine Bg Z Q M o o (N1:=1+w*m+m) (by show smA _ _ (k+1)<_;omega) o ?_
  intro h3 g3 l3 Z3
  rw [wiS k o]
  exact ⟨rfl,⟨k+1,g3,o,rfl,B0 r l3,Z3⟩,by simp only [R9];omega⟩
 ·have:k=w:=o
  subst this
  refine Lb Z o ?_
  intro sv Av nv cv h5 H X
  have l:=B0 r (B0 Z.le H)
  refine ⟨_,_,_,_,rfl,H,?_⟩
  refine O8 (m:=1+k*m+m) (D.mono l) (B.mono l) (d.mono o) (c.mono o) o ?_
  intro s6 A6 n6 c6 h6 G z6
  refine ⟨_,_,_,_,rfl,G,?_⟩
  have p:=B0 l G
  have e1:∀ j,j<k->(scl (f j) (Cp f k:Int):Rat)=f j*((Cp f k:Int):Rat):=fun j e=>A92 (Int.natCast_dvd_natCast.2 (Yj f k j e))
  have e2:∀ j,j<k->(scl (f2 j) (Cp f2 k:Int):Rat)=f2 j*((Cp f2 k:Int):Rat):=fun j e=>A92 (Int.natCast_dvd_natCast.2 (Yj f2 k j e))
  have es:=B8k e1 e2 k (aE _)
  have V:=Yi f k
  have ac:=Yi f2 k
  have y:((Cp f k:Int)*(Cp f2 k:Int))≠0:=Int.mul_ne_zero o o
  have zb:ZB (2*(1+k*m+m)+14) (smZ (fun j=>scl (f j) (Cp f k:Int)) (fun j=>scl (f2 j) (Cp f2 k:Int)) k):=B8j E C o
  refine O5 (m:=2*(1+k*m+m)+14) (gl.mono p).tz (X.mono G) z6 zb ((d.mul c).mono o) o ?_
  intro q h7 R N
  refine ⟨_,_,_,_,_,_,_,_,rfl,R,hK q h7 (B0 p R) ?_⟩
  have:cF (smZ (fun j=>scl (f j) (Cp f k:Int)) (fun j=>scl (f2 j) (Cp f2 k:Int)) k) ((Cp f k:Int)*(Cp f2 k:Int))=sm k (fun j=>f j*f2 j):=by
   rw [cP,es]
   exact Rat.mul_div_cancel (P8 y)
  rw [this] at N
  exact N
end
def B2m:prog.cellsOf 319=1/\(prog.info? 319).isSome=true:=by constructor<;>kernel_rfl
section
variable {h:aH} {K:VP} {A:Option aL} {cap m rows cols:Nat} {E:Nat->Rat}
def Pl(gl:Gl h)(r:aW RQr h A (rows*cols) E)(hcap:rows*cols<=cap)(hr2:rows<=10000)(hc:1<=cols)(hc2:cols<=10000)(hs:∀ i,i<rows*cols->Sz m (E i))(hm:1+cols*m+m<=6400000000)
 (hK:∀ A' c' h',h.le h'->aW (VQr cols) h' A' rows (A3f E cols)->K (.slice A' rows c') h'):aN prog 229 #[.slice A (rows*cols) cap,I (cols:Int)] h K:=by
 refine (fnk func229 (rs:=[(4,[.slice none 0 0])]) (wr:=[1000000000])) ?_
 have ac:rows*cols<=100000000:=by
  have:rows*cols<=10000*10000:=aP hr2 hc2
  omega
 refine Dd (z:=.slice none 0 0) (by kernel_rfl) ?_
 intro q N
 refine ⟨_,rfl,?_⟩
 have s0:=(Sep.refl h).new N (.cells #[.slice none 0 0] 319)
 refine s0.call (Wk hc ?_)
 intro v R T ic ae s3
 have bound:∀ k,k<rows->∀ j,j<cols->Sz m (E (k*cols+j)):=fun k hk j hj=>hs _ (R4 hk hj)
 refine ⟨_,rfl,Rw ic hc o hcap (fun k S=>∃ (t s:aH) (n:List VV) (A1:Option aL) (c1:Nat),R.le t/\Sep S t s/\(∃ e,s q=some (.cells #[.slice A1 k c1] e))/\cG s 322 A1 c1 n/\A1≠some ⟨q,0,none⟩/\n.length=k/\Row (VQr cols) t n k (A3f E cols)) ?_ ?_ ?_ ?_⟩
 ·exact ⟨R,_,[],none,0,B7 _,s3,⟨_,C3 _ _ _⟩,OwnSl.nil,by simp,rfl,Row.nil⟩
 ·rintro k S ⟨t,s,n,A1,c1,lg,s1,_⟩
  exact B0 lg s1.le
 ·rintro k d u ⟨t,s,n,A1,c1,f,g,⟨e,a⟩,L,W,p,H⟩
  have bk:=bound k u
  have ad:(k+1)*cols<=rows*cols:=aJ _ u
  have aa:(k+1)*cols=k*cols+cols:=by rw [Nat.add_mul,Nat.one_mul]
  have C:=B0 T f
  have B:aW RQr h A ((k+1)*cols) E:=by
   have:=r.cut (c:=cap) (l:=0) (k:=(k+1)*cols) o hcap
   rw [H1] at this
   exact this.congr fun i _=>by rw [aS]
  have D:aW RQr h (T9 A ((k+1)*cols) (k*cols) 4) cols (A3f E cols k):=B.cut (c:=(k+1)*cols) (l:=k*cols) (k:=cols) o (aE _)
  have cp:d.cell? ⟨q,0,none⟩=some (.slice A1 k c1):=g.cell (by unfold Heap.cell?;simp only [a];rfl)
  refine ⟨_,_,_,rfl,_,_,_,cp,g.call (A40 (gl.mono C) (D.mono G2 C) o bk hm ?_)⟩
  intro w g2 O iw F X
  refine ⟨_,_,_,_,_,_,_,rfl,g.le_le X O,?_⟩
  subst p
  refine OwnSl.push (ty:=319) C1i X L (y:=w) (v:=w.v) rfl dc o o (K1:=fun hq=>F.le hq) (fun _ l=>l) ?_
  intro A3 c3 h6 g6 o6 Q s6 G kp
  have M:=kp q _ a W
  show wpH _ (bK _ (.pointer (some (aK ⟨q,0,none⟩ 0))) _) _ _
  refine Zm B2m rfl rfl s6 M.1 (by simp) ?_
  intro h7 o7 s7 V
  exact ⟨g6,o7,n++[w],A3,c3,B0 f (B0 O Q),s7,⟨e,by rw [V,C3];simp⟩,G.keep fun b y hb he=>by rw [V,B9 _ _ (fun e=>M.2 (by rw [<- e];exact hb))];exact he,M.2,by simp,by
   have:=(Row.push (H.mono (A76 cols) (B0 O Q)) (A76 cols _ _ _ _ Q iw))
   simpa using this⟩
 ·rintro d ⟨t,s,n,A1,c1,f,g,⟨e,a⟩,L,W,p,H⟩
  have cp:d.cell? ⟨q,0,none⟩=some (.slice A1 rows c1):=g.cell (by unfold Heap.cell?;simp only [a];rfl)
  exact ⟨_,_,_,cp,hK A1 c1 d (B0 T (B0 f g.le)) ⟨n,L.slF g.ole,p,H.mono (A76 cols) g.le⟩⟩
end
section
variable {h:aH} {K:VP} {A B:Option aL} {n n2 cap cap2 m:Nat} {r c r2 c2:Int} {la lb:Nat->List UInt8} {w:QV} {q:Rat}
end
section
variable {h:aH} {K:VP} {A B:Option aL} {n w cap cap2 m:Nat} {f f2:Nat->Rat} {R:Nat->Nat->Rat}
def Jr(hs:∀ i,i<w->Sz m (f i))(hs2:∀ i,i<w->Sz m (f2 i)):∀ k,k<=w->Sz (1+k*(2*m+1)) (sm k (fun j=>f j*f2 j)):=by
 intro k
 induction k with
 | zero=>intro _;exact Sz.zero o
 | succ k ih=>
  intro c
  have b:=ih o
  have a:=(hs k o).mul (hs2 k o)
  have e:1+(k+1)*(2*m+1)=1+k*(2*m+1)+(m+m)+1:=by rw [Nat.add_mul];omega
  rw [e]
  exact b.add a
end
structure VOut where
 n:Nat
 f:Nat->List UInt8
 e:Int
def noV(e:Int):VOut:=⟨0,fun _=>[],e⟩
section
variable {h:aH} {K:VP} {A B:Option aL} {n n2 cap cap2 m:Nat} {r c:Int} {la lx:Nat->List UInt8}
end
section
variable {h:aH} {K:VP} {A B:Option aL} {n n2 cap cap2 m:Nat} {r c:Int} {la lx:Nat->List UInt8}
def RowV.vat{w n:Nat}{f:Nat->Nat->Rat}(r:aW (VQr w) h A n f){i:Nat}(hi:i<n):∃ a v,A=some a/\VQr w h v (f i)/\h.cell? (aK (aK a (i*3)) 0)=some (.slice v.A v.n v.c)/\h.cell? (aK (aK a (i*3)) 1)=some (.bool v.s)/\h.cell? (aK (aK a (i*3)) 2)=some (.slice v.B v.bn v.bc):=by
 obtain ⟨a,v,e,q,b⟩:=RowV.at dc r hi
 exact ⟨a,v,e,q,b 0 _ rfl,b 1 _ rfl,b 2 _ rfl⟩
end
def C43(r c:Int)(n:Nat)(la:Nat->List UInt8)(r2 c2:Int)(n2:Nat)(lb:Nat->List UInt8)(o:MOut):Prop:=
 (¬ (Mx r c n la/\Mx r2 c2 n2 lb)/\o=noM 1)\/(Mx r c n la/\Mx r2 c2 n2 lb/\c≠r2/\o=noM 4)\/(∃ rows mid cols,MOk r c n la rows mid/\MOk r2 c2 n2 lb mid cols/\o=⟨r,c2,rows*cols,fun k=>E8 (sm mid (fun j=>mtx (rvs la) mid (k/cols) j*mtx (rvs lb) cols j (k%cols))),0⟩)
def A7h{f f':Nat->Rat}: ∀ n,(∀ i,i<n->f i=f' i)->Cp f n=Cp f' n:=by
 intro n
 induction n with
 | zero=>intro _;rfl
 | succ n ih=>
  intro e
  show Nat.lcm (Cp f n) (f n).den=Nat.lcm (Cp f' n) (f' n).den
  grind
def VQr.congr{h:aH}{w:Nat}{v:VV}{f f':Nat->Rat}(x:VQr w h v f)(e:∀ i,i<w->f i=f' i):VQr w h v f':=by
 have d:Cp f w=Cp f' w:=A7h w e
 obtain ⟨a,b,c⟩:=x
 rw [d] at b c
 exact ⟨a,b,c.congr fun j g=>gz0⟩
section
variable {h:aH} {K:VP} {A B:Option aL} {n n2 cap cap2 m:Nat} {r c r2 c2:Int} {la lb:Nat->List UInt8} {E:Nat->Rat}
def Md{rows cols:Nat}(rv':aW RQr h A (rows*cols) E)(hr:rows<=10000)(hc:cols<=10000)
 (hK:∀ A' c' h' g' o' xs,h.le g'->Sep h' g' o'->cG o' 244 A' c' xs->xs.length=rows*cols->Row RQr g' xs (rows*cols) (fun k=>E (k%rows*cols+k/rows))->K (.slice A' (rows*cols) c') h'):aN prog 156 #[.slice A (rows*cols) cap,I (rows:Int),I (cols:Int)] h K:=by
 refine (fnk func156 [(3,[7,14],[],[.slice none 0 0,I 0]),(6,[7,18],[],[.slice none 0 0,I 0])]) ?_
 have W:rows*cols<=10000*10000:=aP hr hc
 refine I3 Zq (zx:=S3) rfl oo oo oo oo ?_
 intro b X
 refine ⟨_,_,_,rfl,fun L u=>∃ (j:Nat) (g o:aH) (xs:List QV) (A':Option aL) (c':Nat),j<=cols/\L=[.slice A' (j*rows) c',I (j:Int)]/\h.le g/\Sep u g o/\cG o 244 A' c' xs/\xs.length=j*rows/\Row RQr g xs (j*rows) (fun k=>E (k%rows*cols+k/rows)),fun L _=>cols-(iAt L 1).toNat,
  ⟨0,h,An.put b _,[],some ⟨b,0,none⟩,rows*cols,oo,gz0,B7 _,V8 X,Pe,by simp,by rw [bN];exact Row.nil⟩,?_⟩
 rintro rA rn rc z u ⟨j,g,o,xs,A',c',hj,H,lg,s,ow,C,rr⟩
 obtain ⟨⟨rfl,rfl,rfl⟩,rfl⟩:=H
 refine C0 (fun V=>?_) (fun S=>?_)
 ·have t:j<cols:=oo
  have p:(j+1)*rows=j*rows+rows:=gz0
  have M:(j+1)*rows<=cols*rows:=aJ _ t
  rw [cH cols rows] at M
  refine ⟨fun L u=>∃ (i:Nat) (g o:aH) (xs:List QV) (A':Option aL) (c':Nat),i<=rows/\L=[.slice A' (j*rows+i) c',I (i:Int)]/\h.le g/\Sep u g o/\cG o 244 A' c' xs/\xs.length=j*rows+i/\Row RQr g xs (j*rows+i) (fun k=>E (k%rows*cols+k/rows)),fun L _=>rows-(iAt L 1).toNat,
   ⟨0,g,o,xs,rA,rc,oo,rfl,lg,s,ow,C,rr⟩,?_⟩
  rintro qA qn qc z aa ⟨i,g2,o2,B,A2,c2,hi,H,d,m,r,c,e⟩
  obtain ⟨⟨rfl,rfl,rfl⟩,rfl⟩:=H
  refine C0 (fun Q=>?_) (fun O=>?_)
  ·have l:i<rows:=oo
   have q:=R4 l t
   have ew:C4 (C4 ((i:Int)*(cols:Int))+(j:Int))=((i*cols+j:Nat):Int):=by
    rw [<- aV,J4 oo]
    exact J4 (n:=i*cols+j) oo
   rw [ew]
   obtain ⟨a,w,ea,T,c0,c1,D,c3⟩:=(rv'.mono G2 d).qat q
   refine ⟨a,ea,oo,oo,_,_,_,_,_,_,_,_,C2 m.le c0,C2 m.le c1,C2 m.le D,C2 m.le c3,?_⟩
   refine K6 (ty:=232) Zq m r c.symm (y:=w) rfl dc oo oo ?_
   intro A3 c3 h3 N o3 G s3 F _
   rw [c,wiS i oo]
   refine ⟨⟨i+1,N,o3,_,A3,c3,oo,by rw [cN],B0 d G,s3,F,gz0,?_⟩,?_⟩
   ·have rB:=Row.push (R:=RQr) (g:=N) (xs:=B) (f:=fun k=>E (k%rows*cols+k/rows)) (by rw [c];exact e.mono G2 G) (w:=w) (by
     show RQ N w (E (B.length%rows*cols+B.length/rows))
     rw [c,bO (j*rows) i,aR,aX l,aU _ _ oo,aY l,aS]
     exact G2 _ _ _ _ G T)
    grind
   ·show rows-((i+1:Nat):Int).toNat<rows-(i:Int).toNat
    omega
  ·have:i=rows:=oo
   subst this
   rw [wiS j oo,<- p]
   rw [<- p] at c e
   refine ⟨⟨j+1,g2,o2,B,qA,qc,oo,rfl,d,m,r,c,e⟩,?_⟩
   show cols-((j+1:Nat):Int).toNat<cols-(j:Int).toNat
   omega
 grind
def A1a{rows cols:Nat}(rv':aW RQr h A (rows*cols) E)(hr:rows<=10000)(hc:cols<=10000)
 (hK:∀ A' c' h',h.le h'->rows*cols<=c'->aW RQr h' A' (rows*cols) (fun k=>E (k%rows*cols+k/rows))->K (.slice A' (rows*cols) c') h'):aN prog 156 #[.slice A (rows*cols) cap,I (rows:Int),I (cols:Int)] h K:=
 Md rv' hr hc fun A' c' h' _ _ d e s b a c=>hK A' c' h' (B0 e s.le) (by have:=b.1;omega) ⟨d,b.slF s.ole,a,c.mono G2 s.le⟩
def A7c{d:Nat}(gl:Gl h)(ra:aW SSr h A n la)(rb:aW SSr h B n2 lb)(hn:n<=1000000)(hn2:n2<=1000000)(hl:LL n la)(hl2:LL n2 lb)(hs:∀ i,i<n->Sz m (rv (la i)))(hs2:∀ i,i<n2->Sz m (rv (lb i)))(hm1:1<=m)(hd:∀ rows mid,MOk r c n la rows mid->mid<=d)(hm:2*(1+d*(2*m+1)+2*m)+14<=40000000)
 (hK:∀ o,C43 r c n la r2 c2 n2 lb o->∀ A' cap' h',h.le h'->aW SSr h' A' o.n o.f->K (.tuple #[Dx o.r o.c A' o.n cap',I o.e]) h'):aN prog 176 #[Dx r c A n cap,Dx r2 c2 B n2 cap2] h K:=by
 refine (fnk func176 [(11,[12,61],[],[.slice none 0 0,I 0]),(14,[12,67],[],[.slice none 0 0,I 0])] (os:=[(8,[0,1,2,3,4,6,7,5,8,9])]) (own:=[2,3,4,14,16])) ?_
 have W:¬ (Mx r c n la/\Mx r2 c2 n2 lb)->∀ h',h.le h'->K (.tuple #[Dx 0 0 none 0 0,I 1]) h':=fun hx h' l=>hK (noM 1) (.inl ⟨hx,rfl⟩) none 0 h' l RowV.nil
 refine V5 gl ra hn hl (fun rows mid mk b1 h1 own=>?_) (fun H h1 N=>⟨_,_,_,_,rfl,?_⟩)
 ·have N:=own.le
  refine ⟨_,_,_,_,rfl,V5 (gl.mono N) (rb.mono E9 N) hn2 hl2 (fun C p F b2 V D=>⟨_,_,_,_,rfl,Br.nt (Br.nt ?_)⟩) (fun H V l2=>⟨_,_,_,_,rfl,Br.nt (Zp (W (fun x=>H x.2) V (B0 N l2)))⟩)⟩
  have l2:=D.le
  have T:=B0 N l2
  refine D9 (fun e=>hK (noM 4) (.inr (.inl ⟨⟨_,_,mk⟩,⟨_,_,F⟩,e,rfl⟩)) none 0 V T RowV.nil) (fun e=>?_)
  obtain rfl:C=mid:=by have:=mk.ec;have:=F.er;omega
  have ad:=hK _ (.inr (.inr ⟨rows,C,p,mk,F,rfl⟩))
  obtain ⟨rfl,rfl,_,_,_,_,rfl,_⟩:=id mk
  obtain ⟨rfl,rfl,_,_,_,_,rfl,_⟩:=id F
  have ms:=B0h hs
  have ag:=B0h hs2
  have aj:=hd _ _ mk
  have a3:C*(2*m+1)<=d*(2*m+1):=aJ _ aj
  have ax:C*m<=d*m:=aJ _ aj
  have az:d*(2*m+1)=2*(d*m)+d:=gz0
  have a4:rows*p<=64*64:=aP oo oo
  refine Pl (m:=m) (gl.mono T) ((own.vis G2).mono G2 l2) (aE _) oo oo oo hs oo ?_
  intro A3 c3 h3 l3 av
  refine ⟨_,_,_,rfl,?_⟩
  refine A1a ((D.vis G2).mono G2 l3) oo oo ?_
  intro A4 c4 h4 l4 ai aa
  refine ⟨_,_,_,rfl,l4,?_⟩
  have af:=B0 T (B0 l3 l4)
  rw [cH C p] at aa ai ⊢
  refine Pl (m:=m) (gl.mono af) aa ai oo oo oo (fun i hi=>?_) oo ?_
  ·have an:i/C<p:=aQ gz0
   exact hs2 _ (R4 (cO i (show 0<C from oo)) an)
  intro A5 c5 h5 l5 al
  have aw:aW (VQr C) h5 A5 p (fun j i=>mtx (rvs lb) p i j):=by
   obtain ⟨vs,sv,el,rr⟩:=al
   refine ⟨vs,sv,el,fun j hj=>?_⟩
   obtain ⟨w,e1,hw⟩:=rr j hj
   refine ⟨w,e1,?_⟩
   have:=VQr.congr (f':=fun i=>mtx (rvs lb) p i j) hw fun i hi=>?_
   ·exact this
   ·show rvs lb ((j*C+i)%C*p+(j*C+i)/C)=rvs lb (i*p+j)
    rw [bO (j*C) i,aR,aX hi,aU _ _ oo,aY hi,aS]
  refine ⟨_,_,_,rfl,l5,?_⟩
  have am:=B0 af l5
  have aq:=B0 l4 l5
  have ao:C4 ((rows:Int)*(p:Int))=((rows*p:Nat):Int):=by exact J4 oo
  rw [ao]
  refine I3 Zq (zx:=S3) rfl oo oo oo oo ?_
  intro b hb
  have sz:∀ i j,i<rows->j<p->Sz (1+d*(2*m+1)) (sm C (fun t=>mtx (rvs la) C i t*mtx (rvs lb) p t j)):=fun i j hi hj=>(Jr (f:=fun t=>mtx (rvs la) C i t) (f2:=fun t=>mtx (rvs lb) p t j) (fun t O=>ms i t hi O) (fun t O=>ag t j O hj) C (aE _)).mono oo
  refine ⟨_,_,_,rfl,fun L hp=>∃ (k:Nat) (g o:aH) (xs:List QV) (A':Option aL) (c':Nat),k<=rows/\L=[.slice A' (k*p) c',I (k:Int)]/\h5.le g/\Sep hp g o/\cG o 244 A' c' xs/\xs.length=k*p/\Row RQr g xs (k*p) (fun k=>sm C (fun j=>mtx (rvs la) C (k/p) j*mtx (rvs lb) p j (k%p))),fun L _=>rows-(iAt L 1).toNat,
   ⟨0,h5,An.put b _,[],some ⟨b,0,none⟩,rows*p,oo,gz0,B7 _,V8 hb,Pe,by simp,by rw [bN];exact Row.nil⟩,?_⟩
  rintro rA rn rc z hp ⟨k,g,o,xs,A',c',hk,eL,lg,s,ow,ac,rr⟩
  obtain ⟨⟨rfl,rfl,rfl⟩,rfl⟩:=eL
  refine C0 (fun a2=>?_) (fun a7=>?_)
  ·have S:k<rows:=oo
   have ae:(k+1)*p=k*p+p:=gz0
   have a1:(k+1)*p<=rows*p:=aJ _ S
   obtain ⟨a,v,ea,iv,c0,c1,ap⟩:=(av.mono (A76 C) (B0 aq lg)).vat S
   refine ⟨a,ea,oo,oo,_,_,_,_,_,_,_,C2 s.le c0,C2 s.le c1,C2 s.le ap,?_⟩
   refine ⟨fun L hp=>∃ (j:Nat) (g' o:aH) (xs:List QV) (A':Option aL) (c':Nat),j<=p/\L=[.slice A' (k*p+j) c',I (j:Int)]/\g.le g'/\Sep hp g' o/\cG o 244 A' c' xs/\xs.length=k*p+j/\Row RQr g' xs (k*p+j) (fun k=>sm C (fun j=>mtx (rvs la) C (k/p) j*mtx (rvs lb) p j (k%p))),fun L _=>p-(iAt L 1).toNat,
    ⟨0,g,o,xs,rA,rc,oo,rfl,B7 _,s,ow,ac,rr⟩,?_⟩
   rintro qA qn qc z a5 ⟨j,g2,o2,ys,A2,c2,hj,eL,G,s2,ak,E,X⟩
   obtain ⟨⟨rfl,rfl,rfl⟩,rfl⟩:=eL
   refine C0 (fun a0=>?_) (fun ay=>?_)
   ·have M:j<p:=oo
    obtain ⟨a6,u,ar,iu,d0,d1,d2⟩:=(aw.mono (A76 C) (B0 lg G)).vat M
    refine ⟨a6,ar,oo,oo,_,_,_,_,_,_,_,C2 s2.le d0,C2 s2.le d1,C2 s2.le d2,?_⟩
    refine s2.call (A6f (m:=m) (v:=v) (u:=u) (gl.mono (B0 am (B0 lg G))) (A76 C _ _ _ _ G iv) iu oo (fun t O=>ms k t S O) (fun t O=>ag t j O M) hm1 oo ?_)
    intro q g7 l7 iq h7 s7
    refine ⟨_,_,_,_,_,_,_,_,rfl,?_⟩
    refine K6 (ty:=232) Zq s7 ak E.symm (y:=q) rfl dc oo oo ?_
    intro A8 c8 h8 g8 o8 l8 s8 au _
    rw [E,wiS j oo]
    refine ⟨⟨j+1,g8,o8,_,A8,c8,oo,by rw [cN],B0 G (B0 l7 l8),s8,au,gz0,?_⟩,?_⟩
    ·have rB:=Row.push (R:=RQr) (g:=g8) (xs:=ys) (f:=fun k=>sm C (fun j=>mtx (rvs la) C (k/p) j*mtx (rvs lb) p j (k%p))) (by rw [E];exact X.mono G2 (B0 l7 l8)) (w:=q) (by
      show RQ g8 q (sm C (fun t=>mtx (rvs la) C (ys.length/p) t*mtx (rvs lb) p t (ys.length%p)))
      rw [E,bO (k*p) j,aR,aX M,aU _ _ oo,aY M,aS]
      exact G2 _ _ _ _ l8 iq)
     grind
    ·show p-((j+1:Nat):Int).toNat<p-(j:Int).toNat
     omega
   ·have:j=p:=oo
    subst this
    rw [wiS k oo,<- ae]
    rw [<- ae] at E X
    refine ⟨⟨k+1,g2,o2,ys,qA,qc,oo,rfl,B0 lg G,s2,ak,E,X⟩,?_⟩
    show rows-((k+1:Nat):Int).toNat<rows-(k:Int).toNat
    omega
  ·have:k=rows:=oo
   subst this
   have ah:=B0 am (B0 lg s.le)
   have rq:aW RQr hp rA (k*p) (fun t=>sm C (fun j=>mtx (rvs la) C (t/p) j*mtx (rvs lb) p j (t%p))):=⟨xs,ow.slF s.ole,ac,rr.mono G2 s.le⟩
   refine Jz (m:=1+d*(2*m+1)) (gl.mono ah) rq oo (fun t O=>?_) oo ?_
   ·exact sz _ _ (aQ gz0) (cO t (show 0<p from oo))
   intro b9 h9 Q
   exact ⟨_,_,_,_,_,rfl,ad _ _ h9 (B0 ah Q.le) (Q.vis E9)⟩
 ·refine V5 (gl.mono N) (rb.mono E9 N) hn2 hl2 (fun C p F b2 V D=>⟨_,_,_,_,rfl,Zp (W (fun x=>H x.1) V (B0 N D.le))⟩) (fun _ V l2=>⟨_,_,_,_,rfl,Zp (W (fun x=>H x.1) V (B0 N l2))⟩)
end
def SolvO(r c:Int)(n:Nat)(la:Nat->List UInt8)(n2:Nat)(lx:Nat->List UInt8)(o:VOut):Prop:=
 (¬ (Mx r c n la/\∀ i,i<n2->IsNum (lx i))/\o=noV 1)\/(Mx r c n la/\(∀ i,i<n2->IsNum (lx i))/\(n2:Int)≠r/\o=noV 4)\/(∃ rows cols,MOk r c n la rows cols/\(∀ i,i<n2->IsNum (lx i))/\(n2:Int)=r/\((Cq (rvs la) (rvs lx) rows cols/\o=⟨cols,fun i=>E8 (Qf (rvs la) (rvs lx) rows cols i),0⟩)\/(¬ Cq (rvs la) (rvs lx) rows cols/\o=noV 8)))
def SolvO.eq{r c:Int}{n n2:Nat}{la lx:Nat->List UInt8}{o p:VOut}(x:SolvO r c n la n2 lx o)(y:SolvO r c n la n2 lx p):o=p:=by
 rcases x with ⟨h1,rfl⟩|⟨h1,h2,h3,rfl⟩|⟨r1,c1,h1,h2,h3,h4⟩<;>rcases y with ⟨g1,rfl⟩|⟨g1,g2,g3,rfl⟩|⟨r2,c2,g1,g2,g3,g4⟩
 ·rfl
 ·grind
 ·exact absurd ⟨⟨_,_,g1⟩,g2⟩ h1
 ·grind
 ·rfl
 ·omega
 ·exact absurd ⟨⟨_,_,h1⟩,h2⟩ g1
 ·omega
 ·obtain rfl:r2=r1:=by have:=h1.er;have:=g1.er;omega
  obtain rfl:c2=c1:=by have:=h1.ec;have:=g1.ec;omega
  grind
def C3j(r c:Int)(n:Nat)(la:Nat->List UInt8)(n2:Nat)(lx:Nat->List UInt8)(e:Int)(ny:Nat)(fy:Nat->List UInt8):Prop:=
 (e≠8/\ny=0)\/(e=8/\∃ rows cols,MOk r c n la rows cols/\(∀ i,i<n2->IsNum (lx i))/\(n2:Int)=r/\¬ Cq (rvs la) (rvs lx) rows cols/\ny=rows/\fy=fun i=>E8 (Qf (A2q (rvs la) (rvs lx) rows cols) (B2w cols) (cols+1) rows i))
def A54{E b:Nat->Rat}{rows cols m nq:Nat}(hs:∀ i,i<rows*cols->Sz m (E i))(hb:∀ i,i<rows->Sz m (b i))(hm:1<=m)(hnq:(Li E b rows cols).cs.length<=nq):∀ j,Sz (7^nq*m) (Qf E b rows cols j):=
 A90 (m:=m) (Qw nq m hm) (B11 (n:=rows) (w:=cols+1) (c:=cols) (B0h (Wz hs hb)) hm o hnq (aE _)).1
def A97{E b:Nat->Rat}{rows cols m:Nat}(hr:1<=rows)(hs:∀ i,i<rows*cols->Sz m (E i))(hb:∀ i,i<rows->Sz m (b i)):∀ i,i<(cols+1)*rows->Sz m (A2q E b rows cols i):=by
 intro i a
 unfold A2q
 by_cases e:i<cols*rows
 ·rw [iP e]
  refine hs _ (R4 (cO i o) (aQ gz0))
 grind
def A99{cols m:Nat}(hm:1<=m):∀ i,i<cols+1->Sz m (B2w cols i):=by
 intro i _
 unfold B2w
 split
 ·exact ⟨ZB.one hm,ZB.one hm⟩
 ·exact Sz.zero hm
section
variable {h:aH} {K:VP} {A B:Option aL} {n n2 cap cap2 m:Nat} {r c:Int} {la lx:Nat->List UInt8}
def A1b(gl:Gl h)(ra:aW SSr h A n la)(rx:aW SSr h B n2 lx)(hn:n<=1000000)(hn2:n2<=1000000)(hl:LL n la)(hl2:LL n2 lx)(hs:∀ i,i<n->Sz m (rv (la i)))(hs2:∀ i,i<n2->Sz m (rv (lx i)))(hm1:1<=m)
 (hb1:∀ rows cols,MOk r c n la rows cols->∃ nq nk,(∀ j,j<=cols->(elE (Q4 (rvs la) (rvs lx) cols) rows (cols+1) j).cs.length<=nq)/\(∀ j,j<=rows->(elE (Q4 (A2q (rvs la) (rvs lx) rows cols) (B2w cols) rows) (cols+1) (rows+1) j).cs.length<=nk)/\2*(3^nq*bnd (cols+1) m)+1<=40000000/\2*(3^nk*bnd (rows+1) m)+1<=40000000/\7^nq*m<=40000000/\7^nk*m<=40000000)
 (hK:∀ o,SolvO r c n la n2 lx o->∀ ny fy,C3j r c n la n2 lx o.e ny fy->∀ A' cap' A2 cap2' h',h.le h'->aW SSr h' A' o.n o.f->aW SSr h' A2 ny fy->K (.tuple #[.slice A' o.n cap',.slice A2 ny cap2',I o.e]) h'):aN prog 111 #[Dx r c A n cap,.slice B n2 cap2] h K:=by
 refine (fnk func111 (own:=[2])) ?_
 have F:¬ (Mx r c n la/\∀ i,i<n2->IsNum (lx i))->∀ h',h.le h'->K (.tuple #[.slice none 0 0,.slice none 0 0,I 1]) h':=fun hx h' l=>hK (noV 1) (.inl ⟨hx,rfl⟩) 0 (fun _=>[]) (.inl ⟨dc,rfl⟩) none 0 none 0 h' l RowV.nil RowV.nil
 refine V5 gl ra hn hl (fun rows cols mk b1 h1 own=>?_) (fun g h1 s=>⟨_,_,_,_,rfl,?_⟩)
 ·have s:=own.le
  refine ⟨_,_,_,_,rfl,Cu (gl.mono s) (rx.mono E9 s) hn2 hl2 (fun d b2 D a=>⟨_,_,_,_,rfl,Br.nt (Br.nt ?_)⟩) (fun g D C=>⟨_,_,_,_,rfl,Br.nt (Zp (F (fun x=>g x.2) D (B0 s C)))⟩)⟩
  have C:=a.le
  have p:=B0 s C
  refine D9 (fun e=>hK (noV 4) (.inr (.inl ⟨⟨_,_,mk⟩,d,e,rfl⟩)) 0 (fun _=>[]) (.inl ⟨dc,rfl⟩) none 0 none 0 D p RowV.nil RowV.nil) (fun e=>?_)
  have N:=fun x=>hK ⟨cols,fun i=>E8 (Qf (rvs la) (rvs lx) rows cols i),0⟩ (.inr (.inr ⟨rows,cols,mk,d,e,.inl ⟨x,rfl⟩⟩)) 0 (fun _=>[]) (.inl ⟨show (0:Int)≠8 from dc,rfl⟩)
  have ah:=fun w=>hK (noV 8) (.inr (.inr ⟨rows,cols,mk,d,e,.inr ⟨w,rfl⟩⟩)) rows (fun i=>E8 (Qf (A2q (rvs la) (rvs lx) rows cols) (B2w cols) (cols+1) rows i)) (.inr ⟨rfl,rows,cols,mk,d,e,w,rfl,rfl⟩)
  obtain ⟨nq,nk,u1,u2,k1,k2,k3,k4⟩:=hb1 rows cols mk
  obtain rfl:n2=rows:=by have:=mk.er;omega
  obtain ⟨rfl,rfl,_,_,_,_,rfl,_⟩:=id mk
  have hX:=A54 hs hs2 hm1 (u1 cols (aE _))
  refine Me (nq:=nq) (E:=rvs la) (b:=rvs lx) (m:=m) (gl.mono p) ((own.vis G2).mono G2 C) (aE _) (a.vis G2) (aE _) oo oo oo oo hs hs2 u1 k1 (fun M b3 h3 H S=>⟨_,_,_,_,rfl,?_⟩) (fun g h3 H=>⟨_,_,_,_,rfl,?_⟩)
  ·refine V3 (m:=7^nq*m) (gl.mono (B0 p H)) S oo (fun i _=>hX i) k3 ?_
   intro b4 h4 t
   exact ⟨_,_,_,rfl,N M _ _ none 0 h4 (B0 p (B0 H t.le)) (t.vis E9) RowV.nil⟩
  ·refine Md ((own.vis G2).mono G2 (B0 C H)) oo oo ?_
   intro A4 c4 h4 g4 o4 xs l4 s4 ac u ai
   refine ⟨_,_,_,rfl,?_⟩
   have W:=B0 p (B0 H l4)
   obtain ⟨ys,sy,ag,qy⟩:=(a.vis G2).mono G2 (B0 H l4)
   refine OwnSl.app (ty:=232) Zq s4 ac u.symm ag.symm gz0 (sy.mono s4.le) oo oo ?_
   intro A5 c5 h5 g5 o5 l5 Q L _
   refine ⟨_,_,_,rfl,?_⟩
   have e2:n2*cols+n2=(cols+1)*n2:=gz0
   have G:(xs++ys).length=(cols+1)*n2:=gz0
   have r5:aW RQr h5 A5 ((cols+1)*n2) (A2q (rvs la) (rvs lx) n2 cols):=by
    refine ⟨xs++ys,L.slF Q.ole,G,?_⟩
    rw [<- e2]
    refine Row.app u (((ai.mono G2 l5).mono G2 Q.le).congr fun k hk=>?_) (((qy.mono G2 l5).mono G2 Q.le).congr fun k hk=>?_)
    ·unfold A2q
     grind
    ·unfold A2q
     rw [cH cols n2,iN oo,Nat.add_sub_cancel_left]
   have af:(cols+1)*n2<=c5:=by have:=L.1;omega
   have aj:=B0 W (B0 l5 Q.le)
   rw [u,e2]
   have ew:C4 ((cols:Int)+1)=((cols+1:Nat):Int):=C1 oo oo
   rw [ew]
   refine I3 Zq (zx:=S3) rfl oo oo oo oo ?_
   intro b6 ad
   have s6:=(Sep.refl h5).new ad (.cells ((aC (cols+1) S3).flatMap enc).toArray 244)
   refine ⟨_,_,_,rfl,s6.call (Jo ⟨oo,oo⟩ ?_)⟩
   intro w7 g7 V i7 h7 s7
   refine ⟨_,_,_,_,_,_,_,_,rfl,s6.le_le s7 V,_,rfl,oo,oo,?_⟩
   refine Q1 Fi (y:=w7) rfl s7 RowX.mk (i:=cols) gz0 ?_
   intro h8 o8 x8 al R ae
   have z:=B0 aj (B0 V R.le)
   have T:=B0 V R.le
   have r0:Row RQr g7 (aC (cols+1) S3) (cols+1) (fun _=>0):=fun i hi=>⟨S3,gz0,RQ.zero⟩
   have r8:aW RQr h8 (some ⟨b6,0,none⟩) (cols+1) (B2w cols):=⟨_,ae.rowB.slF R.ole,gz0,((r0.upd gz0 i7).mono G2 R.le)⟩
   have X:=A54 (A97 oo hs hs2) (A99 (cols:=cols) hm1) hm1 (u2 n2 (aE _))
   refine Me (nq:=nk) (E:=A2q (rvs la) (rvs lx) n2 cols) (b:=B2w cols) (rows:=cols+1) (cols:=n2) (m:=m) (gl.mono z) (r5.mono G2 T) af r8 (aE _) oo oo oo oo (A97 oo hs hs2) (A99 hm1) u2 k2 (fun M b9 h9 l9 S=>⟨_,_,_,_,rfl,?_⟩) (fun O _ _=>absurd (B8p g) O)
   refine V3 (m:=7^nk*m) (gl.mono (B0 z l9)) S oo (fun i _=>X i) k4 ?_
   intro ak aa q
   exact ⟨_,_,_,rfl,ah g none 0 _ _ aa (B0 z (B0 l9 q.le)) RowV.nil (q.vis E9)⟩
 ·refine Cu (gl.mono s) (rx.mono E9 s) hn2 hl2 (fun d b2 D a=>⟨_,_,_,_,rfl,Zp (F (fun x=>g x.1) D (B0 s a.le))⟩) (fun _ D C=>⟨_,_,_,_,rfl,Zp (F (fun x=>g x.1) D (B0 s C))⟩)
def A42(gl:Gl h)(ra:aW SSr h A n la)(rx:aW SSr h B n2 lx)(hn:n<=1000000)(hn2:n2<=1000000)(hl:LL n la)(hl2:LL n2 lx)(hs:∀ i,i<n->Sz m (rv (la i)))(hs2:∀ i,i<n2->Sz m (rv (lx i)))(hm1:1<=m)
 (hb1:∀ rows cols,MOk r c n la rows cols->2*(3^cols*bnd (cols+1) m)+1<=40000000/\2*(3^rows*bnd (rows+1) m)+1<=40000000/\7^cols*m<=40000000/\7^rows*m<=40000000)
 (hK:∀ o,SolvO r c n la n2 lx o->∀ ny fy,C3j r c n la n2 lx o.e ny fy->∀ A' cap' A2 cap2' h',h.le h'->aW SSr h' A' o.n o.f->aW SSr h' A2 ny fy->K (.tuple #[.slice A' o.n cap',.slice A2 ny cap2',I o.e]) h'):aN prog 111 #[Dx r c A n cap,.slice B n2 cap2] h K:=A1b gl ra rx hn hn2 hl hl2 hs hs2 hm1 (fun rows cols mk=>⟨cols,rows,fun j a=>bY (U8 _ rows j).1 a,fun j a=>bY (U8 _ (cols+1) j).1 a,hb1 rows cols mk⟩) hK
end
end Go.Proofs.YtkfhdoblhajcbaaGreatDoor
namespace Go.Proofs.YtkfhdoblhajcbaaGreatDoor
set_option maxRecDepth 20000
def ldA(A:Nat->Nat->Rat):Nat->Nat->Nat->Rat
 | 0=>A
 | k+1=>fun i j=>if ldA A k k k=0 then ldA A k i j else ldA A k i j-ldA A k i k*(ldA A k k j/ldA A k k k)
def Rc(A:Nat->Nat->Rat)(n k:Nat):Prop:=0<=ldA A k k k/\(ldA A k k k=0->∀ i,k<i->i<n->ldA A k i k=0)
def ldL(A:Nat->Nat->Rat)(i k:Nat):Rat:=if i=k then 1 else if i<k then 0 else if ldA A k k k=0 then 0 else ldA A k i k/ldA A k k k
def ldD(A:Nat->Nat->Rat)(k:Nat):Rat:=ldA A k k k
def A2l(n:Nat)(A:Nat->Nat->Rat):Prop:=∀ i j,i<n->j<n->A i j=A j i
def B3k{A:Nat->Nat->Rat}{n:Nat}(hs:A2l n A):∀ k,k<=n->A2l n (ldA A k):=by
 intro k
 induction k with
 | zero=>exact fun _=>hs
 | succ k ih=>
  intro c i j b a
  have h:=ih o
  show (if ldA A k k k=0 then ldA A k i j else _)=(if ldA A k k k=0 then ldA A k j i else _)
  split
  ·exact h i j b a
  ·rw [h i j b a,h i k b o,h k j o a]
   grind
def A5p{A:Nat->Nat->Rat}{n:Nat}(hs:A2l n A):∀ k,k<=n->(∀ m,m<k->Rc A n m)->∀ i j,i<n->j<n->i<k\/j<k->ldA A k i j=0:=by
 intro k
 induction k with
 | zero=>omega
 | succ k ih=>
  intro g a i j q l h
  have d:=B3k hs k o
  obtain ⟨_,p⟩:=a k o
  have row:ldA A k k k=0->∀ b,b<n->ldA A k k b=0:=fun e b f=>by
   rcases cQ b k with c|c|c
   ·grind
   ·grind
   ·rw [d k b o f];grind
  show (if ldA A k k k=0 then ldA A k i j else _)=0
  grind
structure LdR (n k:Nat) (A:Nat->Nat->Rat) (s:ES):Prop where
 len:s.cs.length<=k
 low:∀ i j,k<=i->i<n->j<n->s.R i j=ldA A k i j
 zero:∀ i j,s.cs.length<=i->i<k->j<n->s.R i j=0
def LdR.row{n k:Nat}{A:Nat->Nat->Rat}{s:ES}(h:LdR n k A s)(hk:k<n)(hne:ldA A k k k≠0):Gg n k s=k:=by
 have c:=h.len
 refine We _ c o (fun j a b=>?_) fun _=>?_
 ·rw [h.zero j k a b hk];decide
 ·rw [h.low k k (aE _) hk hk];grind
def LdR.none{n k:Nat}{A:Nat->Nat->Rat}{s:ES}(h:LdR n k A s)(hk:k<n)(he:ldA A k k k=0)(hok:Rc A n k):Gg n k s=n:=by
 have d:=h.len
 refine We _ o o (fun j a b=>?_) fun c=>by omega
 by_cases c:j<k
 ·rw [h.zero j k a c hk];decide
 ·rw [h.low j k o b hk]
  by_cases e:j=k
  ·grind
  ·rw [hok.2 he j o b];decide
def LdR.step{n k:Nat}{A:Nat->Nat->Rat}{s:ES}(hs:A2l n A)(hk:k<n)(hok:∀ m,m<=k->Rc A n m)(h:LdR n k A s):LdR n (k+1) A (Y8 n k s):=by
 have y:=h.len
 have z:=A5p hs k o fun m p=>hok m o
 have t:=A5p hs (k+1) o fun m p=>hok m o
 unfold Y8
 rw [iP (show s.cs.length<n from o)]
 by_cases e:ldA A k k k=0
 ·rw [h.none hk e (hok k (aE _)),iN (dE n)]
  refine ⟨gz0,fun i j f a d=>?_,fun i j f g d=>?_⟩
  ·show s.R i j=(if ldA A k k k=0 then ldA A k i j else _)
   rw [iP e];exact h.low i j o a d
  ·show s.R i j=0
   by_cases c:i=k
   ·rw [c,h.low k j (aE _) hk d]
    have:=t k j hk d (.inl o)
    rw [show ldA A (k+1) k j=(if ldA A k k k=0 then ldA A k k j else ldA A k k j-ldA A k k k*(ldA A k k j/ldA A k k k)) from rfl,iP e] at this
    exact this
   ·exact h.zero i j f o d
 ·rw [h.row hk e,iP hk]
  have w:(s.cs++[k]).length=s.cs.length+1:=by simp
  have q:=If s.cs.length k
  refine ⟨gz0,fun i j f a d=>?_,fun i j f g d=>?_⟩
  ·show elimE (fun i=>s.R (xch s.cs.length k i)) s.cs.length k i j=(if ldA A k k k=0 then ldA A k i j else _)
   have u:xch s.cs.length k i=i:=by unfold xch;grind
   unfold elimE
   simp only [q,u]
   rw [h.low i k o a hk,h.low i j o a d,h.low k j (aE _) hk d,h.low k k (aE _) hk hk]
   grind
  ·show elimE (fun i=>s.R (xch s.cs.length k i)) s.cs.length k i j=0
   have r:(s.cs++[k]).length<=i:=f
   have B:∀ b,b<n->s.R (xch s.cs.length k i) b=0:=fun b l=>by
    unfold xch
    rw [iN o]
    split
    ·exact h.zero _ b (aE _) o l
    ·exact h.zero i b o o l
   unfold elimE
   grind
def LdR.run{n:Nat}{A:Nat->Nat->Rat}(hs:A2l n A):∀ k,k<=n->(∀ m,m<k->Rc A n m)->LdR n k A (Nq n ⟨A,[],1⟩ k):=by
 intro k
 induction k with
 | zero=>exact fun _ _=>⟨aE _,fun _ _ _ _ _=>rfl,fun i j _ h _=>o⟩
 | succ k ih=>exact fun c a=>LdR.step hs o (fun m b=>a m o) (ih o fun m b=>a m o)
def qf(n:Nat)(A:Nat->Nat->Rat)(x:Nat->Rat):Rat:=sm n fun i=>x i*sm n fun j=>A i j*x j
def B71{A:Nat->Nat->Rat}{i k:Nat}(h:i<k):ldL A i k=0:=by unfold ldL;grind
def B70(A:Nat->Nat->Rat)(k:Nat):ldL A k k=1:=by unfold ldL;grind
end Go.Proofs.YtkfhdoblhajcbaaGreatDoor
namespace Go.Proofs.YtkfhdoblhajcbaaGreatDoor
set_option maxRecDepth 20000
def A0f{n:Nat}{f:Nat->Rat}(h:∀ i,i<n->0<=f i):0<=sm n f:=by
 induction n with
 | zero=>exact Rat.le_refl
 | succ n ih=>
  show 0<=sm n f+f n
  have a:=ih fun i b=>h i o
  have c:=h n o
  grind
def Dj{n:Nat}{f:Nat->Rat}(h:∀ i,i<n->0<=f i)(hz:sm n f<=0):∀ i,i<n->f i=0:=by
 induction n with
 | zero=>intro i a;omega
 | succ n ih=>
  have e:sm (n+1) f=sm n f+f n:=rfl
  rw [e] at hz
  have b:=A0f fun i (a:i<n)=>h i o
  have d:=h n o
  intro i a
  by_cases c:i=n
  ·rw [c];grind
  ·exact ih (fun i a=>h i o) gz0 i o
def ev(n:Nat)(f x:Nat->Rat):Rat:=sm n fun j=>f j*x j
structure Diag (n:Nat) (A:Nat->Nat->Rat) (d:Nat->Rat) (F:Nat->Nat->Rat):Prop where
 val:∀ x,qf n A x=sm n fun m=>d m*(ev n (F m) x*ev n (F m) x)
 inj:∀ x,(∀ m,m<n->ev n (F m) x=0)->∀ j,j<n->x j=0
structure PD (n k:Nat) (A0:Nat->Nat->Rat) (d:Nat->Rat) (F A:Nat->Nat->Rat):Prop where
 val:∀ x,qf n A0 x=sm k (fun m=>d m*(ev n (F m) x*ev n (F m) x))+qf n A (fun i=>ev n (F i) x)
 inj:∀ x,(∀ m,m<n->ev n (F m) x=0)->∀ j,j<n->x j=0
 zero:∀ i j,i<n->j<n->i<k\/j<k->A i j=0
 symm:A2l n A
end Go.Proofs.YtkfhdoblhajcbaaGreatDoor
namespace Go.Proofs.YtkfhdoblhajcbaaGreatDoor
set_option maxRecDepth 20000
structure TE (n k:Nat) (R:Nat->Nat->Rat) (M:Nat->Nat->Int) (S:Nat->Rat) (last:Int):Prop where
 elim:∃ B R',(∀ i j,i<n->j<n->Wh (B i j))/\Elim n n B R' (fun m=>m) k/\(last:Rat)=dp B (fun m=>m) k/\∀ i j,k<=i->i<n->j<n->R' i j=S i*R i j
 ne:last≠0
 val:∀ i j,k<=i->i<n->j<n->(M i j:Rat)=last*(S i*R i j)
 scale:∀ i,k<=i->i<n->0<S i
end Go.Proofs.YtkfhdoblhajcbaaGreatDoor
namespace Go.Proofs.YtkfhdoblhajcbaaGreatDoor
set_option maxRecDepth 20000
end Go.Proofs.YtkfhdoblhajcbaaGreatDoor
namespace Go.Proofs.YtkfhdoblhajcbaaGreatDoor
set_option maxRecDepth 20000
end Go.Proofs.YtkfhdoblhajcbaaGreatDoor
namespace Go.Proofs.YtkfhdoblhajcbaaGreatDoor
set_option maxRecDepth 20000
section
variable {m n s k Y:Nat} {M:Nat->Nat->Rat} {w b x y:Nat->Rat}
end
end Go.Proofs.YtkfhdoblhajcbaaGreatDoor
namespace Go.Proofs.YtkfhdoblhajcbaaGreatDoor
set_option maxRecDepth 20000
def O4{cs:List Nat}{m:Nat}(h:m<cs.length):cs.getD m 0∈cs:=by
 rw [cY,bJ h]
 exact List.getElem_mem h
def B08{R:Nat->Nat->Rat}{cs:List Nat}{c:Nat}(hc:c∉cs):∀ k,k<=cs.length->∀ j,A3z R cs c k j=(if j=c then 1 else 0)+A9m (fun m=> - R m c) cs k j:=by
 intro k
 induction k with
 | zero=>intro _ j;show (if j=c then (1:Rat) else 0)=_+0;rw [Rat.add_zero]
 | succ k ih=>
  intro f j
  have b:=ih o j
  have a:cs.getD k 0≠c:=fun e=>hc (e▸O4 o)
  show (if j=cs.getD k 0 then-R k c else A3z R cs c k j)=(if j=c then 1 else 0)+(if j=cs.getD k 0 then-R k c else A9m (fun m=> - R m c) cs k j)
  by_cases e:j=cs.getD k 0
  ·rw [iP e,iP e,iN (fun d=>a (by rw [<- e,d])),dH]
  ·rw [iN e,iN e,b]
def Yk{M:Nat->Nat->Rat}{n w l:Nat}(hl:l<(Kh (ecE M n w).cs w).length){i:Nat}(hi:i<n):sm w (fun t=>M i t*B72 (ecE M n w).R (ecE M n w).cs w l t)=0:=by
 have h:=EqA.run (n:=n) (w:=w) M w (aE w)
 have d:Asc (ecE M n w).cs w:=Fn n ⟨M,[],1⟩ rfl w
 obtain ⟨f,q⟩:=My (ecE M n w).cs w _ (O4 hl)
 unfold B72
 generalize (Kh (ecE M n w).cs w).getD l 0=c at *
 obtain ⟨B,E,z,_⟩:=h.elim
 have r:=h.zero
 change ZrE n w (ecE M n w) at r
 change Elim n w B (ecE M n w).R (fun m=>(ecE M n w).cs.getD m 0) (ecE M n w).cs.length at E
 generalize ecE M n w=s at *
 obtain ⟨a,b,e⟩:=z i hi
 have g:∀ j,j<w->B a j=sm s.cs.length fun m=>B a (s.cs.getD m 0)*s.R m j:=fun j p=>by
  by_cases u:a<s.cs.length
  ·exact E.top a j u p
  ·rw [E.bot a j b o p,r a j b o p,dH]
 have y:sm w (fun t=>M i t*A3z s.R s.cs c s.cs.length t)=sm w (fun t=>B a t*(if t=c then 1 else 0)+B a t*Vn (fun _=>0) (fun m=> - s.R m c) 0 s.cs t):=C5 fun t _=>by
  rw [B08 q s.cs.length (aE _) t,Xu,<- e t]
  grind
 rw [y,Ce,V4 f fun t _ k=>by rw [iN k,aZ],iP rfl,Rat.mul_one,A8x _ _ (A2e d) d.lt,g c f]
 have A:(sm s.cs.length fun m=>B a (s.cs.getD m 0) * - s.R m c)= - sm s.cs.length fun m=>B a (s.cs.getD m 0)*s.R m c:=by
  rw [<- Jd]
  exact C5 fun m _=>by grind
 rw [A]
 grind
def N8(E:Nat->Rat)(n:Nat):Nat->Rat:=fun k=>if k%(n+n)<n then E (k/(n+n)*n+k%(n+n)) else if k%(n+n)=n+k/(n+n) then 1 else 0
def Ii(E:Nat->Rat){n i j:Nat}(hj:j<n+n):N8 E n (i*(n+n)+j)=if j<n then E (i*n+j) else if j=n+i then 1 else 0:=by
 have b:(i*(n+n)+j)/(n+n)=i:=by rw [bO,aU _ _ o,aY hj,aS]
 have a:(i*(n+n)+j)%(n+n)=j:=by rw [bO,aR,aX hj]
 unfold N8
 grind
def A4s{E:Nat->Rat}{n m:Nat}(hm:1<=m)(hs:∀ i,i<n*n->Sz m (E i)):∀ i,i<n*(n+n)->Sz m (N8 E n i):=by
 intro i b
 have a:i/(n+n)<n:=aQ gz0
 unfold N8
 split
 ·rename_i h;exact hs _ (R4 a h)
 ·split
  ·exact ⟨ZB.one hm,ZB.one hm⟩
  ·exact Sz.zero hm
def No(E:Nat->Rat)(n:Nat):Prop:=(elE (N8 E n) n (n+n) n).cs.length=n
def Sr(E:Nat->Rat)(n:Nat):Nat->Nat->Rat:=fun i j=>(elE (N8 E n) n (n+n) n).R i (n+j)
def InvO(r c:Int)(n:Nat)(la:Nat->List UInt8)(o:MOut):Prop:=
 (¬ Mx r c n la/\o=noM 1)\/(Mx r c n la/\r≠c/\o=noM 4)\/(∃ q,MOk r c n la q q/\((No (rvs la) q/\o=⟨r,r,q*q,K8 (Sr (rvs la) q) q,0⟩)\/(¬ No (rvs la) q/\o=noM 7)))
def InvO.eq{r c:Int}{n:Nat}{la:Nat->List UInt8}{o p:MOut}(x:InvO r c n la o)(y:InvO r c n la p):o=p:=by
 rcases x with ⟨h1,rfl⟩|⟨h1,h2,rfl⟩|⟨q1,h1,h4⟩<;>rcases y with ⟨g1,rfl⟩|⟨g1,g2,rfl⟩|⟨q2,g1,g4⟩
 ·rfl
 ·grind
 ·exact absurd ⟨_,_,g1⟩ h1
 ·grind
 ·rfl
 ·exact absurd (by rw [g1.er,g1.ec]) h2
 ·exact absurd ⟨_,_,h1⟩ g1
 ·exact absurd (by rw [h1.er,h1.ec]) g2
 ·obtain rfl:q2=q1:=by have:=h1.er;have:=g1.er;omega
  grind
section
variable {h:aH} {K:VP} {A:Option aL} {n cap m:Nat} {r c:Int} {la:Nat->List UInt8}
def Yg(gl:Gl h)(ra:aW SSr h A n la)(hn:n<=1000000)(hl:LL n la)(hs:∀ i,i<n->Sz m (rv (la i)))(hm1:1<=m)(hb:∀ q,MOk r c n la q q->2*(3^q*bnd (q+q) m)+1<=40000000)
 (hK:∀ o,InvO r c n la o->∀ A' cap' h',h.le h'->aW SSr h' A' o.n o.f->K (.tuple #[Dx o.r o.c A' o.n cap',I o.e]) h'):aN prog 148 #[Dx r c A n cap] h K:=by
 refine (fnk func148 [(9,[7,35],[],[.slice none 0 0,I 0]),(22,[14,80],[],[.slice none 0 0,I 0]),(25,[14,89],[],[.slice none 0 0,I 0])] (own:=[1,2,12,17]) (wr:=[152])) ?_
 refine V5 gl ra hn hl (fun rows cols mk b1 p own=>?_) (fun a7 p l1=>⟨_,_,_,_,rfl,Zp (hK (noM 1) (.inl ⟨a7,rfl⟩) none 0 p l1 RowV.nil)⟩)
 have l1:=own.le
 refine ⟨_,_,_,_,rfl,Br.nt (D9 (fun e=>hK (noM 4) (.inr (.inl ⟨⟨_,_,mk⟩,e,rfl⟩)) none 0 p l1 RowV.nil) (fun e=>?_))⟩
 obtain rfl:rows=cols:=by have:=mk.er;have:=mk.ec;omega
 have ar:=fun x=>hK ⟨r,r,rows*rows,K8 (Sr (rvs la) rows) rows,0⟩ (.inr (.inr ⟨rows,mk,.inl ⟨x,rfl⟩⟩))
 have bn:=fun x=>hK (noM 7) (.inr (.inr ⟨rows,mk,.inr ⟨x,rfl⟩⟩))
 have bz:=hb rows mk
 have:=mk.r1;have:=mk.r2
 obtain ⟨rfl,rfl,_,_,_,_,rfl,_⟩:=id mk
 clear e
 have ba:=own.vis G2
 have b2:rows*rows<=64*64:=aP oo oo
 have bw:rows*(rows+rows)<=64*128:=aP oo oo
 refine ⟨fun L hp=>∃ (k:Nat) (g o:aH) (xs:List QV) (A':Option aL) (F:Nat),k<=rows/\L=[.slice A' (k*(rows+rows)) F,I (k:Int)]/\p.le g/\Sep hp g o/\cG o 244 A' F xs/\xs.length=k*(rows+rows)/\Row RQr g xs (k*(rows+rows)) (N8 (rvs la) rows),fun L _=>rows-(iAt L 1).toNat,
  ⟨0,p,An,[],none,0,oo,gz0,B7 _,Sep.refl p,OwnSl.nil,by simp,by rw [bN];exact Row.nil⟩,?_⟩
 rintro wA wn wc z hp ⟨k,g,o,xs,A',F,hk,eL,lg,s,ow,D,rr⟩
 obtain ⟨⟨rfl,rfl,rfl⟩,rfl⟩:=sI2 eL
 refine C0 (fun aq=>?_) (fun bk=>?_)
 ·have C:k<rows:=oo
  have h2:(k+1)*rows<=rows*rows:=aJ _ C
  have W:(k+1)*rows=k*rows+rows:=gz0
  have h4:(k+1)*(rows+rows)=k*(rows+rows)+rows+rows:=gz0
  have h5:(k+1)*(rows+rows)<=rows*(rows+rows):=aJ _ C
  have e0:C4 ((k:Int)+1)=((k+1:Nat):Int):=C1 oo oo
  have e1:C4 ((k:Int)*(rows:Int))=((k*rows:Nat):Int):=by rw [<- aV];exact J4 oo
  have e2:C4 (C4 ((k:Int)+1)*(rows:Int))=(((k+1)*rows:Nat):Int):=by rw [e0,<- aV];exact J4 oo
  rw [e1,e2,e0]
  refine ⟨⟨oo,oo⟩,⟨oo,oo⟩,?_⟩
  simp only [aD]
  have e5:(k+1)*rows-k*rows=rows:=oo
  rw [e5]
  have row:aW RQr p (T9 (some ⟨b1,0,none⟩) (rows*rows) (k*rows) 4) rows (fun j=>rvs la (k*rows+j)):=ba.cut (c:=rows*rows) (l:=k*rows) (k:=rows) oo (aE _)
  obtain ⟨ys,sy,a,qy⟩:=row
  refine OwnSl.app (ty:=232) Zq s ow D.symm a.symm gz0 (sy.mono (B0 lg s.le)) oo oo ?_
  intro A2 c2 b6 g2 o2 l2 s2 bf _
  have an:=B0 lg l2
  have ae:(xs++ys).length=k*(rows+rows)+rows:=gz0
  have r1:Row RQr g2 (xs++ys) (k*(rows+rows)+rows) (N8 (rvs la) rows):=by
   refine Row.app D (rr.mono G2 l2) ((qy.mono G2 an).congr fun j hj=>?_)
   rw [Ii (rvs la) oo,iP hj]
  refine ⟨_,_,_,rfl,?_⟩
  rw [D]
  refine I3 Zq (zx:=S3) rfl oo oo oo oo ?_
  intro Q ac
  simp only [aD]
  have ob:∀ q x,o2 q=some x->q≠Q:=by
   rintro q x e rfl
   rw [s2.own q x e] at ac;cases ac
  refine ⟨_,_,_,rfl,Sep.call (s2.new ac _) (Jo ⟨oo,oo⟩ ?_)⟩
  intro wd g4 l4 a3 b7 s4
  have one:((1:Int):Rat)=1:=rfl
  rw [one] at a3
  refine ⟨_,_,_,_,_,_,_,_,rfl,_,rfl,oo,oo,?_⟩
  refine Q1 Fi (y:=wd) rfl s4 RowX.mk (i:=k) gz0 ?_
  intro b5 o5 x5 a9 s5 bo
  have a8:∀ k,k≠Q->o5 k=o2 k:=fun k hk=>by rw [a9,B9 _ _ hk,B9 _ _ hk]
  have r0:Row RQr g4 (aC rows S3) rows (fun _=>0):=fun i hi=>⟨S3,gz0,RQ.zero⟩
  have ru:Row RQr g4 ((aC rows S3).set k wd) rows (fun i=>if i=k then 1 else 0):=r0.upd gz0 a3
  obtain ⟨g8,l8,s8⟩:=s5.give (o2:=o2) (fun k x e=>gz0)
  have be:o2 Q=none:=by
   cases hx:o2 Q with
   | none=>rfl
   | some y=>grind
  have bh:RowX g8 Q ((aC rows S3).set k wd):=bo.keep fun x e=>by rw [<- s8.rest Q be];exact s5.own Q x e
  have bm:((aC rows S3).set k wd).length=rows:=gz0
  generalize (aC rows S3).set k wd=us at *
  refine OwnSl.app (ty:=232) Zq s8 bf ae.symm bm.symm gz0 ((bh.rowB.slF (B7 _)).mono s8.le) oo oo ?_
  intro A9 c9 h9 g9 o9 l9 s9 bc _
  rw [ae]
  have aw:=B0 l4 (B0 l8 l9)
  refine ⟨_,_,_,rfl,⟨k+1,g9,o9,_,A9,c9,oo,by rw [h4],B0 an aw,s9,bc,gz0,?_⟩,?_⟩
  ·rw [h4]
   refine Row.app ae (r1.mono G2 aw) ((ru.mono G2 (B0 l8 l9)).congr fun j hj=>?_)
   have ej:k*(rows+rows)+rows+j=k*(rows+rows)+(rows+j):=oo
   rw [ej,Ii (rvs la) (i:=k) (j:=rows+j) oo,iN (show ¬ rows+j<rows from oo)]
   grind
  ·show rows-((k+1:Nat):Int).toNat<rows-(k:Int).toNat
   omega
 have C:k=rows:=oo
 subst C
 have ew:C4 (2*(k:Int))=((k+k:Nat):Int):=by rw [C1]<;>omega
 rw [ew]
 have a4:=B0 l1 (B0 lg s.le)
 have rq:aW RQr hp wA (k*(k+k)) (N8 (rvs la) k):=⟨xs,ow.slF s.ole,D,rr.mono G2 s.le⟩
 have ay:=A4s hm1 hs
 refine Jq (E:=N8 (rvs la) k) (cc:=k) (m:=m) (gl.mono a4) rq (by have:=ow.1;omega) oo oo oo oo oo ay oo ?_
 intro T h2 N l2 e1 e2
 refine ⟨_,rfl,FCall.mono N ?_⟩
 rintro r3 W ⟨g3,o3,A3,br,w,l3,t3,bg,bi,az,rfl⟩
 refine ⟨_,_,_,_,_,_,_,_,rfl,?_⟩
 have X:=A1y (E:=N8 (rvs la) k) (rows:=k) (cols:=k+k) (c:=k) ay oo
 have a6:=Yx (N8 (rvs la) k) k (k+k) k (bnd (k+k) m)
 have ah:=A4b (N8 (rvs la) k) k (k+k) k
 have O:(elE (N8 (rvs la) k) k (k+k) k).cs.length=k->∀ i j,i<k->j<k->cF ((elP (N8 (rvs la) k) k (k+k) k).M i (k+j)) (elP (N8 (rvs la) k) k (k+k) k).last=Sr (rvs la) k i j:=fun al i j hi hj=>A5z (N8 (rvs la) k) oo hi oo (.inl oo)
 have al:(elE (N8 (rvs la) k) k (k+k) k).cs.length<=k/\(elE (N8 (rvs la) k) k (k+k) k).cs.length<=k:=U8 _ k k
 rw [A4c _ oo]
 have ad:h.le W:=B0 a4 (B0 l3 t3.sep.le)
 refine C0 (fun aq=>bn (fun hx=>by unfold No at hx;omega) none 0 W ad RowV.nil) (fun bk=>?_)
 have B:(elE (N8 (rvs la) k) k (k+k) k).cs.length=k:=oo
 have ax:=O B
 have af:=ar B
 clear O
 generalize elP (N8 (rvs la) k) k (k+k) k=st at *
 have ai:=X.M
 have V:=X.last
 clear X
 generalize 3^st.cs.length*bnd (k+k) m=bb at ai V a6
 have iw:ZIr W w st.last:=Dn _ _ _ _ t3.sep.le az
 have u:∀ g',W.le g'->∃ gT,Tab g' gT o3 T st.M st.S:=fun g' l=>by
  obtain ⟨gT,l',s'⟩:=t3.sep.after l
  exact ⟨gT,t3.next s' l'⟩
 clear t3 bg bi az N
 have a5:C4 ((k:Int)*(k:Int))=((k*k:Nat):Int):=by rw [<- aV];exact J4 oo
 rw [a5]
 refine I3 Zq (zx:=S3) rfl oo oo oo oo ?_
 intro b4 bp
 simp only [aD]
 refine ⟨_,_,_,rfl,fun L hp=>∃ (i:Nat) (g o:aH) (xs:List QV) (A':Option aL) (F:Nat),i<=k/\L=[.slice A' (i*k) F,I (i:Int)]/\W.le g/\Sep hp g o/\cG o 244 A' F xs/\xs.length=i*k/\Row RQr g xs (i*k) (fun t=>Sr (rvs la) k (t/k) (t%k)),fun L _=>k-(iAt L 1).toNat,
  ⟨0,W,An.put b4 _,[],some ⟨b4,0,none⟩,k*k,oo,gz0,B7 _,V8 bp,Pe,by simp,by rw [bN];exact Row.nil⟩,?_⟩
 rintro vA vn vc z bl ⟨i,g5,o5,am,A5,c5,hi,eL,b,s5,ao,H,a1⟩
 obtain ⟨⟨rfl,rfl,rfl⟩,rfl⟩:=sI2 eL
 refine C0 (fun aq=>?_) (fun a0=>?_)
 ·have a2:i<k:=oo
  have ap:(i+1)*k=i*k+k:=gz0
  have bv:(i+1)*k<=k*k:=aJ _ a2
  obtain ⟨gT,tT⟩:=u g5 b
  refine s5.call (W8 tT (i:=i) oo ?_)
  intro h6 s6
  have b8:=B0 b s6.le
  rw [e2]
  refine ⟨_,_,_,rfl,⟨oo,oo⟩,?_⟩
  simp only [aD,Nat.add_sub_cancel]
  refine ⟨fun L hp=>∃ (j:Nat) (g o:aH) (xs:List QV) (A':Option aL) (F:Nat),j<=k/\L=[.slice A' (i*k+j) F,I (j:Int)]/\g5.le g/\Sep hp g o/\cG o 244 A' F xs/\xs.length=i*k+j/\Row RQr g xs (i*k+j) (fun t=>Sr (rvs la) k (t/k) (t%k)),fun L _=>k-(iAt L 1).toNat,
   ⟨0,g5,o5,am,_,_,oo,rfl,B7 _,s6,ao,H,a1⟩,?_⟩
  rintro qA qn qc z bx ⟨j,g7,o7,ys,A7,c7,hj,eL,d,s7,av,a,aj⟩
  obtain ⟨⟨rfl,rfl,rfl⟩,rfl⟩:=sI2 eL
  refine C0 (fun bt=>?_) (fun a0=>?_)
  ·have aa:j<k:=oo
   obtain ⟨bu,ag⟩:=u g7 (B0 b d)
   obtain ⟨wv,zv,c0,c1⟩:=ag.at (i:=i) (j:=k+j) oo oo
   rw [D4,D4,e2] at c0 c1
   have bd:k<T.cE-i*(k+k):=by
    have p:=ag.cE
    rw [e1,e2] at p
    grind
   rw [Nf bd]
   have ak:∀ x,aK (aK (aK ⟨T.bE,i*(k+k)*2,none⟩ (k*2)) (j*2)) x=⟨T.bE,i*(k+k)*2+(k+j)*2+x,none⟩:=fun x=>by rw [D4,D4,D4];grind
   refine ⟨_,rfl,oo,oo,_,_,_,_,by simp only [aD];rw [ak];exact C2 s7.le c0,by simp only [aD];rw [ak];exact C2 s7.le c1,?_⟩
   refine s7.call (O5 (gl.mono (B0 ad (B0 b d))).tz (Dn _ _ _ _ ag.sep.le zv) (Dn _ _ _ _ (B0 b d) iw) (ai _ _ oo oo) V oo ?_)
   intro w9 g9 l9 i9 h9 s9
   rw [ax i j a2 aa] at i9
   refine ⟨_,_,_,_,_,_,_,_,rfl,?_⟩
   refine K6 (ty:=232) Zq s9 av a.symm (y:=w9) rfl dc oo oo ?_
   intro A8 c8 h8 g8 o8 l8 s8 bj _
   rw [a,wiS j oo]
   refine ⟨⟨j+1,g8,o8,_,A8,c8,oo,by rw [cN],B0 d (B0 l9 l8),s8,bj,gz0,?_⟩,?_⟩
   ·have rB:=Row.push (R:=RQr) (g:=g8) (xs:=ys) (f:=fun t=>Sr (rvs la) k (t/k) (t%k)) (by rw [a];exact aj.mono G2 (B0 l9 l8)) (w:=w9) (by
     show RQ g8 w9 (Sr (rvs la) k (ys.length/k) (ys.length%k))
     rw [a,bO (i*k) j,aR,aX aa,aU _ _ oo,aY aa,aS]
     exact G2 _ _ _ _ l8 i9)
    grind
   ·show k-((j+1:Nat):Int).toNat<k-(j:Int).toNat
    omega
  ·have:j=k:=oo
   subst this
   rw [wiS i oo,<- ap]
   rw [<- ap] at a aj
   refine ⟨⟨i+1,g7,o7,ys,qA,qc,oo,rfl,B0 b d,s7,av,a,aj⟩,?_⟩
   show j-((i+1:Nat):Int).toNat<j-(i:Int).toNat
   omega
 ·have:i=k:=oo
  subst this
  have au:=B0 ad (B0 b s5.le)
  have bq:aW RQr bl vA (i*i) (fun t=>Sr (rvs la) i (t/i) (t%i)):=⟨am,ao.slF s5.ole,H,a1.mono G2 s5.le⟩
  refine Jz (m:=bb) (gl.mono au) bq oo (fun t ht=>?_) oo ?_
  ·have p:t/i<i:=aQ ht
   have h2:=cO t (show 0<i from oo)
   rw [<- ax _ _ p h2]
   exact T3 ah (ai _ _ oo oo) V
  intro b9 h9 G
  exact ⟨_,_,_,_,_,rfl,af _ _ h9 (B0 au G.le) (G.vis E9)⟩
end
def Qu{n w:Nat}{M M':Nat->Nat->Rat}(h:∀ i j,i<n->j<w->M i j=M' i j):∀ c,c<=w->(Nq n ⟨M,[],1⟩ c).cs=(Nq n ⟨M',[],1⟩ c).cs/\∀ i j,i<n->j<w->(Nq n ⟨M,[],1⟩ c).R i j=(Nq n ⟨M',[],1⟩ c).R i j:=by
 intro c
 induction c with
 | zero=>exact fun _=>⟨rfl,h⟩
 | succ c ih=>
  intro p
  obtain ⟨e,d⟩:=ih o
  have k:Nq n ⟨M,[],1⟩ (c+1)=Y8 n c (Nq n ⟨M,[],1⟩ c):=rfl
  have m:Nq n ⟨M',[],1⟩ (c+1)=Y8 n c (Nq n ⟨M',[],1⟩ c):=rfl
  rw [k,m]
  generalize Nq n ⟨M,[],1⟩ c=s at *
  generalize Nq n ⟨M',[],1⟩ c=t at *
  have l:Gg n c s=Gg n c t:=by
   unfold Gg
   rw [e]
   exact A1t _ _ fun j _ _=>by rw [d j c o o]
  unfold Y8
  rw [l,e]
  by_cases a:t.cs.length<n
  ·rw [iP a,iP a]
   by_cases b:Gg n c t<n
   ·rw [iP b,iP b]
    refine ⟨rfl,fun i j g f=>?_⟩
    show elimE (fun i=>s.R (xch t.cs.length (Gg n c t) i)) t.cs.length c i j=elimE (fun i=>t.R (xch t.cs.length (Gg n c t) i)) t.cs.length c i j
    unfold elimE
    simp only [d _ c (Gc a b g) (show c<w from o),d _ c (Gc a b a) (show c<w from o),d _ j (Gc a b g) f,d _ j (Gc a b a) f]
   ·rw [iN b,iN b]
    exact ⟨rfl,d⟩
  ·rw [iN a,iN a]
   exact ⟨e,d⟩
def O9(n:Nat)(a:Rat)(f:Nat->Rat):sm n (fun i=>f i*a)=sm n f*a:=by
 rw [bX,<- J7]
 exact C5 fun i _=>bX _ _
def Xy{R:Nat->Nat->Rat}{cs:List Nat}{c:Nat}(hc:c∉cs):∀ k,k<=cs.length->A3z R cs c k c=1:=by
 intro k
 induction k with
 | zero=>intro _;show (if c=c then (1:Rat) else 0)=1;rw [iP rfl]
 | succ k ih=>
  intro a
  show (if c=cs.getD k 0 then-R k c else A3z R cs c k c)=1
  rw [iN (fun e=>hc (by rw [e];exact O4 o)),ih o]
def A7i{E:Nat->Rat}{n:Nat}(h:∀ x:Nat->Rat,(∀ i,i<n->sm n (fun t=>mtx E n i t*x t)=0)->∀ t,t<n->x t=0):No E n:=by
 have g:=(Qu (n:=n) (w:=n) (M:=mtx (N8 E n) (n+n)) (M':=mtx E n) (fun i j _ k=>by
  show N8 E n (i*(n+n)+j)=_
  rw [Ii E o,iP k]
  rfl) n (aE n)).1
 show (Nq n ⟨mtx (N8 E n) (n+n),[],1⟩ n).cs.length=n
 rw [g]
 have l:=(U8 (mtx E n) n n).1
 refine bI fun a=>?_
 have b:Asc (ecE (mtx E n) n n).cs n:=Fn n ⟨mtx E n,[],1⟩ rfl n
 have f:0<(Kh (ecE (mtx E n) n n).cs n).length:=by
  rw [Sw b]
  have:(ecE (mtx E n) n n).cs.length≠n:=a
  omega
 obtain ⟨d,e⟩:=My (ecE (mtx E n) n n).cs n _ (O4 f)
 have c:=h _ (fun i m=>Yk (M:=mtx E n) (n:=n) (w:=n) f m) _ d
 unfold B72 at c
 rw [Xy e _ (aE _)] at c
 exact absurd c dc
def C1c(M:Nat->Nat->Rat)(cs:List Nat):Nat->Rat:=fun k=>M (cs.getD (k/cs.length) 0) (cs.getD (k%cs.length) 0)
def A5g(M:Nat->Nat->Rat)(cs:List Nat){a b:Nat}(hb:b<cs.length):mtx (C1c M cs) cs.length a b=M (cs.getD a 0) (cs.getD b 0):=by
 obtain ⟨d,c⟩:=dm1 (i:=a) hb
 show M (cs.getD ((a*cs.length+b)/cs.length) 0) (cs.getD ((a*cs.length+b)%cs.length) 0)=_
 rw [d,c]
def A9t(M:Nat->Nat->Rat)(n:Nat):∀ i,i<n->∀ j,j<n->M i j=sm (ecE M n n).cs.length fun m=>M i ((ecE M n n).cs.getD m 0)*(ecE M n n).R m j:=fun i p j c=>by
 have eq:=EqA.run (n:=n) (w:=n) M n (aE n)
 have d:=(U8 M n n).2
 obtain ⟨B,E,l,_⟩:=eq.elim
 have f:=eq.zero
 change ZrE n n (ecE M n n) at f
 change Elim n n B (ecE M n n).R (fun m=>(ecE M n n).cs.getD m 0) (ecE M n n).cs.length at E
 generalize ecE M n n=s at *
 obtain ⟨b,a,e⟩:=l i p
 have k:(sm s.cs.length fun m=>M i (s.cs.getD m 0)*s.R m j)=sm s.cs.length fun m=>B b (s.cs.getD m 0)*s.R m j:=C5 fun m _=>by rw [e]
 rw [k,<- e j]
 by_cases g:b<s.cs.length
 ·exact E.top b j g c
 ·rw [E.bot b j a o c,f b j a o c,dH]
def A9u{M:Nat->Nat->Rat}{n:Nat}(hs:A2l n M):No (C1c M (ecE M n n).cs) (ecE M n n).cs.length:=by
 refine A7i fun x G t f=>?_
 have eq:=EqA.run (n:=n) (w:=n) M n (aE n)
 have y:=(U8 M n n).2
 have a:∀ k,k<(ecE M n n).cs.length->(ecE M n n).cs.getD k 0<n:=fun k A=>eq.lt _ (O4 A)
 have p:=A9t M n
 obtain ⟨B,E,N,_⟩:=eq.elim
 obtain ⟨T,u⟩:=eq.comb
 change Elim n n B (ecE M n n).R (fun m=>(ecE M n n).cs.getD m 0) (ecE M n n).cs.length at E
 change ∀ i j,i<n->j<n->(ecE M n n).R i j=sm n fun l=>T i l*M l j at u
 generalize ecE M n n=s at *
 have d:∀ j,j<n->sm s.cs.length (fun b=>M j (s.cs.getD b 0)*x b)=0:=fun j z=>by
  have H:∀ b,b<s.cs.length->M j (s.cs.getD b 0)=sm s.cs.length fun m=>M (s.cs.getD b 0) (s.cs.getD m 0)*s.R m j:=fun b c=>by
   rw [hs j _ z (a b c)]
   exact p _ (a b c) j z
  have D:(sm s.cs.length fun b=>M j (s.cs.getD b 0)*x b)=sm s.cs.length fun b=>sm s.cs.length fun m=>s.R m j*(M (s.cs.getD m 0) (s.cs.getD b 0)*x b):=C5 fun b c=>by
   rw [H b c,<- O9]
   exact C5 fun m q=>by rw [hs _ _ (a b c) (a m q)];grind
  rw [D,T8]
  refine Q5 fun m q=>?_
  rw [J7]
  have:=G m q
  have L:(sm s.cs.length fun t=>mtx (C1c M s.cs) s.cs.length m t*x t)=sm s.cs.length fun b=>M (s.cs.getD m 0) (s.cs.getD b 0)*x b:=C5 fun b c=>by rw [A5g M s.cs c]
  rw [L] at this
  rw [this,aZ]
 have r:(sm s.cs.length fun b=>s.R t (s.cs.getD b 0)*x b)=0:=by
  have C:(sm s.cs.length fun b=>s.R t (s.cs.getD b 0)*x b)=sm s.cs.length fun b=>sm n fun l=>T t l*(M l (s.cs.getD b 0)*x b):=C5 fun b c=>by
   rw [u t _ o (a b c),<- O9]
   exact C5 fun l _=>by grind
  rw [C,T8]
  refine Q5 fun l F=>?_
  rw [J7,d l F,aZ]
 rw [V4 f fun b c g=>by rw [E.piv t b f c,iN fun e=>g e.symm,dG],E.piv t t f f,iP rfl,Rat.one_mul] at r
 exact r
end Go.Proofs.YtkfhdoblhajcbaaGreatDoor
namespace Go.Proofs.YtkfhdoblhajcbaaGreatDoor
set_option maxRecDepth 20000
structure LUS where
 R:Nat->Nat->Rat
 L:Nat->Nat->Rat
 p:Nat->Nat
def B8n(n c:Nat)(s:LUS):Nat:=fnd (fun i=>decide (s.R i c≠0)) (n-c) c
def C1k(R:Nat->Nat->Rat)(c:Nat):Nat->Nat->Rat:=fun i j=>if i<=c\/j<c then R i j else R i j-R i c/R c c*R c j
def C1m(R L:Nat->Nat->Rat)(c:Nat):Nat->Nat->Rat:=fun i j=>if j=c then (if i=c then 1 else if c<i then R i c/R c c else 0) else L i j
def C1l(n c:Nat)(s:LUS):LUS:=
 { R:=C1k (fun i=>s.R (xch c (B8n n c s) i)) c
   L:=C1m (fun i=>s.R (xch c (B8n n c s) i)) (fun i=>s.L (xch c (B8n n c s) i)) c
   p:=fun i=>s.p (xch c (B8n n c s) i) }
def C1n(n:Nat)(M:Nat->Nat->Rat):Nat->LUS
 | 0=>⟨M,fun _ _=>0,fun i=>i⟩
 | c+1=>C1l n c (C1n n M c)
structure LuI (n c m:Nat) (M:Nat->Nat->Rat) (s:LUS):Prop where
 zero:∀ i j,i<n->c<=i->j<c->s.R i j=0
 lz:∀ i j,c<=j->s.L i j=0
 szR:∀ i j,i<n->j<n->Sz (7^c*m) (s.R i j)
 szL:∀ i j,i<n->j<n->Sz (7^c*m) (s.L i j)
 len:(Nq n ⟨M,[],1⟩ c).cs.length=c
 sync:∀ i j,i<n->c<=i->(Nq n ⟨M,[],1⟩ c).R i j=s.R i j
def inM(bo:Nat)(rb:Nat->Nat)(n x:Nat):Prop:=x=bo\/∃ i,i<n/\x=rb i
structure Lu3 (h g o:aH) (bu:Nat) (ru:Nat->Nat) (bl:Nat) (rl:Nat->Nat) (bp n:Nat) (U L:Nat->Nat->Rat) (p:Nat->Nat):Prop where
 u:Mt h g o bu ru n n U
 l:Mt h g o bl rl n n L
 p:∃ ps:List Int,RowB o bp ps/\ps.length=n/\∀ i,i<n->ps[i]? = some ((p i:Nat):Int)
 ul:∀ x,inM bu ru n x->¬ inM bl rl n x
 pu:¬ inM bu ru n bp
 pl:¬ inM bl rl n bp
section
variable {h g o:aH} {bu bl bp n:Nat} {ru rl:Nat->Nat} {U L:Nat->Nat->Rat} {p:Nat->Nat}
end
structure LOut where
 d:Int
 n:Nat
 q:Nat
 p:Nat->Nat
 l:Nat->List UInt8
 u:Nat->List UInt8
 e:Int
section
variable {h:aH} {K:VP} {A:Option aL} {n cap m:Nat} {r c:Int} {la:Nat->List UInt8}
end
def QM(g o:aH)(b n:Nat)(L:Nat->Nat->Rat):Prop:=∃ xs:List QV,RowX o b xs/\xs.length=n*n/\∀ i j,i<n->j<n->∃ w,xs[i*n+j]? = some w/\RQ g w (L i j)
def inT(T:Tb)(x:Nat):Prop:=x=T.bt\/x=T.bE\/x=T.bS
section
variable {g o:aH} {b n:Nat} {L:Nat->Nat->Rat}
end
structure LuT (h g o:aH) (T:Tb) (M:Nat->Nat->Int) (S:Nat->Rat) (bp bl bu n:Nat) (p:Nat->Nat) (L U:Nat->Nat->Rat):Prop where
 t:Tab h g o T M S
 p:∃ ps:List Int,RowB o bp ps/\ps.length=n/\∀ i,i<n->ps[i]? = some ((p i:Nat):Int)
 l:QM g o bl n L
 u:QM g o bu n U
 tp:¬ inT T bp
 tl:¬ inT T bl
 tu:¬ inT T bu
 pl:bp≠bl
 pu:bp≠bu
 lu:bl≠bu
section
variable {h g o:aH} {T:Tb} {M:Nat->Nat->Int} {S:Nat->Rat} {bp bl bu n:Nat} {p:Nat->Nat} {L U:Nat->Nat->Rat}
end
def fr1{l s r:Rat}(hl:l≠0)(hs:s≠0):l*(s*r)/l/s=r:=by
 have a:=bM _ hl
 have b:=bM _ hs
 rw [cJ,cJ]
 grind
def fr2{l si ri sk rk:Rat}(hl:l≠0)(hi:si≠0)(hk:sk≠0):l*(si*ri)/(l*(sk*rk))*sk/si=ri/rk:=by
 have a:=bM _ hl
 have b:=bM _ hi
 have c:=bM _ hk
 rw [cJ,cJ,cJ,Rat.inv_mul_rev,Rat.inv_mul_rev]
 grind
structure LuF (E:Nat->Rat) (n k m:Nat):Prop where
 row:Rp n k (elP E n n k)=B8n n k (C1n n (mtx E n) k)
 val:∀ i j,i<n->k<=i->j<n->((elP E n n k).M i j:Rat)=(elP E n n k).last*((elP E n n k).S i*(C1n n (mtx E n) k).R i j)
 last:(elP E n n k).last≠0
 S:∀ i,i<n->(elP E n n k).S i≠0
 len:(elP E n n k).cs.length=k
 zM:∀ a b,a<n->b<n->ZB (3^k*bnd n m) ((elP E n n k).M a b)
 zl:ZB (3^k*bnd n m) (elP E n n k).last
 zS:∀ a,a<n->Sz (bnd n m) ((elP E n n k).S a)
section
variable {h:aH} {K:VP} {A:Option aL} {n cap m:Nat} {r c:Int} {la:Nat->List UInt8}
end
section
variable {h:aH} {K:VP} {A B:Option aL} {n n2 cap cap2 m:Nat} {r c r2 c2:Int} {la lb:Nat->List UInt8}
end
section
variable {r c r2 c2:Int} {n n2 m rows mid mid2 cols:Nat} {la lb:Nat->List UInt8} {o:MOut}
end
section
variable {h g o:aH} {wA B:Option aL} {wc be m d:Nat} {hd:List HV} {xs ys:List QV}
def Sep.free(s:Sep h g o){b:Nat}(hb:h b=none):g b=none:=by
 cases hx:g b with
 | none=>rfl
 | some y=>rw [s.le _ _ hx] at hb;cases hb
end
section
variable {h:aH} {K:VP} {A B:Option aL} {n cap m:Nat} {r c:Int} {la:Nat->List UInt8} {E:Nat->Rat}
end
def B46{cs:List Nat}{n:Nat}(h:Asc cs n)(hl:cs.length=n){m:Nat}(hm:m<n):cs.getD m 0=m:=by
 have step:∀ c,Kn cs (c+1)<=Kn cs c+1:=fun c=>by
  show (if c∈cs then Kn cs c+1 else Kn cs c)<=_
  split<;>omega
 have grow:∀ c j,Kn cs (c+j)<=Kn cs c+j:=by
  intro c j
  induction j with
  | zero=>exact aE _
  | succ j ih=>have:=step (c+j);rw [<- cN];omega
 have d:=A5f h
 have eq:∀ c,c<=n->Kn cs c=c:=fun c l=>by
  have f:=Wd cs c
  have i:=grow c (n-c)
  rw [show c+(n-c)=n from o,d,hl] at i
  omega
 have b:m∈cs:=by
  refine bI fun a=>?_
  have f:=B3b a
  rw [eq m o,eq (m+1) o] at f
  omega
 obtain ⟨k,e⟩:=(B6w h.asc m).1 b
 have g:=eq m o
 rw [cY,bJ o]
 simp only [g] at e
 exact e
def A46{E:Nat->Rat}{n:Nat}(h:No E n){i j:Nat}(hi:i<n)(hj:j<n):sm n (fun t=>mtx E n i t*Sr E n t j)=if i=j then 1 else 0:=by
 have eq:=EqA.run (n:=n) (w:=n+n) (mtx (N8 E n) (n+n)) n o
 have f:=Fn n ⟨mtx (N8 E n) (n+n),[],1⟩ rfl n
 have c:(Nq n ⟨mtx (N8 E n) (n+n),[],1⟩ n).cs.length=n:=h
 have l:∀ a b,b<n->mtx (N8 E n) (n+n) a b=mtx E n a b:=fun a b q=>by
  show N8 E n (a*(n+n)+b)=_
  rw [Ii E o,iP q]
  rfl
 have g:mtx (N8 E n) (n+n) i (n+j)=if i=j then 1 else 0:=by
  show N8 E n (i*(n+n)+(n+j))=_
  rw [Ii E o,iN (show ¬ n+j<n from o)]
  by_cases e:i=j
  ·rw [iP e,iP o]
  ·rw [iN e,iN o]
 obtain ⟨B,El,p,_⟩:=eq.elim
 obtain ⟨m,d,e⟩:=p i hi
 have top:=El.top m (n+j) (by rw [c];exact d) o
 rw [c,e,g] at top
 rw [top]
 refine C5 fun t k=>?_
 rw [B46 f c k,e,l i t k]
 rfl
def A5s{E:Nat->Rat}{n m:Nat}(hm:1<=m)(hs:∀ i,i<n*n->Sz m (E i))(h:No E n):∀ i j,i<n->j<n->Sz (3^n*bnd (n+n) m) (Sr E n i j):=by
 intro i j b e
 have d:=A1y (E:=N8 E n) (rows:=n) (cols:=n+n) (c:=n) (A4s hm hs) o
 have a:=Yx (N8 E n) n (n+n) n (bnd (n+n) m)
 have f:(elE (N8 E n) n (n+n) n).cs.length=n:=h
 have ev:=A5z (N8 E n) (rows:=n) (cols:=n+n) (c:=n) o b (show n+j<n+n from o) (.inl o)
 show Sz _ ((elE (N8 E n) n (n+n) n).R i (n+j))
 rw [<- ev]
 exact (T3 (A4b _ _ _ _) (d.M i (n+j) b o) d.last).mono a
def rsq(q:Rat):0<=q*q:=by
 rcases Rat.le_total (a:=0) (b:=q) with h|h
 ·exact cI h h
 ·have:=cI (a:= -q) (b:= -q) gz0 gz0
  grind
def gM(s:Nat)(u:Nat->Rat)(W:Nat->Nat->Rat):Nat->Nat->Rat:=fun i j=>sm s fun l=>u l*(W l i*W l j)
def A1o{s n:Nat}{u:Nat->Rat}(hu:∀ l,l<s->0<=u l){A:Nat->Nat->Rat}{k:Nat}(f:Nat->Nat->Rat)(hk:k<n)(hA:∀ i j,i<n->j<n->A i j=gM s u f i j):
 (0<=A k k/\(A k k=0->∀ i,i<n->A i k=0/\A k i=0))/\(A k k≠0->∀ i j,i<n->j<n->A i j-A i k*(A k j/A k k)=gM s u (fun l i=>f l i-A i k/A k k*f l k) i j):=by
 have c:∀ l,l<s->0<=u l*(f l k*f l k):=fun l a=>cI (hu l a) (rsq _)
 refine ⟨⟨by rw [hA k k hk hk];exact A0f c,fun h i d=>?_⟩,fun h i j d g=>?_⟩
 ·have p:=Dj c (by have:=hA k k hk hk;unfold gM at this;rw [<- this,h];exact Rat.le_refl)
  have b:∀ l,l<s->u l*f l k=0:=fun l a=>by
   have:=p l a
   grind
  exact ⟨by rw [hA i k d hk];exact Q5 fun l a=>by have:=b l a;grind,by rw [hA k i hk d];exact Q5 fun l a=>by have:=b l a;grind⟩
 ·have e:gM s u (fun l i=>f l i-A i k/A k k*f l k) i j=gM s u f i j+(- (A j k/A k k))*gM s u f i k+(- (A i k/A k k))*gM s u f k j+(A i k/A k k*(A j k/A k k))*gM s u f k k:=by
   unfold gM
   rw [<- J7,<- J7,<- J7,<- Ce,<- Ce,<- Ce]
   exact C5 fun l _=>by grind
  have m:A k j=A j k:=by rw [hA k j hk g,hA j k g hk];exact C5 fun l _=>by grind
  rw [e,<- hA i j d g,<- hA i k d hk,<- hA k j hk g,<- hA k k hk hk,m]
  grind
def B74{s n:Nat}{u:Nat->Rat}(hu:∀ l,l<s->0<=u l){A:Nat->Nat->Rat}(f:Nat->Nat->Rat)(hA:∀ i j,i<n->j<n->A i j=gM s u f i j):∀ k,k<n->Rc A n k:=by
 have inv:∀ k,k<=n->∃ f,∀ i j,i<n->j<n->ldA A k i j=gM s u f i j:=by
  intro k
  induction k with
  | zero=>exact fun _=>⟨f,hA⟩
  | succ k ih=>
   intro e
   obtain ⟨f,b⟩:=ih o
   have c:=A1o hu f (show k<n from o) b
   by_cases h:ldA A k k k=0
   ·exact ⟨f,fun i j a d=>by show (if ldA A k k k=0 then _ else _)=_;rw [iP h];exact b i j a d⟩
   ·exact ⟨_,fun i j a d=>by show (if ldA A k k k=0 then _ else _)=_;rw [iN h];exact c.2 h i j a d⟩
 intro k e
 obtain ⟨f,b⟩:=inv k o
 have c:=A1o hu f e b
 exact ⟨c.1.1,fun h i _ a=>(c.1.2 h i a).1⟩
def A1d{s r:Nat}(h:s<r)(A:Nat->Nat->Rat):∃ x:Nat->Rat,(∃ t,t<r/\x t≠0)/\∀ i,i<s->sm r (fun t=>A i t*x t)=0:=by
 have e:=(U8 A s r).2
 have a:Asc (ecE A s r).cs r:=Fn s ⟨A,[],1⟩ rfl r
 have d:0<(Kh (ecE A s r).cs r).length:=by rw [Sw a];omega
 obtain ⟨b,c⟩:=My (ecE A s r).cs r _ (O4 d)
 refine ⟨B72 (ecE A s r).R (ecE A s r).cs r 0,⟨_,b,?_⟩,fun i f=>Yk (M:=A) (n:=s) (w:=r) d f⟩
 unfold B72
 rw [Xy c _ (aE _)]
 decide
def B0p{E:Nat->Rat}{n:Nat}(h:No E n)(hs:A2l n (mtx E n)){x:Nat->Rat}(hx:∀ i,i<n->sm n (fun t=>mtx E n i t*x t)=0):∀ t,t<n->x t=0:=fun t a=>by
 have e:sm n (fun i=>Sr E n i t*sm n (fun j=>mtx E n i j*x j))=0:=Q5 fun i d=>by rw [hx i d,aZ]
 have f:sm n (fun i=>Sr E n i t*sm n (fun j=>mtx E n i j*x j))=sm n (fun j=>x j*sm n (fun i=>mtx E n j i*Sr E n i t)):=by
  rw [C5 (g:=fun i=>sm n fun j=>x j*(mtx E n j i*Sr E n i t)) fun i d=>by rw [<- J7];exact C5 fun j b=>by rw [hs i j d b];grind]
  rw [T8]
  exact C5 fun j _=>J7 _ _ _
 rw [f,V4 a fun j b c=>by rw [A46 h b a,iN c,aZ],A46 h a a,iP rfl,Rat.mul_one] at e
 exact e
section
variable {s n:Nat} {u:Nat->Rat} {W:Nat->Nat->Rat}
def A49(s n:Nat)(u:Nat->Rat)(W:Nat->Nat->Rat):A2l n (gM s u W):=fun i j _ _=>C5 fun l _=>by rw [bX (W l i)]
def C0j(hu:∀ l,l<s->0<u l){x:Nat->Rat}(hx:∀ i,i<n->sm n (fun j=>gM s u W i j*x j)=0):∀ l,l<s->sm n (fun j=>W l j*x j)=0:=by
 have e:sm n (fun i=>x i*sm n (fun j=>gM s u W i j*x j))=0:=Q5 fun i d=>by rw [hx i d,aZ]
 have a:∀ i,sm n (fun j=>gM s u W i j*x j)=sm s (fun l=>u l*W l i*sm n (fun j=>W l j*x j)):=fun i=>by
  rw [C5 (g:=fun j=>sm s fun l=>u l*W l i*(W l j*x j)) fun j _=>by unfold gM;rw [<- O9];exact C5 fun l _=>gz0]
  rw [T8]
  exact C5 fun l _=>J7 _ _ _
 have f:sm n (fun i=>x i*sm n (fun j=>gM s u W i j*x j))=sm s (fun l=>u l*(sm n (fun j=>W l j*x j)*sm n (fun j=>W l j*x j))):=by
  rw [C5 (g:=fun i=>sm s fun l=>u l*sm n (fun j=>W l j*x j)*(W l i*x i)) fun i _=>by rw [a,<- J7];exact C5 fun l _=>gz0]
  rw [T8]
  exact C5 fun l _=>by rw [J7];grind
 rw [f] at e
 have c:∀ l,l<s->0<=u l*(sm n (fun j=>W l j*x j)*sm n (fun j=>W l j*x j)):=fun l b=>cI (Rat.le_of_lt (hu l b)) (rsq _)
 intro l b
 have:=Dj c (by rw [e];exact Rat.le_refl) l b
 have:=hu l b
 grind
end
structure Ptw (s n:Nat) (u:Nat->Rat) (W:Nat->Nat->Rat):Prop where
 pos:∀ l,l<s->0<u l
 ex:∃ q:Nat->Nat->Rat,∀ l k,l<s->k<s->sm n (fun i=>W l i*q k i)=if l=k then 1 else 0
section
variable {s n:Nat} {u:Nat->Rat} {W:Nat->Nat->Rat}
def Yn(u:Nat->Rat)(W:Nat->Nat->Rat)(cs:List Nat){a b:Nat}(hb:b<cs.length):mtx (C1c (gM s u W) cs) cs.length a b=gM s u (fun l t=>W l (cs.getD t 0)) a b:=A5g _ _ hb
def Ptw.rank(p:Ptw s n u W):(ecE (gM s u W) n n).cs.length=s:=by
 have inv:=A9u (A49 s n u W)
 have f:=A9t (gM s u W) n
 have D:∀ m,m<(ecE (gM s u W) n n).cs.length->(ecE (gM s u W) n n).cs.getD m 0<n:=fun m e=>(EqA.run (n:=n) (w:=n) (gM s u W) n (aE _)).lt _ (O4 e)
 rcases cQ (ecE (gM s u W) n n).cs.length s with h|h|h
 ·exfalso
  obtain ⟨q,r⟩:=p.ex
  obtain ⟨z,⟨t,b,a⟩,G⟩:=A1d h (fun m k=>sm n fun j=>(ecE (gM s u W) n n).R m j*q k j)
  have ker:=C0j (x:=fun j=>sm s fun k=>q k j*z k) p.pos (n:=n) (fun i c=>by
   have B:sm n (fun j=>gM s u W i j*sm s fun k=>q k j*z k)=sm n fun j=>sm (ecE (gM s u W) n n).cs.length fun m=>gM s u W i ((ecE (gM s u W) n n).cs.getD m 0)*((ecE (gM s u W) n n).R m j*sm s fun k=>q k j*z k):=C5 fun j d=>by
    conv=>lhs;rw [f i c j d]
    rw [<- O9]
    exact C5 fun m _=>by rw [dC]
   rw [B,T8]
   refine Q5 fun m e=>?_
   rw [J7]
   have E:sm n (fun j=>(ecE (gM s u W) n n).R m j*sm s fun k=>q k j*z k)=sm s fun k=>(sm n fun j=>(ecE (gM s u W) n n).R m j*q k j)*z k:=by
    rw [C5 (g:=fun j=>sm s fun k=>(ecE (gM s u W) n n).R m j*q k j*z k) fun j _=>by rw [<- J7];exact C5 fun k _=>by rw [dC]]
    rw [T8]
    exact C5 fun k _=>O9 _ _ _
   rw [E,G m e,aZ]) t b
  have C:sm n (fun j=>W t j*sm s fun k=>q k j*z k)=z t:=by
   rw [C5 (g:=fun j=>sm s fun k=>W t j*q k j*z k) fun j _=>by rw [<- J7];exact C5 fun k _=>by rw [dC]]
   rw [T8,V4 b fun k y a=>?_]
   ·rw [O9,r t t b b,iP rfl,Rat.one_mul]
   ·rw [O9,r t k b y,iN (Ne.symm a),dG]
  rw [C] at ker
  exact a ker
 ·exact h
 ·exfalso
  obtain ⟨x,⟨t,b,a⟩,F⟩:=A1d h (fun l m=>W l ((ecE (gM s u W) n n).cs.getD m 0))
  refine a (B0p inv (fun i j c d=>?_) (x:=x) (fun i c=>?_) t b)
  ·rw [Yn u W _ d,Yn u W _ c];exact A49 s (ecE (gM s u W) n n).cs.length u _ i j c d
  ·rw [C5 (g:=fun t=>sm s fun l=>u l*W l ((ecE (gM s u W) n n).cs.getD i 0)*(W l ((ecE (gM s u W) n n).cs.getD t 0)*x t)) fun t b=>by
    rw [Yn u W _ b];unfold gM;rw [<- O9];exact C5 fun l _=>gz0]
   rw [T8]
   exact Q5 fun l A=>by rw [J7,F l A,aZ]
end
section
set_option maxRecDepth 100000
variable {h:aH} {K:VP}
end
section
set_option maxRecDepth 100000
variable {h:aH} {K:VP}
end
section
set_option maxRecDepth 100000
variable {h:aH} {K:VP}
def B8c:cC prog 176 175 (.agg #[.string ({ data:=#[] }:ByteArray),N0]) 2 40:=⟨by kernel_rfl,by kernel_rfl,rfl,dc⟩
def Xi:cC prog 302 361 (.agg #[I 0,I 0,I 0,I 0,I 0,I 0,.bool false,Sl none 0 0,.bool false,Sl none 0 0]) 10 112:=⟨by kernel_rfl,by kernel_rfl,rfl,dc⟩
def A9c:prog.cellsOf 244=4/\(prog.info? 244).isSome=true:=⟨by kernel_rfl,by kernel_rfl⟩
end
def Pa:List Int->Int->Int
 | [],d=>d
 | e::r,d=>if e<0\/e>24-d then -1 else Pa r (d+e)
def Zb(xs:List Int):Int:=if xs.length>6 then -1 else Pa xs 0
def J6(xs:List Int):Bool:=decide (0<=Zb xs)
def Wi{xs:List Int}{k:Nat}{d:Int}(hk:k<xs.length):Pa (xs.drop k) d=if xs.getD k 0<0\/xs.getD k 0>24-d then -1 else Pa (xs.drop (k+1)) (d+xs.getD k 0):=by
 rw [dB hk,Pa]
 simp [List.getD,hk]
def Mi{xs:List Int}{A:Option aL}{c:Nat}{h:aH}{K:VP}(s:SlI .i64 h A xs)(hK:K (I (Zb xs)) h):aN prog 211 #[.slice A xs.length c] h K:=by
 refine (fnk func211 [(5,[3,11],[],[I 0,I 0])]) ?_
 refine C0 (fun u=>?_) (fun u=>?_)
 ·have:xs.length>6:=o
  simpa [Zb,this] using hK
 ·have q:¬ xs.length>6:=o
  refine ⟨fun l p=>∃ (k:Nat) (d:Int),l=[I d,I k]/\k<=xs.length/\0<=d/\d<=24/\Zb xs=Pa (xs.drop k) d/\p=h,fun l _=>xs.length-(iAt l 1).toNat,⟨0,0,rfl,o,o,o,by simp [Zb,q],rfl⟩,?_⟩
  rintro a i y ⟨k,d,r,z,w,m,e,rfl⟩
  obtain ⟨rfl,rfl⟩:a=d/\i=(k:Int):=by simpa using r
  refine C0 (fun t=>?_) (fun t=>?_)
  ·refine s.load rfl o o ?_
   have hkl:k<xs.length:=o
   rw [aD]
   have b:=Wi (d:=a) hkl
   have j:C4 (24-a)=24-a:=C1 o o
   refine C0 (fun g=>?_) (fun g=>?_)
   ·rw [e,b,iP (.inl g)] at hK;exact hK
   ·rw [j]
    refine C0 (fun f=>?_) (fun f=>?_)
    ·rw [e,b,iP (.inr f)] at hK;exact hK
    ·rw [C1 (n:=a+xs.getD k 0) o o,C1 (n:=(k:Int)+1) o o]
     refine ⟨⟨k+1,a+xs.getD k 0,by simp,o,o,o,?_,rfl⟩,by simp only [iAt,aG,aF];omega⟩
     rw [e,b,iN o]
  ·have:k=xs.length:=o
   subst this
   rw [e] at hK;simpa [Pa] using hK
def Pu{xs:List Int}{A:Option aL}{c:Nat}{h:aH}{K:VP}(s:SlI .i64 h A xs)(hK:K (I (Zb xs)) h):aN prog 180 #[.slice A xs.length c] h K:=by
 refine (fnk func180 [(5,[3,4],[],[I 0,I 0])]) ?_
 refine C0 (fun u=>?_) (fun u=>?_)
 ·have:xs.length>6:=o
  simpa [Zb,this] using hK
 ·have q:¬ xs.length>6:=o
  refine ⟨fun l p=>∃ (k:Nat) (d:Int),l=[I d,I k]/\k<=xs.length/\0<=d/\d<=24/\Zb xs=Pa (xs.drop k) d/\p=h,fun l _=>xs.length-(iAt l 1).toNat,⟨0,0,rfl,o,o,o,by simp [Zb,q],rfl⟩,?_⟩
  rintro a i y ⟨k,d,r,z,w,m,e,rfl⟩
  obtain ⟨rfl,rfl⟩:a=d/\i=(k:Int):=by simpa using r
  refine C0 (fun t=>?_) (fun t=>?_)
  ·refine s.load rfl o o ?_
   have hkl:k<xs.length:=o
   rw [aD]
   have b:=Wi (d:=a) hkl
   have j:C4 (24-a)=24-a:=C1 o o
   refine C0 (fun g=>?_) (fun g=>?_)
   ·rw [e,b,iP (.inl g)] at hK;exact hK
   ·refine s.load rfl o o ?_
    rw [j,aD]
    refine C0 (fun f=>?_) (fun f=>?_)
    ·rw [e,b,iP (.inr f)] at hK;exact hK
    ·refine s.load rfl o o ?_
     rw [aD,C1 (n:=a+xs.getD k 0) o o,C1 (n:=(k:Int)+1) o o]
     refine ⟨⟨k+1,a+xs.getD k 0,by simp,o,o,o,?_,rfl⟩,by simp only [iAt,aG,aF];omega⟩
     rw [e,b,iN o]
  ·have:k=xs.length:=o
   subst this
   rw [e] at hK;simpa [Pa] using hK
def Cw{xs:List Int}{A:Option aL}{c:Nat}{h:aH}{K:VP}(s:SlI .i64 h A xs)(hK:K (.bool (J6 xs)) h):aN prog 259 #[.slice A xs.length c] h K:=by
 refine (fnk func259) ?_
 exact Mi s ⟨_,rfl,by simpa [J6] using hK⟩
def Ft{xs:List Int}{A:Option aL}{c:Nat}{h:aH}{K:VP}(s:SlI .i64 h A xs)(hK:K (.bool (J6 xs)) h):aN prog 179 #[.slice A xs.length c] h K:=by
 refine (fnk func179) ?_
 refine C0 (fun a=>?_) (fun a=>?_)
 ·exact Pu s ⟨_,rfl,by simpa [J6] using hK⟩
 ·have:xs.length>6:=o
  simpa [J6,Zb,this] using hK
def Fk{l:List Int}(h:∀ x∈l,0<=x):0<=l.sum:=by
 induction l with
 | nil=>simp
 | cons x l ih=>have:=ih (fun y a=>h y (by simp [a]));have:=h x (by simp);simp;omega
def W7{xs:List Int}{k:Nat}(hk:k<xs.length):(xs.take (k+1)).sum=(xs.take k).sum+xs.getD k 0:=by
 rw [cR hk,bC];simp [List.getD,hk]
structure ExB (xs:List Int):Prop where
 len:xs.length<=6
 all:∀ x∈xs,0<=x/\x<=1048576
def B5q{l:List Int}(h:∀ x∈l,x<=1048576):l.sum<=1048576*(l.length:Int):=by
 induction l with
 | nil=>simp
 | cons x l ih=>have:=ih (fun y a=>h y (by simp [a]));have:=h x (by simp);simp only [List.sum_cons,List.length_cons];omega
def Fj{xs:List Int}(h:ExB xs)(k:Nat):0<=(xs.take k).sum/\(xs.take k).sum<=6291456:=by
 refine ⟨Fk fun x a=>(h.all x (cK a)).1,?_⟩
 have:=B5q (l:=xs.take k) fun x a=>(h.all x (cK a)).2
 have:=h.len
 have:(xs.take k).length<=6:=by simp;omega
 omega
def Y2(a b:List Int):Nat->Int
 | 0=>0
 | k+1=>if a.getD k 0≠b.getD k 0 then Ki (b.getD k 0) (a.getD k 0) else Y2 a b k
def A72(a b:List Int):Int:=if a.sum≠b.sum then Ki a.sum b.sum else Y2 a b a.length
section
variable {h:aH} {K:VP} {a b:List Int} {A B:Option aL} {ac bc:Nat}
def Sj(hl:a.length=b.length)(va:ExB a)(vb:ExB b)(sa:SlI .i64 h A a)(sb:SlI .i64 h B b)(hK:K (I (A72 a b)) h):aN prog 228 #[.slice A a.length ac,.slice B b.length bc] h K:=by
 have z:=va.len
 refine (fnk func228 [(3,[5,6,12],[],[I 0,I 0,I 0]),(11,[9],[],[I 0])]) ?_
 refine ⟨fun l f=>∃ k:Nat,l=[I (a.take k).sum,I (b.take k).sum,I k]/\k<=a.length/\f=h,fun l _=>a.length-(iAt l 2).toNat,⟨0,by simp,o,rfl⟩,?_⟩
 rintro q C i e ⟨k,j,E,rfl⟩
 obtain ⟨rfl,rfl,rfl⟩:q=(a.take k).sum/\C=(b.take k).sum/\i=(k:Int):=by simpa using j
 have F:=Fj va (k+1)
 have D:=Fj vb (k+1)
 refine C0 (fun s=>?_) (fun s=>?_)
 ·refine sa.load rfl o o ?_
  refine sb.load rfl o o ?_
  rw [aD,<- W7 o,<- W7 o,C1 o o,C1 o o,C1 o o]
  exact ⟨⟨k+1,by simp,o,rfl⟩,by simp only [iAt,aG,aF];omega⟩
 ·have p:k=a.length:=o
  subst p
  rw [bU,show b.take a.length=b by rw [hl];exact bU]
  refine D9 (fun n=>Tq ⟨_,rfl,by simpa [A72,n] using hK⟩) (fun n=>?_)
  have w:A72 a b=Y2 a b a.length:=by simp [A72,n]
  rw [w] at hK
  refine ⟨fun l f=>∃ k:Nat,l=[I ((k:Int)-1)]/\k<=a.length/\Y2 a b a.length=Y2 a b k/\f=e,fun l _=>(iAt l 0+1).toNat,⟨a.length,by rw [C1 o o],o,rfl,rfl⟩,?_⟩
  rintro i y ⟨k,d,r,c,rfl⟩
  obtain rfl:i=(k:Int)-1:=by simpa using d
  refine C0 (fun u=>?_) (fun u=>?_)
  ·obtain ⟨k,rfl⟩:∃ m,k=m+1:=⟨k-1,o⟩
   have t:((k+1:Nat):Int)-1=(k:Int):=o
   rw [t]
   refine sa.load rfl o o ?_
   refine sb.load rfl o o ?_
   rw [aD]
   refine D9 (fun g=>?_) (fun g=>?_)
   ·refine sb.load rfl o o ?_
    refine sa.load rfl o o ?_
    rw [aD]
    refine Tq ⟨_,rfl,B7 _,?_⟩
    rw [c,Y2,iP g] at hK;exact hK
   ·rw [C1 o o]
    refine ⟨⟨k,rfl,o,?_,rfl⟩,by simp only [iAt,aF];omega⟩
    rw [c,Y2,iN (by simpa using g)]
  ·have:k=0:=o
   subst this
   rw [c] at hK;exact hK
def Rs(hl:a.length=b.length)(va:ExB a)(vb:ExB b)(sa:SlI .i64 h A a)(sb:SlI .i64 h B b)(hK:K (I (A72 a b)) h):aN prog 82 #[.slice A a.length ac,.slice B b.length bc] h K:=by
 have C:=va.len
 refine (fnk func82 [(3,[5,6,7],[],[I 0,I 0,I 0]),(11,[8],[],[I 0])]) ?_
 refine ⟨fun l g=>∃ k:Nat,l=[I (a.take k).sum,I (b.take k).sum,I k]/\k<=a.length/\g=h,fun l _=>a.length-(iAt l 2).toNat,⟨0,by simp,o,rfl⟩,?_⟩
 rintro t D i f ⟨k,p,F,rfl⟩
 obtain ⟨rfl,rfl,rfl⟩:t=(a.take k).sum/\D=(b.take k).sum/\i=(k:Int):=by simpa using p
 have G:=Fj va (k+1)
 have E:=Fj vb (k+1)
 refine C0 (fun w=>?_) (fun w=>?_)
 ·refine sa.load rfl o o ?_
  refine sb.load rfl o o ?_
  rw [aD,<- W7 o,<- W7 o,C1 o o,C1 o o,C1 o o]
  exact ⟨⟨k+1,by simp,o,rfl⟩,by simp only [iAt,aG,aF];omega⟩
 ·have r:k=a.length:=o
  subst r
  rw [bU,show b.take a.length=b by rw [hl];exact bU]
  refine D9 (fun q=>?_) (fun q=>?_)
  ·have n:A72 a b=Ki a.sum b.sum:=by simp [A72,q]
   rw [n] at hK
   refine C0 (fun d=>?_) (fun d=>?_)
   ·simpa [Ki,d] using hK
   ·have:a.sum>b.sum:=o
    simpa [Ki,d,this] using hK
  have n:A72 a b=Y2 a b a.length:=by simp [A72,q]
  rw [n] at hK
  refine ⟨fun l g=>∃ k:Nat,l=[I ((k:Int)-1)]/\k<=a.length/\Y2 a b a.length=Y2 a b k/\g=f,fun l _=>(iAt l 0+1).toNat,⟨a.length,by rw [C1 o o],o,rfl,rfl⟩,?_⟩
  rintro i z ⟨k,e,u,c,rfl⟩
  obtain rfl:i=(k:Int)-1:=by simpa using e
  refine C0 (fun d=>?_) (fun d=>?_)
  ·obtain ⟨k,rfl⟩:∃ m,k=m+1:=⟨k-1,o⟩
   have y:((k+1:Nat):Int)-1=(k:Int):=o
   rw [y]
   refine sa.load rfl o o ?_
   refine sb.load rfl o o ?_
   rw [aD]
   refine D9 (fun j=>?_) (fun j=>?_)
   ·refine sa.load rfl o o ?_
    refine sb.load rfl o o ?_
    rw [aD]
    rw [c,Y2,iP j] at hK
    refine C0 (fun s=>?_) (fun s=>?_)
    ·have:b.getD k 0<a.getD k 0:=s
     rw [Ki,iP this] at hK;exact hK
    ·rw [Ki,iN o,iP o] at hK;exact hK
   ·rw [C1 o o]
    refine ⟨⟨k,rfl,o,?_,rfl⟩,by simp only [iAt,aF];omega⟩
    rw [c,Y2,iN (by simpa using j)]
  ·have:k=0:=o
   subst this
   rw [c] at hK;exact hK
end
section
set_option maxRecDepth 100000
variable {h:aH} {K:VP}
end
section
set_option maxRecDepth 100000
variable {h:aH} {K:VP}
end
section
set_option maxRecDepth 100000
variable {h:aH} {K:VP}
def Vi:cC prog 60 22 (N0) 1 24:=⟨by kernel_rfl,by kernel_rfl,rfl,dc⟩
def A88:cC prog 78 86 (.agg #[.bool false,Sl none 0 0,.bool false,Sl none 0 0,Sl none 0 0]) 5 88:=⟨by kernel_rfl,by kernel_rfl,rfl,dc⟩
def B8f:cC prog 115 64 (Mv (0:Int) (0:Int) none 0 0) 3 40:=⟨by kernel_rfl,by kernel_rfl,rfl,dc⟩
def Ve:∀ (args:Array aT) (W:World),(callFunc 149 args).run prog W= .ok (.enter 149 args) W:=call149
end
def G0(n k:Int):Nat->Int
 | 0=>1
 | i+1=>cZ (G0 n k i*(n-k+(i+1))) (i+1)
def U9(n k:Int):Int:=if n<k then 0 else G0 n k k.toNat
def Uz:∀ n:Fin 31,∀ k:Fin 7,∀ i:Fin 7,(k:Nat)<=n->(i:Nat)<=k->0<=G0 (n:Nat) (k:Nat) i/\G0 (n:Nat) (k:Nat) i<=1000000:=by decide +kernel
def Q0{n k:Int}{i:Nat}(hn0:0<=n)(hn:n<=30)(hk0:0<=k)(hk:k<=6)(hkn:k<=n)(hi:(i:Int)<=k):0<=G0 n k i/\G0 n k i<=1000000:=by
 have:=Uz ⟨n.toNat,o⟩ ⟨k.toNat,o⟩ ⟨i,o⟩ gz0 gz0
 grind
def Bc(a b:List Int):Bool:=a.length==b.length&&J6 a&&J6 b
def Yc{n k:Int}{h:aH}{K:VP}(hn0: -1<=n)(hn:n<=30)(hk0:0<=k)(hk:k<=6)(hK:K (I (U9 n k)) h):aN prog 172 #[I n,I k] h K:=by
 refine (fnk func172 [(5,[5,6],[],[I 0,I 0])]) ?_
 refine C0 (fun b=>?_) (fun b=>?_)
 ·simpa [U9,b] using hK
 ·refine ⟨fun l f=>∃ i:Nat,l=[I (G0 n k i),I (i+1)]/\(i:Int)<=k/\f=h,fun l _=>(k+1-iAt l 1).toNat,⟨0,rfl,hk0,rfl⟩,?_⟩
  rintro a i y ⟨m,z,r,rfl⟩
  obtain ⟨rfl,rfl⟩:a=G0 n k m/\i=(m:Int)+1:=gz0
  have c:=Q0 (i:=m) o hn hk0 hk o r
  refine C0 (fun e=>C0 (fun A=>o) (fun _=>?_)) (fun e=>?_)
  ·have q:=Q0 (i:=m+1) o hn hk0 hk o o
   have B:G0 n k m*(n-k+(m+1))<=1000000*40:=by
    have g:0<=n-k+(m+1):=o
    have j:n-k+((m:Int)+1)<=40:=o
    exact Int.mul_le_mul c.2 j g o
   have u:0<=G0 n k m*(n-k+(m+1)):=Int.mul_nonneg c.1 o
   have s:C4 (n-k)=n-k:=C1 o o
   have p:C4 (C4 (n-k)+((m:Int)+1))=n-k+(m+1):=by rw [s,C1 o o]
   have t:C4 (G0 n k m*C4 (C4 (n-k)+((m:Int)+1)))=G0 n k m*(n-k+(m+1)):=by rw [p,C1 o o]
   have w:C4 (cZ (C4 (G0 n k m*C4 (C4 (n-k)+((m:Int)+1)))) ((m:Int)+1))=G0 n k (m+1):=by
    rw [t];show C4 (G0 n k (m+1))=_
    exact C1 o o
   have d:C4 ((m:Int)+1+1)=((m+1:Nat):Int)+1:=by rw [C1 o o];omega
   rw [w,d]
   exact ⟨⟨m+1,rfl,o,rfl⟩,by simp only [iAt,aG,aF];omega⟩
  ·have:m=k.toNat:=o
   subst this
   simpa [U9,b] using hK
def A4e:∀ {xs:List Int} {d:Int},0<=Pa xs d->0<=d->d<=24->(∀ x∈xs,0<=x)/\Pa xs d=d+xs.sum/\d+xs.sum<=24:=by
 intro xs
 induction xs with
 | nil=>intro d h f e;simp [Pa];exact e
 | cons x xs ih=>
  intro d h f e
  rw [Pa] at h ⊢
  split at h
  ·omega
  ·obtain ⟨a,b,c⟩:=ih h o o
   refine ⟨fun y g=>?_,gz0,gz0⟩
   grind
def U6{xs:List Int}(h:J6 xs=true):xs.length<=6/\(∀ x∈xs,0<=x)/\Zb xs=xs.sum/\xs.sum<=24:=by
 have h:=of_decide_eq_true h
 unfold Zb at h ⊢
 split at h
 ·omega
 ·obtain ⟨a,b,c⟩:=A4e h o o
  grind
def B0n{l:List Int}(h:∀ x∈l,0<=x){x:Int}(hx:x∈l):x<=l.sum:=by
 induction l with
 | nil=>cases hx
 | cons y l ih=>
  have b:=Fk (l:=l) (fun z a=>h z (by simp [a]))
  have c:=h y (by simp)
  grind
def Kr{xs:List Int}(h:J6 xs=true)(k:Nat):0<=xs.getD k 0/\xs.getD k 0<=24:=by
 obtain ⟨_,a,_,d⟩:=U6 h
 by_cases c:k<xs.length
 ·have b:xs.getD k 0∈xs:=gz0
  have:=B0n a b
  grind
 grind
def Ye{xs:List Int}(h:J6 xs=true)(k:Nat):0<=(xs.take k).sum/\(xs.take k).sum<=24:=by
 obtain ⟨_,b,_,f⟩:=U6 h
 have c:∀ x∈xs.take k,0<=x:=fun x a=>b x (cK a)
 have d:∀ x∈xs.drop k,0<=x:=fun x a=>b x (List.mem_of_mem_drop a)
 have e:xs.sum=(xs.take k).sum+(xs.drop k).sum:=by rw [<- bC,List.take_append_drop]
 have:=Fk c;have:=Fk d;omega
def B1d(a b:List Int):Int:=if Bc a b then A72 a b else 0
def Em{a b:List Int}(h:Bc a b=true):a.length=b.length/\J6 a=true/\J6 b=true:=by
 simp only [Bc,cU,beq_iff_eq] at h
 grind
def opL(o:Int->Int->Int)(a b:List Int):List Int:=(aM a.length).map fun i=>o (a.getD i 0) (b.getD i 0)
def N3(o:Int->Int->Int)(a b:List Int):(opL o a b).length=a.length:=by simp [opL]
def B01(o:Int->Int->Int)(a b:List Int){i:Nat}(hi:i<(opL o a b).length):(opL o a b)[i]=o (a.getD i 0) (b.getD i 0):=by simp [opL]
section
variable {h:aH} {K:VP} {a b:List Int} {A B:Option aL} {ac bc:Nat}
def Gj(sa:SlI .i64 h A a)(sb:SlI .i64 h B b)(hK:K (.bool (Bc a b)) h):aN prog 227 #[.slice A a.length ac,.slice B b.length bc] h K:=by
 refine (fnk func227) ?_
 refine D5 (fun e=>?_) (fun e=>?_)
 ·have c:a.length=b.length:=o
  refine Cw sa ⟨_,rfl,?_⟩
  refine Br.of (fun d=>Cw sb ⟨_,rfl,?_⟩) (fun d=>?_)
  ·simpa [Bc,c,d] using hK
  ·simpa [Bc,c,d] using hK
 ·have c:(a.length==b.length)=false:=gz0
  simpa [Bc,c] using hK
def A73(sa:SlI .i64 h A a)(sb:SlI .i64 h B b)(hK:K (.bool (Bc a b)) h):aN prog 178 #[.slice A a.length ac,.slice B b.length bc] h K:=by
 refine (fnk func178) ?_
 refine D5 (fun e=>?_) (fun e=>?_)
 ·have c:a.length=b.length:=o
  refine Ft sa ⟨_,rfl,?_⟩
  refine Br.of (fun d=>Ft sb ⟨_,rfl,?_⟩) (fun d=>?_)
  ·simpa [Bc,c,d] using hK
  ·simpa [Bc,c,d] using hK
 ·have c:(a.length==b.length)=false:=gz0
  simpa [Bc,c] using hK
def A1x{a:List Int}(v:J6 a=true):ExB a:=by
 obtain ⟨d,b,_,e⟩:=U6 v
 exact ⟨d,fun x c=>⟨b x c,by have:=B0n b c;omega⟩⟩
def Jg(sa:SlI .i64 h A a)(sb:SlI .i64 h B b)(hK:K (I (B1d a b)) h):aN prog 175 #[.slice A a.length ac,.slice B b.length bc] h K:=by
 refine (fnk func175) ?_
 refine Gj sa sb ⟨_,rfl,Br.not (Br.of (fun c=>?_) (fun c=>?_))⟩
 ·exact Sj (Em c).1 (A1x (Em c).2.1) (A1x (Em c).2.2) sa sb ⟨_,rfl,by simpa [B1d,c] using hK⟩
 ·simpa [B1d,c] using hK
def Ok(sa:SlI .i64 h A a)(sb:SlI .i64 h B b)(hno:(Bc a b&&J6 (opL (fun x y=>x+y) a b))=false->∀ h',h.le h'->K (.tuple #[.slice none 0 0,.bool false]) h')(hyes:(Bc a b&&J6 (opL (fun x y=>x+y) a b))=true->∀ nb,h nb=none->K (.tuple #[.slice (some ⟨nb,0,none⟩) (opL (fun x y=>x+y) a b).length (opL (fun x y=>x+y) a b).length,.bool true]) (h.put nb (.cells ((opL (fun x y=>x+y) a b).map I).toArray 3))):
 aN prog 225 #[.slice A a.length ac,.slice B b.length bc,.func (.func 226) #[] #[]] h K:=by
 refine (fnk func225 [(5,[20],[],[I 0])]) ?_
 refine Gj sa sb ⟨_,rfl,Br.not (Br.of (fun e=>?_) (fun e=>hno (by simp [e]) h (B7 h)))⟩
 obtain ⟨G,m,t⟩:=Em e
 have w:=(U6 m).1
 refine Hn Iy o o o o ?_
 intro nb j
 refine ⟨_,_,_,rfl,?_⟩
 refine ⟨fun l h'=>∃ k:Nat,l=[I k]/\k<=a.length/\h'=h.put nb (.cells (Ci I (I 0) (opL (fun x y=>x+y) a b) k).toArray 3),fun l _=>a.length-(iAt l 0).toNat,⟨0,rfl,o,?_⟩,?_⟩
 ·rw [Ov,N3];congr 2;exact S8 _ _
 rintro i F ⟨k,u,E,rfl⟩
 obtain rfl:i=(k:Int):=gz0
 have d:∀ f,h.le (h.put nb f):=fun f=>Heap.le_put f j
 refine C0 (fun s=>?_) (fun s=>?_)
 ·refine (sa.mono (d _)).load rfl o o ?_
  refine (sb.mono (d _)).load rfl o o ?_
  rw [aD]
  have H:=Kr m k
  have D:=Kr t k
  refine (fnk func226) ?_
  refine ⟨_,rfl,_,rfl,o,o,?_⟩
  rw [C1 (n:=(k:Int)+1) o o]
  refine Hh Cd (zs:=opL (fun x y=>x+y) a b) (i:=k) (by rw [N3];omega) ?_ ⟨⟨k+1,by simp,o,rfl⟩,by simp only [iAt,aF];omega⟩
  rw [B01]
  exact C1 o o
 ·have g:k=a.length:=o
  subst g
  have q:a.length=(opL (fun x y=>x+y) a b).length:=(N3 _ _ _).symm
  have p:SlI .i64 (h.put nb (.cells (Ci I (I 0) (opL (fun x y=>x+y) a b) a.length).toArray 3)) (some ⟨nb,0,none⟩) (opL (fun x y=>x+y) a b):=by
   rw [q,Na];exact SlI.new h nb _ _ _
  have C:aN prog 259 #[.slice (some ⟨nb,0,none⟩) a.length a.length] (h.put nb (.cells (Ci I (I 0) (opL (fun x y=>x+y) a b) a.length).toArray 3)) fun r c=>∃ t37:Bool,r= .bool t37/\Br (!t37) (K (.tuple #[.slice none 0 0,.bool false]) c) (K (.tuple #[.slice (some ⟨nb,0,none⟩) a.length a.length,.bool true]) c):=by
   rw [q,Na] at p ⊢
   refine Cw p ⟨_,rfl,Br.not (Br.of (fun z=>?_) (fun z=>?_))⟩
   ·grind
   grind
  exact C
def Sm(sa:SlI .i64 h A a)(sb:SlI .i64 h B b)(hno:(Bc a b&&J6 (opL (fun x y=>x+y) a b))=false->∀ h',h.le h'->K (.tuple #[.slice none 0 0,.bool false]) h')(hyes:(Bc a b&&J6 (opL (fun x y=>x+y) a b))=true->∀ nb,h nb=none->K (.tuple #[.slice (some ⟨nb,0,none⟩) (opL (fun x y=>x+y) a b).length (opL (fun x y=>x+y) a b).length,.bool true]) (h.put nb (.cells ((opL (fun x y=>x+y) a b).map I).toArray 3))):
 aN prog 173 #[.slice A a.length ac,.slice B b.length bc] h K:=by
 refine (fnk func173) ?_
 exact Ok sa sb (fun e h' c=>⟨_,_,_,_,rfl,hno e h' c⟩) (fun e nb d=>⟨_,_,_,_,rfl,hyes e nb d⟩)
def Vz(sa:SlI .i64 h A a)(sb:SlI .i64 h B b)(hno:(Bc a b&&J6 (opL (fun x y=>x+y) a b))=false->∀ h',h.le h'->K (.tuple #[.slice none 0 0,.bool false]) h')(hyes:(Bc a b&&J6 (opL (fun x y=>x+y) a b))=true->∀ A' h',h.le h'->SlI .i64 h' A' (opL (fun x y=>x+y) a b)->K (.tuple #[.slice A' (opL (fun x y=>x+y) a b).length (opL (fun x y=>x+y) a b).length,.bool true]) h'):
 aN prog 173 #[.slice A a.length ac,.slice B b.length bc] h K:=by
 exact Sm sa sb hno fun e d c=>hyes e _ _ (Heap.le_put _ c) (SlI.new _ _ _ _ _)
end
def Ac(n d:Int):Bool:=decide (0<=n/\n<=6/\0<=d/\d<=24)
def A27(n d:Int):Int:=if Ac n d then G0 (n+d) n n.toNat else 0
def Tr{n d:Int}(h:Ac n d=true):U9 (n+d) n=A27 n d:=by
 have a:=of_decide_eq_true h
 unfold U9 A27
 grind
def To(n d:Int):0<=A27 n d/\A27 n d<=1000000:=by
 unfold A27
 split
 ·rename_i h
  have a:=of_decide_eq_true h
  exact Q0 o o a.1 a.2.1 o o
 ·omega
def Jc(i:Int):Nat->Int
 | 0=>0
 | t+1=>Jc i t+A27 (i-1) t
def A6j:∀ i:Fin 6,∀ t:Fin 26,Jc ((i:Nat)+1:Int) t=U9 ((i:Nat)+1+(t:Nat)-1:Int) ((i:Nat)+1:Int):=by decide +kernel
def A8u{i d:Int}(h1:1<=i)(h2:i<=6)(h3:0<=d)(h4:d<=25):Jc i d.toNat=U9 (i+d-1) i:=by
 have:=A6j ⟨(i-1).toNat,o⟩ ⟨d.toNat,o⟩
 grind
def Nh{n k:Int}(hn:n<=30)(hk0:0<=k)(hk:k<=6):0<=U9 n k/\U9 n k<=1000000:=by
 unfold U9
 split
 ·omega
 ·exact Q0 o hn hk0 hk o o
def B0q(xs:List Int):Nat->Int->Int
 | 0,_=>0
 | i+1,deg=>U9 (((i+1:Nat):Int)+(deg-xs.getD (i+1) 0)-1) ((i+1:Nat):Int)+B0q xs i (deg-xs.getD (i+1) 0)
def Ut(xs:List Int):Int:=U9 (xs.length+Zb xs-1) xs.length+B0q xs (xs.length-1) (Zb xs)
section
variable {h:aH} {K:VP} {a b:List Int} {A B:Option aL} {ac bc:Nat}
def Px{n d:Int}(hK:K (.tuple #[I (A27 n d),.bool (Ac n d)]) h):aN prog 121 #[I n,I d] h K:=by
 refine (fnk func121) ?_
 have no:¬ (0<=n/\n<=6/\0<=d/\d<=24)->K (.tuple #[I 0,.bool false]) h:=fun g=>by
  have:Ac n d=false:=decide_eq_false g
  simpa [A27,this] using hK
 refine C0 (fun e=>no o) (fun e=>C0 (fun b=>no o) (fun b=>C0 (fun f=>no o) (fun f=>C0 (fun c=>no o) (fun c=>?_))))
 rw [C1 o o]
 have a:Ac n d=true:=decide_eq_true o
 refine Yc o o o o ⟨_,rfl,?_⟩
 rw [Tr a,<- a];exact hK
def Sf{n d:Int}(hK:K (.tuple #[I (A27 n d),.bool (Ac n d)]) h):aN prog 181 #[I n,I d] h K:=by
 refine (fnk func181 [(5,[6,7],[],[I 0,I 0])]) ?_
 have no:¬ (0<=n/\n<=6/\0<=d/\d<=24)->K (.tuple #[I 0,.bool false]) h:=fun f=>by
  have:Ac n d=false:=decide_eq_false f
  simpa [A27,this] using hK
 refine C0 (fun y=>no o) (fun y=>C0 (fun a=>no o) (fun a=>C0 (fun b=>no o) (fun b=>C0 (fun s=>no o) (fun s=>?_))))
 have w:Ac n d=true:=decide_eq_true o
 refine ⟨fun l j=>∃ i:Nat,l=[I (G0 (n+d) n i),I (i+1)]/\(i:Int)<=n/\j=h,fun l _=>(n+1-iAt l 1).toNat,⟨0,rfl,o,rfl⟩,?_⟩
 rintro c i B ⟨m,C,g,rfl⟩
 obtain ⟨rfl,rfl⟩:c=G0 (n+d) n m/\i=(m:Int)+1:=gz0
 have e:=Q0 (n:=n+d) (k:=n) (i:=m) o o o o o g
 refine C0 (fun a=>C0 (fun b=>o) (fun _=>?_)) (fun a=>?_)
 ·have z:=Q0 (n:=n+d) (k:=n) (i:=m+1) o o o o o o
  have f:G0 (n+d) n m*(d+(m+1))<=1000000*40:=Int.mul_le_mul e.2 o o o
  have t:0<=G0 (n+d) n m*(d+(m+1)):=Int.mul_nonneg e.1 o
  have A:C4 (d+((m:Int)+1))=d+(m+1):=C1 o o
  have r:C4 (G0 (n+d) n m*C4 (d+((m:Int)+1)))=G0 (n+d) n m*(d+(m+1)):=by rw [A,C1 o o]
  have u:C4 (cZ (C4 (G0 (n+d) n m*C4 (d+((m:Int)+1)))) ((m:Int)+1))=G0 (n+d) n (m+1):=by
   have q:G0 (n+d) n (m+1)=cZ (G0 (n+d) n m*(d+(m+1))) (m+1):=by
    rw [G0];grind
   rw [r,<- q]
   exact C1 o o
  have p:C4 ((m:Int)+1+1)=((m+1:Nat):Int)+1:=by rw [C1 o o];omega
  rw [u,p]
  exact ⟨⟨m+1,rfl,o,rfl⟩,by simp only [iAt,aG,aF];omega⟩
 ·have:m=n.toNat:=o
  subst this
  simpa [A27,w] using hK
def Uq{n d:Int}(hn:0<=n)(hn2:n<=100)(hK:K (I (A27 (n-1) d)) h):aN prog 182 #[I n,I d] h K:=by
 refine (fnk func182) ?_
 rw [C1 o o]
 exact Sf ⟨_,_,rfl,hK⟩
def Se{t12:Int}{out0:Int}{h:aH}{K:VP}(s:SlI .i64 h A a)(hv:J6 a=true)(ht:t12=Zb a)(ho:out0=U9 (a.length+Zb a-1) a.length)(hK:K (.tuple #[I (Ut a),.bool true]) h):
 ∃ (Invv:LP) (muv:LN),Invv [I t12,I out0,I ((a.length:Nat):Int)] h/\
 ∀ (d:Int) (out:Int) (n:Int),∀ hp3,Invv [I d,I out,I n] hp3->Br (decide (n>(1:Int))) (∃ a',A=some a'/\0<=C4 (n-(1:Int))/\C4 (n-(1:Int))<(a.length:Int)/\∃ (t33:Int),Heap.cell? hp3 (aK a' ((C4 (n-(1:Int))).toNat*1))=some (I t33)/\∃ (Invv1:LP) (muv1:LN),Invv1 [I out,I (C4 (t33+(1:Int)))] hp3/\
 ∀ (out1:Int) (e:Int),∀ hp4,Invv1 [I out1,I e] hp4->Br (decide (e<=d)) (aN prog 182 #[I (C4 (n-(1:Int))),I (C4 (d-e))] hp4 (fun r3 hp5=>∃ (t46:Int),r3=I t46/\Invv1 [I (C4 (out1+t46)),I (C4 (e+(1:Int)))] hp5/\muv1 [I (C4 (out1+t46)),I (C4 (e+(1:Int)))] hp5<muv1 [I out1,I e] hp4))
 (∃ a1,A=some a1/\0<=C4 (n-(1:Int))/\C4 (n-(1:Int))<(a.length:Int)/\∃ (t53:Int),Heap.cell? hp4 (aK a1 ((C4 (n-(1:Int))).toNat*1))=some (I t53)/\Invv [I (C4 (d-t53)),I out1,I (C4 (n-(1:Int)))] hp4/\muv [I (C4 (d-t53)),I out1,I (C4 (n-(1:Int)))] hp4<muv [I d,I out,I n] hp3))
 (K (.tuple #[I out,.bool true]) hp3):=by
 obtain ⟨T,_,R,H⟩:=U6 hv
 have X:=Nh (n:=(a.length:Int)+Zb a-1) (k:=(a.length:Int)) oo oo oo
 refine ⟨fun l j=>∃ (k:Nat) (dd c:Int),l=[I dd,I c,I k]/\k<=a.length/\dd=(a.take k).sum/\c+B0q a (k-1) dd=Ut a/\0<=c/\c<=1000000*(9-k)/\j=h,fun l _=>(iAt l 2).toNat,⟨a.length,t12,out0,rfl,oo,gz0,by rw [ho,ht];rfl,oo,oo,rfl⟩,?_⟩
 rintro d out n E ⟨k,dd,c,L,S,B,f,Q,D,rfl⟩
 obtain ⟨rfl,rfl,rfl⟩:d=dd/\out=c/\n=(k:Int):=gz0
 refine C0 (fun z=>?_) (fun z=>?_)
 ·obtain ⟨k,rfl⟩:∃ m,k=m+2:=⟨k-2,oo⟩
  have O:C4 (((k+2:Nat):Int)-1)=((k+1:Nat):Int):=by rw [C1 oo oo];omega
  rw [O]
  refine s.load rfl oo oo ?_
  rw [aD]
  have V:=Kr hv (k+1)
  have C:(a.take (k+2)).sum=(a.take (k+1)).sum+a.getD (k+1) 0:=W7 (xs:=a) (k:=k+1) oo
  have u:=Ye hv (k+1)
  have W:=A8u (i:=((k+1:Nat):Int)) (d:=d-a.getD (k+1) 0) oo oo oo oo
  have y:=Nh (n:=((k+1:Nat):Int)+(d-a.getD (k+1) 0)-1) (k:=((k+1:Nat):Int)) oo oo oo
  rw [C1 (n:=a.getD (k+1) 0+1) oo oo]
  refine ⟨fun l j=>∃ (t:Nat) (o:Int),l=[I o,I (d-t+1)]/\(t:Int)<=d-a.getD (k+1) 0/\o+Jc ((k+1:Nat):Int) t=out+Jc ((k+1:Nat):Int) (d-a.getD (k+1) 0).toNat/\out<=o/\j=E,fun l _=>(d+1-iAt l 1).toNat,⟨(d-a.getD (k+1) 0).toNat,out,gz0,oo,rfl,oo,rfl⟩,?_⟩
  rintro o e hp4 ⟨t,N,G,F,b,r,rfl⟩
  obtain ⟨rfl,rfl⟩:o=N/\e=d-t+1:=gz0
  have p:∀ m,0<=Jc ((k+1:Nat):Int) m:=by
   intro m
   induction m with
   | zero=>simp [Jc]
   | succ m ih=>have:=(To (((k+1:Nat):Int)-1) m).1;simp only [Jc];omega
  refine C0 (fun M=>?_) (fun M=>?_)
  ·obtain ⟨t,rfl⟩:∃ m,t=m+1:=⟨t-1,oo⟩
   rw [C1 (n:=d-(d-((t+1:Nat):Int)+1)) oo oo,show d-(d-((t+1:Nat):Int)+1)=(t:Int) from oo]
   have w:=To (((k+1:Nat):Int)-1) t
   simp only [Jc] at b
   have:=p t
   refine Uq oo oo ⟨_,rfl,?_⟩
   rw [C1 (n:=o+_) oo oo,C1 (n:=d-((t+1:Nat):Int)+1+1) oo oo]
   exact ⟨⟨t,_,by congr 3;omega,oo,oo,oo,rfl⟩,by simp only [iAt,aG,aF];omega⟩
  ·have q:t=0:=oo
   subst q
   simp only [Jc] at b
   refine s.load rfl oo oo ?_
   rw [aD,C1 (n:=d-a.getD (k+1) 0) oo oo]
   have g:out+(U9 (((k+1:Nat):Int)+(d-a.getD (k+1) 0)-1) ((k+1:Nat):Int)+B0q a k (d-a.getD (k+1) 0))=Ut a:=f
   refine ⟨⟨k+1,_,_,rfl,oo,oo,?_,oo,oo,rfl⟩,by simp only [iAt,aG,aF];omega⟩
   grind
 ·have:B0q a (k-1) d=0:=by rw [show k-1=0 from oo];rfl
  grind
def A3x(s:SlI .i64 h A a)(hK:K (.tuple #[I (if J6 a then Ut a else 0),.bool (J6 a)]) h):aN prog 130 #[.slice A a.length ac] h K:=by
 refine (fnk func130 [(8,[4,5,6],[],[I 0,I 0,I 0]),(11,[5,7],[],[I 0,I 0])]) ?_
 refine Ft s ⟨_,rfl,Br.not (Br.of (fun b=>?_) (fun b=>gz0))⟩
 rw [b,iP rfl] at hK
 obtain ⟨f,_,e,d⟩:=U6 b
 refine Pu s ⟨_,rfl,C0 (fun c=>?_) (fun c=>?_)⟩
 ·rw [C1 o o]
  refine Sf ⟨_,_,rfl,?_⟩
  refine Se s b rfl ?_ hK
  rw [<- Tr (by simp [Ac];omega)];grind
 ·refine Se s b rfl ?_ hK
  unfold U9;omega
def B05(sa:SlI .i64 h A a)(sb:SlI .i64 h B b)(hno:(Bc a b&&J6 (opL (fun x y=>x+y) a b))=false->∀ h',h.le h'->K (.tuple #[.slice none 0 0,.bool false]) h')(hyes:(Bc a b&&J6 (opL (fun x y=>x+y) a b))=true->∀ A' h',h.le h'->SlI .i64 h' A' (opL (fun x y=>x+y) a b)->K (.tuple #[.slice A' (opL (fun x y=>x+y) a b).length (opL (fun x y=>x+y) a b).length,.bool true]) h'):
 aN prog 125 #[.slice A a.length ac,.slice B b.length bc] h K:=by
 refine (fnk func125 [(5,[7],[],[I 0])]) ?_
 refine A73 sa sb ⟨_,rfl,Br.not (Br.of (fun f=>?_) (fun f=>hno (by simp [f]) h (B7 h)))⟩
 obtain ⟨H,p,u⟩:=Em f
 have z:=(U6 p).1
 refine Hn Iy o o o o ?_
 intro c m
 refine ⟨_,_,_,rfl,?_⟩
 rw [aD]
 refine ⟨fun l h'=>∃ k:Nat,l=[I k]/\k<=a.length/\h'=h.put c (.cells (Ci I (I 0) (opL (fun x y=>x+y) a b) k).toArray 3),fun l _=>a.length-(iAt l 0).toNat,⟨0,rfl,o,?_⟩,?_⟩
 ·rw [Ov,N3];congr 2;exact S8 _ _
 rintro i G ⟨k,w,F,rfl⟩
 obtain rfl:i=(k:Int):=gz0
 have e:∀ g,h.le (h.put c g):=fun g=>Heap.le_put g m
 refine C0 (fun t=>?_) (fun t=>?_)
 ·refine (sa.mono (e _)).load rfl o o ?_
  refine (sb.mono (e _)).load rfl o o ?_
  rw [aD]
  have L:=Kr p k
  have E:=Kr u k
  refine ⟨_,rfl,o,o,?_⟩
  rw [C1 (n:=(k:Int)+1) o o]
  refine Hh Cd (zs:=opL (fun x y=>x+y) a b) (i:=k) (by rw [N3];omega) ?_ ⟨⟨k+1,by simp,o,rfl⟩,by simp only [iAt,aF];omega⟩
  rw [B01]
  exact C1 o o
 ·have j:k=a.length:=o
  subst j
  have s:a.length=(opL (fun x y=>x+y) a b).length:=(N3 _ _ _).symm
  have q:SlI .i64 (h.put c (.cells (Ci I (I 0) (opL (fun x y=>x+y) a b) a.length).toArray 3)) (some ⟨c,0,none⟩) (opL (fun x y=>x+y) a b):=by
   rw [s,Na];exact SlI.new h c _ _ _
  have D:aN prog 179 #[.slice (some ⟨c,0,none⟩) a.length a.length] (h.put c (.cells (Ci I (I 0) (opL (fun x y=>x+y) a b) a.length).toArray 3)) fun r d=>∃ t37:Bool,r= .bool t37/\Br (!t37) (K (.tuple #[.slice none 0 0,.bool false]) d) (K (.tuple #[.slice (some ⟨c,0,none⟩) a.length a.length,.bool true]) d):=by
   rw [s] at q ⊢
   refine Ft q ⟨_,rfl,Br.not (Br.of (fun C=>?_) (fun C=>?_))⟩
   ·grind
   grind
  exact D
end
def Priv.grow{h g h2:aH}{e:bF}{s:Nat}{A:Option aL}{n c:Nat}{xs:List aT}(p:Priv h g e s A n c xs)(hl:h.le h2):∃ g2,g.le g2/\Priv h2 g2 e s A n c xs/\∀ k,h k=none->g2 k=h2 k:=by
 rcases p with ⟨q,d,⟨f,rfl⟩|⟨b,i,t,r,rfl,l⟩⟩
 ·exact ⟨h2,hl,⟨q,d,.inl ⟨f,rfl⟩⟩,fun _ _=>rfl⟩
 ·have j:=hl b _ (C3 g b _)
  refine ⟨fun k=>if k=b then none else h2 k,fun k o e=>?_,⟨q,d,.inr ⟨b,i,t,iP rfl,?_,l⟩⟩,fun k m=>?_⟩
  ·have a:k≠b:=gz0
   show (if k=b then none else h2 k)=some o
   rw [iN a]
   exact hl k o (by rw [B9 _ _ a];exact e)
  ·funext k
   by_cases a:k=b
   ·rw [a,C3,j]
   ·rw [B9 _ _ a,iN a]
  ·have a:k≠b:=by rintro rfl;rw [C3] at m;cases m
   grind
def Vc{k:IntKind}{h h':aH}{a:aL}{xs:List Int}(e:h' a.block=h a.block)(s:SlI k h (some a) xs):SlI k h' (some a) xs:=by
 rcases s with s|⟨f,c,d⟩
 ·exact .inl s
 ·cases c
  refine .inr ⟨a,rfl,fun i v b=>?_⟩
  have:=d i v b
  unfold Heap.cell? at this ⊢
  rw [Tz] at this ⊢
  grind
def Ga{k:IntKind}{h h2 g2 g3:aH}{e:bF}{A:Option aL}{n c:Nat}{xs:List Int}(p:Priv h2 g2 e 1 A n c (xs.map (Value.int k)))(hl:h.le g2)(hg:∀ k,h k=none->g3 k=h2 k):SlI k g3 A xs:=by
 have f:SlI k h2 A xs:=p.slV
 rcases p.2.2 with ⟨d,_⟩|⟨b,i,g,a,j,_⟩
 ·have l:=p.1
  have h2:=p.2.1
  have:xs=[]:=List.eq_nil_of_length_eq_zero gz0
  subst this;exact SlI.nil
 ·subst g
  refine Vc (hg b ?_) f
  cases x:h b with
  | none=>rfl
  | some o=>have:=hl b o x;grind
def Wa{P:bZ}{t e ty:bF}{z:aT}{bytes:Nat}(st:cC P t e z 1 bytes){h g:aH}{A:Option aL}{n c:Nat}{xs:List aT}(p:Priv h g e 1 A n c xs){v:aT}(hv:v.cells=#[v])(hv1:Nr v=true)
 (hb:(2*(n+1)+192)*bytes<=281474976710656) (hm:n+1<=9223372036854775807) {K:Option aL->Nat->Nat->aH->Prop}
 (x:∀ A' c' h' g',g.le g'->Priv h' g' e 1 A' (n+1) c' (xs++[v])->K A' (n+1) c' h'):
 wpH P (bH t 1 #[(0,v)]) (fun v' hp=>∃ (B:Option aL) (m d:Nat),v'= .slice B m d/\wpH P (bW #[t,t] ty #[.slice A n c,.slice B m d]) (fun v1 hp1=>∃ (A':Option aL) (n' c':Nat),v1= .slice A' n' c'/\K A' n' c' hp1) hp) h:=by
 refine Q7 st hv ?_
 intro k a
 refine ⟨_,_,_,rfl,?_⟩
 refine Ay st (p.put a _) (m:=1) (ys:=[v]) rfl (.inr ⟨_,rfl,?_⟩) gz0 hb hm ?_
 ·intro j u i
  cases j with
  | zero=>simp at i;subst i;rw [D4,D7];rfl
  | succ j=>grind
 ·intro A' c2 q l b f
  refine ⟨_,_,_,rfl,x A' c2 q l (B0 (Heap.le_put _ ?_) b) f⟩
  cases hgn:g k with
  | none=>rfl
  | some o=>have:=p.le k o hgn;grind
def MoRow(g:aH)(v:aT)(xs:List Int):Prop:=∃ A c,v= .slice A xs.length c/\SlI .i64 g A xs/\xs.length<=6
def MoRows(g:aH):List aT->List (List Int)->Prop
 | [],[]=>True
 | v::vs,xs::xss=>MoRow g v xs/\MoRows g vs xss
 | _,_=>False
def MoRow.mono{g g':aH}(hl:g.le g'){v:aT}{xs:List Int}(r:MoRow g v xs):MoRow g' v xs:=by
 obtain ⟨A,c,a,b,d⟩:=r;exact ⟨A,c,a,b.mono hl,d⟩
def MoRows.mono{g g':aH}(hl:g.le g'):∀ {vs:List aT} {xss:List (List Int)},MoRows g vs xss->MoRows g' vs xss
 | [],[],_=>trivial
 | _::_,_::_,⟨h1,h2⟩=>⟨h1.mono hl,MoRows.mono hl h2⟩
def MoRows.append{g:aH}: ∀ {vs us:List aT} {xss yss:List (List Int)},MoRows g vs xss->MoRows g us yss->MoRows g (vs++us) (xss++yss)
 | [],_,[],_,_,h=>h
 | _::_,_,_::_,_,⟨h1,h2⟩,h=>⟨h1,MoRows.append h2 h⟩
def MoRows.length{g:aH}: ∀ {vs:List aT} {xss:List (List Int)},MoRows g vs xss->vs.length=xss.length
 | [],[],_=>rfl
 | _::_,_::_,⟨_,h2⟩=>by simp [MoRows.length h2]
def MoRows.at{g:aH}: ∀ {vs:List aT} {xss:List (List Int)} {i:Nat},MoRows g vs xss->i<xss.length->∃ v,vs[i]? = some v/\MoRow g v (xss.getD i [])
 | [],[],_,_,h=>by simp at h
 | v::_,xs::_,0,⟨h1,_⟩,_=>⟨v,by simp,by assumption⟩
 | _::_,_::_,i+1,⟨_,h2⟩,h=>by simpa using MoRows.at (i:=i) h2 gz0
def MoPriv(h g:aH)(A:Option aL)(c:Nat)(xss:List (List Int)):Prop:=∃ vs,Priv h g 22 1 A xss.length c vs/\MoRows g vs xss
def MoSl(h:aH)(A:Option aL)(xss:List (List Int)):Prop:=∃ vs,SlV h A vs/\MoRows h vs xss
def MoPriv.slR{h g:aH}{A:Option aL}{c:Nat}{xss:List (List Int)}(p:MoPriv h g A c xss):MoSl h A xss:=by
 obtain ⟨d,a,b⟩:=p;exact ⟨d,a.slV,b.mono a.le⟩
def MoPriv.le{h g:aH}{A:Option aL}{c:Nat}{xss:List (List Int)}(p:MoPriv h g A c xss):g.le h:=by
 obtain ⟨d,a,b⟩:=p;exact a.le
def MoPriv.grow{h g h2:aH}{A:Option aL}{c:Nat}{xss:List (List Int)}(p:MoPriv h g A c xss)(hl:h.le h2):∃ g2,g.le g2/\MoPriv h2 g2 A c xss/\∀ k,h k=none->g2 k=h2 k:=by
 obtain ⟨e,d,r⟩:=p
 obtain ⟨g2,a,b,c⟩:=d.grow hl
 exact ⟨g2,a,⟨e,b,r.mono a⟩,c⟩
def Mj{P:bZ}(st:cC P 60 22 (.slice none 0 0) 1 24){ty:bF}{h g:aH}{A:Option aL}{c:Nat}{xss:List (List Int)}(p:MoPriv h g A c xss){B:Option aL}{xs:List Int}{n d:Nat}(hn:n=xs.length)(s:SlI .i64 g B xs)(hx:xs.length<=6)(hb:xss.length<=1000000){K:Option aL->Nat->Nat->aH->Prop}
 (x:∀ A' c' h' g',g.le g'->MoPriv h' g' A' c' (xss++[xs])->K A' (xss++[xs]).length c' h'):
 wpH P (bH 60 1 #[(0,.slice B n d)]) (fun v' hp=>∃ (B:Option aL) (m d:Nat),v'= .slice B m d/\wpH P (bW #[60,60] ty #[.slice A xss.length c,.slice B m d]) (fun v1 hp1=>∃ (A':Option aL) (n' c':Nat),v1= .slice A' n' c'/\K A' n' c' hp1) hp) h:=by
 obtain ⟨e,b,r⟩:=p
 refine Wa st b rfl rfl o o ?_
 intro A' c' h' g' a hp
 have:=x A' c' h' g' a ⟨e++[.slice B n d],gz0,(r.mono a).append ⟨⟨B,d,by rw [hn],s.mono a,hx⟩,trivial⟩⟩
 grind
def N2:Nat->Nat->List (List Int)
 | 0,d=>if d=0 then [[]] else []
 | n+1,d=>(aM (d+1)).flatMap fun j=>(N2 n j).map (· ++ [((d:Int)-j)])
def On:Nat->Nat->Nat
 | 0,d=>if d=0 then 1 else 0
 | n+1,d=>((aM (d+1)).map (On n)).sum
def Mh:∀ n d,(N2 n d).length=On n d
 | 0,d=>by simp only [N2,On];grind
 | n+1,d=>by
  simp only [N2,On,cM,List.length_map]
  congr 1
  apply cL
  intro j _;exact Mh n j
def A1e:∀ n d xs,xs∈N2 n d->xs.length=n
 | 0,d,xs,h=>by
  simp only [N2] at h
  grind
 | n+1,d,xs,h=>by
  simp only [N2,List.mem_flatMap,List.mem_map] at h
  obtain ⟨j,_,ys,hy,rfl⟩:=h
  simp [A1e n j ys hy]
def A7f:∀ n:Fin 7,((aM 25).map (On n)).sum<=1000000:=by decide +kernel
def Hg(f:Nat->Nat){a b:Nat}(h:a<=b):((aM a).map f).sum<=((aM b).map f).sum:=by
 induction b with
 | zero=>grind
 | succ b ih=>
  by_cases e:a=b+1
  ·grind
  ·rw [bD,bL,bC];omega
def Rl{n k:Nat}(hn:n<=6)(hk:k<=25):((aM k).map (On n)).sum<=1000000:=
 bY (Hg (On n) hk) (A7f ⟨n,o⟩)
def J8(n d k:Nat)(tail:List Int):List (List Int):=(aM k).flatMap fun j=>(N2 n j).map (· ++ (((d:Int)-j)::tail))
def Rr(n d:Nat)(tail:List Int):J8 n d (d+1) tail=(N2 (n+1) d).map (· ++ tail):=by
 simp only [J8,N2,List.map_flatMap,List.map_map]
 congr 1
 funext j
 simp_all
def Pp(n d k:Nat)(tail:List Int):J8 n d (k+1) tail=J8 n d k tail++(N2 n k).map (· ++ (((d:Int)-k)::tail)):=by
 simp [J8,bD]
def Rq(n d k:Nat)(tail:List Int):(J8 n d k tail).length=((aM k).map (On n)).sum:=by
 simp only [J8,cM,List.length_map]
 congr 1
 apply cL
 intro j _;exact Mh n j
section
variable {h g:aH} {K:VP}
def Yd(n:Nat):n<=6->∀ (d:Nat) (tail:List Int) (xss:List (List Int)) (R T:Option aL) (rc tc:Nat) (h g:aH) (K:VP),d<=24->n+tail.length<=6->xss.length+On n d<=1000000->MoPriv h g R rc xss->SlI .i64 g T tail->
 (∀ R' c' h' g',g.le g'->MoPriv h' g' R' c' (xss++(N2 n d).map (· ++ tail))->K (.slice R' (xss++(N2 n d).map (· ++ tail)).length c') h')->
 aN prog 195 #[.slice R xss.length rc,I n,I d,.slice T tail.length tc] h K:=by
 induction n with
 | zero=>
  intro _ d tail xss R T rc tc h g K S W c p s t
  refine (fnk func195 [(6,[0,9],[],[.slice none 0 0,I 0])]) ?_
  show Br _ _ _
  refine D5 (fun _=>?_) (fun O=>absurd rfl O)
  refine C0 (fun z=>?_) (fun z=>?_)
  ·have e:N2 0 d=[]:=by simp only [N2];grind
   have:=t R rc h g (B7 g) gz0
   grind
  ·have G:d=0:=o
   subst G
   refine Om Iy ?_
   intro f a
   refine ⟨_,_,_,rfl,?_⟩
   have D:Priv (h.put f (.cells #[] 3)) (h.put f (.cells #[] 3)) 3 1 (some ⟨f,0,none⟩) 0 0 []:=Priv.nil _ _ _ _
   have X:=(s.mono p.le).mono (Heap.le_put (.cells #[] 3) a)
   refine Ay Iy D (m:=tail.length) (ys:=tail.map I) (by simp) ?_ (by simp [Nr]) o o ?_
   ·assumption
   intro A' c' V Q b q
   refine ⟨_,_,_,rfl,?_⟩
   have r:h.le Q:=B0 (Heap.le_put _ a) b
   obtain ⟨L,i,u,j⟩:=p.grow (B0 r q.le)
   have F:SlI .i64 L A' tail:=Ga (by simpa using q) r j
   refine Mj Vi u (aS _) F o o ?_
   intro A4 c4 h4 g4 y p4
   have:=t A4 c4 h4 g4 (B0 i y) (by assumption)
   assumption
 | succ n ih=>
  intro hn d tail xss R T rc tc h g K S W c p s t
  have E:xss.length+((aM (d+1)).map (On n)).sum<=1000000:=c
  refine (fnk func195 [(6,[0,9],[],[.slice none 0 0,I 0])]) ?_
  refine D5 (fun O=>o) (fun _=>?_)
  refine ⟨fun l h'=>∃ (k:Nat) (R':Option aL) (c':Nat) (g':aH),l=[.slice R' (xss++J8 n d k tail).length c',I ((d:Int)-k)]/\k<=d+1/\g.le g'/\MoPriv h' g' R' c' (xss++J8 n d k tail),fun l _=>(iAt l 1+1).toNat,⟨0,R,rc,g,by simp [J8],o,B7 g,by simpa [J8] using p⟩,?_⟩
  rintro R1 n1 c1 last B ⟨k,R',c',g',hl,hk,w,C⟩
  obtain ⟨⟨rfl,rfl,rfl⟩,rfl⟩:(R1=R'/\n1=(xss++J8 n d k tail).length/\c1=c')/\last=(d:Int)-k:=gz0
  refine C0 (fun z=>?_) (fun z=>?_)
  ·refine Q7 Iy rfl ?_
   intro f a
   refine ⟨_,_,_,rfl,?_⟩
   have D:Priv (B.put f (.cells #[I ((d:Int)-k)] 3)) B 3 1 (some ⟨f,0,none⟩) 1 1 [I ((d:Int)-k)]:=⟨rfl,aE _,.inr ⟨f,[I ((d:Int)-k)],rfl,a,rfl,rfl,rfl⟩⟩
   have X:=((s.mono w).mono C.le).mono (Heap.le_put (.cells #[I ((d:Int)-k)] 3) a)
   refine Ay Iy D (m:=tail.length) (ys:=tail.map I) (by simp) ?_ (by simp [Nr]) o o ?_
   ·assumption
   intro A2 c2 V Q b q
   refine ⟨_,_,_,rfl,?_⟩
   obtain ⟨L,i,u,j⟩:=C.grow (B0 b q.le)
   have F:SlI .i64 L A2 (((d:Int)-k)::tail):=Ga (by simpa using q) b j
   have e1:C4 (((n+1:Nat):Int)-1)=(n:Int):=by rw [C1 o o];omega
   have e2:C4 ((d:Int)-((d:Int)-k))=(k:Int):=by rw [C1 o o];omega
   have e3:C4 ((d:Int)-k-1)=(d:Int)-(k+1:Nat):=by rw [C1 o o];omega
   rw [e1,e2,e3]
   have aa:=Hg (On n) (show k+1<=d+1 from o)
   have el:1+tail.length=(((d:Int)-k)::tail).length:=gz0
   rw [el]
   have N:((aM (k+1)).map (On n)).sum=((aM k).map (On n)).sum+On n k:=by
    rw [bD,bL,bC];simp
   refine ih o k _ _ _ _ _ _ _ _ _ o o ?_ u F ?_
   ·rw [List.length_append,Rq];omega
   ·intro R5 c5 h5 g5 H M
    rw [cT,<- Pp] at M ⊢
    exact ⟨_,_,_,rfl,⟨k+1,R5,c5,g5,rfl,o,B0 w (B0 i H),M⟩,by simp only [iAt,aG,aF];omega⟩
  ·have A:k=d+1:=o
   subst A
   have:=t R1 c1 B g' w (by rw [<- Rr];exact C)
   rw [<- Rr] at this;exact this
end
def Ul(n k:Nat):List (List Int):=(aM k).flatMap (N2 n)
def A0x(n k:Nat):Ul n (k+1)=Ul n k++N2 n k:=by simp [Ul,bD]
def A5d(n k:Nat):(Ul n k).length=((aM k).map (On n)).sum:=by
 simp only [Ul,cM]
 congr 1
 apply cL
 intro j _;exact Mh n j
def Tw(n d:Int):Int:=if Ac n d then (if A27 n d>4096 then 2 else 0) else 3
def B24(n d:Int):List (List Int):=if Ac n d then (if A27 n d>4096 then [] else Ul n.toNat (d.toNat+1)) else []
def MoSl.nil{h:aH}{A:Option aL}:MoSl h A []:=⟨[],.inl rfl,trivial⟩
def MoSl.mono{h h':aH}(hl:h.le h'){A:Option aL}{xss:List (List Int)}(s:MoSl h A xss):MoSl h' A xss:=by
 obtain ⟨c,a,b⟩:=s;exact ⟨c,a.mono hl,b.mono hl⟩
section
variable {h g:aH} {K:VP}
def A7b{n d:Int}(hK:∀ A c h',h.le h'->MoSl h' A (B24 n d)->K (.tuple #[.slice A (B24 n d).length c,I (Tw n d)]) h'):aN prog 147 #[I n,I d] h K:=by
 refine (fnk func147 [(8,[8,24],[],[.slice none 0 0,I 0])]) ?_
 refine Px ⟨_,_,rfl,?_⟩
 refine Br.not (Br.of (fun e=>?_) (fun e=>?_))
 ·refine C0 (fun r=>?_) (fun r=>?_)
  ·have:=hK none 0 h (B7 h) (by unfold B24;rw [iP e,iP r];exact MoSl.nil)
   unfold B24 Tw at this
   grind
  ·have L:=of_decide_eq_true e
   have g:=To n d
   refine Hn Vi o g.1 o o ?_
   intro b z
   refine ⟨_,_,_,rfl,?_⟩
   obtain ⟨n',rfl⟩:∃ n':Nat,n=n':=⟨n.toNat,o⟩
   obtain ⟨d',rfl⟩:∃ d':Nat,d=d':=⟨d.toNat,o⟩
   have i:B24 n' d'=Ul n' (d'+1):=by unfold B24;grind
   have D:Tw n' d'=0:=by unfold Tw;grind
   refine ⟨fun l h'=>∃ (k:Nat) (R':Option aL) (a:Nat) (f:aH),l=[.slice R' (Ul n' k).length a,I k]/\k<=d'+1/\h.le f/\MoPriv h' f R' a (Ul n' k),fun l _=>(d'+1)-(iAt l 1).toNat,⟨0,some ⟨b,0,none⟩,_,h,rfl,o,B7 h,[],⟨rfl,Nat.zero_le _,.inr ⟨b,aC (A27 n' d').toNat (.slice none 0 0),rfl,z,?_,?_,rfl⟩⟩,trivial⟩,?_⟩
   ·rw [show (Value.slice none 0 0).cells=#[.slice none 0 0] from rfl,S8]
   ·simp
   rintro R1 E c1 t w ⟨k,R',a,f,H,F,u,m⟩
   obtain ⟨⟨rfl,rfl,rfl⟩,rfl⟩:(R1=R'/\E=(Ul n' k).length/\c1=a)/\t=(k:Int):=gz0
   rw [C1 (n:=(d':Int)+1) o o]
   refine C0 (fun B=>?_) (fun B=>?_)
   ·have M:=Rl (n:=n') (k:=k+1) o o
    have s:((aM (k+1)).map (On n')).sum=((aM k).map (On n')).sum+On n' k:=by
     rw [bD,bL,bC];simp
    have y:=A5d n' k
    refine Yd n' o k [] (Ul n' k) R1 none c1 0 w f _ o gz0 o m SlI.nil ?_
    intro R5 c5 G C p q
    rw [show (N2 n' k).map (· ++ [])=N2 n' k by simp,<- A0x] at q ⊢
    rw [C1 (n:=(k:Int)+1) o o]
    exact ⟨_,_,_,rfl,⟨k+1,R5,c5,C,rfl,o,B0 u p,q⟩,by simp only [iAt,aG,aF];omega⟩
   ·have j:k=d'+1:=o
    subst j
    have:=hK R1 c1 w (B0 u m.le) (by rw [i];exact m.slR)
    grind
 ·have:=hK none 0 h (B7 h) (by unfold B24;rw [iN (by simp [e])];exact MoSl.nil)
  unfold B24 Tw at this
  grind
end
def MoPriv.call{P:bZ}{f:FuncId}{args:Array aT}{h g:aH}{A:Option aL}{c:Nat}{xss:List (List Int)}(p:MoPriv h g A c xss){K:VP}(x:aN P f args g (fun r h0=>g.le h0/\∀ h',MoPriv h' h0 A c xss->K r h')):aN P f args h K:=by
 obtain ⟨d,b,rv⟩:=p
 exact b.call (x.mono fun r h0 ⟨e,a⟩ h' i=>a h' ⟨d,i,rv.mono e⟩)
section
variable {h g:aH} {K:VP}
def A1f(d:Nat):N2 1 d=[[(d:Int)]]:=by
 simp only [N2]
 rw [List.range_succ_eq_map]
 simp_all
def A3y(n:Nat):n<=6->∀ (d:Nat) (xss:List (List Int)) (R:Option aL) (rc:Nat) (h g:aH) (K:VP),d<=24->xss.length+On n d<=1000000->MoPriv h g R rc xss->
 (∀ R' c' h' g',g.le g'->MoPriv h' g' R' c' (xss++N2 n d)->K (.slice R' (xss++N2 n d).length c') h')->
 aN prog 85 #[.slice R xss.length rc,I n,I d] h K:=by
 induction n with
 | zero=>
  intro _ d xss R rc h g K hd r p hK
  refine (fnk func85 [(8,[0,7],[],[.slice none 0 0,I 0]),(12,[0,9],[],[.slice none 0 0,I 0])]) ?_
  refine D5 (fun _=>?_) (fun h0=>absurd rfl h0)
  refine D5 (fun h1=>?_) (fun h1=>?_)
  ·have ac:d=0:=o
   subst ac
   refine Mj Vi p (xs:=[]) rfl SlI.nil (by simp) o ?_
   assumption
  ·have e:N2 0 d=[]:=by simp only [N2];grind
   have:=hK R rc h g (B7 g) gz0
   grind
 | succ n ih=>
  intro hn d xss R rc h g K hd r p hK
  have T:xss.length+((aM (d+1)).map (On n)).sum<=1000000:=r
  refine (fnk func85 [(8,[0,7],[],[.slice none 0 0,I 0]),(12,[0,9],[],[.slice none 0 0,I 0])]) ?_
  refine D5 (fun h0=>o) (fun _=>?_)
  refine D5 (fun h1=>?_) (fun h1=>?_)
  ·have V:n=0:=o
   subst V
   refine Q7 Iy rfl ?_
   intro f c
   refine ⟨_,_,_,rfl,?_⟩
   have M:Priv (h.put f (.cells #[I d] 3)) h 3 1 (some ⟨f,0,none⟩) 1 1 ([(d:Int)].map I):=⟨rfl,aE _,.inr ⟨f,[I d],rfl,c,rfl,rfl,rfl⟩⟩
   obtain ⟨g3,S,p3,aa⟩:=p.grow (Heap.le_put (.cells #[I d] 3) c)
   have s3:SlI .i64 g3 (some ⟨f,0,none⟩) [(d:Int)]:=Ga M (B7 h) aa
   refine Mj Vi p3 (xs:=[(d:Int)]) rfl s3 (by simp) o ?_
   intro A4 c4 h4 g4 ae p4
   have:=hK A4 c4 h4 g4 (B0 S ae) (by rw [A1f];exact p4)
   rw [A1f] at this;exact this
  ·refine ⟨fun l h'=>∃ (k:Nat) (R':Option aL) (c':Nat) (g':aH),l=[.slice R' (xss++J8 n d k []).length c',I ((d:Int)-k)]/\k<=d+1/\g.le g'/\MoPriv h' g' R' c' (xss++J8 n d k []),fun l _=>(iAt l 1+1).toNat,⟨0,R,rc,g,by simp [J8],o,B7 g,by simpa [J8] using p⟩,?_⟩
   rintro R1 n1 c1 last hp ⟨k,R',c',g',hl,hk,hg,p1⟩
   obtain ⟨⟨rfl,rfl,rfl⟩,rfl⟩:(R1=R'/\n1=(xss++J8 n d k []).length/\c1=c')/\last=(d:Int)-k:=gz0
   refine C0 (fun h2=>?_) (fun h2=>?_)
   ·have e1:C4 (((n+1:Nat):Int)-1)=(n:Int):=by rw [C1 o o];omega
    have e2:C4 ((d:Int)-((d:Int)-k))=(k:Int):=by rw [C1 o o];omega
    have e3:C4 ((d:Int)-k-1)=(d:Int)-(k+1:Nat):=by rw [C1 o o];omega
    rw [e1,e2,e3]
    have al:((aM (k+1)).map (On n)).sum=((aM k).map (On n)).sum+On n k:=by
     rw [bD,bL,bC];simp
    have ar:=Hg (On n) (show k+1<=d+1 from o)
    have hr:=Rq n d k []
    have aq:=Mh n k
    have p0:MoPriv g' g' none 0 []:=⟨[],Priv.nil _ _ _ _,trivial⟩
    refine p1.call (ih o k [] none 0 g' g' _ o gz0 p0 ?_)
    intro R5 c5 z g5 ak Q
    rw [List.nil_append] at Q ⊢
    have E:g'.le z:=B0 ak Q.le
    refine ⟨E,fun av p6=>⟨_,_,_,rfl,?_⟩⟩
    obtain ⟨ao,aj,F⟩:=Q.slR
    have az:=F.length
    refine ⟨fun l h'=>∃ (m:Nat) (R':Option aL) (c':Nat) (H:aH),l=[.slice R' (xss++J8 n d k []++((N2 n k).take m).map (· ++ [(d:Int)-k])).length c',I m]/\m<=(N2 n k).length/\z.le H/\MoPriv h' H R' c' (xss++J8 n d k []++((N2 n k).take m).map (· ++ [(d:Int)-k])),fun l _=>(N2 n k).length-(iAt l 1).toNat,⟨0,R1,c1,z,by simp,o,B7 z,gz0⟩,?_⟩
    rintro R7 n7 c7 i7 j ⟨m,R',c',H,ay,hm,t,G⟩
    obtain ⟨⟨rfl,rfl,rfl⟩,rfl⟩:(R7=R'/\n7=(xss++J8 n d k []++((N2 n k).take m).map (· ++ [(d:Int)-k])).length/\c7=c')/\i7=(m:Int):=gz0
    refine C0 (fun h3=>?_) (fun h3=>?_)
    ·have b:m<(N2 n k).length:=o
     refine Om Iy ?_
     intro f c
     refine ⟨_,_,_,rfl,?_⟩
     have s:z.le (j.put f (.cells #[] 3)):=B0 t (B0 G.le (Heap.le_put _ c))
     obtain ⟨v,hv,B,bc,rfl,sB,au⟩:=F.at b
     obtain ⟨a,ha,hc⟩:=(aj.mono s).at (i:=m) o
     rw [bJ o] at hv
     refine ⟨a,ha,o,o,B,_,bc,by rw [aD,Nat.mul_one,hc];exact hv,?_⟩
     have am:((N2 n k).getD m []).length=n:=by
      have:(N2 n k).getD m []=(N2 n k)[m]:=gz0
      rw [this];exact A1e n k _ (List.getElem_mem b)
     have aw:=sB.mono s
     have M:Priv (j.put f (.cells #[] 3)) (j.put f (.cells #[] 3)) 3 1 (some ⟨f,0,none⟩) 0 0 []:=Priv.nil _ _ _ _
     refine Ay Iy M (m:=((N2 n k).getD m []).length) (ys:=((N2 n k).getD m []).map I) (by simp) ?_ (by simp [Nr]) o o ?_
     ·assumption
     intro A9 c9 h9 g9 ah p9
     refine ⟨_,_,_,rfl,?_⟩
     refine Wa Iy p9 rfl rfl o o ?_
     intro A10 an ap W y u
     have q:j.le W:=B0 (Heap.le_put _ c) (B0 ah y)
     obtain ⟨L,A,af,D⟩:=G.grow (B0 q u.le)
     have N:SlI .i64 L A10 ((N2 n k).getD m []++[(d:Int)-k]):=Ga (by simpa using u) q D
     have O:(xss++J8 n d k []++((N2 n k).take m).map (· ++ [(d:Int)-k])).length<=1000000:=by
      grind
     refine Mj Vi af (by simp) N gz0 O ?_
     intro A12 X ax ai w C
     have ag:xss++J8 n d k []++((N2 n k).take m).map (· ++ [(d:Int)-k])++[(N2 n k).getD m []++[(d:Int)-k]]=xss++J8 n d k []++((N2 n k).take (m+1)).map (· ++ [(d:Int)-k]):=by
      rw [cR b,bL,cT]
      grind
     rw [ag] at C ⊢
     rw [C1 (n:=(m:Int)+1) o o]
     exact ⟨⟨m+1,A12,X,ai,rfl,o,B0 t (B0 A w),C⟩,by simp only [iAt,aG,aF];omega⟩
    ·have ad:m=(N2 n k).length:=o
     subst ad
     rw [bU,cT,<- Pp] at G ⊢
     exact ⟨⟨k+1,R7,c7,H,rfl,o,B0 hg (B0 E t),G⟩,by simp only [iAt,aG,aF];omega⟩
   ·have e0:J8 n d (d+1) []=N2 (n+1) d:=by rfl
    grind
def Oh{n d:Nat}(hn:n<=6)(hd:d<=24)(hK:∀ A c h',h.le h'->MoSl h' A (Ul n (d+1))->K (.slice A (Ul n (d+1)).length c) h'):aN prog 41 #[I n,I d] h K:=by
 refine (fnk func41 [(3,[5,6],[],[.slice none 0 0,I 0])]) ?_
 refine ⟨fun l h'=>∃ (k:Nat) (R':Option aL) (a:Nat) (b:aH),l=[.slice R' (Ul n k).length a,I k]/\k<=d+1/\h.le b/\MoPriv h' b R' a (Ul n k),fun l _=>(d+1)-(iAt l 1).toNat,⟨0,none,0,h,rfl,o,B7 h,[],Priv.nil _ _ _ _,trivial⟩,?_⟩
 rintro R1 r c1 t i ⟨k,R',a,b,y,w,p,e⟩
 obtain ⟨⟨rfl,rfl,rfl⟩,rfl⟩:(R1=R'/\r=(Ul n k).length/\c1=a)/\t=(k:Int):=gz0
 refine C0 (fun u=>?_) (fun u=>?_)
 ·have B:=Rl (n:=n) (k:=k+1) o o
  have m:((aM (k+1)).map (On n)).sum=((aM k).map (On n)).sum+On n k:=by
   rw [bD,bL,bC];simp
  have s:=A5d n k
  refine A3y n o k (Ul n k) R1 c1 i b _ o o e ?_
  intro R5 c5 z q f j
  rw [<- A0x] at j ⊢
  rw [C1 (n:=(k:Int)+1) o o]
  exact ⟨_,_,_,rfl,⟨k+1,R5,c5,q,rfl,o,B0 p f,j⟩,by simp only [iAt,aG,aF];omega⟩
 ·have g:k=d+1:=o
  subst g
  exact hK R1 c1 i (B0 p e.le) e.slR
def MoSl.row{A:Option aL}{xss:List (List Int)}(s:MoSl h A xss){i:Nat}(hi:i<xss.length):∃ a B bc,A=some a/\h.cell? (a.add i)=some (.slice B xss[i].length bc)/\SlI .i64 h B xss[i]/\xss[i].length<=6:=by
 obtain ⟨c,d,rv⟩:=s
 obtain ⟨v,g,B,bc,rfl,f,e⟩:=rv.at hi
 have b:i<c.length:=gz0
 obtain ⟨a,j,k⟩:=d.at b
 grind
end
def mo(v d:Nat):List (List Int):=Ul v (d+1)
def mon(v d i:Nat):List Int:=(mo v d).getD i []
def mi(a b:List Int):Nat:=(Ut (opL (fun x y=>x+y) a b)).toNat
def C3g(v D:Nat):Bool:=
 decide ((mo v D).length<=28)&&decide (A27 v D=(mo v D).length)&&Ac v D &&
 (aM (mo v D).length).all fun i=>J6 (mon v D i)&&decide ((mon v D i).length=v)&&decide ((Ut (mon v D i)).toNat=i) &&
  (aM (mo v D).length).all fun k=>decide (B1d (mon v D i) (mon v D k)=if i<k then -1 else if i=k then 0 else 1)
def C3f(v d D:Nat):Bool:=
 (aM (mo v d).length).all fun i=>decide (mon v d i=mon v D i)&&(aM (mo v d).length).all fun k=>
  Bc (mon v d i) (mon v d k)&&J6 (opL (fun x y=>x+y) (mon v d i) (mon v d k))&&decide (mi (mon v d i) (mon v d k)<(mo v D).length)&&decide (opL (fun x y=>x+y) (mon v d i) (mon v d k)=mon v D (mi (mon v d i) (mon v d k)))&&decide (mi (mon v d i) (mon v d k)=mi (mon v d k) (mon v d i))&&decide ((Ut (opL (fun x y=>x+y) (mon v d i) (mon v d k)))=mi (mon v d i) (mon v d k))
def B3g:∀ v:Fin 3,∀ D:Fin 7,1<=v.val->C3g v D=true:=by decide +kernel
def B3f:∀ v:Fin 3,∀ d:Fin 4,∀ D:Fin 7,1<=v.val->2*d.val<=D.val->C3f v d D=true:=by decide +kernel
structure MoFacts (v D:Nat):Prop where
 len:(mo v D).length<=28
 cnt:A27 v D=(mo v D).length
 rng:Ac v D=true
 val:∀ i,i<(mo v D).length->J6 (mon v D i)=true/\(mon v D i).length=v/\(Ut (mon v D i)).toNat=i
 cmp:∀ i k,i<(mo v D).length->k<(mo v D).length->B1d (mon v D i) (mon v D k)=if i<k then -1 else if i=k then 0 else 1
def O3{v D:Nat}(h1:1<=v)(h2:v<=2)(hD:D<=6):MoFacts v D:=by
 have:=B3g ⟨v,o⟩ ⟨D,o⟩ h1
 simp only [C3g,cU,decide_eq_true_eq,List.all_eq_true,List.mem_range] at this
 obtain ⟨⟨⟨d,e⟩,f⟩,b⟩:=this
 exact ⟨d,e,f,fun i a=>⟨(b i a).1.1.1,(b i a).1.1.2,(b i a).1.2⟩,fun i k a c=>(b i a).2 k c⟩
structure MuFacts (v d D:Nat) (i k:Nat):Prop where
 same:mon v d i=mon v D i
 pair:(Bc (mon v d i) (mon v d k)&&J6 (opL (fun x y=>x+y) (mon v d i) (mon v d k)))=true
 lt:mi (mon v d i) (mon v d k)<(mo v D).length
 eq:opL (fun x y=>x+y) (mon v d i) (mon v d k)=mon v D (mi (mon v d i) (mon v d k))
 sym:mi (mon v d i) (mon v d k)=mi (mon v d k) (mon v d i)
 idx:Ut (opL (fun x y=>x+y) (mon v d i) (mon v d k))=mi (mon v d i) (mon v d k)
def Q9{v d D i k:Nat}(h1:1<=v)(h2:v<=2)(hd:d<=3)(hD:D<=6)(hdD:2*d<=D)(hi:i<(mo v d).length)(hk:k<(mo v d).length):MuFacts v d D i k:=by
 have:=B3f ⟨v,o⟩ ⟨d,o⟩ ⟨D,o⟩ h1 hdD
 simp only [C3f,cU,decide_eq_true_eq,List.all_eq_true,List.mem_range] at this
 obtain ⟨b,c⟩:=this i hi
 obtain ⟨⟨⟨⟨⟨j,l⟩,g⟩,f⟩,a⟩,e⟩:=c k hk
 exact ⟨b,by simp_all,g,f,a,e⟩
def B6u{v d i:Nat}(hi:i<(mo v d).length):(mo v d)[i]=mon v d i:=by unfold mon;grind
section
variable {h:aH} {K:VP} {A B:Option aL} {c cc n m v D:Nat} {V:Nat->Rat}
def Iq(h1:1<=v)(h2:v<=2)(hD:D<=6)(hK:∀ A c h',h.le h'->MoSl h' A (mo v D)->K (.tuple #[.slice A (mo v D).length c,I 0]) h'):aN prog 147 #[I (v:Int),I (D:Int)] h K:=by
 obtain ⟨e,b,a,_,_⟩:=O3 h1 h2 hD
 refine A7b ?_
 have d:B24 (v:Int) (D:Int)=mo v D:=by
  unfold B24
  rw [iP a,iN o]
  simp [mo]
 have f:Tw (v:Int) (D:Int)=0:=by
  unfold Tw
  grind
 grind
def Py(h1:1<=v)(h2:v<=2)(hD:D<=6)(hK:K (.tuple #[I ((mo v D).length:Int),.bool true]) h):aN prog 121 #[I (v:Int),I (D:Int)] h K:=by
 obtain ⟨a,c,b,_,_⟩:=O3 h1 h2 hD
 refine Px ?_
 grind
def MoSl.mon(s:MoSl h A (mo v D)){i:Nat}(hi:i<(mo v D).length):∃ a B bc,A=some a/\h.cell? (a.add (i*1))=some (.slice B (mon v D i).length bc)/\SlI .i64 h B (mon v D i):=by
 obtain ⟨a,B,bc,e,c0,b,_⟩:=s.row hi
 rw [B6u hi] at c0 b
 grind
def Lj{k:Nat}(h1:1<=v)(h2:v<=2)(hD:D<=6)(s:MoSl h A (mo v D))(hk:k<(mo v D).length)(t:SlI .i64 h B (mon v D k))(hK:K (.tuple #[I (k:Int),.bool true]) h):aN prog 174 #[.slice A (mo v D).length c,.slice B (mon v D k).length cc,.func (.func 175) #[] #[]] h K:=by
 obtain ⟨H,_,_,_,z⟩:=O3 h1 h2 hD
 refine (fnk func174 [(3,[9,10],[],[I 0,I 0])]) ?_
 refine ⟨fun L l=>∃ i j:Nat,i<=k/\k<=j/\j<=(mo v D).length/\L=[I (i:Int),I (j:Int)]/\l=h,fun L _=>(iAt L 1).toNat-(iAt L 0).toNat,⟨0,_,o,o,aE _,rfl,rfl⟩,?_⟩
 rintro M G l ⟨i,j,C,g,F,y,rfl⟩
 obtain ⟨rfl,rfl⟩:=y
 have b:C4 (Int.fdiv (C8 (C4 ((i:Int)+(j:Int)))) (2^(min ((1:Int)).toNat 64)))=(((i+j)/2:Nat):Int):=by
  rw [C1 (n:=(i:Int)+j) o o,C6 o o]
  have E:(2:Int)^(min ((1:Int)).toNat 64)=2:=dc
  rw [E]
  have w:Int.fdiv ((i:Int)+(j:Int)) 2=(((i+j)/2:Nat):Int):=by
   grind
  rw [w,C1 o o]
 rw [b]
 refine C0 (fun q=>?_) (fun p=>?_)
 ·have m:(i+j)/2<(mo v D).length:=o
  obtain ⟨a,B2,u,e,c0,f⟩:=s.mon m
  refine ⟨a,e,o,o,_,_,_,by exact c0,?_⟩
  refine Jg f t ⟨_,rfl,?_⟩
  rw [z _ _ m hk]
  refine C0 (fun r=>?_) (fun r=>?_)
  ·rw [C1 o o]
   exact ⟨⟨(i+j)/2+1,j,o,g,F,by simp,rfl⟩,by simp only [iAt,aG,aF];omega⟩
  ·have d:k<=(i+j)/2:=by
    omega
   exact ⟨⟨i,(i+j)/2,C,d,o,rfl,rfl⟩,by simp only [iAt,aG,aF];omega⟩
 ·obtain rfl:i=k:=o
  refine C0 (fun _=>?_) (fun e=>o)
  obtain ⟨a,B2,u,e,c0,f⟩:=s.mon hk
  refine ⟨a,e,o,o,_,_,_,by exact c0,?_⟩
  refine Jg f t ⟨_,rfl,?_⟩
  grind
structure FnV (h:aH) (A:Option aL) (v D m:Nat) (V:Nat->Rat):Prop where
 v1:1<=v
 v2:v<=2
 d6:D<=6
 row:aW SSr h A (mo v D).length (fun i=>E8 (V i))
 sz:∀ i,i<(mo v D).length->Sz m (V i)
 sm:m<=1000000
def FnV.mono{h':aH}(l:h.le h')(f:FnV h A v D m V):FnV h' A v D m V:=⟨f.v1,f.v2,f.d6,f.row.mono E9 l,f.sz,f.sm⟩
def Ur(gl:Gl h)(r:aW SSr h A n (fun i=>E8 (V i)))(hn:n<=1000000)(hs:∀ i,i<n->Sz m (V i))(hm:m<=1000000)(hK:K (.bool true) h):aN prog 122 #[.slice A n c] h K:=by
 refine (fnk func122 [(2,[7],[],[I 0])]) ?_
 refine ⟨fun L d=>∃ i:Nat,i<=n/\L=[I (i:Int)]/\d=h,fun L _=>n-(iAt L 0).toNat,⟨0,o,rfl,rfl⟩,?_⟩
 rintro z d ⟨i,j,k,rfl⟩
 obtain rfl:z=(i:Int):=gz0
 refine C0 (fun g=>?_) (fun f=>hK)
 have b:i<n:=o
 obtain ⟨a,e,c0⟩:=r.sat b
 refine ⟨a,e,o,o,_,by exact c0,?_⟩
 refine Nx gl (Tx.of (hs i b) o).len (fun _=>⟨_,rfl,Br.nt ?_⟩) (fun no=>absurd ⟨V i,rfl⟩ no)
 rw [wiS i o]
 exact ⟨⟨i+1,o,rfl,rfl⟩,by simp only [R9];omega⟩
def Ao(gl:Gl h)(f:FnV h A v D m V)(hK:K (.bool true) h):aN prog 71 #[.agg #[I (v:Int),I (D:Int),.slice A (mo v D).length c]] h K:=by
 have b:=f.v1;have d:=f.v2
 have a:=(O3 f.v1 f.v2 f.d6).len
 refine (fnk func71 (own:=[1])) ?_
 refine C0 (fun e=>o) (fun _=>C0 (fun e=>o) (fun _=>?_))
 refine Py f.v1 f.v2 f.d6 ⟨_,_,rfl,?_⟩
 refine Br.of (fun _=>C0 (fun _=>D5 (fun _=>?_) (fun e=>absurd rfl e)) (fun e=>o)) (fun e=>by cases e)
 exact Ur gl f.row o f.sz f.sm ⟨_,rfl,hK⟩
def Cg(f:FnV h A v D m V)(hK:∀ T tc h',h.le h'->MoSl h' T (mo v D)->K (.agg #[.slice T (mo v D).length tc,.slice A (mo v D).length c]) h'):aN prog 161 #[.agg #[I (v:Int),I (D:Int),.slice A (mo v D).length c]] h K:=by
 refine (fnk func161 (own:=[1,2])) ?_
 refine Iq f.v1 f.v2 f.d6 ?_
 grind
def A1h{k:Nat}{T:Option aL}{tc:Nat}(f:FnV h A v D m V)(s:MoSl h T (mo v D))(hk:k<(mo v D).length)(t:SlI .i64 h B (mon v D k))(hK:K (.string (bs (E8 (V k)))) h):aN prog 190 #[.agg #[.slice T (mo v D).length tc,.slice A (mo v D).length c],.slice B (mon v D k).length cc] h K:=by
 refine (fnk func190 (own:=[2])) ?_
 refine Lj f.v1 f.v2 f.d6 s hk t ⟨_,_,rfl,Br.nt (C0 (fun e=>o) (fun _=>?_))⟩
 obtain ⟨a,e,c0⟩:=f.row.sat hk
 grind
end
section
variable {α β:Type} [E:Enc α] {R:aH->α->β->Prop} {e:bF} {h0 h1 hp:aH} {A:Option aL} {c n:Nat} {f:Nat->β}
def Lst(R:aH->α->β->Prop)(e:bF)(h0 hp:aH)(A:Option aL)(c n:Nat)(f:Nat->β):Prop:=∃ g o,∃ xs:List α,h0.le g/\Sep hp g o/\cG o e A c xs/\xs.length=n/\Row R g xs n f
def Lst.nil:Lst R e h0 h0 none 0 0 f:=⟨h0,An,[],B7 _,Sep.refl _,OwnSl.nil,rfl,Row.nil⟩
def Lst.le(l:Lst R e h0 hp A c n f):h0.le hp:=by
 obtain ⟨g,o,b,a,s,_⟩:=l
 exact B0 a s.le
def Lst.weak(w:h1.le h0)(l:Lst R e h0 hp A c n f):Lst R e h1 hp A c n f:=by
 obtain ⟨g,o,a,b,s,r⟩:=l
 exact ⟨g,o,a,B0 w b,s,r⟩
def Lst.row(m:Mon R)(l:Lst R e h0 hp A c n f):aW R hp A n f:=by
 obtain ⟨g,o,a,d,s,w,b,r⟩:=l
 exact ⟨a,w.slF s.ole,b,r.mono m s.le⟩
def Lst.congr{f':Nat->β}(l:Lst R e h0 hp A c n f)(x:∀ i,i<n->f i=f' i):Lst R e h0 hp A c n f':=by
 obtain ⟨g,o,a,d,s,w,b,r⟩:=l
 exact ⟨g,o,a,d,s,w,b,r.congr x⟩
def Lst.cap(l:Lst R e h0 hp A c n f):n<=c:=by
 obtain ⟨g,o,a,b,s,w,rfl,r⟩:=l
 exact w.1
def Lst.call(m:Mon R){P:bZ}{F:FuncId}{args:Array aT}{K:VP}(l:Lst R e h0 hp A c n f)(x:∀ g,h0.le g->aN P F args g (fun r g'=>g.le g'/\∀ h',hp.le h'->Lst R e g' h' A c n f->K r h')):aN P F args hp K:=by
 obtain ⟨g,o,d,j,s,w,i,r⟩:=l
 refine s.call (FCall.mono (x g j) ?_)
 rintro v g' ⟨a,k⟩ h' b
 exact k h' (s.le_le b a) ⟨g',o,d,B7 _,b,w,i,r.mono m a⟩
def Lst.base(pos:0<E.default.size)(l:Lst R e h0 hp A c n f):∃ g,h0.le g/\Lst R e g hp A c n f/\∀ i,i<n->∃ a w,A=some a/\R g w (f i)/\∀ j v,(enc w)[j]? = some v->hp.cell? (aK (aK a (i*E.default.size)) j)=some v:=by
 obtain ⟨g,o,b,t,s,w,q,r⟩:=l
 refine ⟨g,t,⟨g,o,b,B7 _,s,w,q,r⟩,fun i p=>?_⟩
 have d:i<b.length:=oo
 obtain ⟨a,k,m⟩:=(w.slF s.ole).at pos d
 exact ⟨a,b[i],k,r.get p d,m⟩
def Iw{P:bZ}{t:bF}{z:aT}{bytes:Nat}(st:cC P t e z E.default.size bytes){v:aT}{y:α}(hv:v.cells=(enc y).toArray)(hsz:E.default.size<=1000)(hR:R h0 y (f 0)){K:VP}
 (x:∀ b h',h0.le h'->Lst R e h0 h' (some ⟨b,0,none⟩) 1 1 f->K (.slice (some ⟨b,0,none⟩) 1 1) h'):wpH P (bH t 1 #[(0,v)]) K h0:=by
 have c:(enc y).length=E.default.size:=E.default.len y
 refine Y3 st (vs:=[v]) (fun u g=>gz0) rfl gz0 rfl fun b a=>x b _ (Heap.le_put _ a) ⟨h0,_,[y],B7 _,V8 a,⟨aE _,.inr ⟨b,enc y,rfl,?_,o,?_⟩⟩,rfl,fun i d=>⟨y,?_,?_⟩⟩
 ·rw [C3];simp [hv]
 ·rw [List.length_singleton,Nat.one_mul,List.take_of_length_le o];simp
 ·grind
 grind
def Lst.push(m:Mon R){P:bZ}{t ty:bF}{z:aT}{bytes k:Nat}(st:cC P t e z E.default.size bytes)(l:Lst R e h0 hp A c n f)(hk:k=n){v:aT}{y:α}(hv:v.cells=(enc y).toArray)(hR:R h0 y (f n))(hsz:E.default.size<=1000/\bytes<=1000)
 (hb:n<=1000000) {K:Option aL->Nat->Nat->aH->Prop}
 (x:∀ A' c' h',Lst R e h0 h' A' c' (n+1) f->K A' (n+1) c' h'):
 wpH P (bH t 1 #[(0,v)]) (fun v' hp=>∃ (B:Option aL) (m d:Nat),v'= .slice B m d/\wpH P (bW #[t,t] ty #[.slice A k c,.slice B m d]) (fun v1 hp1=>∃ (A':Option aL) (n' c':Nat),v1= .slice A' n' c'/\K A' n' c' hp1) hp) hp:=by
 subst hk
 obtain ⟨g,o,xs,j,s,w,b,r⟩:=l
 refine K6 (ty:=ty) st s w b.symm (y:=y) hv hsz.1 (by rw [b];exact bY (aP (show 2*(k+1)+192<=3000000 from oo) hsz.2) dc) oo ?_
 intro A' c' h' i u a p q _
 rw [b]
 refine x A' c' h' ⟨i,u,_,B0 j a,p,q,gz0,?_⟩
 have C:=Row.push (R:=R) (g:=i) (xs:=xs) (f:=f) (by rw [b];exact r.mono m a) (w:=y) (by rw [b];exact m _ _ _ _ (B0 j a) hR)
 grind
def Lst.pushG(m:Mon R){P:bZ}{t ty:bF}{z:aT}{bytes k:Nat}(st:cC P t e z E.default.size bytes)(l:Lst R e h0 hp A c n f)(hk:k=n){v:aT}{y:α}(hv:v.cells=(enc y).toArray)(hR:R h0 y (f n))(hsz:E.default.size<=1000/\bytes<=1000)
 (hb:n<=1000000) {K:Option aL->Nat->Nat->aH->Prop}
 (x:∀ A' c' h',Lst R e h0 h' A' c' (n+1) f->K A' (n+1) c' h'):
 wpH P (bH t 1 #[(0,v)]) (fun v' hp'=>∃ (B:Option aL) (m d:Nat),v'= .slice B m d/\Heap.le hp hp'/\wpH P (bW #[t,t] ty #[.slice A k c,.slice B m d]) (fun v1 hp1=>∃ (A':Option aL) (n' c':Nat),v1= .slice A' n' c'/\K A' n' c' hp1) hp') hp:=by
 subst hk
 obtain ⟨g,o,xs,j,s,w,b,r⟩:=l
 rw [<- b]
 refine OwnSl.push (ty:=ty) st s w (y:=y) hv hsz.1 (by rw [b];exact bY (aP (show 2*(k+1)+192<=3000000 from oo) hsz.2) dc) oo (K1:=fun q=>Heap.le hp q) (fun _ l=>l) ?_
 intro A' c' h' i C a p u _
 rw [b]
 refine x A' c' h' ⟨i,C,_,B0 j a,p,u,gz0,?_⟩
 have D:=Row.push (R:=R) (g:=i) (xs:=xs) (f:=f) (by rw [b];exact r.mono m a) (w:=y) (by rw [b];exact m _ _ _ _ (B0 j a) hR)
 grind
end
section
variable {α β α2 β2:Type} [E:Enc α] [E2:Enc α2] {R:aH->α->β->Prop} {e e2:bF} {h0 hp:aH} {A A2:Option aL} {c n c2 n2:Nat} {f:Nat->β} {R2:aH->α2->β2->Prop} {f2:Nat->β2}
def Lst2(R:aH->α->β->Prop)(e:bF)(R2:aH->α2->β2->Prop)(e2:bF)(h0 hp:aH)(A:Option aL)(c n:Nat)(f:Nat->β)(A2:Option aL)(c2 n2:Nat)(f2:Nat->β2):Prop:=∃ g o,∃ xs:List α,∃ ys:List α2,h0.le g/\Sep hp g o/\cG o e A c xs/\cG o e2 A2 c2 ys/\(∀ b,A=some ⟨b,0,none⟩->A2≠some ⟨b,0,none⟩)/\xs.length=n/\ys.length=n2/\Row R g xs n f/\Row R2 g ys n2 f2
def Lst2.nil:Lst2 R e R2 e2 h0 h0 none 0 0 f none 0 0 f2:=⟨h0,An,[],[],B7 _,Sep.refl _,OwnSl.nil,OwnSl.nil,fun _ x=>by (cases x),rfl,rfl,Row.nil,Row.nil⟩
def Lst2.swap(l:Lst2 R e R2 e2 h0 hp A c n f A2 c2 n2 f2):Lst2 R2 e2 R e h0 hp A2 c2 n2 f2 A c n f:=by
 obtain ⟨g,o,j,i,q,s,w,m,k,p,a,r,d⟩:=l
 exact ⟨g,o,i,j,q,s,m,w,fun b x y=>k b y x,a,p,d,r⟩
def Lst2.le(l:Lst2 R e R2 e2 h0 hp A c n f A2 c2 n2 f2):h0.le hp:=by
 obtain ⟨g,o,b,d,a,s,_⟩:=l
 exact B0 a s.le
def Lst2.row(m:Mon R)(l:Lst2 R e R2 e2 h0 hp A c n f A2 c2 n2 f2):aW R hp A n f:=by
 obtain ⟨g,o,a,j,q,s,w,p,k,d,b,r,i⟩:=l
 exact ⟨a,w.slF s.ole,d,r.mono m s.le⟩
def Lst2.cap(l:Lst2 R e R2 e2 h0 hp A c n f A2 c2 n2 f2):n<=c:=by
 obtain ⟨g,o,i,d,m,s,w,k,j,rfl,a,r,b⟩:=l
 exact w.1
def Lst2.pushG(m:Mon R)(m2:Mon R2){P:bZ}{t ty:bF}{z:aT}{bytes k:Nat}(st:cC P t e z E.default.size bytes)(l:Lst2 R e R2 e2 h0 hp A c n f A2 c2 n2 f2)(hk:k=n){v:aT}{y:α}(hv:v.cells=(enc y).toArray)(hR:R h0 y (f n))(hsz:E.default.size<=1000/\bytes<=1000)
 (hb:n<=1000000) {K:Option aL->Nat->Nat->aH->Prop}
 (x:∀ A' c' h',Lst2 R e R2 e2 h0 h' A' c' (n+1) f A2 c2 n2 f2->K A' (n+1) c' h'):
 wpH P (bH t 1 #[(0,v)]) (fun v' hp'=>∃ (B:Option aL) (m d:Nat),v'= .slice B m d/\Heap.le hp hp'/\wpH P (bW #[t,t] ty #[.slice A k c,.slice B m d]) (fun v1 hp1=>∃ (A':Option aL) (n' c':Nat),v1= .slice A' n' c'/\K A' n' c' hp1) hp') hp:=by
 subst hk
 obtain ⟨g,o,xs,V,D,s,w,L,W,i,C,r,T⟩:=l
 rw [<- i]
 refine OwnSl.push (ty:=ty) st s w (y:=y) hv hsz.1 (by rw [i];exact bY (aP (show 2*(k+1)+192<=3000000 from oo) hsz.2) dc) oo (K1:=fun Q=>Heap.le hp Q) (fun _ l=>l) ?_
 intro A' c' h' F H a M O N
 rw [i]
 have u:∀ b x,A2=some ⟨b,0,none⟩->o b=some x->H b=some x/\A'≠some ⟨b,0,none⟩:=fun b x q p=>N b x p fun j=>W b j q
 have G:∀ b,A2=some ⟨b,0,none⟩->∃ x,o b=some x:=fun b q=>by
  rcases L.2 with ⟨_,j⟩|⟨X,S,j,q3,_⟩
  ·grind
  grind
 refine x A' c' h' ⟨F,H,_,V,B0 D a,M,O,L.keep fun b x q p=>(u b x q p).1,fun b q j=>?_,gz0,C,?_,T.mono m2 a⟩
 ·grind
 have rB:=Row.push (R:=R) (g:=F) (xs:=xs) (f:=f) (by rw [i];exact r.mono m a) (w:=y) (by rw [i];exact m _ _ _ _ (B0 D a) hR)
 grind
end
def Kb(V:Nat->Rat)(v d:Nat):Nat->Nat->Rat:=fun i k=>V (mi (mon v d i) (mon v d k))
def nM(v d:Nat):Nat:=(mo v d).length
section
variable {h:aH} {K:VP} {A B T:Option aL} {c cc tc n m v d D:Nat} {V:Nat->Rat}
def A7d{i k:Nat}(f:FnV h A v D m V)(s:MoSl h T (mo v D))(hd3:d<=3)(hD:2*d<=D)(hi:i<nM v d)(hk:k<nM v d)(sb:SlI .i64 h B (opL (fun x y=>x+y) (mon v d i) (mon v d k)))(hK:K (.string (bs (E8 (Kb V v d i k)))) h):aN prog 190 #[.agg #[.slice T (mo v D).length tc,.slice A (mo v D).length c],.slice B (opL (fun x y=>x+y) (mon v d i) (mon v d k)).length cc] h K:=by
 have q:=Q9 f.v1 f.v2 hd3 f.d6 hD hi hk
 rw [q.eq] at sb ⊢
 exact A1h f s q.lt sb hK
def Fu(gl:Gl h)(f:FnV h A v D m V)(hd3:d<=3)(hD:2*d<=D)(hK:∀ A' c' h',h.le h'->aW SSr h' A' (nM v d*nM v d) (K8 (Kb V v d) (nM v d))->K (.tuple #[Dx (nM v d) (nM v d) A' (nM v d*nM v d) c',I 0]) h'):
 aN prog 144 #[.agg #[I (v:Int),I (D:Int),.slice A (mo v D).length c],I (d:Int)] h K:=by
 have p:=f.v1;have s:=f.v2;have d6:=f.d6
 have E:nM v d<=28:=(O3 p s (show d<=6 from o)).len
 have ag:nM v d*nM v d<=28*28:=aP E E
 refine (fnk func144 [(14,[62],[(11,3)],[I 0,I 0,I 0,.slice none 0 0]),(17,[68],[(11,3)],[I 0,I 0,I 0,.slice none 0 0])] (own:=[2,4,10,11]) (wr:=[1000000000])) ?_
 have e2:C4 (cZ (D:Int) 2)=((D/2:Nat):Int):=by
  rw [Int.tdiv_eq_ediv_of_nonneg o,C1 o o];omega
 refine Ao gl f ⟨_,rfl,Br.nt (C0 (fun e=>o) (fun _=>?_))⟩
 rw [e2]
 refine C0 (fun e=>o) (fun _=>Py p s o ⟨_,_,rfl,C0 (fun e=>?_) (fun _=>?_)⟩)
 ·unfold nM at E;omega
 refine Iq p s o fun A1 c1 h1 S O=>⟨_,_,_,_,rfl,D9 (fun e=>absurd rfl e) (fun _=>?_)⟩
 have C:=f.mono S
 refine Cg C fun T tc u H s2=>⟨_,_,_,_,_,_,rfl,?_⟩
 have f2:=C.mono H
 have G:=O.mono H
 clear O C
 change MoSl u A1 (mo v d) at G
 generalize hF:K8 (Kb V v d) (nM v d)=F
 have l:∀ i k,k<nM v d->F (i*nM v d+k)=E8 (Kb V v d i k):=fun i k M=>by
  obtain ⟨a1,a2⟩:=dm1 (i:=i) M
  rw [<- hF];unfold K8;rw [a1,a2]
 rw [hF] at hK
 refine ⟨fun L r=>∃ (i:Nat) (A':Option aL) (c':Nat),i<=nM v d/\L=[I (i:Int),I (nM v d:Int),I (nM v d:Int),.slice A' (i*nM v d) c']/\Lst SSr 9 u r A' c' (i*nM v d) F,fun L _=>nM v d-(iAt L 0).toNat,⟨0,none,0,o,by rw [bN];rfl,by rw [bN];exact Lst.nil⟩,?_⟩
 rintro z m0 m1 mA mn mc r ⟨i,A',c',hi,n,L⟩
 simp only [cX,Value.int.injEq,Value.slice.injEq,true_and,and_true] at n
 obtain ⟨rfl,rfl,rfl,rfl,rfl,rfl⟩:=n
 refine C0 (fun ac=>?_) (fun X=>?_)
 ·have j:i<nM v d:=by unfold nM at *;omega
  have t:(i+1)*nM v d=i*nM v d+nM v d:=by rw [Nat.add_mul,Nat.one_mul]
  have W:(i+1)*nM v d<=nM v d*nM v d:=aJ _ j
  obtain ⟨a,B1,bc,e,c0,s0⟩:=G.mon j
  refine ⟨_,e,o,by unfold nM at *;omega,_,_,_,by rw [aD];exact C2 L.le c0,?_⟩
  refine ⟨fun L r=>∃ (k:Nat) (A':Option aL) (c':Nat),k<=nM v d/\L=[I (k:Int),I (nM v d:Int),I (nM v d:Int),.slice A' (i*nM v d+k) c']/\Lst SSr 9 u r A' c' (i*nM v d+k) F,fun L _=>nM v d-(iAt L 0).toNat,⟨0,mA,mc,o,rfl,L⟩,?_⟩
  rintro z m0 m1 aa ad af ae ⟨k,A2,c2,M,n,L2⟩
  simp only [cX,Value.int.injEq,Value.slice.injEq,true_and,and_true] at n
  obtain ⟨rfl,rfl,rfl,rfl,rfl,rfl⟩:=n
  refine C0 (fun Q=>?_) (fun N=>?_)
  ·have b:k<nM v d:=by unfold nM at *;omega
   obtain ⟨a3,B3,ah,e3,c3,t0⟩:=G.mon b
   refine ⟨_,e3,o,by unfold nM at *;omega,_,_,_,by rw [aD];exact C2 L2.le c3,?_⟩
   have q:=Q9 p s hd3 d6 hD j b
   refine L2.call E9 fun g w=>Vz (s0.mono w) (t0.mono w) (fun no=>by rw [q.pair] at no;cases no) fun _ B h' R sB=>⟨R,fun h4 _ L3=>⟨_,_,_,_,rfl,?_⟩⟩
   have L4:=L3.weak (B0 w R)
   refine A7d (f2.mono L4.le) (s2.mono L4.le) hd3 hD j b (sB.mono L3.le) ⟨_,rfl,B7 _,?_⟩
   refine L4.pushG E9 H0 (y:=E8 (Kb V v d i k)) rfl (by rfl) (l i k b).symm dc o fun A5 c5 h5 L5=>?_
   rw [wiS k o]
   exact ⟨⟨k+1,_,_,o,rfl,L5.weak (B7 _)⟩,by simp only [R9];omega⟩
  ·obtain rfl:k=nM v d:=by unfold nM at *;omega
   rw [wiS i o]
   rw [<- t] at L2 ⊢
   exact ⟨⟨i+1,_,_,o,rfl,L2⟩,by simp only [R9];omega⟩
 ·obtain rfl:i=nM v d:=by unfold nM at *;omega
  exact hK _ _ _ (B0 (B0 S H) L.le) (L.row E9)
end
def C0x{P:bZ}{t e' ty:bF}{z:aT}{bytes:Nat}(s:cC P t e' z 1 bytes){h g o:aH}{b:Nat}{arr:List aT}{e:bF}(sp:Sep h g o)(ho:o b=some (.cells arr.toArray e)){d n c m cc:Nat}(hd:d+n<=arr.length){B:Option aL}{ys:List aT}(sy:SlV h B ys)(hm:min m n=ys.length)(h1:∀ v∈ys,Nr v=true){K:VP}
 (x:∀ h',Sep h' g (o.put b (.cells (H9 arr d ys).toArray e))->K (I ys.length) h'):wpH P (dF #[t,t] ty #[.slice (some ⟨b,d,none⟩) n c,.slice B m cc]) K h:=by
 obtain ⟨i,p,q,j,k⟩:=s.parts
 have l:ys.length<=n:=oo
 unfold dF
 simp only [List.getElem?_toArray,aF,aG,C9,F0 s.und,J3 p,H2,Builtin.lenOf,j]
 have a:Nat.min m n=ys.length:=hm
 rw [a]
 refine Ji (s:=1) (cs:=ys) (by simp) sy ?_
 simp only [C9]
 have f:h.put b (.cells arr.toArray e)=h:=Np (sp.own b _ ho)
 rw [<- f]
 refine G8 ys d 0 arr oo h1 ?_
 exact x _ (sp.upd ho _)
section
variable {h:aH} {K:VP} {A:Option aL} {n ac N cap:Nat} {r c:Int} {la:Nat->List UInt8}
def Xq(x:List UInt8)(n:Nat):(aC n x).flatMap enc=aC n (aO (bs x)):=by
 have a:(aC n x).flatMap enc=(aC n x).flatMap fun l=>[aO (bs l)]:=rfl
 rw [a,B3q,List.map_replicate]
def Pv{v:ByteArray}(s:SlV h A [.string v])(hN:1<=N)(hl:N<=1000000)
 (hK:∀ b h' o',Sep h' h o'->o' b=some (.cells (aC N (aO v)).toArray 9)->K (.slice (some ⟨b,0,none⟩) N N) h'):aN prog 116 #[.slice A 1 ac,I (N:Int)] h K:=by
 refine (fnk func116 [(8,[8],[],[I 0])]) ?_
 refine C0 (fun f=>oo) (fun _=>?_)
 rw [C6 (n:=((1:Nat):Int)) oo oo,C6 (n:=(N:Int)) oo oo]
 refine B1i oo oo ⟨_,_,rfl,?_⟩
 have H:((1:Nat):Int)*(N:Int)/18446744073709551616=0:=oo
 have F:((1:Nat):Int)*(N:Int)%18446744073709551616=N:=oo
 rw [H,F]
 refine C0 (fun f=>oo) (fun _=>?_)
 refine C0 (fun f=>oo) (fun _=>?_)
 rw [C1 (n:=(N:Int)) oo oo]
 refine I3 H0 (zx:=([]:List UInt8)) rfl oo oo oo oo ?_
 intro b p
 simp only [aD]
 refine ⟨_,_,_,rfl,?_⟩
 have q:=(Sep.refl h).new p (.cells ((aC N ([]:List UInt8)).flatMap enc).toArray 9)
 have r:h.le (h.put b (.cells ((aC N ([]:List UInt8)).flatMap enc).toArray 9)):=Heap.le_put _ p
 rw [Xq] at q r
 show wpH _ (dF _ _ _) _ (h.put b (.cells ((aC N ([]:List UInt8)).flatMap enc).toArray 9))
 rw [Xq]
 refine C0x H0 q (C3 _ _ _) (d:=0) (by simp) (s.mono r) (by simp;omega) (fun w G=>by rw [List.mem_singleton.1 G];rfl) ?_
 intro f t
 refine ⟨_,rfl,?_⟩
 have cut:H9 (aC N (aO (bs []))) 0 [aO v]=aC 1 (aO v)++aC (N-1) (aO (bs [])):=by
  unfold H9
  simp
 rw [cut] at t
 refine ⟨fun l c=>∃ (k:Nat) (o:aH),l=[I (k:Int)]/\0<k/\k<=N/\Sep c h o/\o b=some (.cells (aC k (aO v)++aC (N-k) (aO (bs []))).toArray 9),fun l _=>N-(iAt l 0).toNat,⟨1,_,rfl,oo,hN,t,C3 _ _ _⟩,?_⟩
 rintro i c ⟨k,o,m,E,z,w,e⟩
 obtain rfl:=sI1 m
 refine C0 (fun C=>?_) (fun C=>?_)
 ·refine ⟨⟨oo,oo⟩,⟨oo,oo⟩,?_⟩
  simp only [aD,H1,Nat.sub_zero]
  rw [Nf oo,D4,aS,Nat.mul_one]
  have j:(aC k (aO v)++aC (N-k) (aO (bs []))).length=N:=by simp;omega
  have D:SlV c (some ⟨b,0,none⟩) (aC (min k (N-k)) (aO v)):=by
   right
   refine ⟨_,rfl,fun i u a=>?_⟩
   have g:i<min k (N-k):=by
    by_cases g:i<min k (N-k)
    ·exact g
    ·rw [List.getElem?_eq_none (by rw [aI];omega)] at a;cases a
   rw [cD,iP g] at a
   rw [D4,aS]
   unfold Heap.cell?
   simp only [w.own b _ e,Option.isSome_none,Bool.false_eq_true,if_false,List.getElem?_toArray]
   rw [List.getElem?_append_left (by rw [aI];omega),cD,iP oo]
   exact a
  refine C0x H0 w e (d:=k) (by rw [j];omega) D (by rw [aI]) (fun u a=>by rw [List.eq_of_mem_replicate a];rfl) ?_
  intro M y
  rw [aI]
  have L:C4 ((k:Int)+(min k (N-k):Nat))=((k+min k (N-k):Nat):Int):=by rw [C1 oo oo];omega
  have B:H9 (aC k (aO v)++aC (N-k) (aO (bs []))) k (aC (min k (N-k)) (aO v))=aC (k+min k (N-k)) (aO v)++aC (N-(k+min k (N-k))) (aO (bs [])):=by
   unfold H9
   rw [List.take_left' (by simp),aI,List.drop_append,List.drop_of_length_le (by rw [aI];omega),List.nil_append,aI,List.drop_replicate,List.replicate_append_replicate]
   congr 2
   omega
  rw [B] at y
  refine ⟨_,rfl,?_⟩
  rw [L]
  exact ⟨⟨k+min k (N-k),_,rfl,oo,oo,y,C3 _ _ _⟩,by simp only [R9];omega⟩
 ·have:k=N:=oo
  subst this
  rw [Nat.sub_self,List.replicate_zero,List.append_nil] at e
  exact hK b c o w e
end
def B4k{X Y:Prop}(x:X):Br true X Y:=x
section
variable {h:aH} {A:Option aL} {n cap:Nat} {r c:Int} {ls:Nat->List UInt8}
end
def eq0{d:Rat}:(ByteArray.toList (bs (E8 d))==ByteArray.toList ({ data:=#[48] }:ByteArray))=decide (d=0):=by
 have a:({ data:=#[48] }:ByteArray)=bs (E8 0):=by rw [A03];rfl
 rw [a,Jl]
 by_cases h:d=0
 ·rw [h];simp
 ·rw [decide_eq_false h]
  exact decide_eq_false fun e=>h (A4x e)
section
variable {h:aH} {K:VP} {A:Option aL} {n cap m:Nat} {r c:Int} {la:Nat->List UInt8}
end
def Sep.storeRaw{P:bZ}{t:bF}{m:Nat}(one:P.cellsOf t=m/\(P.info? t).isSome=true){v:aT}{vs:List aT}(hv:v.cells=vs.toArray)(hl:vs.length=m)(h1:∀ x∈vs,Nr x=true){h g o:aH}(s:Sep h g o){b:Nat}{arr:List aT}{e:bF}(hb:o b=some (.cells arr.toArray e)){off:Nat}(hoff:off+m<=arr.length){K:Unit->aH->Prop}
 (x:∀ h' o',o'=o.put b (.cells (H9 arr off vs).toArray e)->Sep h' g o'->K () h'):wpH P (bK t (.pointer (some ⟨b,off,none⟩)) v) K h:=by
 obtain ⟨f,c⟩:=Option.isSome_iff_exists.1 one.2
 have i:f.size=m:=by simpa [Program.cellsOf,c] using one.1
 have a:(h.without b).put b (.cells arr.toArray e)=h:=J5 (s.own b _ hb)
 unfold bK
 simp only [C9,Instr.sureAddr,H2,storeVar,J3 c,i,hv,List.size_toArray,hl,ne_eq,not_true_eq_false,if_false]
 rw [<- a]
 refine G8 vs off 0 _ oo h1 ?_
 rw [Nat.add_zero]
 have d:(h.without b).put b (.cells (H9 arr off vs).toArray e)=h.put b (.cells (H9 arr off vs).toArray e):=by
  rw [<- a,Dg,a]
 rw [d]
 exact x _ _ rfl (s.upd hb _)
def B04:prog.cellsOf 3=1/\(prog.info? 3).isSome=true:=⟨by kernel_rfl,by kernel_rfl⟩
def B03:prog.cellsOf 232=1/\(prog.info? 232).isSome=true:=⟨by kernel_rfl,by kernel_rfl⟩
def QB(g o:aH)(b n:Nat)(f:Nat->Rat):Prop:=∃ xs:List QV,RowX o b xs/\xs.length=n/\Row RQr g xs n f
def onT(T:Tb)(x:Nat):Prop:=x=T.bt\/x=T.bE\/x=T.bS
section
variable {g o:aH} {b n:Nat} {f:Nat->Rat}
def QB.ko(q:QB g o b n f){g' o':aH}(l:g.le g')(e:o' b=o b):QB g' o' b n f:=by
 obtain ⟨c,r,a,d⟩:=q
 exact ⟨c,r.keep fun x i=>gz0,a,d.mono G2 l⟩
def QB.congr(q:QB g o b n f){f':Nat->Rat}(e:∀ i,i<n->f i=f' i):QB g o b n f':=by
 obtain ⟨c,r,a,d⟩:=q
 exact ⟨c,r,a,d.congr e⟩
def QB.at(q:QB g o b n f){i:Nat}(hi:i<n):∃ w:QV,RQ g w (f i)/\o.cell? (aK (aK ⟨b,0,none⟩ (i*4)) 0)=some (.bool w.s)/\o.cell? (aK (aK ⟨b,0,none⟩ (i*4)) 1)=some (.slice w.A w.n w.c)/\o.cell? (aK (aK ⟨b,0,none⟩ (i*4)) 2)=some (.bool w.s2)/\o.cell? (aK (aK ⟨b,0,none⟩ (i*4)) 3)=some (.slice w.A2 w.n2 w.c2):=by
 obtain ⟨e,r,u,p⟩:=q
 obtain ⟨w,d,l⟩:=p i hi
 have a:i<e.length:=oo
 have cell:∀ k v,(enc e[i])[k]? = some v->o.cell? (aK (aK ⟨b,0,none⟩ (i*4)) k)=some v:=by
  intro k v m
  rw [D4,D4,aS]
  exact r.rowB.cell (i:=i) a (j:=k) m
 rw [bJ a] at d
 have t:=Option.some.inj d
 rw [t] at cell
 exact ⟨w,l,cell 0 _ rfl,cell 1 _ rfl,cell 2 _ rfl,cell 3 _ rfl⟩
def QB.rowV(q:QB g o b n f){h:aH}(s:Sep h g o):aW RQr h (some ⟨b,0,none⟩) n f:=by
 obtain ⟨c,r,a,d⟩:=q
 exact ⟨c,r.rowB.slF s.ole,a,d.mono G2 s.le⟩
def QB.store(q:QB g o b n f){h:aH}(s:Sep h g o){i:Nat}(hi:i<n){w:QV}{z:Rat}(hw:RQ g w z){K:Unit->aH->Prop}
 (k:∀ h' o',Sep h' g o'->QB g o' b n (fun a=>if a=i then z else f a)->(∀ y,y≠b->o' y=o y)->K () h'):wpH prog (bK 244 (.pointer (some (aK ⟨b,0,none⟩ (i*4)))) w.v) K h:=by
 obtain ⟨p,r,t,j⟩:=q
 have c:i<p.length:=oo
 refine Q1 Fi (y:=w) rfl s r (i:=i) c ?_
 intro h' o' u l d e
 exact k h' o' d ⟨_,e,gz0,Row.upd j c hw⟩ (fun y m=>by rw [l,B9 _ _ m])
end
structure El (h g o:aH) (be:Nat) (T:Tb) (M:Nat->Nat->Int) (S:Nat->Rat) (n k:Nat) (w:IV) (z:Int) (L D:aT):Prop where
 t:Tab h g o T M S
 rows:T.rows=n
 cols:T.cols=n
 hd:∃ e,o be=some (.cells (List.toArray [I (n:Int),I (k:Int),.pointer (some ⟨T.bt,0,none⟩),.bool w.s,.slice w.A w.n w.c,L,D]) e)
 off:¬ onT T be
 last:ZIr g w z
section
variable {h g o:aH} {be:Nat} {T:Tb} {M:Nat->Nat->Int} {S:Nat->Rat} {n k:Nat} {w:IV} {z:Int} {L D:aT} {K:VP} {m:Nat}
def El.cell(X:El h g o be T M S n k w z L D){i:Nat}{v:aT}(hv:[I (n:Int),I (k:Int),.pointer (some ⟨T.bt,0,none⟩),.bool w.s,.slice w.A w.n w.c,L,D][i]? = some v):h.cell? ⟨be,i,none⟩=some v:=by
 obtain ⟨e,a⟩:=X.hd
 refine X.t.sep.cell ?_
 unfold Heap.cell?
 grind
def El.c0(X:El h g o be T M S n k w z L D):h.cell? (aK ⟨be,0,none⟩ 0)=some (I (n:Int)):=by exact X.cell rfl
def El.c1(X:El h g o be T M S n k w z L D):h.cell? (aK ⟨be,0,none⟩ 1)=some (I (k:Int)):=by exact X.cell rfl
def El.c2(X:El h g o be T M S n k w z L D):h.cell? (aK ⟨be,0,none⟩ 2)=some (.pointer (some ⟨T.bt,0,none⟩)):=by exact X.cell rfl
def El.c3(X:El h g o be T M S n k w z L D):h.cell? (aK (aK ⟨be,0,none⟩ 3) 0)=some (.bool w.s):=by exact X.cell rfl
def El.c4(X:El h g o be T M S n k w z L D):h.cell? (aK (aK ⟨be,0,none⟩ 3) 1)=some (.slice w.A w.n w.c):=by exact X.cell rfl
def El.c5(X:El h g o be T M S n k w z L D):h.cell? (aK ⟨be,0,none⟩ 5)=some L:=by exact X.cell rfl
def El.c6(X:El h g o be T M S n k w z L D):h.cell? (aK ⟨be,0,none⟩ 6)=some D:=by exact X.cell rfl
def El.next(X:El h g o be T M S n k w z L D){h' g':aH}(s:Sep h' g' o)(l:g.le g'):El h' g' o be T M S n k w z L D:=⟨X.t.next s l,X.rows,X.cols,X.hd,X.off,Dn _ _ _ _ l X.last⟩
def Tab.away(t:Tab h g o T M S){h' o':aH}(s:Sep h' g o'){b:Nat}(hb:¬ onT T b)(ko:∀ y,y≠b->o' y=o y):Tab h' g o' T M S:=t.keep s (B7 _) (fun k x e c=>by rw [ko k (fun a=>hb (a▸c))];exact e)
def El.away(X:El h g o be T M S n k w z L D){h' o':aH}(s:Sep h' g o'){b:Nat}(hb:¬ onT T b)(hbe:be≠b)(ko:∀ y,y≠b->o' y=o y):El h' g o' be T M S n k w z L D:=by
 obtain ⟨e,a⟩:=X.hd
 exact ⟨X.t.away s hb ko,X.rows,X.cols,⟨e,gz0⟩,X.off,X.last⟩
def El.set(X:El h g o be T M S n k w z L D){t:bF}{q off:Nat}{v:aT}{vs:List aT}(one:prog.cellsOf t=q/\(prog.info? t).isSome=true)(hv:v.cells=vs.toArray)(hl:vs.length=q)(h1:∀ x∈vs,Nr x=true)(hoff:off+q<=7){n' k':Nat}{w':IV}{z':Int}{L' D':aT}(hn:n'=n)(hw:ZIr g w' z')
 (hs:H9 [I (n:Int),I (k:Int),.pointer (some ⟨T.bt,0,none⟩),.bool w.s,.slice w.A w.n w.c,L,D] off vs=[I (n':Int),I (k':Int),.pointer (some ⟨T.bt,0,none⟩),.bool w'.s,.slice w'.A w'.n w'.c,L',D'])
 {K:Unit->aH->Prop} (x:∀ h' o',El h' g o' be T M S n' k' w' z' L' D'->(∀ y,y≠be->o' y=o y)->K () h'):wpH prog (bK t (.pointer (some (aK ⟨be,0,none⟩ off))) v) K h:=by
 obtain ⟨e,b⟩:=X.hd
 rw [D4,aS]
 refine X.t.sep.storeRaw one hv hl h1 b hoff ?_
 intro h' o' a d
 have ko:∀ y,y≠be->o' y=o y:=fun y f=>by rw [a,B9 _ _ f]
 subst hn
 exact x h' o' ⟨X.t.away d X.off ko,X.rows,X.cols,⟨e,by rw [a,C3,hs]⟩,X.off,hw⟩ ko
def B7m(X:El h g o be T M S n k w z L D)(gl:Gl g){i j:Nat}(hi:i<n)(hj:j<n)(bm:ZB m (M i j))(bz:ZB m z)(bs:Sz m (S i))(hd:Sz m (cF (M i j) z))(hm1:1<=m)(hm:m<=6400000000)
 (hK:∀ w' h' g',g.le g'->Sep h' g' o->h.le h'->RQ g' w' (cF (M i j) z/S i)->K w'.v h'):aN prog 244 #[.pointer (some ⟨be,0,none⟩),I (i:Int),I (j:Int)] h K:=by
 have a:i<T.rows:=by rw [X.rows];exact hi
 have e:j<T.cols:=by rw [X.cols];exact hj
 refine (fnk func244 (os:=[(1,[0,1,2,3,4,6,9,10,11,12,14,15,16,17,18,19,20,21,22,23,5,7,8,13,24,25])]) (own:=[6])) ?_
 obtain ⟨N,is,A,y,l,q⟩:=X.t.sat a
 obtain ⟨O,C,p,E⟩:=X.t.at a e
 refine ⟨_,rfl,_,X.c2,_,rfl,_,_,_,_,X.c3,X.c4,_,rfl,_,X.c2,_,rfl,_,_,_,X.t.c2,_,rfl,oo,oo,_,_,_,_,_,_,_,_,A,y,l,q,?_⟩
 refine W8 X.t a ⟨_,_,_,rfl,B7 _,_,rfl,oo,oo,_,_,_,_,p,E,?_⟩
 refine X.t.sep.call (O5 gl.tz C X.last bm bz hm ?_)
 intro G Q c B H b
 refine ⟨_,_,_,_,_,_,_,_,rfl,X.t.sep.le_le b c,?_⟩
 refine b.call (Vq (gl.mono c).tz B (G2 _ _ _ _ c is) hd bs hm1 hm ?_)
 intro F u f s r d
 exact ⟨_,_,_,_,_,_,_,_,rfl,b.le_le d f,hK F r u (B0 c f) d (B0 (X.t.sep.le_le b c) (b.le_le d f)) s⟩
def A11(X:El h g o be T M S n k w z L D)(hk:k<n)(hn:n<=10000)
 (hK1:∀ i:Nat,k<i->i<n->M i k≠0->K (.tuple #[I (i:Int),.bool true]) h) (hK0:(∀ j,k<j->j<n->M j k=0)->K (.tuple #[I 0,.bool false]) h):aN prog 245 #[.pointer (some ⟨be,0,none⟩)] h K:=by
 refine (fnk func245 [(2,[4],[],[I 0])] (os:=[(4,[0,1,2,3,4,6,7,8,9,5,10,11,12,13])])) ?_
 refine ⟨_,rfl,_,X.c1,?_⟩
 rw [wiS k oo]
 refine ⟨fun L' p=>∃ i:Nat,k<i/\i<=n/\L'=[I (i:Int)]/\p=h/\∀ j,k<j->j<i->M j k=0,fun L' _=>n-(iAt L' 0).toNat,⟨k+1,oo,oo,rfl,rfl,fun j _ _=>oo⟩,?_⟩
 rintro y p ⟨i,l,E,C,rfl,q⟩
 obtain rfl:=sI1 C
 refine ⟨_,rfl,_,X.c0,C0 (fun u=>?_) (fun r=>hK0 fun j a b=>q j a oo)⟩
 have d:i<n:=oo
 have f:i<T.rows:=by rw [X.rows];exact d
 have m:k<T.cols:=by rw [X.cols];exact hk
 refine ⟨_,rfl,_,X.c2,_,rfl,_,X.c1,?_⟩
 obtain ⟨F,A,s,B⟩:=X.t.at f m
 refine W8 X.t f ⟨_,_,_,rfl,B7 _,_,rfl,oo,oo,_,_,_,_,s,B,?_⟩
 refine F6 (A.mono X.t.sep.le) ⟨_,rfl,B7 _,Br.not (C0 (fun e=>?_) (fun e=>hK1 i l d e))⟩
 rw [wiS i oo]
 refine ⟨⟨i+1,oo,oo,rfl,rfl,fun j a b=>?_⟩,by simp only [R9];omega⟩
 by_cases c:j=i
 ·rw [c];exact e
 ·exact q j a oo
def A2g(X:El h g o be T M S n k w z L D)(hk:k<n)(hn:n<=10000)(hz:z≠0)(hM:∀ a b,k<=a->a<n->b<n->ZB m (M a b))(bz:ZB m z)(hm1:1<=m)(hm:2*m+1<=100000000)
 (hK:∀ h' g' o' w',g.le g'->El h' g' o' be T (fun a b=>if k<a then (M k k*M a b-M a k*M k b).tdiv z else M a b) S n (k+1) w' (M k k) L D->(∀ b,¬ onT T b->b≠be->o' b=o b)->K (.tuple #[]) h'):aN prog 248 #[.pointer (some ⟨be,0,none⟩)] h K:=by
 refine (fnk func248 [(2,[3],[],[I 0])] (wr:=[206])) ?_
 refine ⟨_,rfl,_,X.c1,?_⟩
 rw [wiS k oo]
 refine ⟨fun L' Q=>∃ (i:Nat) (r C:aH),k<i/\i<=n/\L'=[I (i:Int)]/\g.le r/\El Q r C be T (fun a b=>if k<a/\a<i then (M k k*M a b-M a k*M k b).tdiv z else M a b) S n k w z L D/\(∀ b,¬ onT T b->b≠be->C b=o b),fun L' _=>n-(iAt L' 0).toNat,⟨k+1,g,o,oo,oo,rfl,B7 _,⟨X.t.congr (fun a b _ _=>by rw [iN oo]) (fun _ _=>rfl),X.rows,X.cols,X.hd,X.off,X.last⟩,fun _ _ _=>rfl⟩,?_⟩
 rintro y Q ⟨i,r,C,W,ac,eL,O,X1,ko⟩
 obtain rfl:=sI1 eL
 refine ⟨_,rfl,_,X1.c0,C0 (fun aa=>?_) (fun V=>?_)⟩
 ·have F:i<n:=oo
  refine ⟨_,rfl,_,X1.c2,_,rfl,_,_,_,_,X1.c3,X1.c4,?_⟩
  have er:=X.rows
  have ec:=X.cols
  refine Wj (m:=m) X1.t (i:=i) (p:=k) (c:=k) oo oo oo oo X1.last hz hm1 hm (fun b f=>by rw [iN oo];exact hM i b oo F oo) (fun b f=>by rw [iN oo];exact hM k b (aE _) hk oo) bz ?_
  intro h2 g2 o2 R t2 ko2
  rw [wiS i oo]
  have N:be≠T.bE:=fun e=>X.off (.inr (.inl e))
  obtain ⟨e,he⟩:=X1.hd
  refine ⟨rfl,⟨i+1,g2,o2,oo,oo,rfl,B0 O R,⟨t2.congr (fun a b _ _=>?_) (fun _ _=>rfl),er,ec,⟨e,by rw [ko2 _ N];exact he⟩,X.off,Dn _ _ _ _ R X1.last⟩,fun b f d=>by rw [ko2 b (fun e=>f (.inr (.inl e)))];exact ko b f d⟩,by simp only [R9];omega⟩
  by_cases c:a=i
  ·have q1:¬ (k<k/\k<i):=oo
   have q2:¬ (k<i/\i<i):=oo
   simp only [iN q1,iN q2]
   rw [iP c,iP (show k<a/\a<i+1 from oo),c]
  ·rw [iN c]
   by_cases c2:k<a/\a<i
   ·rw [iP c2,iP oo]
   ·rw [iN c2,iN (show ¬ (k<a/\a<i+1) from oo)]
 ·have H:i=n:=oo
  subst H
  have l:k<T.rows:=by rw [X.rows];exact hk
  have u:k<T.cols:=by rw [X.cols];exact hk
  refine ⟨_,rfl,_,X1.c2,?_⟩
  obtain ⟨j,G,e0,e1⟩:=X1.t.at l u
  rw [iN oo] at G
  refine W8 X1.t l ⟨_,_,_,rfl,_,rfl,oo,oo,_,_,_,_,e0,e1,?_⟩
  refine ⟨_,rfl,?_⟩
  refine X1.set (n':=i) (k':=k) (w':=j) (z':=M k k) (L':=L) (D':=D) (vs:=[.bool j.s,.slice j.A j.n j.c]) Rk rfl rfl (by intro x q;simp only [bV,bG,or_false] at q;rcases q with rfl|rfl<;>rfl) oo rfl G rfl ?_
  intro h3 o3 X3 B
  refine ⟨_,rfl,_,X3.c1,_,rfl,?_⟩
  rw [wiS k oo]
  refine X3.set (n':=i) (k':=k+1) (w':=j) (z':=M k k) (L':=L) (D':=D) (vs:=[I ((k+1:Nat):Int)]) B04 rfl rfl (by intro x q;simp only [bV,bG,or_false] at q;subst q;rfl) oo rfl G rfl ?_
  intro h4 o4 X4 E
  refine hK h4 r o4 j O ⟨X4.t.congr (fun a b ha f=>?_) (fun _ _=>rfl),X4.rows,X4.cols,X4.hd,X4.off,X4.last⟩ (fun b f d=>by rw [E b d,B b d];exact ko b f d)
  have:a<i:=by rw [<- X.rows];exact ha
  by_cases c:k<a
  ·rw [iP ⟨c,this⟩,iP c]
  ·rw [iN (fun x=>c x.1),iN c]
end
def C3h{l s r:Rat}(hl:l≠0)(hs:s≠0):l*(s*r)/l/s=r:=by
 grind
section
variable {E:Nat->Rat} {n k:Nat}
def B0z(sy:A2l n (mtx E n))(hk:k<=n)(ok:∀ m,m<k->Rc (mtx E n) n m):LdR n k (mtx E n) (elE E n n k):=LdR.run sy k hk ok
def B5b(hk:k<n):Rp n k (elP E n n k)=Gg n k (elE E n n k):=(A1z E (Nat.le_of_lt hk)).row hk
def A5y(sy:A2l n (mtx E n))(hk:k<n)(ok:∀ m,m<=k->Rc (mtx E n) n m)(e:ldA (mtx E n) k k k=0):elP E n n (k+1)=elP E n n k:=by
 have r:=B5b (E:=E) hk
 rw [(B0z sy o fun m a=>ok m o).none hk e (ok k (aE _))] at r
 show Di n k (elP E n n k)=_
 unfold Di
 grind
def A5x(sy:A2l n (mtx E n))(hk:k<n)(ok:∀ m,m<k->Rc (mtx E n) n m)(e:ldA (mtx E n) k k k≠0):
 (∀ i j,k<i->i<n->(elP E n n (k+1)).M i j=((elP E n n k).M k k*(elP E n n k).M i j-(elP E n n k).M i k*(elP E n n k).M k j).tdiv (elP E n n k).last)/\(elP E n n (k+1)).last=(elP E n n k).M k k/\∀ i,k<i->(elP E n n (k+1)).S i=(elP E n n k).S i:=by
 have R:=B0z sy o ok
 have r:=B5b (E:=E) hk
 rw [R.row hk e] at r
 have c:=R.len
 rw [<- A4c E (Nat.le_of_lt hk)] at c
 have a:elP E n n (k+1)=Di n k (elP E n n k):=rfl
 unfold Di at a
 rw [r,iP hk] at a
 generalize elP E n n k=s at *
 have f:=If s.cs.length k
 have d:∀ i,k<i->xch s.cs.length k i=i:=fun i b=>by unfold xch;grind
 rw [a]
 refine ⟨fun i j b _=>?_,rfl,fun i b=>?_⟩
 ·show clr (fun i=>s.M (xch s.cs.length k i)) s.cs.length k s.last i j=_
  unfold clr
  grind
 grind
def C3u(sy:A2l n (mtx E n)):∀ k,k<=n->(∀ m,m<k->Rc (mtx E n) n m)->∀ i,k<=i->i<n->(elP E n n k).S i=Uk E n i:=by
 intro k
 induction k with
 | zero=>intro _ _ i _ _;rfl
 | succ k ih=>
  intro d ok i f b
  have a:=ih o (fun m c=>ok m o) i o b
  by_cases e:ldA (mtx E n) k k k=0
  ·rw [A5y sy d (fun m c=>ok m o) e];exact a
  ·rw [(A5x sy d (fun m c=>ok m o) e).2.2 i o];exact a
structure LdF (E:Nat->Rat) (n k Q:Nat):Prop where
 val:∀ i j,k<=i->i<n->j<n->((elP E n n k).M i j:Rat)=(elP E n n k).last*(Uk E n i*ldA (mtx E n) k i j)
 last:(elP E n n k).last≠0
 zM:∀ a b,a<n->b<n->ZB Q ((elP E n n k).M a b)
 zl:ZB Q (elP E n n k).last
 zS:∀ a,a<n->Sz Q (Uk E n a)
 zA:∀ i j,k<=i->i<n->j<n->Sz Q (ldA (mtx E n) k i j)
def ldF{m Q:Nat}(hs:∀ i,i<n*n->Sz m (E i))(hQ1:3^n*bnd n m+bnd n m<=Q)(sy:A2l n (mtx E n))(hk:k<=n)(ok:∀ m,m<k->Rc (mtx E n) n m):LdF E n k Q:=by
 have rel:=A1z E (rows:=n) (cols:=n) hk
 have R:=B0z sy hk ok
 have r:=R.len
 have z:=A1y (E:=E) (rows:=n) (cols:=n) (c:=k) hs hk
 have l:1<=bnd n m:=by unfold bnd;omega
 have u:3^(elP E n n k).cs.length*bnd n m<=3^n*bnd n m:=aJ _ (Nat.pow_le_pow_right dc z.len)
 have s:=C3u sy k hk ok
 have val:∀ i j,k<=i->i<n->j<n->((elP E n n k).M i j:Rat)=(elP E n n k).last*(Uk E n i*ldA (mtx E n) k i j):=fun i j p d f=>by
  rw [rel.val i j d f,iN o,R.low i j p d f,s i p d]
 have q:∀ a,a<n->Sz (bnd n m) (Uk E n a):=fun a g=>A36 fun j f=>hs _ (R4 g f)
 refine ⟨val,rel.last,fun a b g t=>(z.M a b g t).mono o,z.last.mono o,fun a g=>(q a g).mono o,fun i j p d f=>?_⟩
 have e:ldA (mtx E n) k i j=cF ((elP E n n k).M i j) (elP E n n k).last/Uk E n i:=by
  have w:=Qt E n i
  rw [cP,val i j p d f,C3h (P8 rel.last) gz0]
 rw [e]
 exact ((T3 rel.last (z.M i j d f) z.last).div (q i d) l).mono o
end
def A7e(A:Nat->Nat->Rat)(n k:Nat):Nat->Rat:=fun t=>if t%n<k then ldL A (t/n) (t%n) else 0
def A7u(A:Nat->Nat->Rat)(k:Nat):Nat->Rat:=fun j=>if j<k then ldD A j else 0
structure Ld (h g o:aH) (be bl bd:Nat) (T:Tb) (E:Nat->Rat) (n k:Nat) (M:Nat->Nat->Int) (w:IV) (Lf Df:Nat->Rat):Prop where
 e:El h g o be T M (Uk E n) n k w (elP E n n k).last (.slice (some ⟨bl,0,none⟩) (n*n) (n*n)) (.slice (some ⟨bd,0,none⟩) n n)
 m:∀ i j,k<=i->i<n->j<n->M i j=(elP E n n k).M i j
 l:QB g o bl (n*n) Lf
 d:QB g o bd n Df
 tl:¬ onT T bl
 td:¬ onT T bd
 el:be≠bl
 ed:be≠bd
 ld:bl≠bd
section
variable {h g o:aH} {be bl bd:Nat} {T:Tb} {E:Nat->Rat} {n k:Nat} {M:Nat->Nat->Int} {w:IV} {Lf Df:Nat->Rat} {K:VP} {Q:Nat}
def Ld.next(X:Ld h g o be bl bd T E n k M w Lf Df){h' g':aH}(s:Sep h' g' o)(l:g.le g'):Ld h' g' o be bl bd T E n k M w Lf Df:=⟨X.e.next s l,X.m,X.l.ko l rfl,X.d.ko l rfl,X.tl,X.td,X.el,X.ed,X.ld⟩
def Ld.congr(X:Ld h g o be bl bd T E n k M w Lf Df){Lf' Df':Nat->Rat}(e1:∀ i,i<n*n->Lf i=Lf' i)(e2:∀ i,i<n->Df i=Df' i):Ld h g o be bl bd T E n k M w Lf' Df':=⟨X.e,X.m,X.l.congr e1,X.d.congr e2,X.tl,X.td,X.el,X.ed,X.ld⟩
def Ld.storeL(X:Ld h g o be bl bd T E n k M w Lf Df){i:Nat}(hi:i<n*n){v:QV}{z:Rat}(hv:RQ g v z){K:Unit->aH->Prop}
 (x:∀ h' o',Ld h' g o' be bl bd T E n k M w (fun a=>if a=i then z else Lf a) Df->K () h'):wpH prog (bK 244 (.pointer (some (aK ⟨bl,0,none⟩ (i*4)))) v.v) K h:=by
 refine X.l.store X.e.t.sep hi hv ?_
 intro h' o' b q ko
 exact x h' o' ⟨X.e.away b X.tl X.el ko,X.m,q,X.d.ko (B7 _) (ko _ X.ld.symm),X.tl,X.td,X.el,X.ed,X.ld⟩
def Ld.storeD(X:Ld h g o be bl bd T E n k M w Lf Df){i:Nat}(hi:i<n){v:QV}{z:Rat}(hv:RQ g v z){K:Unit->aH->Prop}
 (x:∀ h' o',Ld h' g o' be bl bd T E n k M w Lf (fun a=>if a=i then z else Df a)->K () h'):wpH prog (bK 244 (.pointer (some (aK ⟨bd,0,none⟩ (i*4)))) v.v) K h:=by
 refine X.d.store X.e.t.sep hi hv ?_
 intro h' o' b q ko
 exact x h' o' ⟨X.e.away b X.td X.ed ko,X.m,X.l.ko (B7 _) (ko _ X.ld),q,X.tl,X.td,X.el,X.ed,X.ld⟩
def Ld.at(X:Ld h g o be bl bd T E n k M w Lf Df)(gl:Gl g)(F:LdF E n k Q){i j:Nat}(hk:k<=i)(hi:i<n)(hj:j<n)(hQ1:1<=Q)(hQ:Q<=6400000000)
 (hK:∀ w' h' g',g.le g'->Sep h' g' o->h.le h'->RQ g' w' (ldA (mtx E n) k i j)->K w'.v h'):aN prog 244 #[.pointer (some ⟨be,0,none⟩),I (i:Int),I (j:Int)] h K:=by
 have a:=X.m i j hk hi hj
 have f:=Qt E n i
 refine B7m (m:=Q) X.e gl hi hj (by rw [a];exact F.zM i j hi hj) F.zl (F.zS i hi) (by rw [a];exact T3 F.last (F.zM i j hi hj) F.zl) hQ1 hQ ?_
 intro w' h' g' d s c b
 refine hK w' h' g' d s c ?_
 rw [a,cP,F.val i j hk hi hj,C3h (P8 F.last) gz0] at b
 exact b
def Ld.partner(X:Ld h g o be bl bd T E n k M w Lf Df)(F:LdF E n k Q)(hk:k<n)(hn:n<=10000):aN prog 245 #[.pointer (some ⟨be,0,none⟩)] h (fun r h'=>h'=h/\∃ (a:Nat) (b:Bool),r= .tuple #[I (a:Int),.bool b]/\(b=true->k<a/\a<n/\ldA (mtx E n) k a k≠0)/\(b=false->∀ j,k<j->j<n->ldA (mtx E n) k j k=0)):=by
 have key:∀ i,k<=i->i<n->(M i k=0↔ldA (mtx E n) k i k=0):=fun i c p=>by
  have q:=F.val i k c p hk
  have l:=P8 F.last
  have t:Uk E n i≠0:=by have:=Qt E n i;grind
  rw [X.m i k c p hk]
  constructor
  ·intro e
   rw [e] at q
   grind
  ·intro e
   simp_all
 refine A11 X.e hk hn (fun i f d l=>⟨rfl,i,true,rfl,fun _=>⟨f,d,fun e=>l ((key i oo d).2 e)⟩,fun e=>by cases e⟩) (fun s=>⟨rfl,0,false,rfl,(fun e=>by cases e),fun _ j f d=>(key j oo d).1 (s j f d)⟩)
end
def B8l{q:Rat}:q.num.sign<0↔q<0:=by
 have a:=Rat.num_nonneg (q:=q)
 grind
def A22{n i j:Nat}(hj:j<n):(i*n+j)/n=i/\(i*n+j)%n=j:=by
 refine ⟨?_,?_⟩
 ·rw [cH,Nat.mul_add_div o,aY hj,Nat.add_zero]
 ·rw [cH,Nat.mul_add_mod,aX hj]
def B6y(A:Nat->Nat->Rat)(n k i:Nat):Nat->Rat:=fun t=>if t%n=k/\t/n<i then ldL A (t/n) k else A7e A n k t
def A5m(A:Nat->Nat->Rat){n k i:Nat}(h:i=n\/ldA A k k k=0/\k<i):∀ t,t<n*n->B6y A n k i t=A7e A n (k+1) t:=by
 intro t a
 unfold B6y A7e
 have b:t/n<n:=aQ a
 by_cases c:t%n=k
 ·by_cases c2:t/n<i
  ·grind
  ·rcases h with h|⟨e,d⟩
   ·omega
   ·unfold ldL
    grind
 grind
def B19(A:Nat->Nat->Rat)(k:Nat):(fun a=>if a=k then ldA A k k k else A7u A k a)=A7u A (k+1):=by
 funext a
 unfold A7u ldD
 grind
section
variable {h:aH} {A:Option aL} {E:Nat->Rat} {n cap m Q:Nat} {K:VP}
def Ux(gl:Gl h)(rq:aW RQr h A (n*n) E)(hcap:n*n<=cap)(hn1:1<=n)(hn:n<=64)(sy:A2l n (mtx E n))(hs:∀ i,i<n*n->Sz m (E i))(hQ1:3^n*bnd n m+bnd n m<=Q)(hQ:2*Q+1<=100000000)
 (hK1:(∀ k,k<n->Rc (mtx E n) n k)->∀ h' g' o' be bl bd T M w,h.le h'->h.le g'->Ld h' g' o' be bl bd T E n n M w (A7e (mtx E n) n n) (A7u (mtx E n) n)->K (.tuple #[.pointer (some ⟨be,0,none⟩),.bool true]) h')
 (hK0:∀ k,k<n->(∀ k',k'<k->Rc (mtx E n) n k')->¬ Rc (mtx E n) n k->∀ h' g' o' be bl bd T M w,h.le h'->h.le g'->Ld h' g' o' be bl bd T E n k M w (A7e (mtx E n) n k) (A7u (mtx E n) k)->K (.tuple #[.pointer (some ⟨be,0,none⟩),.bool false]) h'):aN prog 192 #[.slice A (n*n) cap,I (n:Int)] h K:=by
 have ai:n*n<=64*64:=aP hn hn
 have bo:bnd n m=1+n*m+m:=rfl
 refine (fnk func192 [(6,[7,29],[],[.bool false,I 0]),(17,[12],[],[I 0])] (cs:=[(12,[7],[],[.bool false])]) (os:=[(19,[0,1,2,3,4,5,6,7,8,9,10,11,13,12,14,15,16])]) (own:=[9]) (wr:=[248])) ?_
 refine (fnk func243 (wr:=[1000000000])) ?_
 refine Lw (m:=m) gl rq hcap hn1 o hn1 o hs o ?_
 intro h1 g1 o1 T a0 t1 er ec
 refine ⟨_,rfl,?_⟩
 refine t1.sep.call (Dy dc dc ?_)
 intro s2 A2 n2 c2 g2 l2 i2 h2 a5
 have t2:=t1.next a5 l2
 refine ⟨_,_,_,_,rfl,Pc ?_⟩
 intro be u
 have fr:∀ {O gg oo:aH} {k x b},Sep O gg oo->oo k=some x->O b=none->k≠b:=by
  rintro O gg oo k x b s e G rfl
  rw [s.own k x e] at G;cases G
 obtain ⟨⟨y1,z1⟩,⟨y2,z2⟩,⟨y3,z3⟩⟩:=t2.own
 have q:∀ {O gg oo:aH} {b},Tab O gg oo T (A37 E n) (Uk E n)->O b=none->¬ onT T b:=by
  intro O gg oo b t G g
  obtain ⟨⟨y1,z1⟩,⟨y2,z2⟩,⟨y3,z3⟩⟩:=t.own
  rcases g with rfl|rfl|rfl
  ·exact fr t.sep z1 G rfl
  ·exact fr t.sep z2 G rfl
  ·exact fr t.sep z3 G rfl
 have s3:=t2.sep.new u (.cells (Value.agg #[I (n:Int),I (0:Int),.pointer (some ⟨T.bt,0,none⟩),.bool s2,.slice A2 n2 c2,.slice none 0 0,.slice none 0 0]).cells 284)
 have X3:El _ g2 _ be T (A37 E n) (Uk E n) n 0 ⟨s2,A2,n2,c2⟩ 1 (.slice none 0 0) (.slice none 0 0):=⟨t2.keep s3 (B7 _) (fun k x e _=>by rw [B9 _ _ (fr t2.sep e u)];exact e),er,ec,⟨284,C3 _ _ _⟩,q t2 u,i2⟩
 refine ⟨_,rfl,_,rfl,?_⟩
 generalize (h2.put be (.cells (Value.agg #[I (n:Int),I (0:Int),.pointer (some ⟨T.bt,0,none⟩),.bool s2,.slice A2 n2 c2,.slice none 0 0,.slice none 0 0]).cells 284))=h3 at *
 generalize (o1.put be (.cells (Value.agg #[I (n:Int),I (0:Int),.pointer (some ⟨T.bt,0,none⟩),.bool s2,.slice A2 n2 c2,.slice none 0 0,.slice none 0 0]).cells 284))=o3 at *
 have a4:h.le g2:=B0 a0 l2
 have ay:C4 ((n:Int)*(n:Int))=((n*n:Nat):Int):=by exact J4 o
 rw [ay]
 have B:∀ {O gg oo M k w z L D},El O gg oo be T M (Uk E n) n k w z L D->∃ x,oo be=some x:=fun X=>by obtain ⟨e,he⟩:=X.hd;grind
 refine I3 Zq (zx:=S3) rfl o o o o ?_
 intro bl R
 refine ⟨_,_,_,rfl,_,rfl,?_⟩
 have H:be≠bl:=by obtain ⟨x,g⟩:=B X3;exact fr X3.t.sep g R
 have X4:=X3.away (X3.t.sep.new R (.cells ((aC (n*n) S3).flatMap enc).toArray 244)) (q X3.t R) H (fun y hy=>B9 _ _ hy)
 have q4:QB g2 (o3.put bl (.cells ((aC (n*n) S3).flatMap enc).toArray 244)) bl (n*n) (fun _=>0):=⟨_,RowX.mk,aI,fun i hi=>⟨S3,gz0,RQ.zero⟩⟩
 have tl:=q X3.t R
 refine X4.set (n':=n) (k':=0) (w':=⟨s2,A2,n2,c2⟩) (z':=1) (L':=.slice (some ⟨bl,0,none⟩) (n*n) (n*n)) (D':=.slice none 0 0) (vs:=[.slice (some ⟨bl,0,none⟩) (n*n) (n*n)]) B03 rfl rfl (by intro x g;simp only [bV,bG,or_false] at g;subst g;rfl) o rfl X4.last rfl ?_
 intro h5 o5 X5 a3
 have q5:=q4.ko (B7 _) (a3 _ H.symm)
 refine I3 Zq (zx:=S3) rfl o o o o ?_
 intro bd N
 refine ⟨_,_,_,rfl,_,rfl,?_⟩
 have ah:be≠bd:=by obtain ⟨x,g⟩:=B X5;exact fr X5.t.sep g N
 have ap:bl≠bd:=by obtain ⟨xs,⟨e,g⟩,_⟩:=q5;exact fr X5.t.sep g N
 have td:=q X5.t N
 have X6:=X5.away (X5.t.sep.new N (.cells ((aC n S3).flatMap enc).toArray 244)) td ah (fun y hy=>B9 _ _ hy)
 have d6:QB g2 (o5.put bd (.cells ((aC n S3).flatMap enc).toArray 244)) bd n (fun _=>0):=⟨_,RowX.mk,aI,fun i hi=>⟨S3,gz0,RQ.zero⟩⟩
 have q6:=q5.ko (o':=o5.put bd (.cells ((aC n S3).flatMap enc).toArray 244)) (B7 _) (B9 _ _ ap)
 refine X6.set (n':=n) (k':=0) (w':=⟨s2,A2,n2,c2⟩) (z':=1) (L':=.slice (some ⟨bl,0,none⟩) (n*n) (n*n)) (D':=.slice (some ⟨bd,0,none⟩) n n) (vs:=[.slice (some ⟨bd,0,none⟩) n n]) B03 rfl rfl (by intro x g;simp only [bV,bG,or_false] at g;subst g;rfl) o rfl X6.last rfl ?_
 intro h7 o7 X7 ao
 have X0:Ld h7 g2 o7 be bl bd T E n 0 (A37 E n) ⟨s2,A2,n2,c2⟩ (A7e (mtx E n) n 0) (A7u (mtx E n) 0):=⟨X7,fun _ _ _ _ _=>rfl,(q6.ko (B7 _) (ao _ H.symm)).congr (fun i _=>by rfl),(d6.ko (B7 _) (ao _ ah.symm)).congr (fun i _=>by rfl),tl,td,H,ah,ap⟩
 have V:1<=Q:=o
 have ix:∀ {i j:Nat},i<n->j<n->C4 (C4 ((i:Int)*(n:Int))+(j:Int))=((i*n+j:Nat):Int):=fun {i j} hi hj=>by
  have:=R4 hi hj
  rw [<- aV,J4 o]
  exact J4 (n:=i*n+j) o
 have ae:∀ {i:Nat},i<n->C4 ((i:Int)+1)=((i+1:Nat):Int):=fun {i} hi=>by rw [C1]<;>omega
 refine ⟨fun L hq=>∃ (k:Nat) (g' o':aH) (M:Nat->Nat->Int) (w:IV),k<=n/\L=[.bool true,I (k:Int)]/\h.le g'/\(∀ k',k'<k->Rc (mtx E n) n k')/\Ld hq g' o' be bl bd T E n k M w (A7e (mtx E n) n k) (A7u (mtx E n) k),fun L _=>n-(iAt L 1).toNat,⟨0,g2,o7,_,_,o,rfl,a4,fun k' ac=>o,X0⟩,?_⟩
 rintro a9 z5 hq ⟨k,g',o',M,w,hk,eL,lg,ok,X⟩
 obtain ⟨rfl,rfl⟩:=eL
 refine C0 (fun am=>?_) (fun bk=>by
  have:k=n:=o
  subst this
  exact hK1 ok hq g' o' be bl bd T M w (B0 lg X.e.t.sep.le) lg X)
 have f:k<n:=o
 have F:=ldF hs hQ1 sy hk ok
 refine X.at (gl.mono lg) F (aE _) f f V o ?_
 intro w1 h1 g1 l1 s1 bn i1
 refine ⟨_,_,_,_,_,_,_,_,rfl,?_⟩
 have X1:=X.next s1 l1
 have p:h.le g1:=B0 lg l1
 refine FCall.mono (X1.partner F f o) ?_
 rintro r W ⟨rfl,a,b,rfl,a7,aw⟩
 have an:RQ W w1 (ldA (mtx E n) k k k):=G2 _ _ _ _ s1.le i1
 refine ⟨_,_,rfl,fun L g=>L=[.bool true]/\g=W/\Rc (mtx E n) n k,?_,?_⟩
 ·refine A3b an ⟨_,rfl,C0 (fun al=>?_) (fun ba=>?_)⟩
  ·have aq:=B8l.1 al
   exact hK0 k f ok (fun x=>absurd x.1 gz0) W g1 o' be bl bd T M w (B0 p s1.le) p X1
  ·have ai:0<=ldA (mtx E n) k k k:=by
    simp_all
   refine Ct an ⟨_,rfl,C0 (fun e0=>?_) (fun S=>⟨rfl,rfl,ai,fun e=>absurd e S⟩)⟩
   cases b with
   | true=>
    obtain ⟨b1,b2,b3⟩:=a7 rfl
    exact hK0 k f ok (fun x=>b3 (x.2 e0 a b1 b2)) W g1 o' be bl bd T M w (B0 p s1.le) p X1
   | false=>exact ⟨rfl,rfl,ai,fun _ j c1 c2=>aw rfl j c1 c2⟩
 rintro p1 g ⟨eL,rfl,bi⟩
 simp only [cX,Value.bool.injEq,and_true] at eL
 subst eL
 have af: ∀ k',k'<=k->Rc (mtx E n) n k':=fun k' ac=>by
  grind
 refine ⟨_,rfl,_,_,_,X1.e.c5,?_⟩
 refine s1.call (Jo o ?_)
 intro w2 g3 l3 i3 h4 s4
 refine ⟨_,_,_,_,_,_,_,_,rfl,s1.le_le s4 l3,_,rfl,?_⟩
 rw [ix f f]
 have X2:=X1.next s4 l3
 have ar:=R4 f f
 refine ⟨o,o,?_⟩
 refine X2.storeL ar (z:=1) i3 ?_
 intro h5 o5 X5
 refine ⟨_,rfl,_,_,_,X5.e.c6,_,rfl,o,o,?_⟩
 have ag:RQ g3 w1 (ldA (mtx E n) k k k):=G2 _ _ _ _ l3 i1
 refine X5.storeD f ag ?_
 intro h6 o6 X6
 have X7:Ld h6 g3 o6 be bl bd T E n k M w (B6y (mtx E n) n k (k+1)) (A7u (mtx E n) (k+1)):=X6.congr (fun t ht=>by
  show (if t=k*n+k then 1 else A7e (mtx E n) n k t)=_
  unfold B6y
  have dm:=Nat.div_add_mod t n
  by_cases c:t=k*n+k
  ·obtain ⟨d1,d2⟩:=A22 (i:=k) f
   rw [iP c,c,d1,d2,iP ⟨rfl,o⟩,B70]
  ·rw [iN c]
   by_cases c2:t%n=k/\t/n<k+1
   ·have am:t/n<k:=by
     grind
    rw [B71 am]
    unfold A7e
    grind
   ·rw [iN c2]) (fun t _=>by rw [<- B19])
 have aj:h.le g3:=B0 p l3
 refine Ct (G2 _ _ _ _ X7.e.t.sep.le ag) ⟨_,rfl,C0 (fun e0=>?_) (fun S=>?_)⟩
 ·refine ⟨_,rfl,_,X7.e.c1,_,rfl,?_⟩
  rw [ae f]
  refine X7.e.set (n':=n) (k':=k+1) (w':=w) (z':=(elP E n n k).last) (L':=.slice (some ⟨bl,0,none⟩) (n*n) (n*n)) (D':=.slice (some ⟨bd,0,none⟩) n n) (vs:=[I ((k+1:Nat):Int)]) B04 rfl rfl (by intro x g;simp only [bV,bG,or_false] at g;subst g;rfl) o rfl X7.e.last rfl ?_
  intro h8 o8 Y ko
  have es:=A5y sy f af e0
  refine ⟨⟨k+1,g3,o8,M,w,o,rfl,aj,fun k' ac=>af k' o,⟨gz0,fun i j a b c=>by rw [es];exact X7.m i j o b c,(X7.l.ko (B7 _) (ko _ X7.el.symm)).congr (A5m _ (.inr ⟨e0,o⟩)),X7.d.ko (B7 _) (ko _ X7.ed.symm),X7.tl,X7.td,X7.el,X7.ed,X7.ld⟩⟩,?_⟩
  show n-((k+1:Nat):Int).toNat<n-((k:Nat):Int).toNat
  omega
 rw [ae f]
 refine ⟨fun L g=>∃ (i:Nat) (g4 o4:aH),k<i/\i<=n/\L=[I (i:Int)]/\g3.le g4/\Ld g g4 o4 be bl bd T E n k M w (B6y (mtx E n) n k i) (A7u (mtx E n) (k+1)),fun L _=>n-(iAt L 0).toNat,⟨k+1,g3,o6,o,o,rfl,B7 _,X7⟩,?_⟩
 rintro z6 g ⟨i,g4,o4,bg,bf,eL,l4,X8⟩
 obtain rfl:z6=(i:Int):=gz0
 have ad:h.le g4:=B0 aj l4
 refine C0 (fun bc=>?_) (fun bb=>?_)
 ·have C:i<n:=o
  refine ⟨_,rfl,_,_,_,X8.e.c5,?_⟩
  refine X8.at (gl.mono ad) F o C f V o ?_
  intro w9 h9 g9 l9 s9 a8 i9
  refine ⟨_,_,_,_,_,_,_,_,rfl,a8,?_⟩
  refine s9.call (Vq (m:=Q) (gl.mono (B0 ad l9)).tz i9 (G2 _ _ _ _ (B0 l4 l9) ag) (F.zA i k o C f) (F.zA k k (aE _) f f) V o ?_)
  intro bj az aa a1 bh ak
  refine ⟨_,_,_,_,_,_,_,_,rfl,s9.le_le ak aa,_,rfl,?_⟩
  rw [ix C f]
  have a6:=R4 C f
  refine ⟨o,o,?_⟩
  refine ((X8.next s9 l9).next ak aa).storeL a6 a1 ?_
  intro bm ax X11
  rw [ae C]
  refine ⟨⟨i+1,az,ax,o,o,rfl,B0 l4 (B0 l9 aa),X11.congr (fun t ht=>?_) (fun _ _=>rfl)⟩,by simp only [R9];omega⟩
  show (if t=i*n+k then ldA (mtx E n) k i k/ldA (mtx E n) k k k else B6y (mtx E n) n k i t)=_
  unfold B6y
  have dm:=Nat.div_add_mod t n
  by_cases c:t=i*n+k
  ·obtain ⟨d1,d2⟩:=A22 (i:=i) f
   rw [iP c,c,d1,d2,iP ⟨rfl,o⟩]
   unfold ldL
   rw [iN o,iN o,iN S]
  ·by_cases c2:t%n=k/\t/n<i
   ·grind
   ·grind
 ·have a2:i=n:=o
  subst a2
  refine A2g (m:=Q) X8.e f o F.last (fun a b ka ha G=>by rw [X8.m a b ka ha G];exact F.zM a b ha G) F.zl V hQ ?_
  intro h9 g9 o9 w9 l9 Y ko
  obtain ⟨au,av,_⟩:=A5x sy f ok S
  refine ⟨rfl,⟨k+1,g9,o9,_,w9,o,rfl,B0 ad l9,fun k' ac=>af k' o,⟨by rw [av,<- X8.m k k (aE _) f f];exact Y,fun i j a b c=>?_,(X8.l.ko l9 (ko _ X8.tl X8.el.symm)).congr (A5m _ (.inl rfl)),X8.d.ko l9 (ko _ X8.td X8.ed.symm),X8.tl,X8.td,X8.el,X8.ed,X8.ld⟩⟩,?_⟩
  ·rw [iP (show k<i from o),au i j o b,X8.m k k (aE _) f f,X8.m i j o b c,X8.m i k o b f,X8.m k j (aE _) f c]
  ·show i-((k+1:Nat):Int).toNat<i-((k:Nat):Int).toNat
   omega
end
def ns(f:Nat->Nat):Nat->Nat
 | 0=>0
 | n+1=>ns f n+f n
def C3x(A:Nat->Nat->Rat)(n k:Nat)(v:Nat->Rat):Prop:=
 (v k=1/\(∀ i,k<i->i<n->v i=0)/\ldA A k k k<0)\/
 (∃ p,k<p/\p<n/\v p=1/\(∀ i,k<i->i<n->i≠p->v i=0)/\ldA A k k k=0/\ldA A k p k≠0/\v k=(ldA A k p p+1)/(ldA A k p k * -2))
def C3l(n k Q:Nat):Nat:=(n-k)*(2*Q+2)+4*Q+10
structure Wv (E:Nat->Rat) (n k Q t:Nat) (v:Nat->Rat) (s:Nat->Nat):Prop where
 seed:C3x (mtx E n) n k v
 low:∀ i,i<t->v i=0
 zero:∀ m,t<=m->m<k->sm n (fun i=>ldL (mtx E n) i m*v i)=0
 sz:∀ i,i<n->Sz (s i) (v i)
 tot:ns (fun i=>if i<t then 0 else 2*Q+1+s i) n+(2*Q+2)<=2^(k-t)*C3l n k Q
def B7o:Sz 1 (1:Rat):=(⟨ZB.one (aE 1),ZB.one (aE 1)⟩:Sz 1 1)
def C0g{E:Nat->Rat}{n Q m:Nat}(F:LdF E n m Q)(hm:m<n)(hQ:1<=Q){i:Nat}(hi:i<n):Sz (2*Q) (ldL (mtx E n) i m):=by
 unfold ldL
 by_cases c:i=m
 ·rw [iP c];exact B7o.mono o
 ·rw [iN c]
  by_cases c2:i<m
  ·rw [iP c2];exact (Sz.zero (aE 1)).mono o
  ·rw [iN c2]
   split
   ·exact (Sz.zero (aE 1)).mono o
   ·exact ((F.zA i m o hi hm).div (F.zA m m (aE _) hm hm) hQ).mono o
section
variable {h g o:aH} {be bl bd bv:Nat} {T:Tb} {E:Nat->Rat} {n k Q W m:Nat} {M:Nat->Nat->Int} {w:IV} {K:VP}
structure Lv (h g o:aH) (be bl bd bv:Nat) (T:Tb) (E:Nat->Rat) (n k:Nat) (M:Nat->Nat->Int) (w:IV) (v:Nat->Rat):Prop where
 x:Ld h g o be bl bd T E n k M w (A7e (mtx E n) n k) (A7u (mtx E n) k)
 q:QB g o bv n v
 t:¬ onT T bv
 e:be≠bv
 l:bl≠bv
 d:bd≠bv
end
def SymT(q:Nat)(ls:Nat->List UInt8):Prop:=∀ i j,i<q->j<i->ls (i*q+j)=ls (j*q+i)
def SqOk(r c:Int)(n:Nat)(ls:Nat->List UInt8)(q:Nat):Prop:=MOk r c n ls q q/\SymT q ls
def SqE(r c:Int)(n:Nat)(ls:Nat->List UInt8)(e:Int):Prop:=(¬ Mx r c n ls/\e=1)\/(Mx r c n ls/\(¬ ∃ q,SqOk r c n ls q)/\e=4)
def SymT.symm{q:Nat}{ls:Nat->List UInt8}(h:SymT q ls):A2l q (mtx (rvs ls) q):=fun i j b a=>by
 show rv (ls (i*q+j))=rv (ls (j*q+i))
 rcases cQ i j with c|c|c
 ·rw [h j i a c]
 ·rw [c]
 ·rw [h i j b c]
section
variable {h:aH} {K:VP} {A:Option aL} {n cap m:Nat} {r c:Int} {ls:Nat->List UInt8}
def MOk.sq{q q':Nat}(mk:MOk r c n ls q q')(e:r=c):q=q':=by have:=mk.er;have:=mk.ec;omega
def A7q(gl:Gl h)(rv':aW SSr h A n ls)(hn:n<=1000000)(hl:LL n ls)
 (hK1:∀ q,SqOk r c n ls q->∀ b h',Own RQr h h' b (q*q) (rvs ls)->K (.tuple #[.slice (some ⟨b,0,none⟩) (q*q) (q*q),I 0]) h')
 (hK0:∀ e,SqE r c n ls e->∀ h',h.le h'->K (.tuple #[.slice none 0 0,I e]) h'):aN prog 191 #[Dx r c A n cap] h K:=by
 refine (fnk func191 [(7,[22],[],[I 0]),(10,[26],[],[I 0])] (own:=[1])) ?_
 refine V5 gl rv' hn hl ?_ (fun s k l1=>⟨_,_,_,_,rfl,hK0 1 (.inl ⟨s,rfl⟩) k l1⟩)
 intro q q' mk b k own
 refine ⟨_,_,_,_,rfl,?_⟩
 show Br _ _ _
 refine D9 (fun f=>hK0 4 (.inr ⟨⟨_,_,mk⟩,(fun ⟨a,x,_⟩=>f (by have:=x.er;have:=x.ec;omega)),rfl⟩) k own.le) (fun t=>?_)
 obtain rfl:=mk.sq t
 have:=mk.r2
 obtain ⟨rfl,rfl,_,_,_,_,rfl,R⟩:=id mk
 have H:aW SSr k A (q*q) ls:=rv'.mono E9 own.le
 have W:q*q<=64*64:=aP o o
 have M:∀ {i j:Nat},i<q->j<q->C4 (C4 ((i:Int)*(q:Int))+(j:Int))=((i*q+j:Nat):Int):=fun {i j} m p=>by
  have:=R4 m p
  rw [<- aV,J4 o]
  exact J4 (n:=i*q+j) o
 have w:∀ {i j:Nat},i<q->j<i->ls (i*q+j)≠ls (j*q+i)->¬ ∃ a,SqOk (q:Int) (q:Int) (q*q) ls a:=by
  rintro i j m p f ⟨a,x,y⟩
  obtain rfl:a=q:=by have:=x.er;omega
  exact f (y i j m p)
 refine ⟨fun L l=>∃ i:Nat,i<=q/\L=[I (i:Int)]/\l=k/\∀ a b,a<i->b<a->ls (a*q+b)=ls (b*q+a),fun L _=>q-(iAt L 0).toNat,⟨0,o,rfl,rfl,fun a b Q=>o⟩,?_⟩
 rintro z l ⟨i,m,C,rfl,G⟩
 obtain rfl:=sI1 C
 refine C0 (fun V=>?_) (fun T=>hK1 q ⟨mk,fun a b Q g=>G a b o g⟩ b l own)
 have d:i<q:=o
 refine ⟨fun L D=>∃ j:Nat,j<=i/\L=[I (j:Int)]/\D=l/\∀ b,b<j->ls (i*q+b)=ls (b*q+i),fun L _=>i-(iAt L 0).toNat,⟨0,o,rfl,rfl,fun b g=>o⟩,?_⟩
 rintro z2 D ⟨j,p,C,rfl,E⟩
 obtain rfl:=sI1 C
 refine C0 (fun N=>?_) (fun F=>?_)
 ·have B:j<i:=o
  have i1:=R4 d (show j<q from o)
  have X:=R4 (show j<q from o) d
  obtain ⟨u,rfl,hc⟩:=H.sat i1
  obtain ⟨u',O,S⟩:=H.sat X
  simp only [Option.some.injEq] at O
  subst O
  rw [M d (show j<q from o),M (show j<q from o) d]
  refine ⟨_,rfl,o,o,_,hc,_,rfl,o,o,_,S,?_⟩
  dsimp only;rw [Jl]
  refine Br.not (C0 (fun e=>?_) (fun e=>hK0 4 (.inr ⟨⟨_,_,mk⟩,w d B e,rfl⟩) D own.le))
  rw [wiS j o]
  refine ⟨⟨j+1,o,rfl,rfl,fun b g=>?_⟩,by simp only [R9];omega⟩
  by_cases c:b=j
  ·rw [c];exact e
  ·exact E b o
 ·rw [wiS i o]
  refine ⟨⟨i+1,o,rfl,rfl,fun a b Q g=>?_⟩,by simp only [R9];omega⟩
  by_cases c:a=i
  ·rw [c];exact E b o
  ·exact G a b o g
structure FacV (h:aH) (q:Nat) (A1:Option aL) (A2:Option aL) (E:Nat->Rat):Prop where
 l:aW SSr h A1 (q*q) (fun t=>E8 (A7e (mtx E q) q q t))
 d:aW SSr h A2 q (fun t=>E8 (A7u (mtx E q) q t))
def A24{Q:Nat}(gl:Gl h)(rv':aW SSr h A n ls)(hn:n<=1000000)(hl:LL n ls)(hs:∀ i,i<n->Sz m (rv (ls i)))(hb:∀ q,MOk r c n ls q q->3^q*bnd q m+bnd q m<=Q)(hQ:Q<=20000000)
 (hK1:∀ q,SqOk r c n ls q->(∀ k,k<q->Rc (mtx (rvs ls) q) q k)->∀ b1 b2 h',h.le h'->FacV h' q (some ⟨b1,0,none⟩) (some ⟨b2,0,none⟩) (rvs ls)->K (.tuple #[.agg #[I r,I c,.slice (some ⟨b1,0,none⟩) (q*q) (q*q),.slice (some ⟨b2,0,none⟩) q q],.bool true,I 0]) h')
 (hK2:∀ q,SqOk r c n ls q->(¬ ∀ k,k<q->Rc (mtx (rvs ls) q) q k)->∀ h',h.le h'->K (.tuple #[.agg #[I 0,I 0,.slice none 0 0,.slice none 0 0],.bool false,I 0]) h')
 (hK0:∀ e,SqE r c n ls e->∀ h',h.le h'->K (.tuple #[.agg #[I 0,I 0,.slice none 0 0,.slice none 0 0],.bool false,I e]) h'):aN prog 145 #[Dx r c A n cap] h K:=by
 refine (fnk func145 (os:=[(7,[0,1,2,3,4,5,6,7,10,8,9,11])]) (own:=[1,2,9])) ?_
 refine A7q gl rv' hn hl ?_ (fun e H E l1=>⟨_,_,_,_,rfl,D9 (fun _=>hK0 e H E l1) (fun e0=>by rcases H with ⟨_,x⟩|⟨_,_,x⟩<;>omega)⟩)
 intro q sq b E own
 obtain ⟨mk,G⟩:=id sq
 have g:=hb q mk
 obtain ⟨rfl,rfl,_,_,_,_,rfl,L⟩:=id mk
 refine ⟨_,_,_,_,rfl,D9 (fun y=>absurd rfl y) (fun _=>?_)⟩
 refine Ux (Q:=Q) (gl.mono own.le) (own.vis G2) (aE _) o o G.symm hs g o ?_ ?_
 ·intro ok z S W be O bd T M w s R X
  have D:1<=Q:=by unfold bnd at g;omega
  have F:=fun k (B:k<=q)=>ldF hs g G.symm B fun m C=>ok m o
  refine ⟨_,_,rfl,?_⟩
  show Br false _ _
  refine ⟨_,rfl,_,_,_,X.e.c5,?_⟩
  have p:Gl z:=gl.mono (B0 own.le s)
  refine V3 (m:=2*Q) p (X.l.rowV X.e.t.sep) o (fun i j=>?_) o ?_
  ·unfold A7e
   have C:i%q<q:=cO _ o
   rw [iP C]
   exact C0g (F _ o) C D (aQ j)
  intro N h3 a
  refine ⟨_,_,_,rfl,a.le,_,rfl,_,_,_,C2 a.le X.e.c6,?_⟩
  refine V3 (m:=Q) (p.mono a.le) ((X.d.rowV X.e.t.sep).mono G2 a.le) o (fun i j=>?_) o ?_
  ·unfold A7u ldD
   rw [iP j]
   exact (F i o).zA i i (aE _) j j
  intro b4 V f
  exact ⟨_,_,_,rfl,f.le,hK1 q sq ok N b4 V (B0 (B0 own.le s) (B0 a.le f.le)) ⟨(a.vis E9).mono E9 f.le,f.vis E9⟩⟩
 ·intro k B ok u z S W be O bd T M w s R X
  refine ⟨_,_,rfl,?_⟩
  show Br true _ _
  exact hK2 q sq (fun x=>u (x k B)) z (B0 own.le s)
end
abbrev E4:Nat->Rat:=fun i=>([4,2,2,1]:List Rat).getD i 0
abbrev E0:Nat->Rat:=fun i=>([0,1,1,0]:List Rat).getD i 0
section
variable {h:aH} {A:Option aL} {n cap:Nat} {r c:Int} {ls:Nat->List UInt8}
end
def Fq(P Q:Nat->Nat->Rat)(w i k j:Nat):Nat->Nat->Rat:=fun a b=>if a<i then sm w (fun t=>P a t*Q t b) else if a=i then (if b<j then sm (k+1) (fun t=>P a t*Q t b) else sm k (fun t=>P a t*Q t b)) else 0
def A3r(P Q:Nat->Nat->Rat)(w a b:Nat):Fq P Q w 0 0 0 a b=0:=by
 unfold Fq
 rw [iN (cV a),iN (cV b)]
 split<;>rfl
def A6x(P Q:Nat->Nat->Rat)(w i k j a b:Nat):B87 (Fq P Q w i k j) i j (sm k (fun t=>P i t*Q t j)+P i k*Q k j) a b=Fq P Q w i k (j+1) a b:=by
 unfold B87 Fq
 by_cases e:a=i/\b=j
 ·obtain ⟨rfl,rfl⟩:=e
  rw [iP ⟨rfl,rfl⟩,iN (dE a),iP rfl,iP (Nat.lt_succ_self b)]
  rfl
 grind
def A6y(P Q:Nat->Nat->Rat){w i k j c:Nat}(h:j=c\/P i k=0){a b:Nat}(hb:b<c):Fq P Q w i k j a b=Fq P Q w i (k+1) 0 a b:=by
 unfold Fq
 by_cases d:a<i
 ·grind
 ·rw [iN d,iN d]
  by_cases e:a=i
  ·subst e
   rw [iP rfl,iP rfl,iN (cV b)]
   by_cases f:b<j
   ·grind
   ·rcases h with h|h
    ·omega
    ·show _=sm k (fun t=>P a t*Q t b)+P a k*Q k b
     grind
  grind
def A9o(P Q:Nat->Nat->Rat)(w i a b:Nat):Fq P Q w i w 0 a b=Fq P Q w (i+1) 0 0 a b:=by
 unfold Fq
 by_cases c:a<i
 ·grind
 ·rw [iN c]
  by_cases d:a=i
  ·grind
  ·rw [iN d,iN o]
   split
   ·rfl
   ·rfl
section
variable {h:aH} {K:VP} {A B:Option aL} {n n2 cap cap2 m w cols:Nat} {r c r2 c2:Int} {la lb:Nat->List UInt8} {P Q:Nat->Nat->Rat}
def A1s(ra:RowsV h A n w P)(rb:RowsV h B w cols Q)(hn1:1<=n)(hn:n<=10000)(hw1:1<=w)(hw:w<=10000)(hc1:1<=cols)(hc:cols<=10000)(hs:∀ i j,i<n->j<w->Sz m (P i j))(hs2:∀ i j,i<w->j<cols->Sz m (Q i j))(hm:1+w*(2*m+1)+2*m<=400000000)
 (hK:∀ h' g' o' bo rb,h.le g'->Mt h' g' o' bo rb n cols (fun a b=>sm w (fun t=>P a t*Q t b))->K (.slice (some ⟨bo,0,none⟩) n n) h'):aN prog 34 #[.slice A n cap,.slice B w cap2] h K:=by
 refine (fnk func34 [(3,[6],[],[I 0]),(6,[7],[],[I 0]),(9,[8],[],[I 0])]) ?_
 obtain ⟨V,sB,X,S,aj,C,_⟩:=rb.at (i:=0) oo
 refine ⟨V,X,oo,oo,_,_,_,C,?_⟩
 rw [S]
 refine Ta hn hc ?_
 intro h1 g1 o1 bo p l1 t1
 refine ⟨_,_,_,rfl,fun L s=>∃ (i:Nat) (g o:aH),i<=n/\L=[I (i:Int)]/\h.le g/\Mt s g o bo p n cols (Fq P Q w i 0 0),fun L _=>n-(iAt L 0).toNat,⟨0,g1,o1,oo,rfl,l1,t1.congr fun a b _ _=>(A3r P Q w a b).symm⟩,?_⟩
 rintro z s ⟨i,g,o,hi,eL,lg,t⟩
 obtain rfl:z=(i:Int):=gz0
 refine C0 (fun ag=>?_) (fun al=>?_)
 ·have d:i<n:=oo
  obtain ⟨a1,s1,y,f1,f2,hc1,D⟩:=ra.at d
  refine ⟨fun L s=>∃ (k:Nat) (g o:aH),k<=w/\L=[I (k:Int)]/\h.le g/\Mt s g o bo p n cols (Fq P Q w i k 0),fun L _=>w-(iAt L 0).toNat,⟨0,g,o,oo,rfl,lg,t⟩,?_⟩
  rintro z ak ⟨k,g2,o2,hk,ae,E,t2⟩
  obtain rfl:z=(k:Int):=gz0
  refine C0 (fun ad=>?_) (fun ac=>?_)
  ·have l:k<w:=oo
   obtain ⟨a2,s2,M,f3,f4,R,row2⟩:=rb.at l
   refine ⟨fun L s=>∃ (j:Nat) (g o:aH),j<=cols/\L=[I (j:Int)]/\h.le g/\Mt s g o bo p n cols (Fq P Q w i k j),fun L _=>cols-(iAt L 0).toNat,⟨0,g2,o2,oo,rfl,E,t2⟩,?_⟩
   rintro z H ⟨j,g3,W,hj,ai,q,c⟩
   obtain rfl:z=(j:Int):=gz0
   have r:=B0 q c.sep.le
   have next:(j=cols\/P i k=0)->((∃ (k':Nat) (g o:aH),k'<=w/\[I (C4 ((k:Int)+1))]=[I (k':Int)]/\h.le g/\Mt H g o bo p n cols (Fq P Q w i k' 0))/\w-(iAt [I (C4 ((k:Int)+1))] 0).toNat<w-(iAt [I (k:Int)] 0).toNat):=by
    intro hx
    rw [wiS k oo]
    exact ⟨⟨k+1,g3,W,oo,rfl,q,c.congr fun a b _ hb=>A6y P Q hx hb⟩,by simp only [R9];omega⟩
   refine ⟨V,X,oo,oo,_,_,_,C2 r C,?_⟩
   refine C0 (fun aa=>?_) (fun T=>next (.inl oo))
   have e:j<cols:=oo
   obtain ⟨a5,w5,e5,n5,c0,c1,u,c3⟩:=(D.mono Q6 q).qat l
   obtain ⟨a6,w6,e6,n6,d0,d1,d2,d3⟩:=(row2.mono Q6 q).qat e
   obtain ⟨cc,am,hh⟩:=c.head d
   obtain ⟨x,ix,x0,x1,x2,x3⟩:=c.elem d e
   refine ⟨a1,y,oo,oo,_,_,_,C2 r hc1,a5,e5,oo,oo,_,_,_,_,_,_,_,_,C2 c.sep.le c0,C2 c.sep.le c1,C2 c.sep.le u,C2 c.sep.le c3,?_⟩
   refine Z8 (NQ.mono c.sep.le n5) ⟨_,rfl,D9 (fun af=>?_) (fun he=>next (.inr (by simp_all)))⟩
   refine ⟨_,rfl,oo,oo,_,_,_,c.sep.cell hh,_,rfl,oo,oo,_,_,_,c.sep.cell hh,_,rfl,oo,oo,_,_,_,_,_,_,_,_,c.sep.cell x0,c.sep.cell x1,c.sep.cell x2,c.sep.cell x3,a1,y,oo,oo,_,_,_,C2 r hc1,a5,e5,oo,oo,_,_,_,_,_,_,_,_,C2 c.sep.le c0,C2 c.sep.le c1,C2 c.sep.le u,C2 c.sep.le c3,a2,M,oo,oo,_,_,_,C2 r R,a6,e6,oo,oo,_,_,_,_,_,_,_,_,C2 c.sep.le d0,C2 c.sep.le d1,C2 c.sep.le d2,C2 c.sep.le d3,?_⟩
   refine c.sep.call (S7 (a:=w5) (b:=w6) n5 n6 (hs i k d l) (hs2 k j l e) oo ?_)
   intro w7 g7 F i7 h7 N
   refine ⟨_,_,_,_,_,_,_,_,rfl,c.sep.le_le N F,?_⟩
   have ev:Fq P Q w i k j i j=sm k (fun t=>P i t*Q t j):=by
    unfold Fq
    grind
   rw [ev] at ix
   have ah:k*(2*m+1)<=w*(2*m+1):=aJ _ hk
   refine N.call (Ej (a:=x) (b:=w7) (m:=1+k*(2*m+1)+2*m) (NQ.mono F ix) i7 ((Jr (f:=fun t=>P i t) (f2:=fun t=>Q t j) (fun t G=>hs i t d G) (fun t G=>hs2 t j G e) k hk).mono oo) (((hs i k d l).mul (hs2 k j l e)).mono oo) oo ?_)
   intro w8 g8 O i8 h8 s8
   have t8:Mt h8 g8 W bo p n cols (Fq P Q w i k j):=c.next s8 (B0 F O)
   refine ⟨_,_,_,_,_,_,_,_,rfl,N.le_le s8 O,_,rfl,oo,oo,?_⟩
   refine t8.store d e i8 ?_
   intro h9 o9 t9 _
   rw [wiS j oo]
   exact ⟨⟨j+1,g8,o9,oo,rfl,B0 q (B0 F O),t9.congr fun a b _ _=>A6x P Q w i k j a b⟩,by simp only [R9];omega⟩
  ·have:k=w:=oo
   subst this
   rw [wiS i oo]
   exact ⟨⟨i+1,g2,o2,oo,rfl,E,t2.congr fun a b _ _=>A9o P Q k i a b⟩,by simp only [R9];omega⟩
 ·exact hK s g o bo p lg (t.congr fun a b ha _=>by unfold Fq;grind)
def Sv(ra:RowsV h A n w P)(rb:RowsV h B w cols Q)(hn1:1<=n)(hn:n<=10000)(hw1:1<=w)(hw:w<=10000)(hc1:1<=cols)(hc:cols<=10000)(hs:∀ i j,i<n->j<w->Sz m (P i j))(hs2:∀ i j,i<w->j<cols->Sz m (Q i j))(hm:1+w*(2*m+1)+2*m<=400000000)
 (hK:∀ bo h',h.le h'->RowsV h' (some ⟨bo,0,none⟩) n cols (fun a b=>sm w (fun t=>P a t*Q t b))->K (.slice (some ⟨bo,0,none⟩) n n) h'):aN prog 34 #[.slice A n cap,.slice B w cap2] h K:=
 A1s ra rb hn1 hn hw1 hw hc1 hc hs hs2 hm fun h' c _ bo _ l t=>hK bo h' (B0 l t.sep.le) t.rowsV
end
def inR(bo:Nat)(rb:Nat->Nat)(n x:Nat):Prop:=x=bo\/∃ i,i<n/\x=rb i
section
variable {h:aH} {K:VP} {n:Nat}
end
structure Gd (h g o:aH) (ba:Nat) (ra:Nat->Nat) (bl:Nat) (rl:Nat->Nat) (n:Nat) (P L:Nat->Nat->Rat) (A:Option aL) (c k:Nat) (D:Nat->Rat):Prop where
 a:Mt h g o ba ra n n P
 l:Mt h g o bl rl n n L
 d:∃ xs:List QV,cG o 37 A c xs/\xs.length=k/\Row NQr g xs k D
 al:∀ x,inR ba ra n x->¬ inR bl rl n x
 ad:∀ x,A=some ⟨x,0,none⟩->¬ inR ba ra n x/\¬ inR bl rl n x
section
variable {h g o:aH} {ba bl n c k:Nat} {ra rl:Nat->Nat} {P L:Nat->Nat->Rat} {A:Option aL} {D:Nat->Rat}
end
section
variable {h:aH} {K:VP} {A:Option aL} {n cap Q:Nat} {E:Nat->Rat}
end
section
variable {h:aH} {K:VP} {A B lA cA:Option aL} {n ln lc cn cc cap cap2 m m2:Nat} {ls cs:Nat->List UInt8} {R:Nat->Nat->Rat} {f:Nat->Rat}
end
section
set_option maxRecDepth 100000
variable {h:aH} {K:VP}
end
section
variable {h g o:aH} {be:Nat} {T:Tb} {M:Nat->Nat->Int} {S:Nat->Rat} {n k m sc:Nat} {w:IV} {z:Int} {L D:aT} {K:VP}
end
section
variable {h:aH} {K:VP} {A:Option aL} {n cap m:Nat} {r c:Int} {ls:Nat->List UInt8} {E:Nat->Rat}
end
def SqE.not{r c:Int}{n q:Nat}{ls:Nat->List UInt8}{e:Int}(sq:SqOk r c n ls q)(x:SqE r c n ls e):False:=by
 rcases x with ⟨x,_⟩|⟨_,x,_⟩
 ·exact x ⟨_,_,sq.1⟩
 ·exact x ⟨_,sq⟩
section
variable {h:aH} {lA cA tA:Option aL} {ln lc cn cc tn tc:Nat} {ls cs ts:Nat->List UInt8}
end
section
variable {h g o:aH} {bo n k m cap:Nat} {rb:Nat->Nat} {P R A0 F:Nat->Nat->Rat} {d:Nat->Rat} {K:VP}
end
def gz(m:Nat):Nat->Nat
 | 0=>m
 | k+1=>16*gz m k+13
section
variable {h:aH} {A:Option aL} {n m cap:Nat} {E:Nat->Rat} {K:VP}
end
