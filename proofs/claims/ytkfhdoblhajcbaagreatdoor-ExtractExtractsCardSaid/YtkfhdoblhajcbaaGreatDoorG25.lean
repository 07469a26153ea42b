/- A part. -/
import Derived.Test.YtkfhdoblhajcbaaGreatDoorG24
open Go.Proofs.Tryz
set_option linter.all false
open _root_.Go.Addr renaming add->aK
open Bool renaming and_eq_true->cW
open _root_.Go.Builtin renaming append_->aX,copy_->dG
open Classical renaming byContradiction->dE
open _root_.Go.Instr renaming buildSlice->aU,storeAt->bM
open Int renaming toNat_natCast->aD,natCast_mul->aW,tdiv->dC
open List renaming replicate->aC,getElem?_cons_zero->aF,getElem?_cons_succ->aG,length_replicate->aI,range->aM,sum_append->aZ,range_succ->bC,not_mem_nil->bK,getElem?_eq_getElem->bL,map_append->bO,mem_cons->bW,getElem?_replicate->cF,mem_of_mem_take->cK,map_congr_left->cL,length_flatMap->cM,take_succ_eq_append_getElem->cT,append_assoc->cU,take_length->cV,length_set->cZ,getD_eq_getElem?_getD->dB
open List.cons renaming injEq->bX
open Nat renaming le_refl->aE,mul_le_mul_right->aJ,mul_le_mul->aP,div_lt_of_lt_mul->aQ,zero_add->aS,add_mul_mod_self_right->aV,add_mul_div_right->bD,mod_eq_of_lt->bI,div_eq_of_lt->bJ,zero_mul->bV,le_trans->bY,add_comm->bZ,mul_comm->cH,add_assoc->cN,mod_lt->cO,lt_trichotomy->cR
open Rat renaming mul_zero->bH,mul_inv_cancel->bU,divInt->cG,mul_nonneg->cI,div_def->cJ,divInt_eq_div->cQ,mul_assoc->dF,zero_mul->dH,zero_add->dI,mul_comm->dJ
open _root_.Go.Value renaming string->aO,slice->cX
open _root_.Go.Value.int renaming injEq->cY
open _root_.Go.Value.slice renaming injEq->cP
open _root_.Go renaming Addr->aL,Value->aR,TypeId->bG,Program->cC
open _root_.Go.Proofs.YtkfhdoblhajcbaaGreatDoor renaming Heap->aH,FCall->aN,RowV->aT,OwnSl->aY,SliceT->cD
namespace Go.Proofs.YtkfhdoblhajcbaaGreatDoor
set_option maxRecDepth 20000
open Go
def B40(E b:Nat->Rat)(rows cols:Nat):fnd (fun i=>decide ((elP (J5 E b cols) rows (cols+1) cols).M i cols≠0)) (rows-(Ng E b rows cols).cs.length) (Ng E b rows cols).cs.length=rows↔S0 E b rows cols:=by have rel:=A34 (J5 E b cols) (rows:=rows) (cols:=cols+1) (c:=cols) o;have n:(Ng E b rows cols).cs.length<=rows:=(Q6 (mtx (J5 E b cols) (cols+1)) rows cols).2;have m:∀i,i<rows->(Ng E b rows cols).cs.length<=i->((elP (J5 E b cols) rows (cols+1) cols).M i cols=0↔(Ng E b rows cols).R i cols=0):=by{intro i k l;have d:=rel.val i cols k o;have g:=S3 rel.last;have p:=rel.scale i k;constructor;{intro e;rw[e]at d;grind};·intro e;simp_all};have f:=Sm (fun i=>decide ((elP (J5 E b cols) rows (cols+1) cols).M i cols≠0)) (rows-(Ng E b rows cols).cs.length) (Ng E b rows cols).cs.length;constructor;{intro e i k l;grind};·intro h;refine Ya _ n o (fun j d g=>?_) (fun q=>o);simpa using (m j g d).2 (h j g d)
section
variable {h:aH} {K:VP} {A B:Option aL} {n n2 cap cap2 m rows cols nb:Nat} {E b:Nat->Rat}
def Nx{nq:Nat}(gl:Gl h)(ra:aT RQr h A (rows*cols) E)(hcap:rows*cols<=cap)(rb:aT RQr h B nb b)(hnb:rows<=nb)(hr:1<=rows)(hr2:rows<=1000)(hc:1<=cols)(hc2:cols<=1000)(hs:∀i,i<rows*cols->Sz m (E i))(hsb:∀i,i<rows->Sz m (b i))(hnq:∀j,j<=cols->(elE (J5 E b cols) rows (cols+1) j).cs.length<=nq)(hm:2*(3^nq*bnd (cols+1) m)+1<=40000000) (hK1:S0 E b rows cols->∀b' h',h.le h'->aT RQr h' (some ⟨b',0,none⟩) cols (Hi E b rows cols)->K (.tuple #[.slice (some ⟨b',0,none⟩) cols cols,.bool true]) h') (hK0:¬S0 E b rows cols->∀h',h.le h'->K (.tuple #[.slice none 0 0,.bool false]) h'):aN prog 154 #[.slice A (rows*cols) cap,I (rows:Int),I (cols:Int),.slice B nb cap2] h K:=by refine(fnk func154 [(3,[10,22],[],[.slice none 0 0,I 0]),(15,[68],[],[I 0])] (os:=[(17,[0,1,2,3,5,8,4,6,7,9,10,11])]) (own:=[14]) (wr:=[152])) ?_;have a7:rows*cols<=1000*1000:=aP hr2 hc2;have a5:rows*(cols+1)<=1000*1001:=aP hr2 oo;refine⟨fun L hp=>∃(k:Nat) (g o:aH) (xs:List QV) (A':Option aL) (c':Nat),k<=rows/\L=[.slice A' (k*(cols+1)) c',I (k:Int)]/\h.le g/\Sep hp g o/\aY o 244 A' c' xs/\xs.length=k*(cols+1)/\Row RQr g xs (k*(cols+1)) (J5 E b cols),fun L _=>rows-(iAt L 1).toNat,⟨0,h,Y9,[],none,0,oo,gz0,B7 _,Sep.refl h,OwnSl.nil,by simp,by rw[bV];exact Row.nil⟩,?_⟩;rintro wA wn wc z hp ⟨k,g,o,xs,A',c',hk,eL,lg,s,ow,p,rr⟩;obtain⟨⟨rfl,rfl,rfl⟩,rfl⟩:=eL;refine C1 (fun ac=>?_) (fun av=>?_);{have e:k<rows:=oo;have h2:(k+1)*cols<=rows*cols:=aJ _ e;have n:(k+1)*cols=k*cols+cols:=gz0;have h4:(k+1)*(cols+1)=k*(cols+1)+cols+1:=gz0;have h5:(k+1)*(cols+1)<=rows*(cols+1):=aJ _ e;have e0:C4 ((k:Int)+1)=((k+1:Nat):Int):=C2 oo oo;have e1:C4 ((k:Int)*(cols:Int))=((k*cols:Nat):Int):=by{exact O1 oo};have e2:C4 (C4 ((k:Int)+1)*(cols:Int))=(((k+1)*cols:Nat):Int):=by{rw[e0,<- aW];exact O1 oo};rw[e1,e2,e0];refine⟨⟨oo,oo⟩,⟨oo,oo⟩,?_⟩;simp only[aD];have e5:(k+1)*cols-k*cols=cols:=oo;rw[e5];have row:aT RQr h (V3 A cap (k*cols) 4) cols (fun j=>E (k*cols+j)):=ra.cut (c:=cap) (l:=k*cols) (k:=cols) oo hcap;obtain⟨d,sy,ay,qy⟩:=row;refine OwnSl.app (ty:=232) A0v s ow p.symm ay.symm gz0 (sy.mono (B0 lg s.le)) oo oo ?_;intro A2 c2 a9 g2 o2 l2 s2 ap _;have D:=B0 lg l2;obtain⟨a6,u,ar,iu,d0,d1,d2,d3⟩:=(rb.mono H1 D).qat (i:=k) oo;refine⟨_,_,_,rfl,a6,ar,oo,oo,_,_,_,_,_,_,_,_,C0 s2.le d0,C0 s2.le d1,C0 s2.le d2,C0 s2.le d3,?_⟩;have r:(xs++d).length=k*(cols+1)+cols:=gz0;rw[p];refine J0 (ty:=232) A0v s2 ap r.symm (y:=u) rfl dc oo oo ?_;intro A3 c3 bc g3 o3 X s3 t _;rw[r];have r1:Row RQr g2 (xs++d) (k*(cols+1)+cols) (J5 E b cols):=by{refine Row.app p (rr.mono H1 l2) ((qy.mono H1 D).congr fun j hj=>?_);obtain⟨f1,f2⟩:=dm1 (i:=k) (show j<cols+1 from oo);unfold J5;grind};refine⟨⟨k+1,g3,o3,_,A3,c3,oo,by rw[h4],B0 D X,s3,t,gz0,?_⟩,?_⟩;{have rB:=Row.push (R:=RQr) (g:=g3) (xs:=xs++d) (f:=J5 E b cols) (by rw[r];exact r1.mono H1 X) (w:=u) (by obtain⟨f1,f2⟩:=dm1 (i:=k) (show cols<cols+1 from oo);show RQ g3 u (J5 E b cols (xs++d).length);unfold J5;rw[r,f1,f2,iN (Nat.lt_irrefl cols)];exact H1 _ _ _ _ X iu);grind};·show rows-((k+1:Nat):Int).toNat<rows-(k:Int).toNat;omega};have e:k=rows:=oo;subst e;have ew:C4 ((cols:Int)+1)=((cols+1:Nat):Int):=C2 oo oo;rw[ew];have aj:=B0 lg s.le;have rq:aT RQr hp wA (k*(cols+1)) (J5 E b cols):=⟨xs,ow.slF s.ole,p,rr.mono H1 s.le⟩;have ah:=Sc (cols:=cols) hs hsb;refine Qz (nq:=nq) (E:=J5 E b cols) (cc:=cols) (m:=m) (gl.mono aj) rq (by have:=ow.1;omega) oo oo oo oo oo ah (fun j hj=>by rw[A5o _ oo];grind) oo ?_;intro T h2 ad l2 e1 e2;refine⟨_,rfl,FCall.mono ad ?_⟩;rintro r3 n ⟨g3,o3,A3,a0,w,X,V,t,ba,ax,rfl⟩;refine⟨_,_,_,_,_,_,_,_,rfl,?_⟩;have aa:=A33 (E:=J5 E b cols) (rows:=k) (cols:=cols+1) (c:=cols) ah oo;have am:3^(elP (J5 E b cols) k (cols+1) cols).cs.length*bnd (cols+1) m<=3^nq*bnd (cols+1) m:=aJ _ (Nat.pow_le_pow_right dc (by rw[A5o _ oo];grind));have ak:∀i,i<(Ng E b k cols).cs.length->i<k->cG ((elP (J5 E b cols) k (cols+1) cols).M i cols) (elP (J5 E b cols) k (cols+1) cols).last=(Ng E b k cols).R i cols:=fun i h1 hi=>A7l (J5 E b cols) oo hi oo (.inl h1);have aq:Asc (Ng E b k cols).cs cols:=Dl k ⟨_,[],1⟩ rfl cols;have az:(Ng E b k cols).cs.length<=cols/\(Ng E b k cols).cs.length<=k:=Q6 _ k cols;have G:=B40 E b k cols;have eX:Hi E b k cols=A6u (fun m=>(Ng E b k cols).R m cols) (Ng E b k cols).cs (Ng E b k cols).cs.length:=(Sh _ _).symm;rw[A5o _ oo]at t ⊢;rw[eX]at hK1;generalize elP (J5 E b cols) k (cols+1) cols=st at *;generalize (elE (J5 E b cols) k (cols+1) cols).cs=cs at *;generalize (elE (J5 E b cols) k (cols+1) cols).R=R at *;have ai:=aa.M;have W:=aa.last;generalize 3^st.cs.length*bnd (cols+1) m=bb at ai W am;have sp:=t.slF V.sep.ole;have F:h.le n:=B0 aj (B0 X V.sep.le);have iw:ZIr n w st.last:=Eh _ _ _ _ V.sep.le ax;refine A2y V (start:=cs.length) (col:=cols) oo oo (fun ac=>⟨_,_,rfl,hK0 (fun hx=>gz0) n F⟩) (fun a8=>⟨_,_,rfl,?_⟩);have aw:=hK1 (G.1 gz0);have H:∀C,n.le C->∃gT,Tab C gT o3 T st.M st.S:=fun C l=>by{obtain⟨gT,l',s'⟩:=V.sep.after l;exact⟨gT,V.next s' l'⟩};refine I3 A0v (zx:=J6) rfl oo oo oo oo ?_;intro b2 ao;refine⟨_,_,_,rfl,?_⟩;have s5:=(Sep.refl n).new ao (.cells ((aC cols J6).flatMap enc).toArray 244);have r0:Row RQr n (aC cols J6) cols (A6u (fun m=>R m cols) cs 0):=fun i hi=>⟨J6,gz0,RQ.zero⟩;refine⟨fun L q=>∃(i:Nat) (C o':aH) (d:List QV),i<=cs.length/\L=[I (i:Int)]/\n.le C/\Sep q C o'/\RowX o' b2 d/\d.length=cols/\Row RQr C d cols (A6u (fun m=>R m cols) cs i),fun L _=>cs.length-(iAt L 0).toNat,⟨0,n,_,_,oo,rfl,B7 _,s5,RowX.mk,aI,r0⟩,?_⟩;rintro z q ⟨i,g6,o6,d,hi,eL,Q,O,ae,hy,ag⟩;obtain rfl:z=(i:Int):=gz0;refine C1 (fun ac=>?_) (fun av=>?_);{have N:i<cs.length:=oo;obtain⟨u,eu,au⟩:=B6k (sp.mono (B0 Q O.le)) N;have a2:=B1y aq N;obtain⟨gT,tT⟩:=H g6 Q;refine⟨u,eu,oo,oo,_,au,?_⟩;refine O.call (Af tT (i:=i) oo ?_);intro h7 s7;obtain⟨wv,zv,c0,c1⟩:=tT.at (i:=i) (j:=cols) oo oo;refine⟨_,_,_,rfl,O.le_le s7 (B7 _),_,rfl,oo,oo,_,_,_,_,C0 s7.le c0,C0 s7.le c1,?_⟩;refine s7.call (Q5 (gl.mono (B0 F Q)).tz (Eh _ _ _ _ tT.sep.le zv) (Eh _ _ _ _ Q iw) (ai _ _ oo oo) W oo ?_);intro w9 g9 l9 i9 h9 s9;rw[ak i N oo]at i9;refine⟨_,_,_,_,_,_,_,_,rfl,s7.le_le s9 l9,_,rfl,oo,oo,?_⟩;refine S6 Ge (y:=w9) rfl s9 ae (i:=cs.getD i 0) oo ?_;intro a3 an a4 a1 al af;rw[wiS i oo];exact⟨⟨i+1,g9,an,_,oo,rfl,B0 Q l9,al,af,gz0,(ag.mono H1 l9).upd oo i9⟩,by simp only[O8];omega⟩};·have:i=cs.length:=oo;subst this;exact aw b2 q (B0 F (B0 Q O.le)) ⟨d,ae.rowB.slF O.ole,hy,ag.mono H1 O.le⟩
end
section
variable {h:aH} {K:VP} {A:Option aL} {n cap m w:Nat} {r c:Int} {ls:Nat->List UInt8} {R:Nat->Nat->Rat}
def T9(hn:n<=10000)(hw:w<=10000) (hK:∀h' g' o' bo rb,h.le g'->Mt h' g' o' bo rb n w (fun _ _=>0)->K (.slice (some ⟨bo,0,none⟩) n n) h'):aN prog 80 #[I (n:Int),I (w:Int)] h K:=by refine(fnk func80 [(3,[6],[],[I 0])]) ?_;refine I3 B65 (zx:=(⟨none,0,0⟩:HV)) rfl oo oo oo oo ?_;intro bo B;simp only[aD];refine⟨_,_,_,rfl,fun L D=>∃(k:Nat) (g o:aH) (p:List HV) (rb:Nat->Nat),k<=n/\L=[I (k:Int)]/\h.le g/\Sep D g o/\RowX o bo p/\p.length=n/\(∀i,i<k->p[i]? = some ⟨some ⟨rb i,0,none⟩,w,w⟩)/\(∀i,i<k->rb i≠bo)/\(∀i j,i<k->j<k->rb i=rb j->i=j)/\(∀i,i<k->RowX o (rb i) (aC w J6)),fun L _=>n-(iAt L 0).toNat,⟨0,h,Y9.put bo _,aC n ⟨none,0,0⟩,fun _=>0,oo,rfl,B7 _,Z7 B,RowX.mk,aI,fun i c=>oo,fun i c=>oo,fun i j c=>oo,fun i c=>oo⟩,?_⟩;rintro z D ⟨k,g,o,p,rb,hk,X,M,s,E,Q,O,A,R,C⟩;obtain rfl:=sI1 X;refine C1 (fun W=>?_) (fun V=>?_);{have T:k<n:=oo;refine I3 V4 (zx:=J6) rfl oo oo oo oo ?_;intro d l;simp only[aD];have t:∀q x,o q=some x->q≠d:=by{rintro q x e rfl;rw[s.own q x e]at l;cases l};have f:bo≠d:=by{obtain⟨e,H⟩:=E;exact t _ _ H};have m:∀i,i<k->rb i≠d:=fun i c=>by{obtain⟨e,H⟩:=C i c;exact t _ _ H};refine⟨_,_,_,rfl,_,rfl,oo,oo,?_⟩;refine S6 A6f (y:=(⟨some ⟨d,0,none⟩,w,w⟩:HV)) rfl (s.new l _) (E.other f _) (i:=k) oo ?_;intro h5 N x5 r s5 F;rw[wiS k oo];refine⟨⟨k+1,g,N,_,fun i=>if i=k then d else rb i,oo,rfl,M,s5,F,by rw[cZ];exact Q,fun i c=>?_,fun i c=>?_,fun i j c S e=>?_,fun i c=>?_⟩,by simp only[O8];omega⟩;{show(p.set k _)[i]? = some (⟨some ⟨if i=k then d else rb i,0,none⟩,w,w⟩:HV);by_cases e:i=k;{subst e;rw[iP rfl,List.getElem?_set_self oo]};·rw[iN e,List.getElem?_set_ne (fun x=>e x.symm)];exact O i oo};{show(if i=k then d else rb i)≠bo;by_cases e:i=k;{rw[iP e];exact f.symm};·rw[iN e];exact A i oo};{change (if i=k then d else rb i)=(if j=k then d else rb j)at e;by_cases G:i=k;{by_cases u:j=k;{omega};·rw[iP G,iN u]at e;exact absurd e.symm (m j oo)};·by_cases u:j=k;{rw[iN G,iP u]at e;exact absurd e (m i oo)};·rw[iN G,iN u]at e;exact R i j oo oo e};·show RowX N (if i=k then d else rb i) _;by_cases e:i=k;{rw[iP e,r];exact RowX.mk.other f.symm _};·rw[iN e,r];exact((C i oo).other (m i oo) _).other (A i oo) _};·have:k=n:=oo;subst this;refine hK D g o bo rb M ⟨s,⟨p,E.rowB,Q,fun i c=>⟨w,O i c,aE _⟩⟩,A,R,fun i c=>⟨_,(C i c).rowB,aI,fun j S=>⟨J6,by rw[cF,iP S],NQ.zero⟩⟩⟩
def A80(R:Nat->Nat->Rat)(i k:Nat):Nat->Nat->Rat:=fun a b=>if b<i\/(b=i/\a<k)then R b a else 0
def A5l(rs:RowsV h A n w R)(hn1:1<=n)(hn:n<=10000)(hw:w<=10000) (hK:∀h' g' o' bo rb,h.le g'->Mt h' g' o' bo rb w n (fun a b=>R b a)->K (.slice (some ⟨bo,0,none⟩) w w) h'):aN prog 134 #[.slice A n cap] h K:=by refine(fnk func134 [(3,[4],[],[I 0]),(6,[5],[],[I 0])]) ?_;obtain⟨a,sv,ea,e1,e2,hc,_⟩:=rs.at (i:=0) oo;refine⟨a,ea,oo,oo,_,_,_,hc,?_⟩;rw[e1];refine T9 hw hn ?_;intro h1 g1 o1 bo rb l1 t1;refine⟨_,_,_,rfl,fun L l=>∃(i:Nat) (g o:aH),i<=n/\L=[I (i:Int)]/\h.le g/\Mt l g o bo rb w n (A80 R i 0),fun L _=>n-(iAt L 0).toNat,⟨0,g1,o1,oo,rfl,l1,t1.congr fun a b _ _=>by unfold A80;rw[iN oo]⟩,?_⟩;rintro z l ⟨i,g,o,hi,eL,y,t⟩;obtain rfl:=sI1 eL;refine C1 (fun H=>?_) (fun F=>?_);{have m:i<n:=oo;obtain⟨E,s1,j,T,f2,r,row⟩:=rs.at m;refine⟨fun L l=>∃(k:Nat) (g o:aH),k<=w/\L=[I (k:Int)]/\h.le g/\Mt l g o bo rb w n (A80 R i k),fun L _=>w-(iAt L 0).toNat,⟨0,g,o,oo,rfl,y,t⟩,?_⟩;rintro z X ⟨k,B,V,hk,s,d,c⟩;obtain rfl:=sI1 s;have p:=B0 d c.sep.le;refine⟨E,j,oo,oo,_,_,_,C0 p r,?_⟩;rw[T];refine C1 (fun D=>?_) (fun C=>?_);{have f:k<w:=oo;obtain⟨cc,S,hh⟩:=c.head f;obtain⟨W,w5,G,M,c0,c1,u,c3⟩:=(row.mono F0 d).qat f;refine⟨_,rfl,oo,oo,_,_,_,c.sep.cell hh,E,j,oo,oo,_,_,_,C0 p r,W,G,oo,oo,_,_,_,_,_,_,_,_,C0 c.sep.le c0,C0 c.sep.le c1,C0 c.sep.le u,C0 c.sep.le c3,_,rfl,oo,oo,?_⟩;refine c.store f m M ?_;intro h6 N Q _;rw[wiS k oo];refine⟨⟨k+1,B,N,oo,rfl,d,Q.congr fun a b _ _=>?_⟩,by simp only[O8];omega⟩;unfold A9o A80;by_cases e:a=k/\b=i;{rw[iP e,iP oo,e.1,e.2]};·rw[iN e];by_cases q:b<i\/(b=i/\a<k);{rw[iP q,iP oo]};·rw[iN q,iN oo]};·have:k=w:=oo;subst this;rw[wiS i oo];refine⟨⟨i+1,B,V,oo,rfl,d,c.congr fun a b ha _=>?_⟩,by simp only[O8];omega⟩;unfold A80;by_cases q:b<i\/(b=i/\a<k);{rw[iP q,iP oo]};·rw[iN q,iN oo]};·have:i=n:=oo;subst this;exact hK l g o bo rb y (t.congr fun a b _ O=>by unfold A80;rw[iP (.inl O)])
def A94(rs:RowsV h A n w R)(hn1:1<=n)(hn:n<=10000)(hw:w<=10000) (hK:∀bo h',h.le h'->RowsV h' (some ⟨bo,0,none⟩) w n (fun a b=>R b a)->K (.slice (some ⟨bo,0,none⟩) w w) h'):aN prog 134 #[.slice A n cap] h K:=A5l rs hn1 hn hw fun h' c d bo e l t=>hK bo h' (B0 l t.sep.le) t.rowsV
def Qo{α:Type}[E:Enc α]{o:aH}{b:Nat}{e:bG}{c:Nat}{zx:α}:aY (o.put b (.cells ((aC c zx).flatMap enc).toArray e)) e (some ⟨b,0,none⟩) c ([]:List α):=⟨Nat.zero_le _,.inr ⟨b,_,rfl,C3 _ _ _,by rw[K6,aI],by simp⟩⟩
end
def Br.nt{X Y:Prop}(y:Y):Br (!true) X Y:=y
def Wz{X Y:Prop}(x:X):Br (!false) X Y:=x
structure MOut where
 r:Int
 c:Int
 n:Nat
 f:Nat->List UInt8
 e:Int
def noM(e:Int):MOut:=⟨0,0,0,fun _=>[],e⟩
section
variable {h:aH} {K:VP} {A B:Option aL} {n n2 cap cap2 m w:Nat} {r c r2 c2:Int} {la lb:Nat->List UInt8}
end
structure VV where
 A:Option aL
 n:Nat
 c:Nat
 s:Bool
 B:Option aL
 bn:Nat
 bc:Nat
abbrev VV.v(w:VV):aR:=.agg #[.slice w.A w.n w.c,.bool w.s,.slice w.B w.bn w.bc]
instance:Enc VV:=⟨⟨fun w=>[.slice w.A w.n w.c,.bool w.s,.slice w.B w.bn w.bc],3,fun _=>rfl,fun w v hv=>by
 simp only [bW,bK,or_false] at hv
 rcases hv with rfl|rfl|rfl<;>rfl⟩⟩
def VQr(w:Nat):aH->VV->(Nat->Rat)->Prop:=fun h v f=>v.n=w/\ZI h v.s v.B v.bn v.bc (Di f w:Int)/\aT ZIr h v.A w (fun j=>scl (f j) (Di f w:Int))
def A8q(w:Nat):Mon (VQr w):=fun _ _ _ _ l i=>⟨i.1,i.2.1.mono l,i.2.2.mono Eh l⟩
section
variable {h:aH} {K:VP} {A B:Option aL} {n cap m w:Nat} {f f2:Nat->Rat}
def A58(gl:Gl h)(r:aT RQr h A n f)(hn:n<=10000)(hs:∀i,i<n->Sz m (f i))(hm:1+n*m+m<=6400000000) (hK:∀v h',h.le h'->VQr n h' v f->K v.v h'):aN prog 268 #[.slice A n cap] h K:=by refine(fnk func268 [(3,[14],[],[I 0])] (os:=[(1,[0,1,3,6,2,4,5,7])]) (al:=[(1,[(2,[4])])]) (own:=[2,3,5])) ?_;have hd:=Lk (f:=f) n hs;refine⟨?_,?_⟩;{refine I3 tZs (zx:=(⟨false,none,0,0⟩:IV)) rfl oo oo oo oo ?_;intro b Q;simp only[aD];have W:=(Sep.refl h).new Q (.cells ((aC n (⟨false,none,0,0⟩:IV)).flatMap enc).toArray 219);refine⟨_,_,_,rfl,W.le,W.call (Eo gl r oo hs hm ?_)⟩;intro N Bd R bc B t id h1 E;refine⟨_,_,_,_,rfl,W.le_le E t,?_⟩;refine⟨fun L p=>∃(k:Nat) (g o:aH) (l:List IV),k<=n/\L=[I (k:Int)]/\B.le g/\Sep p g o/\RowX o b l/\l.length=n/\Row ZIr g l k (fun j=>scl (f j) (Di f n:Int)),fun L _=>n-(iAt L 0).toNat,⟨0,B,_,aC n ⟨false,none,0,0⟩,oo,rfl,B7 _,E,RowX.mk,aI,Row.nil⟩,?_⟩;rintro z p ⟨k,g,o,l,hk,eL,e,s,F,D,C⟩;obtain rfl:=sI1 eL;refine C1 (fun M=>?_) (fun G=>?_);{have c:k<n:=oo;obtain⟨a,w,ea,H,c0,c1,c2,c3⟩:=(r.mono H1 (B0 t e)).qat c;refine⟨a,ea,oo,oo,_,_,_,_,_,_,_,_,C0 s.le c0,C0 s.le c1,C0 s.le c2,C0 s.le c3,?_⟩;refine s.call (Ku (m:=1+n*m+m) H (id.mono e) ((hs k c).mono oo) (hd.mono oo) hm ?_);intro V A2 n2 c2 S u O h2 d;refine⟨_,_,_,_,rfl,s.le_le d u,_,rfl,oo,oo,?_⟩;refine S6 Sw (y:=(⟨V,A2,n2,c2⟩:IV)) rfl d F (i:=k) oo ?_;intro h7 X x7 eo T q;rw[wiS k oo];exact⟨⟨k+1,S,X,_,oo,rfl,B0 e u,T,q,by rw[cZ];exact D,(C.mono Eh u).set oo O⟩,by simp only[O8];omega⟩};·have:k=n:=oo;subst this;exact hK ⟨some ⟨b,0,none⟩,k,k,N,Bd,R,bc⟩ p (B0 t (B0 e s.le)) ⟨rfl,id.mono (B0 e s.le),l,F.rowB.slF s.ole,D,C.mono Eh s.le⟩};·refine Eo gl r oo hs hm ?_;intro N Bd R bc B t id;refine⟨_,_,_,_,rfl,t,I3 tZs (zx:=(⟨false,none,0,0⟩:IV)) rfl oo oo oo oo ?_⟩;intro b Q;simp only[aD];have E:=(Sep.refl B).new Q (.cells ((aC n (⟨false,none,0,0⟩:IV)).flatMap enc).toArray 219);refine⟨_,_,_,rfl,E.le,?_⟩;refine⟨fun L p=>∃(k:Nat) (g o:aH) (l:List IV),k<=n/\L=[I (k:Int)]/\B.le g/\Sep p g o/\RowX o b l/\l.length=n/\Row ZIr g l k (fun j=>scl (f j) (Di f n:Int)),fun L _=>n-(iAt L 0).toNat,⟨0,B,_,aC n ⟨false,none,0,0⟩,oo,rfl,B7 _,E,RowX.mk,aI,Row.nil⟩,?_⟩;rintro z p ⟨k,g,o,l,hk,eL,e,s,F,D,C⟩;obtain rfl:=sI1 eL;refine C1 (fun M=>?_) (fun G=>?_);{have c:k<n:=oo;obtain⟨a,w,ea,H,c0,c1,c2,c3⟩:=(r.mono H1 (B0 t e)).qat c;refine⟨a,ea,oo,oo,_,_,_,_,_,_,_,_,C0 s.le c0,C0 s.le c1,C0 s.le c2,C0 s.le c3,?_⟩;refine s.call (Ku (m:=1+n*m+m) H (id.mono e) ((hs k c).mono oo) (hd.mono oo) hm ?_);intro V A2 n2 c2 S u O h2 d;refine⟨_,_,_,_,rfl,s.le_le d u,_,rfl,oo,oo,?_⟩;refine S6 Sw (y:=(⟨V,A2,n2,c2⟩:IV)) rfl d F (i:=k) oo ?_;intro h7 X x7 eo T q;rw[wiS k oo];exact⟨⟨k+1,S,X,_,oo,rfl,B0 e u,T,q,by rw[cZ];exact D,(C.mono Eh u).set oo O⟩,by simp only[O8];omega⟩};·have:k=n:=oo;subst this;exact hK ⟨some ⟨b,0,none⟩,k,k,N,Bd,R,bc⟩ p (B0 t (B0 e s.le)) ⟨rfl,id.mono (B0 e s.le),l,F.rowB.slF s.ole,D,C.mono Eh s.le⟩
def smZ(x y:Nat->Int):Nat->Int
 |0=>0
 |k+1=>smZ x y k+x k*y k
def smA(x y:Nat->Int):Nat->Int
 |0=>0
 |k+1=>smA x y k+(x k*y k).natAbs
def B67{x y:Nat->Int}{m w:Nat}(hx:∀j,j<w->ZB m (x j))(hy:∀j,j<w->ZB m (y j)):∀k,k<=w->smA x y k<=k*2^(2*m):=by
 intro k
 induction k with
 |zero=>intro _;simp[smA]
 |succ k ih=>
  intro e;have f:=ih o;have d:=A4z (hx k o) (hy k o);have c:((k+1:Nat):Int)*2^(2*m)=(k:Int)*2^(2*m)+2^(2*m):=by rw[Int.natCast_add,Int.add_mul];simp
  show smA x y k+((x k*y k).natAbs:Int)<=_;rw[c];omega
def B7r(x y:Nat->Int):∀k,((smZ x y k).natAbs:Int)<=smA x y k:=by
 intro k
 induction k with
 |zero=>exact Int.le_refl _
 |succ k ih=>
  show((smZ x y k+x k*y k).natAbs:Int)<=smA x y k+((x k*y k).natAbs:Int);omega
def C0i{x y:Nat->Int}{m w:Nat}(hx:∀j,j<w->ZB m (x j))(hy:∀j,j<w->ZB m (y j))(hw:w<=10000):ZB (2*m+14) (smZ x y w):=by have d:=B67 hx hy w (aE _);have f:=B7r x y w;have e:(2:Int)^(2*m)=((2^(2*m):Nat):Int):=by{simp};rw[e,<- aW]at d;have i:w*2^(2*m)<=10000*2^(2*m):=aJ _ hw;have c:2^(2*m+14)=2^(2*m)*16384:=by{rw[Nat.pow_add]};have g:0<2^(2*m):=Nat.pow_pos dc;unfold ZB;rw[c];omega
def C0j{p q:Nat->Rat}{x y:Nat->Int}{d e:Int}{w:Nat}(hx:∀j,j<w->(x j:Rat)=p j*d)(hy:∀j,j<w->(y j:Rat)=q j*e):∀k,k<=w->(smZ x y k:Rat)=sm k (fun j=>p j*q j)*((d*e:Int):Rat):=by
 intro k
 induction k with
 |zero=>intro _;show((0:Int):Rat)=0*_;rw[dH];rfl
 |succ k ih=>
  intro c;show((smZ x y k+x k*y k:Int):Rat)=(sm k (fun j=>p j*q j)+p k*q k)*((d*e:Int):Rat);rw[Rat.intCast_add,ih o,Rat.intCast_mul d e,Rat.intCast_mul (x k) (y k),hx k o,hy k o];grind
def A83{v u:VV}(gl:Gl h)(iv:VQr w h v f)(iu:VQr w h u f2)(hw:w<=10000)(hs:∀i,i<w->Sz m (f i))(hs2:∀i,i<w->Sz m (f2 i))(hm1:1<=m)(hm:2*(1+w*m+m)+14<=100000000) (hK:∀q h',h.le h'->RQ h' q (sm w (fun j=>f j*f2 j))->K q.v h'):aN prog 230 #[v.v,u.v] h K:=by refine(fnk func230 [(3,[11],[],[I 0])] (os:=[(7,[1,2,3,4,0,5,6,7])]) (own:=[2,3,4,7]) (wr:=[255])) ?_;obtain⟨ad,E,G⟩:=iv;obtain⟨aa,C,B⟩:=iu;have e:=Lk (f:=f) w hs;have d:=Lk (f:=f2) w hs2;have F:∀j,j<w->ZB (1+w*m+m) (scl (f j) (Di f w:Int)):=fun j l=>(B0f (hs j l) e).mono o;have D:∀j,j<w->ZB (1+w*m+m) (scl (f2 j) (Di f2 w:Int)):=fun j l=>(B0f (hs2 j l) d).mono o;refine Dy A6h ?_;intro bs t;have Z0:SumS (h.put bs (.cells #[.slice none 0 0,.slice none 0 0] 345)) h bs 345 200000001 0 0:=SumS.zero t;refine⟨_,rfl,fun L Q=>∃(k:Nat) (g:aH),k<=w/\L=[I (k:Int)]/\h.le g/\SumS Q g bs 345 200000001 (smA (fun j=>scl (f j) (Di f w:Int)) (fun j=>scl (f2 j) (Di f2 w:Int)) k) (smZ (fun j=>scl (f j) (Di f w:Int)) (fun j=>scl (f2 j) (Di f2 w:Int)) k),fun L _=>w-(iAt L 0).toNat,⟨0,h,o,rfl,B7 _,Z0⟩,?_⟩;rintro z Q ⟨k,g,hk,eL,s,Z⟩;obtain rfl:=sI1 eL;refine C1 (fun X=>?_) (fun V=>?_);{have c:k<w:=o;obtain⟨a,x1,ea,R,c0,c1⟩:=(G.mono Eh s).zat c;obtain⟨a2,y1,y,N,d0,d1⟩:=(B.mono Eh s).zat c;refine⟨a,ea,o,o,_,_,_,_,C0 Z.le c0,C0 Z.le c1,a2,y,o,o,_,_,_,_,C0 Z.le d0,C0 Z.le d1,?_⟩;have lx:x1.n<=100000000:=ZI.len R (F k c) o;have ly:y1.n<=100000000:=ZI.len N (D k c) o;have hA:=B67 F D (k+1) c;have T:=B0z (m:=1+w*m+m) (k:=k+1) o o;refine Bw Z R N o o (N1:=1+w*m+m) (by show smA _ _ (k+1)<_;omega) o ?_;intro h3 g3 l3 Z3;rw[wiS k o];exact⟨rfl,⟨k+1,g3,o,rfl,B0 s l3,Z3⟩,by simp only[O8];omega⟩};·have:k=w:=o;subst this;refine Nc Z o ?_;intro sv Av nv cv h5 M z5;have p:=B0 s (B0 Z.le M);refine⟨_,_,_,_,rfl,M,?_⟩;refine Q9 (m:=1+k*m+m) (E.mono p) (C.mono p) (e.mono o) (d.mono o) o ?_;intro s6 A6 n6 c6 h6 H z6;refine⟨_,_,_,_,rfl,H,?_⟩;have r:=B0 p H;have e1:∀j,j<k->(scl (f j) (Di f k:Int):Rat)=f j*((Di f k:Int):Rat):=fun j l=>B0g (Int.natCast_dvd_natCast.2 (A02 f k j l));have e2:∀j,j<k->(scl (f2 j) (Di f2 k:Int):Rat)=f2 j*((Di f2 k:Int):Rat):=fun j l=>B0g (Int.natCast_dvd_natCast.2 (A02 f2 k j l));have es:=C0j e1 e2 k (aE _);have W:=A01 f k;have ac:=A01 f2 k;have A:((Di f k:Int)*(Di f2 k:Int))≠0:=Int.mul_ne_zero o o;have zb:ZB (2*(1+k*m+m)+14) (smZ (fun j=>scl (f j) (Di f k:Int)) (fun j=>scl (f2 j) (Di f2 k:Int)) k):=C0i F D o;refine Q5 (m:=2*(1+k*m+m)+14) (gl.mono r).tz (z5.mono H) z6 zb ((e.mul d).mono o) o ?_;intro q h7 S O;refine⟨_,_,_,_,_,_,_,_,rfl,S,hK q h7 (B0 r S) ?_⟩;have:cG (smZ (fun j=>scl (f j) (Di f k:Int)) (fun j=>scl (f2 j) (Di f2 k:Int)) k) ((Di f k:Int)*(Di f2 k:Int))=sm k (fun j=>f j*f2 j):=by{rw[cQ,es];exact Rat.mul_div_cancel (S3 A)};rw[this]at O;exact O
end
def B41:prog.cellsOf 319=1/\(prog.info? 319).isSome=true:=by constructor<;>kernel_rfl
section
variable {h:aH} {K:VP} {A:Option aL} {cap m rows cols:Nat} {E:Nat->Rat}
def Qw(gl:Gl h)(r:aT RQr h A (rows*cols) E)(hcap:rows*cols<=cap)(hr2:rows<=10000)(hc:1<=cols)(hc2:cols<=10000)(hs:∀i,i<rows*cols->Sz m (E i))(hm:1+cols*m+m<=6400000000) (hK:∀A' c' h',h.le h'->aT (VQr cols) h' A' rows (A4m E cols)->K (.slice A' rows c') h'):aN prog 229 #[.slice A (rows*cols) cap,I (cols:Int)] h K:=by refine(fnk func229 (rs:=[(4,[.slice none 0 0])]) (wr:=[1000000000])) ?_;have ac:rows*cols<=100000000:=by{have:rows*cols<=10000*10000:=aP hr2 hc2;omega};refine Dy (z:=.slice none 0 0) (by kernel_rfl) ?_;intro s O;refine⟨_,rfl,?_⟩;have s0:=(Sep.refl h).new O (.cells #[.slice none 0 0] 319);refine s0.call (Yh hc ?_);intro v g0 T ic ae s3;have bound:∀k,k<rows->∀j,j<cols->Sz m (E (k*cols+j)):=fun k hk j hj=>hs _ (R8 hk hj);refine⟨_,rfl,Tr ic hc o hcap (fun k S=>∃(u t:aH) (p:List VV) (A1:Option aL) (c1:Nat),g0.le u/\Sep S u t/\(∃e,t s=some (.cells #[.slice A1 k c1] e))/\aY t 322 A1 c1 p/\A1≠some ⟨s,0,none⟩/\p.length=k/\Row (VQr cols) u p k (A4m E cols)) ?_ ?_ ?_ ?_⟩;{exact⟨g0,_,[],none,0,B7 _,s3,⟨_,C3 _ _ _⟩,OwnSl.nil,by simp,rfl,Row.nil⟩};{rintro k S ⟨u,t,p,A1,c1,lg,s1,_⟩;exact B0 lg s1.le};{rintro k f B ⟨u,t,p,A1,c1,g,n,⟨e,d⟩,M,W,q,L⟩;have bk:=bound k B;have ad:(k+1)*cols<=rows*cols:=aJ _ B;have aa:(k+1)*cols=k*cols+cols:=by{rw[Nat.add_mul,Nat.one_mul]};have D:=B0 T g;have C:aT RQr h A ((k+1)*cols) E:=by{have:=r.cut (c:=cap) (l:=0) (k:=(k+1)*cols) o hcap;rw[I4]at this;exact this.congr fun i _=>by rw[aS]};have F:aT RQr h (V3 A ((k+1)*cols) (k*cols) 4) cols (A4m E cols k):=C.cut (c:=(k+1)*cols) (l:=k*cols) (k:=cols) o (aE _);have cp:f.cell? ⟨s,0,none⟩=some (.slice A1 k c1):=n.cell (by unfold Heap.cell?;simp only[d];rfl);refine⟨_,_,_,rfl,_,_,_,cp,n.call (A58 (gl.mono D) (F.mono H1 D) o bk hm ?_)⟩;intro w g2 Q iw G X;refine⟨_,_,_,_,_,_,_,rfl,n.le_le X Q,?_⟩;subst q;refine OwnSl.push (ty:=319) C3n X M (y:=w) (v:=w.v) rfl dc o o (K1:=fun hq=>G.le hq) (fun _ l=>l) ?_;intro A3 c3 h6 g6 o6 R s6 H kp;have N:=kp s _ d W;show wpH _ (bM _ (.pointer (some (aK ⟨s,0,none⟩ 0))) _) _ _;refine A0s B41 rfl rfl s6 N.1 (by simp) ?_;intro h7 o7 s7 V;exact⟨g6,o7,p++[w],A3,c3,B0 g (B0 Q R),s7,⟨e,by rw[V,C3];simp⟩,H.keep fun b y hb he=>by rw[V,B9 _ _ (fun e=>N.2 (by rw[<- e];exact hb))];exact he,N.2,by simp,by have:=(Row.push (L.mono (A8q cols) (B0 Q R)) (A8q cols _ _ _ _ R iw));simpa using this⟩};·rintro f ⟨u,t,p,A1,c1,g,n,⟨e,d⟩,M,W,q,L⟩;have cp:f.cell? ⟨s,0,none⟩=some (.slice A1 rows c1):=n.cell (by unfold Heap.cell?;simp only[d];rfl);exact⟨_,_,_,cp,hK A1 c1 f (B0 T (B0 g n.le)) ⟨p,M.slF n.ole,q,L.mono (A8q cols) n.le⟩⟩
end
section
variable {h:aH} {K:VP} {A B:Option aL} {n n2 cap cap2 m:Nat} {r c r2 c2:Int} {la lb:Nat->List UInt8} {w:QV} {q:Rat}
end
section
variable {h:aH} {K:VP} {A B:Option aL} {n w cap cap2 m:Nat} {f f2:Nat->Rat} {R:Nat->Nat->Rat}
def Gk(hs:∀i,i<w->Sz m (f i))(hs2:∀i,i<w->Sz m (f2 i)):∀k,k<=w->Sz (1+k*(2*m+1)) (sm k (fun j=>f j*f2 j)):=by
 intro k
 induction k with
 |zero=>intro _;exact Sz.zero o
 |succ k ih=>
  intro g;have d:=ih o;have c:=(hs k o).mul (hs2 k o);have e:1+(k+1)*(2*m+1)=1+k*(2*m+1)+(m+m)+1:=by rw[Nat.add_mul];omega
  rw[e];exact d.add c
def A2z(ra:aT NQr h A w f)(rb:aT NQr h B w f2)(hw:w<=10000)(hs:∀i,i<w->Sz m (f i))(hs2:∀i,i<w->Sz m (f2 i))(hm:1+w*(2*m+1)+2*m<=400000000) (hK:∀v h',h.le h'->NQ h' v (sm w (fun j=>f j*f2 j))->K v.v h'):aN prog 18 #[.slice A w cap,.slice B w cap2] h K:=by refine(fnk func18 [(3,[6],[(5,4)],[I 0,.bool false,.slice none 0 0,.bool false,.slice none 0 0])] (own:=[4,5])) ?_;refine⟨fun L y=>∃(k:Nat) (v:QV),k<=w/\L=I (k:Int)::qc v/\h.le y/\NQ y v (sm k (fun j=>f j*f2 j)),fun L _=>w-(iAt L 0).toNat,⟨0,J6,o,rfl,B7 _,NQ.zero⟩,?_⟩;rintro z D t g r C e q p y ⟨k,v,F,u,l,H⟩;simp only[bX,cY,true_and]at u;obtain⟨rfl,u⟩:=u;obtain⟨rfl,_⟩:=A1z (by simpa only[bX,Value.bool.injEq,cP,and_true]using u:(.bool D:aR) :: .slice t g r :: .bool C :: .slice e q p::[]= .bool v.s :: .slice v.A v.n v.c :: .bool v.s2 :: .slice v.A2 v.n2 v.c2::[]);refine C1 (fun O=>?_) (fun M=>?_);{have d:k<w:=o;obtain⟨a5,w5,N,Q,c0,c1,c2,c3⟩:=(ra.mono F0 l).qat d;obtain⟨a6,T,X,n6,g0,g1,W,g3⟩:=(rb.mono F0 l).qat d;have R:k*(2*m+1)<=w*(2*m+1):=aJ _ F;refine⟨a5,N,o,o,_,_,_,_,_,_,_,_,c0,c1,c2,c3,a6,X,o,o,_,_,_,_,_,_,_,_,g0,g1,W,g3,?_⟩;refine K9 (a:=w5) (b:=T) Q n6 (hs k d) (hs2 k d) o ?_;intro V h7 E i7;refine⟨_,_,_,_,_,_,_,_,rfl,E,?_⟩;refine T6 (a:=⟨D,t,g,r,C,e,q,p⟩) (b:=V) (m:=1+k*(2*m+1)+2*m) (NQ.mono E H) i7 ((Gk hs hs2 k F).mono o) (((hs k d).mul (hs2 k d)).mono o) o ?_;intro w8 h8 G S;rw[wiS k o];refine⟨_,_,_,_,_,_,_,_,rfl,G,⟨k+1,w8,o,rfl,B0 l (B0 E G),S⟩,?_⟩;show w-((k+1:Nat):Int).toNat<w-(k:Int).toNat;omega};·have:k=w:=o;subst this;exact hK ⟨D,t,g,r,C,e,q,p⟩ y l H
def B25(rs:RowsV h A n w R)(rx:aT NQr h B w f)(hn:n<=10000)(hw:w<=10000)(hs:∀i j,i<n->j<w->Sz m (R i j))(hs2:∀i,i<w->Sz m (f i))(hm:1+w*(2*m+1)+2*m<=400000000) (hK:∀b h',Own NQr h h' b n (fun i=>sm w (fun j=>R i j*f j))->K (.slice (some ⟨b,0,none⟩) n n) h'):aN prog 136 #[.slice A n cap,.slice B w cap2] h K:=by refine(fnk func136 [(3,[6],[],[I 0])]) ?_;refine I3 V4 (zx:=J6) rfl oo oo oo oo ?_;intro b E;simp only[aD];refine⟨_,_,_,rfl,fun L p=>∃k:Nat,k<=n/\L=[I (k:Int)]/\OwnK NQr h p b n k (fun i=>sm w (fun j=>R i j*f j)),fun L _=>n-(iAt L 0).toNat,⟨0,oo,rfl,OwnK.zero E⟩,?_⟩;rintro z p ⟨k,hk,H,g,o,M,d,s,t,u,r⟩;obtain rfl:=sI1 H;refine C1 (fun D=>?_) (fun C=>?_);{have c:k<n:=oo;obtain⟨S,s1,l,F,O,q,e⟩:=rs.at c;refine⟨S,l,oo,oo,_,_,_,C0 (B0 d s.le) q,?_⟩;rw[F];refine s.call (A2z (e.mono F0 d) (rx.mono F0 d) hw (fun j Q=>hs k j c Q) hs2 hm ?_);intro v X T V W G;refine⟨_,_,_,_,_,_,_,_,rfl,_,rfl,oo,oo,?_⟩;refine OwnK.store F0 Ez (y:=v) d T G t u r c rfl V ?_;intro h3 N;rw[wiS k oo];exact⟨⟨k+1,oo,rfl,N⟩,by simp only[O8];omega⟩};·have:k=n:=oo;subst this;exact hK b p ⟨g,o,M,d,s,t,u,r⟩
end
structure VOut where
 n:Nat
 f:Nat->List UInt8
 e:Int
def noV(e:Int):VOut:=⟨0,fun _=>[],e⟩
section
variable {h:aH} {K:VP} {A B:Option aL} {n n2 cap cap2 m:Nat} {r c:Int} {la lx:Nat->List UInt8}
end
section
variable {h:aH} {K:VP} {A B:Option aL} {n n2 cap cap2 m:Nat} {r c:Int} {la lx:Nat->List UInt8}
def RowV.vat{w n:Nat}{f:Nat->Nat->Rat}(r:aT (VQr w) h A n f){i:Nat}(hi:i<n):∃a v,A=some a/\VQr w h v (f i)/\h.cell? (aK (aK a (i*3)) 0)=some (.slice v.A v.n v.c)/\h.cell? (aK (aK a (i*3)) 1)=some (.bool v.s)/\h.cell? (aK (aK a (i*3)) 2)=some (.slice v.B v.bn v.bc):=by obtain⟨a,v,e,q,d⟩:=RowV.at dc r hi;exact⟨a,v,e,q,d 0 _ rfl,d 1 _ rfl,d 2 _ rfl⟩
end
def C6c(r c:Int)(n:Nat)(la:Nat->List UInt8)(r2 c2:Int)(n2:Nat)(lb:Nat->List UInt8)(o:MOut):Prop:=(¬(Mx r c n la/\Mx r2 c2 n2 lb)/\o=noM 1)\/(Mx r c n la/\Mx r2 c2 n2 lb/\c≠r2/\o=noM 4)\/(∃rows mid cols,MOk r c n la rows mid/\MOk r2 c2 n2 lb mid cols/\o=⟨r,c2,rows*cols,fun k=>F3 (sm mid (fun j=>mtx (rvs la) mid (k/cols) j*mtx (rvs lb) cols j (k%cols))),0⟩)
def A90{f f':Nat->Rat}:∀n,(∀i,i<n->f i=f' i)->Di f n=Di f' n:=by
 intro n
 induction n with
 |zero=>intro _;rfl
 |succ n ih=>
  intro e;show Nat.lcm (Di f n) (f n).den=Nat.lcm (Di f' n) (f' n).den;grind
def VQr.congr{h:aH}{w:Nat}{v:VV}{f f':Nat->Rat}(x:VQr w h v f)(e:∀i,i<w->f i=f' i):VQr w h v f':=by have d:Di f w=Di f' w:=A90 w e;obtain⟨a,b,c⟩:=x;rw[d]at b c;exact⟨a,b,c.congr fun j g=>gz0⟩
section
variable {h:aH} {K:VP} {A B:Option aL} {n n2 cap cap2 m:Nat} {r c r2 c2:Int} {la lb:Nat->List UInt8} {E:Nat->Rat}
def Nw{rows cols:Nat}(rv':aT RQr h A (rows*cols) E)(hr:rows<=10000)(hc:cols<=10000) (hK:∀A' c' h' g' o' xs,h.le g'->Sep h' g' o'->aY o' 244 A' c' xs->xs.length=rows*cols->Row RQr g' xs (rows*cols) (fun k=>E (k%rows*cols+k/rows))->K (.slice A' (rows*cols) c') h'):aN prog 156 #[.slice A (rows*cols) cap,I (rows:Int),I (cols:Int)] h K:=by refine(fnk func156 [(3,[7,14],[],[.slice none 0 0,I 0]),(6,[7,18],[],[.slice none 0 0,I 0])]) ?_;have W:rows*cols<=10000*10000:=aP hr hc;refine I3 A0v (zx:=J6) rfl oo oo oo oo ?_;intro b X;refine⟨_,_,_,rfl,fun L u=>∃(j:Nat) (g o:aH) (xs:List QV) (A':Option aL) (c':Nat),j<=cols/\L=[.slice A' (j*rows) c',I (j:Int)]/\h.le g/\Sep u g o/\aY o 244 A' c' xs/\xs.length=j*rows/\Row RQr g xs (j*rows) (fun k=>E (k%rows*cols+k/rows)),fun L _=>cols-(iAt L 1).toNat,⟨0,h,Y9.put b _,[],some ⟨b,0,none⟩,rows*cols,oo,gz0,B7 _,Z7 X,Qo,by simp,by rw[bV];exact Row.nil⟩,?_⟩;rintro rA rn rc z u ⟨j,g,o,xs,A',c',hj,H,lg,s,ow,C,rr⟩;obtain⟨⟨rfl,rfl,rfl⟩,rfl⟩:=H;refine C1 (fun V=>?_) (fun S=>?_);{have t:j<cols:=oo;have p:(j+1)*rows=j*rows+rows:=gz0;have M:(j+1)*rows<=cols*rows:=aJ _ t;rw[cH cols rows]at M;refine⟨fun L u=>∃(i:Nat) (g o:aH) (xs:List QV) (A':Option aL) (c':Nat),i<=rows/\L=[.slice A' (j*rows+i) c',I (i:Int)]/\h.le g/\Sep u g o/\aY o 244 A' c' xs/\xs.length=j*rows+i/\Row RQr g xs (j*rows+i) (fun k=>E (k%rows*cols+k/rows)),fun L _=>rows-(iAt L 1).toNat,⟨0,g,o,xs,rA,rc,oo,rfl,lg,s,ow,C,rr⟩,?_⟩;rintro qA qn qc z aa ⟨i,g2,o2,B,A2,c2,hi,H,d,m,r,c,e⟩;obtain⟨⟨rfl,rfl,rfl⟩,rfl⟩:=H;refine C1 (fun Q=>?_) (fun O=>?_);{have l:i<rows:=oo;have q:=R8 l t;have ew:C4 (C4 ((i:Int)*(cols:Int))+(j:Int))=((i*cols+j:Nat):Int):=by{rw[<- aW,O1 oo];exact O1 (n:=i*cols+j) oo};rw[ew];obtain⟨a,w,ea,T,c0,c1,D,c3⟩:=(rv'.mono H1 d).qat q;refine⟨a,ea,oo,oo,_,_,_,_,_,_,_,_,C0 m.le c0,C0 m.le c1,C0 m.le D,C0 m.le c3,?_⟩;refine J0 (ty:=232) A0v m r c.symm (y:=w) rfl dc oo oo ?_;intro A3 c3 h3 N o3 G s3 F _;rw[c,wiS i oo];refine⟨⟨i+1,N,o3,_,A3,c3,oo,by rw[cN],B0 d G,s3,F,gz0,?_⟩,?_⟩;{have rB:=Row.push (R:=RQr) (g:=N) (xs:=B) (f:=fun k=>E (k%rows*cols+k/rows)) (by rw[c];exact e.mono H1 G) (w:=w) (by show RQ N w (E (B.length%rows*cols+B.length/rows));rw[c,bZ (j*rows) i,aV,bI l,bD _ _ oo,bJ l,aS];exact H1 _ _ _ _ G T);grind};·show rows-((i+1:Nat):Int).toNat<rows-(i:Int).toNat;omega};·have:i=rows:=oo;subst this;rw[wiS j oo,<- p];rw[<- p]at c e;refine⟨⟨j+1,g2,o2,B,qA,qc,oo,rfl,d,m,r,c,e⟩,?_⟩;show cols-((j+1:Nat):Int).toNat<cols-(j:Int).toNat;omega};grind
def A2f{rows cols:Nat}(rv':aT RQr h A (rows*cols) E)(hr:rows<=10000)(hc:cols<=10000) (hK:∀A' c' h',h.le h'->rows*cols<=c'->aT RQr h' A' (rows*cols) (fun k=>E (k%rows*cols+k/rows))->K (.slice A' (rows*cols) c') h'):aN prog 156 #[.slice A (rows*cols) cap,I (rows:Int),I (cols:Int)] h K:=Nw rv' hr hc fun A' c' h' _ _ f g s d c e=>hK A' c' h' (B0 g s.le) (by have:=d.1;omega) ⟨f,d.slF s.ole,c,e.mono H1 s.le⟩
def A8u{d:Nat}(gl:Gl h)(ra:aT SSr h A n la)(rb:aT SSr h B n2 lb)(hn:n<=1000000)(hn2:n2<=1000000)(hl:LL n la)(hl2:LL n2 lb)(hs:∀i,i<n->Sz m (rv (la i)))(hs2:∀i,i<n2->Sz m (rv (lb i)))(hm1:1<=m)(hd:∀rows mid,MOk r c n la rows mid->mid<=d)(hm:2*(1+d*(2*m+1)+2*m)+14<=40000000) (hK:∀o,C6c r c n la r2 c2 n2 lb o->∀A' cap' h',h.le h'->aT SSr h' A' o.n o.f->K (.tuple #[Jz o.r o.c A' o.n cap',I o.e]) h'):aN prog 176 #[Jz r c A n cap,Jz r2 c2 B n2 cap2] h K:=by refine(fnk func176 [(11,[12,61],[],[.slice none 0 0,I 0]),(14,[12,67],[],[.slice none 0 0,I 0])] (os:=[(8,[0,1,2,3,4,6,7,5,8,9])]) (own:=[2,3,4,14,16])) ?_;have W:¬(Mx r c n la/\Mx r2 c2 n2 lb)->∀h',h.le h'->K (.tuple #[Jz 0 0 none 0 0,I 1]) h':=fun hx h' l=>hK (noM 1) (.inl ⟨hx,rfl⟩) none 0 h' l RowV.nil;refine Z1 gl ra hn hl (fun rows mid mk b1 h1 own=>?_) (fun H h1 N=>⟨_,_,_,_,rfl,?_⟩);{have N:=own.le;refine⟨_,_,_,_,rfl,Z1 (gl.mono N) (rb.mono E9 N) hn2 hl2 (fun C p F b2 V D=>⟨_,_,_,_,rfl,Br.nt (Br.nt ?_)⟩) (fun H V l2=>⟨_,_,_,_,rfl,Br.nt (Wz (W (fun x=>H x.2) V (B0 N l2)))⟩)⟩;have l2:=D.le;have T:=B0 N l2;refine E6 (fun e=>hK (noM 4) (.inr (.inl ⟨⟨_,_,mk⟩,⟨_,_,F⟩,e,rfl⟩)) none 0 V T RowV.nil) (fun e=>?_);obtain rfl:C=mid:=by{have:=mk.ec;have:=F.er;omega};have ad:=hK _ (.inr (.inr ⟨rows,C,p,mk,F,rfl⟩));obtain⟨rfl,rfl,_,_,_,_,rfl,_⟩:=id mk;obtain⟨rfl,rfl,_,_,_,_,rfl,_⟩:=id F;have ms:=A74 hs;have ag:=A74 hs2;have aj:=hd _ _ mk;have a3:C*(2*m+1)<=d*(2*m+1):=aJ _ aj;have ax:C*m<=d*m:=aJ _ aj;have az:d*(2*m+1)=2*(d*m)+d:=gz0;have a4:rows*p<=64*64:=aP oo oo;refine Qw (m:=m) (gl.mono T) ((own.vis H1).mono H1 l2) (aE _) oo oo oo hs oo ?_;intro A3 c3 h3 l3 av;refine⟨_,_,_,rfl,?_⟩;refine A2f ((D.vis H1).mono H1 l3) oo oo ?_;intro A4 c4 h4 l4 ai aa;refine⟨_,_,_,rfl,l4,?_⟩;have af:=B0 T (B0 l3 l4);rw[cH C p]at aa ai ⊢;refine Qw (m:=m) (gl.mono af) aa ai oo oo oo (fun i hi=>?_) oo ?_;{have an:i/C<p:=aQ gz0;exact hs2 _ (R8 (cO i (show 0<C from oo)) an)};intro A5 c5 h5 l5 al;have aw:aT (VQr C) h5 A5 p (fun j i=>mtx (rvs lb) p i j):=by{obtain⟨vs,sv,el,rr⟩:=al;refine⟨vs,sv,el,fun j hj=>?_⟩;obtain⟨w,e1,hw⟩:=rr j hj;refine⟨w,e1,?_⟩;have:=VQr.congr (f':=fun i=>mtx (rvs lb) p i j) hw fun i hi=>?_;{exact this};·show rvs lb ((j*C+i)%C*p+(j*C+i)/C)=rvs lb (i*p+j);rw[bZ (j*C) i,aV,bI hi,bD _ _ oo,bJ hi,aS]};refine⟨_,_,_,rfl,l5,?_⟩;have am:=B0 af l5;have aq:=B0 l4 l5;have ao:C4 ((rows:Int)*(p:Int))=((rows*p:Nat):Int):=by{exact O1 oo};rw[ao];refine I3 A0v (zx:=J6) rfl oo oo oo oo ?_;intro b hb;have sz:∀i j,i<rows->j<p->Sz (1+d*(2*m+1)) (sm C (fun t=>mtx (rvs la) C i t*mtx (rvs lb) p t j)):=fun i j hi hj=>(Gk (f:=fun t=>mtx (rvs la) C i t) (f2:=fun t=>mtx (rvs lb) p t j) (fun t O=>ms i t hi O) (fun t O=>ag t j O hj) C (aE _)).mono oo;refine⟨_,_,_,rfl,fun L hp=>∃(k:Nat) (g o:aH) (xs:List QV) (A':Option aL) (c':Nat),k<=rows/\L=[.slice A' (k*p) c',I (k:Int)]/\h5.le g/\Sep hp g o/\aY o 244 A' c' xs/\xs.length=k*p/\Row RQr g xs (k*p) (fun k=>sm C (fun j=>mtx (rvs la) C (k/p) j*mtx (rvs lb) p j (k%p))),fun L _=>rows-(iAt L 1).toNat,⟨0,h5,Y9.put b _,[],some ⟨b,0,none⟩,rows*p,oo,gz0,B7 _,Z7 hb,Qo,by simp,by rw[bV];exact Row.nil⟩,?_⟩;rintro rA rn rc z hp ⟨k,g,o,xs,A',c',hk,eL,lg,s,ow,ac,rr⟩;obtain⟨⟨rfl,rfl,rfl⟩,rfl⟩:=eL;refine C1 (fun a2=>?_) (fun a7=>?_);{have S:k<rows:=oo;have ae:(k+1)*p=k*p+p:=gz0;have a1:(k+1)*p<=rows*p:=aJ _ S;obtain⟨a,v,ea,iv,c0,c1,ap⟩:=(av.mono (A8q C) (B0 aq lg)).vat S;refine⟨a,ea,oo,oo,_,_,_,_,_,_,_,C0 s.le c0,C0 s.le c1,C0 s.le ap,?_⟩;refine⟨fun L hp=>∃(j:Nat) (g' o:aH) (xs:List QV) (A':Option aL) (c':Nat),j<=p/\L=[.slice A' (k*p+j) c',I (j:Int)]/\g.le g'/\Sep hp g' o/\aY o 244 A' c' xs/\xs.length=k*p+j/\Row RQr g' xs (k*p+j) (fun k=>sm C (fun j=>mtx (rvs la) C (k/p) j*mtx (rvs lb) p j (k%p))),fun L _=>p-(iAt L 1).toNat,⟨0,g,o,xs,rA,rc,oo,rfl,B7 _,s,ow,ac,rr⟩,?_⟩;rintro qA qn qc z a5 ⟨j,g2,o2,ys,A2,c2,hj,eL,G,s2,ak,E,X⟩;obtain⟨⟨rfl,rfl,rfl⟩,rfl⟩:=eL;refine C1 (fun a0=>?_) (fun ay=>?_);{have M:j<p:=oo;obtain⟨a6,u,ar,iu,d0,d1,d2⟩:=(aw.mono (A8q C) (B0 lg G)).vat M;refine⟨a6,ar,oo,oo,_,_,_,_,_,_,_,C0 s2.le d0,C0 s2.le d1,C0 s2.le d2,?_⟩;refine s2.call (A83 (m:=m) (v:=v) (u:=u) (gl.mono (B0 am (B0 lg G))) (A8q C _ _ _ _ G iv) iu oo (fun t O=>ms k t S O) (fun t O=>ag t j O M) hm1 oo ?_);intro q g7 l7 iq h7 s7;refine⟨_,_,_,_,_,_,_,_,rfl,?_⟩;refine J0 (ty:=232) A0v s7 ak E.symm (y:=q) rfl dc oo oo ?_;intro A8 c8 h8 g8 o8 l8 s8 au _;rw[E,wiS j oo];refine⟨⟨j+1,g8,o8,_,A8,c8,oo,by rw[cN],B0 G (B0 l7 l8),s8,au,gz0,?_⟩,?_⟩;{have rB:=Row.push (R:=RQr) (g:=g8) (xs:=ys) (f:=fun k=>sm C (fun j=>mtx (rvs la) C (k/p) j*mtx (rvs lb) p j (k%p))) (by rw[E];exact X.mono H1 (B0 l7 l8)) (w:=q) (by show RQ g8 q (sm C (fun t=>mtx (rvs la) C (ys.length/p) t*mtx (rvs lb) p t (ys.length%p)));rw[E,bZ (k*p) j,aV,bI M,bD _ _ oo,bJ M,aS];exact H1 _ _ _ _ l8 iq);grind};·show p-((j+1:Nat):Int).toNat<p-(j:Int).toNat;omega};·have:j=p:=oo;subst this;rw[wiS k oo,<- ae];rw[<- ae]at E X;refine⟨⟨k+1,g2,o2,ys,qA,qc,oo,rfl,B0 lg G,s2,ak,E,X⟩,?_⟩;show rows-((k+1:Nat):Int).toNat<rows-(k:Int).toNat;omega};·have:k=rows:=oo;subst this;have ah:=B0 am (B0 lg s.le);have rq:aT RQr hp rA (k*p) (fun t=>sm C (fun j=>mtx (rvs la) C (t/p) j*mtx (rvs lb) p j (t%p))):=⟨xs,ow.slF s.ole,ac,rr.mono H1 s.le⟩;refine Lh (m:=1+d*(2*m+1)) (gl.mono ah) rq oo (fun t O=>?_) oo ?_;{exact sz _ _ (aQ gz0) (cO t (show 0<p from oo))};intro b9 h9 Q;exact⟨_,_,_,_,_,rfl,ad _ _ h9 (B0 ah Q.le) (Q.vis E9)⟩};·refine Z1 (gl.mono N) (rb.mono E9 N) hn2 hl2 (fun C p F b2 V D=>⟨_,_,_,_,rfl,Wz (W (fun x=>H x.1) V (B0 N D.le))⟩) (fun _ V l2=>⟨_,_,_,_,rfl,Wz (W (fun x=>H x.1) V (B0 N l2))⟩)
end
def SolvO(r c:Int)(n:Nat)(la:Nat->List UInt8)(n2:Nat)(lx:Nat->List UInt8)(o:VOut):Prop:=(¬(Mx r c n la/\∀i,i<n2->IsNum (lx i))/\o=noV 1)\/(Mx r c n la/\(∀i,i<n2->IsNum (lx i))/\(n2:Int)≠r/\o=noV 4)\/(∃rows cols,MOk r c n la rows cols/\(∀i,i<n2->IsNum (lx i))/\(n2:Int)=r/\((S0 (rvs la) (rvs lx) rows cols/\o=⟨cols,fun i=>F3 (Hi (rvs la) (rvs lx) rows cols i),0⟩)\/(¬S0 (rvs la) (rvs lx) rows cols/\o=noV 8)))
def SolvO.eq{r c:Int}{n n2:Nat}{la lx:Nat->List UInt8}{o p:VOut}(x:SolvO r c n la n2 lx o)(y:SolvO r c n la n2 lx p):o=p:=by rcases x with⟨h1,rfl⟩|⟨h1,h2,h3,rfl⟩|⟨r1,c1,h1,h2,h3,h4⟩<;>rcases y with⟨g1,rfl⟩|⟨g1,g2,g3,rfl⟩|⟨r2,c2,g1,g2,g3,g4⟩;{rfl};{grind};{exact absurd ⟨⟨_,_,g1⟩,g2⟩ h1};{grind};{rfl};{omega};{exact absurd ⟨⟨_,_,h1⟩,h2⟩ g1};{omega};·obtain rfl:r2=r1:=by{have:=h1.er;have:=g1.er;omega};obtain rfl:c2=c1:=by{have:=h1.ec;have:=g1.ec;omega};grind
def C5s(r c:Int)(n:Nat)(la:Nat->List UInt8)(n2:Nat)(lx:Nat->List UInt8)(e:Int)(ny:Nat)(fy:Nat->List UInt8):Prop:=(e≠8/\ny=0)\/(e=8/\∃rows cols,MOk r c n la rows cols/\(∀i,i<n2->IsNum (lx i))/\(n2:Int)=r/\¬S0 (rvs la) (rvs lx) rows cols/\ny=rows/\fy=fun i=>F3 (Hi (A3w (rvs la) (rvs lx) rows cols) (B4b cols) (cols+1) rows i))
def A6m{E b:Nat->Rat}{rows cols m nq:Nat}(hs:∀i,i<rows*cols->Sz m (E i))(hb:∀i,i<rows->Sz m (b i))(hm:1<=m)(hnq:(Ng E b rows cols).cs.length<=nq):∀j,Sz (7^nq*m) (Hi E b rows cols j):=A4f (m:=m) (Nq nq m hm) (B2c (n:=rows) (w:=cols+1) (c:=cols) (A74 (Sc hs hb)) hm o hnq (aE _)).1
def B0j{E b:Nat->Rat}{rows cols m:Nat}(hr:1<=rows)(hs:∀i,i<rows*cols->Sz m (E i))(hb:∀i,i<rows->Sz m (b i)):∀i,i<(cols+1)*rows->Sz m (A3w E b rows cols i):=by intro i c;unfold A3w;by_cases e:i<cols*rows;{rw[iP e];refine hs _ (R8 (cO i o) (aQ gz0))};grind
def B0l{cols m:Nat}(hm:1<=m):∀i,i<cols+1->Sz m (B4b cols i):=by intro i _;unfold B4b;split;{exact⟨ZB.one hm,ZB.one hm⟩};·exact Sz.zero hm
section
variable {h:aH} {K:VP} {A B:Option aL} {n n2 cap cap2 m:Nat} {r c:Int} {la lx:Nat->List UInt8}
def A2g(gl:Gl h)(ra:aT SSr h A n la)(rx:aT SSr h B n2 lx)(hn:n<=1000000)(hn2:n2<=1000000)(hl:LL n la)(hl2:LL n2 lx)(hs:∀i,i<n->Sz m (rv (la i)))(hs2:∀i,i<n2->Sz m (rv (lx i)))(hm1:1<=m) (hb1:∀rows cols,MOk r c n la rows cols->∃nq nk,(∀j,j<=cols->(elE (J5 (rvs la) (rvs lx) cols) rows (cols+1) j).cs.length<=nq)/\(∀j,j<=rows->(elE (J5 (A3w (rvs la) (rvs lx) rows cols) (B4b cols) rows) (cols+1) (rows+1) j).cs.length<=nk)/\2*(3^nq*bnd (cols+1) m)+1<=40000000/\2*(3^nk*bnd (rows+1) m)+1<=40000000/\7^nq*m<=40000000/\7^nk*m<=40000000) (hK:∀o,SolvO r c n la n2 lx o->∀ny fy,C5s r c n la n2 lx o.e ny fy->∀A' cap' A2 cap2' h',h.le h'->aT SSr h' A' o.n o.f->aT SSr h' A2 ny fy->K (.tuple #[.slice A' o.n cap',.slice A2 ny cap2',I o.e]) h'):aN prog 111 #[Jz r c A n cap,.slice B n2 cap2] h K:=by refine(fnk func111 (own:=[2])) ?_;have G:¬(Mx r c n la/\∀i,i<n2->IsNum (lx i))->∀h',h.le h'->K (.tuple #[.slice none 0 0,.slice none 0 0,I 1]) h':=fun hx h' l=>hK (noV 1) (.inl ⟨hx,rfl⟩) 0 (fun _=>[]) (.inl ⟨dc,rfl⟩) none 0 none 0 h' l RowV.nil RowV.nil;refine Z1 gl ra hn hl (fun rows cols mk b1 h1 own=>?_) (fun p h1 t=>⟨_,_,_,_,rfl,?_⟩);{have t:=own.le;refine⟨_,_,_,_,rfl,Do (gl.mono t) (rx.mono E9 t) hn2 hl2 (fun g b2 F d=>⟨_,_,_,_,rfl,Br.nt (Br.nt ?_)⟩) (fun p F D=>⟨_,_,_,_,rfl,Br.nt (Wz (G (fun x=>p x.2) F (B0 t D)))⟩)⟩;have D:=d.le;have q:=B0 t D;refine E6 (fun e=>hK (noV 4) (.inr (.inl ⟨⟨_,_,mk⟩,g,e,rfl⟩)) 0 (fun _=>[]) (.inl ⟨dc,rfl⟩) none 0 none 0 F q RowV.nil RowV.nil) (fun e=>?_);have O:=fun x=>hK ⟨cols,fun i=>F3 (Hi (rvs la) (rvs lx) rows cols i),0⟩ (.inr (.inr ⟨rows,cols,mk,g,e,.inl ⟨x,rfl⟩⟩)) 0 (fun _=>[]) (.inl ⟨show(0:Int)≠8 from dc,rfl⟩);have ai:=fun w=>hK (noV 8) (.inr (.inr ⟨rows,cols,mk,g,e,.inr ⟨w,rfl⟩⟩)) rows (fun i=>F3 (Hi (A3w (rvs la) (rvs lx) rows cols) (B4b cols) (cols+1) rows i)) (.inr ⟨rfl,rows,cols,mk,g,e,w,rfl,rfl⟩);obtain⟨nq,nk,u1,u2,k1,k2,k3,k4⟩:=hb1 rows cols mk;obtain rfl:n2=rows:=by{have:=mk.er;omega};obtain⟨rfl,rfl,_,_,_,_,rfl,_⟩:=id mk;have hX:=A6m hs hs2 hm1 (u1 cols (aE _));refine Nx (nq:=nq) (E:=rvs la) (b:=rvs lx) (m:=m) (gl.mono q) ((own.vis H1).mono H1 D) (aE _) (d.vis H1) (aE _) oo oo oo oo hs hs2 u1 k1 (fun N b3 h3 L T=>⟨_,_,_,_,rfl,?_⟩) (fun p h3 L=>⟨_,_,_,_,rfl,?_⟩);{refine Y6 (m:=7^nq*m) (gl.mono (B0 q L)) T oo (fun i _=>hX i) k3 ?_;intro b4 h4 u;exact⟨_,_,_,rfl,O N _ _ none 0 h4 (B0 q (B0 L u.le)) (u.vis E9) RowV.nil⟩};·refine Nw ((own.vis H1).mono H1 (B0 D L)) oo oo ?_;intro A4 c4 h4 g4 o4 xs l4 s4 ad z aj;refine⟨_,_,_,rfl,?_⟩;have X:=B0 q (B0 L l4);obtain⟨ys,sy,ah,qy⟩:=(d.vis H1).mono H1 (B0 L l4);refine OwnSl.app (ty:=232) A0v s4 ad z.symm ah.symm gz0 (sy.mono s4.le) oo oo ?_;intro A5 c5 h5 g5 o5 l5 R M _;refine⟨_,_,_,rfl,?_⟩;have e2:n2*cols+n2=(cols+1)*n2:=gz0;have H:(xs++ys).length=(cols+1)*n2:=gz0;have r5:aT RQr h5 A5 ((cols+1)*n2) (A3w (rvs la) (rvs lx) n2 cols):=by{refine⟨xs++ys,M.slF R.ole,H,?_⟩;rw[<- e2];refine Row.app z (((aj.mono H1 l5).mono H1 R.le).congr fun k hk=>?_) (((qy.mono H1 l5).mono H1 R.le).congr fun k hk=>?_);{unfold A3w;grind};·unfold A3w;rw[cH cols n2,iN oo,Nat.add_sub_cancel_left]};have ag:(cols+1)*n2<=c5:=by{have:=M.1;omega};have ak:=B0 X (B0 l5 R.le);rw[z,e2];have ew:C4 ((cols:Int)+1)=((cols+1:Nat):Int):=C2 oo oo;rw[ew];refine I3 A0v (zx:=J6) rfl oo oo oo oo ?_;intro b6 ae;have s6:=(Sep.refl h5).new ae (.cells ((aC (cols+1) J6).flatMap enc).toArray 244);refine⟨_,_,_,rfl,s6.call (Kq ⟨oo,oo⟩ ?_)⟩;intro w7 g7 W i7 h7 s7;refine⟨_,_,_,_,_,_,_,_,rfl,s6.le_le s7 W,_,rfl,oo,oo,?_⟩;refine S6 Ge (y:=w7) rfl s7 RowX.mk (i:=cols) gz0 ?_;intro h8 o8 x8 am S af;have C:=B0 ak (B0 W S.le);have V:=B0 W S.le;have r0:Row RQr g7 (aC (cols+1) J6) (cols+1) (fun _=>0):=fun i hi=>⟨J6,gz0,RQ.zero⟩;have r8:aT RQr h8 (some ⟨b6,0,none⟩) (cols+1) (B4b cols):=⟨_,af.rowB.slF S.ole,gz0,((r0.upd gz0 i7).mono H1 S.le)⟩;have aa:=A6m (B0j oo hs hs2) (B0l (cols:=cols) hm1) hm1 (u2 n2 (aE _));refine Nx (nq:=nk) (E:=A3w (rvs la) (rvs lx) n2 cols) (b:=B4b cols) (rows:=cols+1) (cols:=n2) (m:=m) (gl.mono C) (r5.mono H1 V) ag r8 (aE _) oo oo oo oo (B0j oo hs hs2) (B0l hm1) u2 k2 (fun N b9 h9 l9 T=>⟨_,_,_,_,rfl,?_⟩) (fun Q _ _=>absurd (C0p p) Q);refine Y6 (m:=7^nk*m) (gl.mono (B0 C l9)) T oo (fun i _=>aa i) k4 ?_;intro al ac s;exact⟨_,_,_,rfl,ai p none 0 _ _ ac (B0 C (B0 l9 s.le)) RowV.nil (s.vis E9)⟩};·refine Do (gl.mono t) (rx.mono E9 t) hn2 hl2 (fun g b2 F d=>⟨_,_,_,_,rfl,Wz (G (fun x=>p x.1) F (B0 t d.le))⟩) (fun _ F D=>⟨_,_,_,_,rfl,Wz (G (fun x=>p x.1) F (B0 t D))⟩)
def A5b(gl:Gl h)(ra:aT SSr h A n la)(rx:aT SSr h B n2 lx)(hn:n<=1000000)(hn2:n2<=1000000)(hl:LL n la)(hl2:LL n2 lx)(hs:∀i,i<n->Sz m (rv (la i)))(hs2:∀i,i<n2->Sz m (rv (lx i)))(hm1:1<=m) (hb1:∀rows cols,MOk r c n la rows cols->2*(3^cols*bnd (cols+1) m)+1<=40000000/\2*(3^rows*bnd (rows+1) m)+1<=40000000/\7^cols*m<=40000000/\7^rows*m<=40000000) (hK:∀o,SolvO r c n la n2 lx o->∀ny fy,C5s r c n la n2 lx o.e ny fy->∀A' cap' A2 cap2' h',h.le h'->aT SSr h' A' o.n o.f->aT SSr h' A2 ny fy->K (.tuple #[.slice A' o.n cap',.slice A2 ny cap2',I o.e]) h'):aN prog 111 #[Jz r c A n cap,.slice B n2 cap2] h K:=A2g gl ra rx hn hn2 hl hl2 hs hs2 hm1 (fun rows cols mk=>⟨cols,rows,fun j d=>bY (Q6 _ rows j).1 d,fun j d=>bY (Q6 _ (cols+1) j).1 d,hb1 rows cols mk⟩) hK
end
end Go.Proofs.YtkfhdoblhajcbaaGreatDoor
namespace Go.Proofs.YtkfhdoblhajcbaaGreatDoor
set_option maxRecDepth 20000
def ldA(A:Nat->Nat->Rat):Nat->Nat->Nat->Rat
 |0=>A
 |k+1=>fun i j=>if ldA A k k k=0 then ldA A k i j else ldA A k i j-ldA A k i k*(ldA A k k j/ldA A k k k)
def Jv(A:Nat->Nat->Rat)(n k:Nat):Prop:=0<=ldA A k k k/\(ldA A k k k=0->∀i,k<i->i<n->ldA A k i k=0)
def ldL(A:Nat->Nat->Rat)(i k:Nat):Rat:=if i=k then 1 else if i<k then 0 else if ldA A k k k=0 then 0 else ldA A k i k/ldA A k k k
def ldD(A:Nat->Nat->Rat)(k:Nat):Rat:=ldA A k k k
def A0z(n:Nat)(A:Nat->Nat->Rat):Prop:=∀i j,i<n->j<n->A i j=A j i
def B4z{A:Nat->Nat->Rat}{n:Nat}(hs:A0z n A):∀k,k<=n->A0z n (ldA A k):=by
 intro k
 induction k with
 |zero=>exact fun _=>hs
 |succ k ih=>
  intro e i j d c;have h:=ih o;show(if ldA A k k k=0 then ldA A k i j else _)=(if ldA A k k k=0 then ldA A k j i else _);split;·exact h i j d c
  ·rw[h i j d c,h i k d o,h k j o c];grind
def A7b{A:Nat->Nat->Rat}{n:Nat}(hs:A0z n A):∀k,k<=n->(∀m,m<k->Jv A n m)->∀i j,i<n->j<n->i<k\/j<k->ldA A k i j=0:=by
 intro k
 induction k with
 |zero=>omega
 |succ k ih=>
  intro l d i j r p h;have f:=B4z hs k o;obtain⟨_,q⟩:=d k o
  have row:ldA A k k k=0->∀b,b<n->ldA A k k b=0:=fun e b g=>by
   rcases cR b k with c|c|c;·grind
   ·grind
   ·rw[f k b o g];grind
  show(if ldA A k k k=0 then ldA A k i j else _)=0;grind
structure LdR (n k:Nat) (A:Nat->Nat->Rat) (s:ES):Prop where
 len:s.cs.length<=k
 low:∀ i j,k<=i->i<n->j<n->s.R i j=ldA A k i j
 zero:∀ i j,s.cs.length<=i->i<k->j<n->s.R i j=0
def LdR.row{n k:Nat}{A:Nat->Nat->Rat}{s:ES}(h:LdR n k A s)(hk:k<n)(hne:ldA A k k k≠0):Hj n k s=k:=by have c:=h.len;refine Ya _ c o (fun j a b=>?_) fun _=>?_;{rw[h.zero j k a b hk];decide};·rw[h.low k k (aE _) hk hk];grind
def LdR.none{n k:Nat}{A:Nat->Nat->Rat}{s:ES}(h:LdR n k A s)(hk:k<n)(he:ldA A k k k=0)(hok:Jv A n k):Hj n k s=n:=by have d:=h.len;refine Ya _ o o (fun j a b=>?_) fun c=>by{omega};by_cases c:j<k;{rw[h.zero j k a c hk];decide};·rw[h.low j k o b hk];by_cases e:j=k;{grind};·rw[hok.2 he j o b];decide
def LdR.step{n k:Nat}{A:Nat->Nat->Rat}{s:ES}(hs:A0z n A)(hk:k<n)(hok:∀m,m<=k->Jv A n m)(h:LdR n k A s):LdR n (k+1) A (Al n k s):=by have B:=h.len;have z:=A7b hs k o fun m q=>hok m o;have u:=A7b hs (k+1) o fun m q=>hok m o;unfold Al;rw[iP (show s.cs.length<n from o)];by_cases e:ldA A k k k=0;{rw[h.none hk e (hok k (aE _)),iN (Nat.lt_irrefl n)];refine⟨gz0,fun i j g d f=>?_,fun i j g l f=>?_⟩;{show s.R i j=(if ldA A k k k=0 then ldA A k i j else _);rw[iP e];exact h.low i j o d f};·show s.R i j=0;by_cases c:i=k;{rw[c,h.low k j (aE _) hk f];have:=u k j hk f (.inl o);rw[show ldA A (k+1) k j=(if ldA A k k k=0 then ldA A k k j else ldA A k k j-ldA A k k k*(ldA A k k j/ldA A k k k))from rfl,iP e]at this;exact this};·exact h.zero i j g o f};·rw[h.row hk e,iP hk];have y:(s.cs++[k]).length=s.cs.length+1:=by{simp};have r:=Jh s.cs.length k;refine⟨gz0,fun i j g d f=>?_,fun i j g l f=>?_⟩;{show elimE (fun i=>s.R (xch s.cs.length k i)) s.cs.length k i j=(if ldA A k k k=0 then ldA A k i j else _);have w:xch s.cs.length k i=i:=by{unfold xch;grind};unfold elimE;simp only[r,w];rw[h.low i k o d hk,h.low i j o d f,h.low k j (aE _) hk f,h.low k k (aE _) hk hk];grind};·show elimE (fun i=>s.R (xch s.cs.length k i)) s.cs.length k i j=0;have t:(s.cs++[k]).length<=i:=g;have C:∀b,b<n->s.R (xch s.cs.length k i) b=0:=fun b p=>by{unfold xch;rw[iN o];split;{exact h.zero _ b (aE _) o p};·exact h.zero i b o o p};unfold elimE;grind
def LdR.run{n:Nat}{A:Nat->Nat->Rat}(hs:A0z n A):∀k,k<=n->(∀m,m<k->Jv A n m)->LdR n k A (Pd n ⟨A,[],1⟩ k):=by
 intro k
 induction k with
 |zero=>exact fun _ _=>⟨aE _,fun _ _ _ _ _=>rfl,fun i j _ h _=>o⟩
 |succ k ih=>exact fun e c=>LdR.step hs o (fun m d=>c m o) (ih o fun m d=>c m o)
def qf(n:Nat)(A:Nat->Nat->Rat)(x:Nat->Rat):Rat:=sm n fun i=>x i*sm n fun j=>A i j*x j
def B1t{A:Nat->Nat->Rat}{i k:Nat}(h:i<k):ldL A i k=0:=by unfold ldL;grind
def B1s(A:Nat->Nat->Rat)(k:Nat):ldL A k k=1:=by unfold ldL;grind
end Go.Proofs.YtkfhdoblhajcbaaGreatDoor
namespace Go.Proofs.YtkfhdoblhajcbaaGreatDoor
set_option maxRecDepth 20000
def A1n{n:Nat}{f:Nat->Rat}(h:∀i,i<n->0<=f i):0<=sm n f:=by
 induction n with
 |zero=>exact Rat.le_refl
 |succ n ih=>
  show 0<=sm n f+f n;have c:=ih fun i d=>h i o;have e:=h n o;grind
def Ed{n:Nat}{f:Nat->Rat}(h:∀i,i<n->0<=f i)(hz:sm n f<=0):∀i,i<n->f i=0:=by
 induction n with
 |zero=>intro i d;omega
 |succ n ih=>
  have e:sm (n+1) f=sm n f+f n:=rfl;rw[e]at hz;have g:=A1n fun i (d:i<n)=>h i o;have j:=h n o;intro i d;by_cases c:i=n;·rw[c];grind
  ·exact ih (fun i d=>h i o) gz0 i o
def ev(n:Nat)(f x:Nat->Rat):Rat:=sm n fun j=>f j*x j
structure Diag (n:Nat) (A:Nat->Nat->Rat) (d:Nat->Rat) (F:Nat->Nat->Rat):Prop where
 val:∀ x,qf n A x=sm n fun m=>d m*(ev n (F m) x*ev n (F m) x)
 inj:∀ x,(∀ m,m<n->ev n (F m) x=0)->∀ j,j<n->x j=0
structure PD (n k:Nat) (A0:Nat->Nat->Rat) (d:Nat->Rat) (F A:Nat->Nat->Rat):Prop where
 val:∀ x,qf n A0 x=sm k (fun m=>d m*(ev n (F m) x*ev n (F m) x))+qf n A (fun i=>ev n (F i) x)
 inj:∀ x,(∀ m,m<n->ev n (F m) x=0)->∀ j,j<n->x j=0
 zero:∀ i j,i<n->j<n->i<k\/j<k->A i j=0
 symm:A0z n A
end Go.Proofs.YtkfhdoblhajcbaaGreatDoor
namespace Go.Proofs.YtkfhdoblhajcbaaGreatDoor
set_option maxRecDepth 20000
structure TE (n k:Nat) (R:Nat->Nat->Rat) (M:Nat->Nat->Int) (S:Nat->Rat) (last:Int):Prop where
 elim:∃ B R',(∀ i j,i<n->j<n->Wh (B i j))/\Elim n n B R' (fun m=>m) k/\(last:Rat)=dp B (fun m=>m) k/\∀ i j,k<=i->i<n->j<n->R' i j=S i*R i j
 ne:last≠0
 val:∀ i j,k<=i->i<n->j<n->(M i j:Rat)=last*(S i*R i j)
 scale:∀ i,k<=i->i<n->0<S i
end Go.Proofs.YtkfhdoblhajcbaaGreatDoor
namespace Go.Proofs.YtkfhdoblhajcbaaGreatDoor
set_option maxRecDepth 20000
def C0h(k:Nat)(f:Nat->Rat):∀l,sm (k+l) f=sm k f+sm l fun j=>f (k+j):=by
 intro l
 induction l with
 |zero=>show sm k f=sm k f+0;rw[Rat.add_zero]
 |succ l ih=>
  show sm (k+l) f+f (k+l)=sm k f+(sm l (fun j=>f (k+j))+f (k+l));rw[ih,Rat.add_assoc]
end Go.Proofs.YtkfhdoblhajcbaaGreatDoor
namespace Go.Proofs.YtkfhdoblhajcbaaGreatDoor
set_option maxRecDepth 20000
end Go.Proofs.YtkfhdoblhajcbaaGreatDoor
namespace Go.Proofs.YtkfhdoblhajcbaaGreatDoor
set_option maxRecDepth 20000
section
variable {m n s k Y:Nat} {M:Nat->Nat->Rat} {w b x y:Nat->Rat}
end
end Go.Proofs.YtkfhdoblhajcbaaGreatDoor
namespace Go.Proofs.YtkfhdoblhajcbaaGreatDoor
set_option maxRecDepth 20000
def O0{cs:List Nat}{m:Nat}(h:m<cs.length):cs.getD m 0∈cs:=by rw[dB,bL h];exact List.getElem_mem h
def B1e{R:Nat->Nat->Rat}{cs:List Nat}{c:Nat}(hc:c∉cs):∀k,k<=cs.length->∀j,A57 R cs c k j=(if j=c then 1 else 0)+A6u (fun m=>- R m c) cs k j:=by
 intro k
 induction k with
 |zero=>intro _ j;show(if j=c then(1:Rat)else 0)=_+0;rw[Rat.add_zero]
 |succ k ih=>
  intro i j;have f:=ih o j;have d:cs.getD k 0≠c:=fun e=>hc (e▸O0 o);show(if j=cs.getD k 0 then-R k c else A57 R cs c k j)=(if j=c then 1 else 0)+(if j=cs.getD k 0 then-R k c else A6u (fun m=>- R m c) cs k j);by_cases e:j=cs.getD k 0;·rw[iP e,iP e,iN (fun g=>d (by rw[<- e,g])),dI]
  ·rw[iN e,iN e,f]
def A03{M:Nat->Nat->Rat}{n w l:Nat}(hl:l<(Lp (ecE M n w).cs w).length){i:Nat}(hi:i<n):sm w (fun t=>M i t*B8z (ecE M n w).R (ecE M n w).cs w l t)=0:=by have h:=EqA.run (n:=n) (w:=w) M w (aE w);have g:Asc (ecE M n w).cs w:=Dl n ⟨M,[],1⟩ rfl w;obtain⟨k,u⟩:=Oj (ecE M n w).cs w _ (O0 hl);unfold B8z;generalize (Lp (ecE M n w).cs w).getD l 0=c at *;obtain⟨B,E,C,_⟩:=h.elim;have y:=h.zero;change ZrE n w (ecE M n w)at y;change Elim n w B (ecE M n w).R (fun m=>(ecE M n w).cs.getD m 0) (ecE M n w).cs.length at E;generalize ecE M n w=s at *;obtain⟨d,f,e⟩:=C i hi;have p:∀j,j<w->B d j=sm s.cs.length fun m=>B d (s.cs.getD m 0)*s.R m j:=fun j r=>by{by_cases z:d<s.cs.length;{exact E.top d j z r};·rw[E.bot d j f o r,y d j f o r,dI]};have A:sm w (fun t=>M i t*A57 s.R s.cs c s.cs.length t)=sm w (fun t=>B d t*(if t=c then 1 else 0)+B d t*Xg (fun _=>0) (fun m=>- s.R m c) 0 s.cs t):=C5 fun t _=>by{rw[B1e u s.cs.length (aE _) t,Sh,<- e t];grind};rw[A,Y7,N6 k fun t _ q=>by rw[iN q,bH],iP rfl,Rat.mul_one,B0c _ _ (A3k g) g.lt,p c k];have D:(sm s.cs.length fun m=>B d (s.cs.getD m 0) * - s.R m c)= - sm s.cs.length fun m=>B d (s.cs.getD m 0)*s.R m c:=by{rw[<- Hh];exact C5 fun m _=>by grind};rw[D];grind
def O3(E:Nat->Rat)(n:Nat):Nat->Rat:=fun k=>if k%(n+n)<n then E (k/(n+n)*n+k%(n+n))else if k%(n+n)=n+k/(n+n)then 1 else 0
def Gb(E:Nat->Rat){n i j:Nat}(hj:j<n+n):O3 E n (i*(n+n)+j)=if j<n then E (i*n+j)else if j=n+i then 1 else 0:=by have d:(i*(n+n)+j)/(n+n)=i:=by{rw[bZ,bD _ _ o,bJ hj,aS]};have c:(i*(n+n)+j)%(n+n)=j:=by{rw[bZ,aV,bI hj]};unfold O3;grind
def Yt{E:Nat->Rat}{n m:Nat}(hm:1<=m)(hs:∀i,i<n*n->Sz m (E i)):∀i,i<n*(n+n)->Sz m (O3 E n i):=by intro i d;have c:i/(n+n)<n:=aQ gz0;unfold O3;split;{rename_i h;exact hs _ (R8 c h)};·split;{exact⟨ZB.one hm,ZB.one hm⟩};·exact Sz.zero hm
def Ib(E:Nat->Rat)(n:Nat):Prop:=(elE (O3 E n) n (n+n) n).cs.length=n
def Qe(E:Nat->Rat)(n:Nat):Nat->Nat->Rat:=fun i j=>(elE (O3 E n) n (n+n) n).R i (n+j)
def InvO(r c:Int)(n:Nat)(la:Nat->List UInt8)(o:MOut):Prop:=(¬Mx r c n la/\o=noM 1)\/(Mx r c n la/\r≠c/\o=noM 4)\/(∃q,MOk r c n la q q/\((Ib (rvs la) q/\o=⟨r,r,q*q,R9 (Qe (rvs la) q) q,0⟩)\/(¬Ib (rvs la) q/\o=noM 7)))
def InvO.eq{r c:Int}{n:Nat}{la:Nat->List UInt8}{o p:MOut}(x:InvO r c n la o)(y:InvO r c n la p):o=p:=by rcases x with⟨h1,rfl⟩|⟨h1,h2,rfl⟩|⟨q1,h1,h4⟩<;>rcases y with⟨g1,rfl⟩|⟨g1,g2,rfl⟩|⟨q2,g1,g4⟩;{rfl};{grind};{exact absurd ⟨_,_,g1⟩ h1};{grind};{rfl};{exact absurd (by rw[g1.er,g1.ec]) h2};{exact absurd ⟨_,_,h1⟩ g1};{exact absurd (by rw[h1.er,h1.ec]) g2};·obtain rfl:q2=q1:=by{have:=h1.er;have:=g1.er;omega};grind
section
variable {h:aH} {K:VP} {A:Option aL} {n cap m:Nat} {r c:Int} {la:Nat->List UInt8}
def Zy(gl:Gl h)(ra:aT SSr h A n la)(hn:n<=1000000)(hl:LL n la)(hs:∀i,i<n->Sz m (rv (la i)))(hm1:1<=m)(hb:∀q,MOk r c n la q q->2*(3^q*bnd (q+q) m)+1<=40000000)
 (hK:∀o,InvO r c n la o->∀A' cap' h',h.le h'->aT SSr h' A' o.n o.f->K (.tuple #[Jz o.r o.c A' o.n cap',I o.e]) h'):aN prog 148 #[Jz r c A n cap] h K:=by
 refine(fnk func148 [(9,[7,35],[],[.slice none 0 0,I 0]),(22,[14,80],[],[.slice none 0 0,I 0]),(25,[14,89],[],[.slice none 0 0,I 0])] (own:=[1,2,12,17]) (wr:=[152])) ?_;refine Z1 gl ra hn hl (fun rows cols mk b1 B own=>?_) (fun a8 B l1=>⟨_,_,_,_,rfl,Wz (hK (noM 1) (.inl ⟨a8,rfl⟩) none 0 B l1 RowV.nil)⟩);have l1:=own.le;refine⟨_,_,_,_,rfl,Br.nt (E6 (fun e=>hK (noM 4) (.inr (.inl ⟨⟨_,_,mk⟩,e,rfl⟩)) none 0 B l1 RowV.nil) (fun e=>?_))⟩;obtain rfl:rows=cols:=by have:=mk.er;have:=mk.ec;omega
 have au:=fun x=>hK ⟨r,r,rows*rows,R9 (Qe (rvs la) rows) rows,0⟩ (.inr (.inr ⟨rows,mk,.inl ⟨x,rfl⟩⟩));have bo:=fun x=>hK (noM 7) (.inr (.inr ⟨rows,mk,.inr ⟨x,rfl⟩⟩));have b2:=hb rows mk;have:=mk.r1;have:=mk.r2;obtain⟨rfl,rfl,_,_,_,_,rfl,_⟩:=id mk;clear e;have bc:=own.vis H1;have b5:rows*rows<=64*64:=aP oo oo;have bx:rows*(rows+rows)<=64*128:=aP oo oo
 refine⟨fun L hp=>∃(k:Nat) (g o:aH) (xs:List QV) (A':Option aL) (H:Nat),k<=rows/\L=[.slice A' (k*(rows+rows)) H,I (k:Int)]/\B.le g/\Sep hp g o/\aY o 244 A' H xs/\xs.length=k*(rows+rows)/\Row RQr g xs (k*(rows+rows)) (O3 (rvs la) rows),fun L _=>rows-(iAt L 1).toNat,
  ⟨0,B,Y9,[],none,0,oo,gz0,B7 _,Sep.refl B,OwnSl.nil,by simp,by rw[bV];exact Row.nil⟩,?_⟩;rintro wA wn wc z hp ⟨k,g,o,xs,A',H,hk,eL,lg,s,ow,G,rr⟩;obtain⟨⟨rfl,rfl,rfl⟩,rfl⟩:=sI2 eL;refine C1 (fun ar=>?_) (fun bl=>?_)
 ·have F:k<rows:=oo;have h2:(k+1)*rows<=rows*rows:=aJ _ F;have h3:(k+1)*rows=k*rows+rows:=gz0;have h4:(k+1)*(rows+rows)=k*(rows+rows)+rows+rows:=gz0;have h5:(k+1)*(rows+rows)<=rows*(rows+rows):=aJ _ F;have e0:C4 ((k:Int)+1)=((k+1:Nat):Int):=C2 oo oo;have e1:C4 ((k:Int)*(rows:Int))=((k*rows:Nat):Int):=by rw[<- aW];exact O1 oo
  have e2:C4 (C4 ((k:Int)+1)*(rows:Int))=(((k+1)*rows:Nat):Int):=by rw[e0,<- aW];exact O1 oo
  rw[e1,e2,e0];refine⟨⟨oo,oo⟩,⟨oo,oo⟩,?_⟩;simp only[aD];have e5:(k+1)*rows-k*rows=rows:=oo;rw[e5];have row:aT RQr B (V3 (some ⟨b1,0,none⟩) (rows*rows) (k*rows) 4) rows (fun j=>rvs la (k*rows+j)):=bc.cut (c:=rows*rows) (l:=k*rows) (k:=rows) oo (aE _);obtain⟨ys,sy,d,qy⟩:=row;refine OwnSl.app (ty:=232) A0v s ow G.symm d.symm gz0 (sy.mono (B0 lg s.le)) oo oo ?_;intro A2 c2 b7 g2 o2 l2 s2 bg _;have ao:=B0 lg l2;have af:(xs++ys).length=k*(rows+rows)+rows:=gz0
  have r1:Row RQr g2 (xs++ys) (k*(rows+rows)+rows) (O3 (rvs la) rows):=by
   refine Row.app G (rr.mono H1 l2) ((qy.mono H1 ao).congr fun j hj=>?_);rw[Gb (rvs la) oo,iP hj]
  refine⟨_,_,_,rfl,?_⟩;rw[G];refine I3 A0v (zx:=J6) rfl oo oo oo oo ?_;intro W ad;simp only[aD]
  have ob:∀q x,o2 q=some x->q≠W:=by
   rintro q x e rfl;rw[s2.own q x e]at ad;cases ad
  refine⟨_,_,_,rfl,Sep.call (s2.new ad _) (Kq ⟨oo,oo⟩ ?_)⟩;intro wd g4 l4 a4 b8 s4;have one:((1:Int):Rat)=1:=rfl;rw[one]at a4;refine⟨_,_,_,_,_,_,_,_,rfl,_,rfl,oo,oo,?_⟩;refine S6 Ge (y:=wd) rfl s4 RowX.mk (i:=k) gz0 ?_;intro b6 o5 x5 ba s5 bp;have a9:∀k,k≠W->o5 k=o2 k:=fun k hk=>by rw[ba,B9 _ _ hk,B9 _ _ hk]
  have r0:Row RQr g4 (aC rows J6) rows (fun _=>0):=fun i hi=>⟨J6,gz0,RQ.zero⟩;have ru:Row RQr g4 ((aC rows J6).set k wd) rows (fun i=>if i=k then 1 else 0):=r0.upd gz0 a4;obtain⟨g8,l8,s8⟩:=s5.give (o2:=o2) (fun k x e=>gz0)
  have bf:o2 W=none:=by
   cases hx:o2 W with
   |none=>rfl
   |some y=>grind
  have bi:RowX g8 W ((aC rows J6).set k wd):=bp.keep fun x e=>by rw[<- s8.rest W bf];exact s5.own W x e
  have bn:((aC rows J6).set k wd).length=rows:=gz0;generalize (aC rows J6).set k wd=us at *;refine OwnSl.app (ty:=232) A0v s8 bg af.symm bn.symm gz0 ((bi.rowB.slF (B7 _)).mono s8.le) oo oo ?_;intro A9 c9 h9 g9 o9 l9 s9 bd _;rw[af];have ax:=B0 l4 (B0 l8 l9);refine⟨_,_,_,rfl,⟨k+1,g9,o9,_,A9,c9,oo,by rw[h4],B0 ao ax,s9,bd,gz0,?_⟩,?_⟩
  ·rw[h4];refine Row.app af (r1.mono H1 ax) ((ru.mono H1 (B0 l8 l9)).congr fun j hj=>?_);have ej:k*(rows+rows)+rows+j=k*(rows+rows)+(rows+j):=oo;rw[ej,Gb (rvs la) (i:=k) (j:=rows+j) oo,iN (show ¬rows+j<rows from oo)];grind
  ·show rows-((k+1:Nat):Int).toNat<rows-(k:Int).toNat;omega
 have F:k=rows:=oo;subst F;have ew:C4 (2*(k:Int))=((k+k:Nat):Int):=by rw[C2]<;>omega
 rw[ew];have a5:=B0 l1 (B0 lg s.le);have rq:aT RQr hp wA (k*(k+k)) (O3 (rvs la) k):=⟨xs,ow.slF s.ole,G,rr.mono H1 s.le⟩;have az:=Yt hm1 hs;refine Ks (E:=O3 (rvs la) k) (cc:=k) (m:=m) (gl.mono a5) rq (by have:=ow.1;omega) oo oo oo oo oo az oo ?_;intro T h2 Q l2 e1 e2;refine⟨_,rfl,FCall.mono Q ?_⟩;rintro r3 h3 ⟨g3,o3,A3,bt,w,l3,t3,bh,bj,a0,rfl⟩;refine⟨_,_,_,_,_,_,_,_,rfl,?_⟩;have aa:=A33 (E:=O3 (rvs la) k) (rows:=k) (cols:=k+k) (c:=k) az oo;have a7:=A0d (O3 (rvs la) k) k (k+k) k (bnd (k+k) m);have ai:=A5n (O3 (rvs la) k) k (k+k) k;have V:(elE (O3 (rvs la) k) k (k+k) k).cs.length=k->∀i j,i<k->j<k->cG ((elP (O3 (rvs la) k) k (k+k) k).M i (k+j)) (elP (O3 (rvs la) k) k (k+k) k).last=Qe (rvs la) k i j:=fun am i j hi hj=>A7l (O3 (rvs la) k) oo hi oo (.inl oo);have am:(elE (O3 (rvs la) k) k (k+k) k).cs.length<=k/\(elE (O3 (rvs la) k) k (k+k) k).cs.length<=k:=Q6 _ k k;rw[A5o _ oo];have ae:h.le h3:=B0 a5 (B0 l3 t3.sep.le);refine C1 (fun ar=>bo (fun hx=>by unfold Ib at hx;omega) none 0 h3 ae RowV.nil) (fun bl=>?_);have D:(elE (O3 (rvs la) k) k (k+k) k).cs.length=k:=oo;have ay:=V D;have ag:=au D;clear V;generalize elP (O3 (rvs la) k) k (k+k) k=st at *;have aj:=aa.M;have X:=aa.last;clear aa;generalize 3^st.cs.length*bnd (k+k) m=bb at aj X a7;have iw:ZIr h3 w st.last:=Eh _ _ _ _ t3.sep.le a0
 have C:∀g',h3.le g'->∃gT,Tab g' gT o3 T st.M st.S:=fun g' l=>by
  obtain⟨gT,l',s'⟩:=t3.sep.after l;exact⟨gT,t3.next s' l'⟩
 clear t3 bh bj a0 Q;have a6:C4 ((k:Int)*(k:Int))=((k*k:Nat):Int):=by rw[<- aW];exact O1 oo
 rw[a6];refine I3 A0v (zx:=J6) rfl oo oo oo oo ?_;intro b4 bq;simp only[aD]
 refine⟨_,_,_,rfl,fun L hp=>∃(i:Nat) (g o:aH) (xs:List QV) (A':Option aL) (H:Nat),i<=k/\L=[.slice A' (i*k) H,I (i:Int)]/\h3.le g/\Sep hp g o/\aY o 244 A' H xs/\xs.length=i*k/\Row RQr g xs (i*k) (fun t=>Qe (rvs la) k (t/k) (t%k)),fun L _=>k-(iAt L 1).toNat,
  ⟨0,h3,Y9.put b4 _,[],some ⟨b4,0,none⟩,k*k,oo,gz0,B7 _,Z7 bq,Qo,by simp,by rw[bV];exact Row.nil⟩,?_⟩;rintro vA vn vc z bm ⟨i,g5,o5,an,A5,c5,hi,eL,p,s5,ap,O,a2⟩;obtain⟨⟨rfl,rfl,rfl⟩,rfl⟩:=sI2 eL;refine C1 (fun ar=>?_) (fun a1=>?_)
 ·have a3:i<k:=oo;have aq:(i+1)*k=i*k+k:=gz0;have bw:(i+1)*k<=k*k:=aJ _ a3;obtain⟨gT,tT⟩:=C g5 p;refine s5.call (Af tT (i:=i) oo ?_);intro h6 s6;have ca:=B0 p s6.le;rw[e2];refine⟨_,_,_,rfl,⟨oo,oo⟩,?_⟩;simp only[aD,Nat.add_sub_cancel]
  refine⟨fun L hp=>∃(j:Nat) (g o:aH) (xs:List QV) (A':Option aL) (H:Nat),j<=k/\L=[.slice A' (i*k+j) H,I (j:Int)]/\g5.le g/\Sep hp g o/\aY o 244 A' H xs/\xs.length=i*k+j/\Row RQr g xs (i*k+j) (fun t=>Qe (rvs la) k (t/k) (t%k)),fun L _=>k-(iAt L 1).toNat,
   ⟨0,g5,o5,an,_,_,oo,rfl,B7 _,s6,ap,O,a2⟩,?_⟩;rintro qA qn qc z bz ⟨j,g7,o7,ys,A7,c7,hj,eL,u,s7,aw,d,ak⟩;obtain⟨⟨rfl,rfl,rfl⟩,rfl⟩:=sI2 eL;refine C1 (fun bu=>?_) (fun a1=>?_)
  ·have ac:j<k:=oo;obtain⟨bv,ah⟩:=C g7 (B0 p u);obtain⟨wv,zv,c0,c1⟩:=ah.at (i:=i) (j:=k+j) oo oo;rw[D6,D6,e2]at c0 c1
   have be:k<T.cE-i*(k+k):=by
    have B:=ah.cE;rw[e1,e2]at B;grind
   rw[Ot be];have al:∀x,aK (aK (aK ⟨T.bE,i*(k+k)*2,none⟩ (k*2)) (j*2)) x=⟨T.bE,i*(k+k)*2+(k+j)*2+x,none⟩:=fun x=>by rw[D6,D6,D6];grind
   refine⟨_,rfl,oo,oo,_,_,_,_,by simp only[aD];rw[al];exact C0 s7.le c0,by simp only[aD];rw[al];exact C0 s7.le c1,?_⟩;refine s7.call (Q5 (gl.mono (B0 ae (B0 p u))).tz (Eh _ _ _ _ ah.sep.le zv) (Eh _ _ _ _ (B0 p u) iw) (aj _ _ oo oo) X oo ?_);intro w9 g9 l9 i9 h9 s9;rw[ay i j a3 ac]at i9;refine⟨_,_,_,_,_,_,_,_,rfl,?_⟩;refine J0 (ty:=232) A0v s9 aw d.symm (y:=w9) rfl dc oo oo ?_;intro A8 c8 h8 g8 o8 l8 s8 bk _;rw[d,wiS j oo];refine⟨⟨j+1,g8,o8,_,A8,c8,oo,by rw[cN],B0 u (B0 l9 l8),s8,bk,gz0,?_⟩,?_⟩
   ·have rB:=Row.push (R:=RQr) (g:=g8) (xs:=ys) (f:=fun t=>Qe (rvs la) k (t/k) (t%k)) (by rw[d];exact ak.mono H1 (B0 l9 l8)) (w:=w9) (by
     show RQ g8 w9 (Qe (rvs la) k (ys.length/k) (ys.length%k));rw[d,bZ (i*k) j,aV,bI ac,bD _ _ oo,bJ ac,aS];exact H1 _ _ _ _ l8 i9);grind
   ·show k-((j+1:Nat):Int).toNat<k-(j:Int).toNat;omega
  ·have:j=k:=oo;subst this;rw[wiS i oo,<- aq];rw[<- aq]at d ak;refine⟨⟨i+1,g7,o7,ys,qA,qc,oo,rfl,B0 p u,s7,aw,d,ak⟩,?_⟩;show j-((i+1:Nat):Int).toNat<j-(i:Int).toNat;omega
 ·have:i=k:=oo;subst this;have av:=B0 ae (B0 p s5.le);have br:aT RQr bm vA (i*i) (fun t=>Qe (rvs la) i (t/i) (t%i)):=⟨an,ap.slF s5.ole,O,a2.mono H1 s5.le⟩;refine Lh (m:=bb) (gl.mono av) br oo (fun t ht=>?_) oo ?_
  ·have B:t/i<i:=aQ ht;have h2:=cO t (show 0<i from oo);rw[<- ay _ _ B h2];exact U3 ai (aj _ _ oo oo) X
  intro b9 h9 N;exact⟨_,_,_,_,_,rfl,ag _ _ h9 (B0 av N.le) (N.vis E9)⟩
end
def Sf{n w:Nat}{M M':Nat->Nat->Rat}(h:∀i j,i<n->j<w->M i j=M' i j):∀c,c<=w->(Pd n ⟨M,[],1⟩ c).cs=(Pd n ⟨M',[],1⟩ c).cs/\∀i j,i<n->j<w->(Pd n ⟨M,[],1⟩ c).R i j=(Pd n ⟨M',[],1⟩ c).R i j:=by
 intro c
 induction c with
 |zero=>exact fun _=>⟨rfl,h⟩
 |succ c ih=>
  intro p;obtain⟨e,d⟩:=ih o;have k:Pd n ⟨M,[],1⟩ (c+1)=Al n c (Pd n ⟨M,[],1⟩ c):=rfl;have m:Pd n ⟨M',[],1⟩ (c+1)=Al n c (Pd n ⟨M',[],1⟩ c):=rfl;rw[k,m];generalize Pd n ⟨M,[],1⟩ c=s at *;generalize Pd n ⟨M',[],1⟩ c=t at *
  have l:Hj n c s=Hj n c t:=by
   unfold Hj;rw[e];exact A2v _ _ fun j _ _=>by rw[d j c o o]
  unfold Al;rw[l,e];by_cases a:t.cs.length<n
  ·rw[iP a,iP a];by_cases b:Hj n c t<n
   ·rw[iP b,iP b];refine⟨rfl,fun i j g f=>?_⟩;show elimE (fun i=>s.R (xch t.cs.length (Hj n c t) i)) t.cs.length c i j=elimE (fun i=>t.R (xch t.cs.length (Hj n c t) i)) t.cs.length c i j;unfold elimE;simp only[d _ c (He a b g) (show c<w from o),d _ c (He a b a) (show c<w from o),d _ j (He a b g) f,d _ j (He a b a) f]
   ·rw[iN b,iN b];exact⟨rfl,d⟩
  ·rw[iN a,iN a];exact⟨e,d⟩
def R4(n:Nat)(a:Rat)(f:Nat->Rat):sm n (fun i=>f i*a)=sm n f*a:=by rw[dJ,<- J3];exact C5 fun i _=>dJ _ _
def Zo{R:Nat->Nat->Rat}{cs:List Nat}{c:Nat}(hc:c∉cs):∀k,k<=cs.length->A57 R cs c k c=1:=by
 intro k
 induction k with
 |zero=>intro _;show(if c=c then(1:Rat)else 0)=1;rw[iP rfl]
 |succ k ih=>
  intro d;show(if c=cs.getD k 0 then-R k c else A57 R cs c k c)=1;rw[iN (fun e=>hc (by rw[e];exact O0 o)),ih o]
def A91{E:Nat->Rat}{n:Nat}(h:∀x:Nat->Rat,(∀i,i<n->sm n (fun t=>mtx E n i t*x t)=0)->∀t,t<n->x t=0):Ib E n:=by have l:=(Sf (n:=n) (w:=n) (M:=mtx (O3 E n) (n+n)) (M':=mtx E n) (fun i j _ m=>by show O3 E n (i*(n+n)+j)=_;rw[Gb E o,iP m];rfl) n (aE n)).1;show(Pd n ⟨mtx (O3 E n) (n+n),[],1⟩ n).cs.length=n;rw[l];have p:=(Q6 (mtx E n) n n).1;refine dE fun c=>?_;have d:Asc (ecE (mtx E n) n n).cs n:=Dl n ⟨mtx E n,[],1⟩ rfl n;have k:0<(Lp (ecE (mtx E n) n n).cs n).length:=by{rw[Ut d];have:(ecE (mtx E n) n n).cs.length≠n:=c;omega};obtain⟨f,g⟩:=Oj (ecE (mtx E n) n n).cs n _ (O0 k);have e:=h _ (fun i q=>A03 (M:=mtx E n) (n:=n) (w:=n) k q) _ f;unfold B8z at e;rw[Zo g _ (aE _)]at e;exact absurd e dc
def C3e(M:Nat->Nat->Rat)(cs:List Nat):Nat->Rat:=fun k=>M (cs.getD (k/cs.length) 0) (cs.getD (k%cs.length) 0)
def A6z(M:Nat->Nat->Rat)(cs:List Nat){a b:Nat}(hb:b<cs.length):mtx (C3e M cs) cs.length a b=M (cs.getD a 0) (cs.getD b 0):=by obtain⟨d,c⟩:=dm1 (i:=a) hb;show M (cs.getD ((a*cs.length+b)/cs.length) 0) (cs.getD ((a*cs.length+b)%cs.length) 0)=_;rw[d,c]
def A53(M:Nat->Nat->Rat)(n:Nat):∀i,i<n->∀j,j<n->M i j=sm (ecE M n n).cs.length fun m=>M i ((ecE M n n).cs.getD m 0)*(ecE M n n).R m j:=fun i r j f=>by have eq:=EqA.run (n:=n) (w:=n) M n (aE n);have g:=(Q6 M n n).2;obtain⟨B,E,q,_⟩:=eq.elim;have k:=eq.zero;change ZrE n n (ecE M n n)at k;change Elim n n B (ecE M n n).R (fun m=>(ecE M n n).cs.getD m 0) (ecE M n n).cs.length at E;generalize ecE M n n=s at *;obtain⟨d,c,e⟩:=q i r;have p:(sm s.cs.length fun m=>M i (s.cs.getD m 0)*s.R m j)=sm s.cs.length fun m=>B d (s.cs.getD m 0)*s.R m j:=C5 fun m _=>by{rw[e]};rw[p,<- e j];by_cases l:d<s.cs.length;{exact E.top d j l f};·rw[E.bot d j c o f,k d j c o f,dI]
def B14{M:Nat->Nat->Rat}{n:Nat}(hs:A0z n M):Ib (C3e M (ecE M n n).cs) (ecE M n n).cs.length:=by refine A91 fun x H t g=>?_;have eq:=EqA.run (n:=n) (w:=n) M n (aE n);have z:=(Q6 M n n).2;have c:∀k,k<(ecE M n n).cs.length->(ecE M n n).cs.getD k 0<n:=fun k C=>eq.lt _ (O0 C);have q:=A53 M n;obtain⟨B,E,O,_⟩:=eq.elim;obtain⟨T,y⟩:=eq.comb;change Elim n n B (ecE M n n).R (fun m=>(ecE M n n).cs.getD m 0) (ecE M n n).cs.length at E;change ∀i j,i<n->j<n->(ecE M n n).R i j=sm n fun l=>T i l*M l j at y;generalize ecE M n n=s at *;have f:∀j,j<n->sm s.cs.length (fun b=>M j (s.cs.getD b 0)*x b)=0:=fun j A=>by{have L:∀b,b<s.cs.length->M j (s.cs.getD b 0)=sm s.cs.length fun m=>M (s.cs.getD b 0) (s.cs.getD m 0)*s.R m j:=fun b d=>by{rw[hs j _ A (c b d)];exact q _ (c b d) j A};have F:(sm s.cs.length fun b=>M j (s.cs.getD b 0)*x b)=sm s.cs.length fun b=>sm s.cs.length fun m=>s.R m j*(M (s.cs.getD m 0) (s.cs.getD b 0)*x b):=C5 fun b d=>by{rw[L b d,<- R4];exact C5 fun m r=>by rw[hs _ _ (c b d) (c m r)];grind};rw[F,V5];refine K7 fun m r=>?_;rw[J3];have:=H m r;have N:(sm s.cs.length fun t=>mtx (C3e M s.cs) s.cs.length m t*x t)=sm s.cs.length fun b=>M (s.cs.getD m 0) (s.cs.getD b 0)*x b:=C5 fun b d=>by{rw[A6z M s.cs d]};rw[N]at this;rw[this,bH]};have u:(sm s.cs.length fun b=>s.R t (s.cs.getD b 0)*x b)=0:=by{have D:(sm s.cs.length fun b=>s.R t (s.cs.getD b 0)*x b)=sm s.cs.length fun b=>sm n fun l=>T t l*(M l (s.cs.getD b 0)*x b):=C5 fun b d=>by{rw[y t _ o (c b d),<- R4];exact C5 fun l _=>by grind};rw[D,V5];refine K7 fun l G=>?_;rw[J3,f l G,bH]};rw[N6 g fun b d p=>by rw[E.piv t b g d,iN fun e=>p e.symm,dH],E.piv t t g g,iP rfl,Rat.one_mul]at u;exact u
end Go.Proofs.YtkfhdoblhajcbaaGreatDoor
namespace Go.Proofs.YtkfhdoblhajcbaaGreatDoor
set_option maxRecDepth 20000
structure LUS where
 R:Nat->Nat->Rat
 L:Nat->Nat->Rat
 p:Nat->Nat
def C0m(n c:Nat)(s:LUS):Nat:=fnd (fun i=>decide (s.R i c≠0)) (n-c) c
def C3r(R:Nat->Nat->Rat)(c:Nat):Nat->Nat->Rat:=fun i j=>if i<=c\/j<c then R i j else R i j-R i c/R c c*R c j
def C3t(R L:Nat->Nat->Rat)(c:Nat):Nat->Nat->Rat:=fun i j=>if j=c then(if i=c then 1 else if c<i then R i c/R c c else 0)else L i j
def C3s(n c:Nat)(s:LUS):LUS:=
 { R:=C3r (fun i=>s.R (xch c (C0m n c s) i)) c
   L:=C3t (fun i=>s.R (xch c (C0m n c s) i)) (fun i=>s.L (xch c (C0m n c s) i)) c
   p:=fun i=>s.p (xch c (C0m n c s) i) }
def C3v(n:Nat)(M:Nat->Nat->Rat):Nat->LUS
 |0=>⟨M,fun _ _=>0,fun i=>i⟩
 |c+1=>C3s n c (C3v n M c)
structure LuI (n c m:Nat) (M:Nat->Nat->Rat) (s:LUS):Prop where
 zero:∀ i j,i<n->c<=i->j<c->s.R i j=0
 lz:∀ i j,c<=j->s.L i j=0
 szR:∀ i j,i<n->j<n->Sz (7^c*m) (s.R i j)
 szL:∀ i j,i<n->j<n->Sz (7^c*m) (s.L i j)
 len:(Pd n ⟨M,[],1⟩ c).cs.length=c
 sync:∀ i j,i<n->c<=i->(Pd n ⟨M,[],1⟩ c).R i j=s.R i j
def inM(bo:Nat)(rb:Nat->Nat)(n x:Nat):Prop:=x=bo\/∃i,i<n/\x=rb i
structure Lu3 (h g o:aH) (bu:Nat) (ru:Nat->Nat) (bl:Nat) (rl:Nat->Nat) (bp n:Nat) (U L:Nat->Nat->Rat) (p:Nat->Nat):Prop where
 u:Mt h g o bu ru n n U
 l:Mt h g o bl rl n n L
 p:∃ ps:List Int,RowB o bp ps/\ps.length=n/\∀ i,i<n->ps[i]? = some ((p i:Nat):Int)
 ul:∀ x,inM bu ru n x->¬ inM bl rl n x
 pu:¬ inM bu ru n bp
 pl:¬ inM bl rl n bp
section
variable {h g o:aH} {bu bl bp n:Nat} {ru rl:Nat->Nat} {U L:Nat->Nat->Rat} {p:Nat->Nat}
end
structure LOut where
 d:Int
 n:Nat
 q:Nat
 p:Nat->Nat
 l:Nat->List UInt8
 u:Nat->List UInt8
 e:Int
section
variable {h:aH} {K:VP} {A:Option aL} {n cap m:Nat} {r c:Int} {la:Nat->List UInt8}
end
def QM(g o:aH)(b n:Nat)(L:Nat->Nat->Rat):Prop:=∃xs:List QV,RowX o b xs/\xs.length=n*n/\∀i j,i<n->j<n->∃w,xs[i*n+j]? = some w/\RQ g w (L i j)
def inT(T:Tb)(x:Nat):Prop:=x=T.bt\/x=T.bE\/x=T.bS
section
variable {g o:aH} {b n:Nat} {L:Nat->Nat->Rat}
end
structure LuT (h g o:aH) (T:Tb) (M:Nat->Nat->Int) (S:Nat->Rat) (bp bl bu n:Nat) (p:Nat->Nat) (L U:Nat->Nat->Rat):Prop where
 t:Tab h g o T M S
 p:∃ ps:List Int,RowB o bp ps/\ps.length=n/\∀ i,i<n->ps[i]? = some ((p i:Nat):Int)
 l:QM g o bl n L
 u:QM g o bu n U
 tp:¬ inT T bp
 tl:¬ inT T bl
 tu:¬ inT T bu
 pl:bp≠bl
 pu:bp≠bu
 lu:bl≠bu
section
variable {h g o:aH} {T:Tb} {M:Nat->Nat->Int} {S:Nat->Rat} {bp bl bu n:Nat} {p:Nat->Nat} {L U:Nat->Nat->Rat}
end
def fr1{l s r:Rat}(hl:l≠0)(hs:s≠0):l*(s*r)/l/s=r:=by have c:=bU _ hl;have d:=bU _ hs;rw[cJ,cJ];grind
def fr2{l si ri sk rk:Rat}(hl:l≠0)(hi:si≠0)(hk:sk≠0):l*(si*ri)/(l*(sk*rk))*sk/si=ri/rk:=by have c:=bU _ hl;have d:=bU _ hi;have e:=bU _ hk;rw[cJ,cJ,cJ,Rat.inv_mul_rev,Rat.inv_mul_rev];grind
structure LuF (E:Nat->Rat) (n k m:Nat):Prop where
 row:Tj n k (elP E n n k)=C0m n k (C3v n (mtx E n) k)
 val:∀ i j,i<n->k<=i->j<n->((elP E n n k).M i j:Rat)=(elP E n n k).last*((elP E n n k).S i*(C3v n (mtx E n) k).R i j)
 last:(elP E n n k).last≠0
 S:∀ i,i<n->(elP E n n k).S i≠0
 len:(elP E n n k).cs.length=k
 zM:∀ a b,a<n->b<n->ZB (3^k*bnd n m) ((elP E n n k).M a b)
 zl:ZB (3^k*bnd n m) (elP E n n k).last
 zS:∀ a,a<n->Sz (bnd n m) ((elP E n n k).S a)
section
variable {h:aH} {K:VP} {A:Option aL} {n cap m:Nat} {r c:Int} {la:Nat->List UInt8}
end
section
variable {h:aH} {K:VP} {A B:Option aL} {n n2 cap cap2 m:Nat} {r c r2 c2:Int} {la lb:Nat->List UInt8}
end
section
variable {r c r2 c2:Int} {n n2 m rows mid mid2 cols:Nat} {la lb:Nat->List UInt8} {o:MOut}
end
section
variable {h g o:aH} {wA B:Option aL} {wc be m d:Nat} {hd:List HV} {xs ys:List QV}
def Sep.free(s:Sep h g o){b:Nat}(hb:h b=none):g b=none:=by
 cases hx:g b with
 |none=>rfl
 |some y=>rw[s.le _ _ hx]at hb;cases hb
def W6{α:Type}[E:Enc α]{e:bG}{A:Option aL}{c:Nat}{zs:List α}(s:Sep h g o)(w:aY o e A c zs)(hb:h be=none):A≠some ⟨be,0,none⟩:=by rcases w.2 with⟨_,j⟩|⟨b,i,f,d,_⟩;{grind};·rw[f];intro e;simp only[Option.some.injEq,Addr.mk.injEq,and_true]at e;subst e;rw[s.own _ _ d]at hb;cases hb
def A8x{u:QV}{v:aR}(hv:v.cells=(enc u).toArray){K:VP}(x:∀b,h b=none->K (.slice (some ⟨b,0,none⟩) 1 1) (h.put b (.cells ([u].flatMap enc).toArray 37))):wpH prog (aU 27 1 #[(0,v)]) K h:=by refine T7 V4 (vs:=[v]) (fun w c=>by rw[List.mem_singleton.1 c,hv];rfl) rfl (by simp) rfl ?_;grind
def Gn(s:Sep h g o)(hb:o be=some (.cells #[] 37))(ow:aY o 27 wA wc hd)(hne:wA≠some ⟨be,0,none⟩)(sx:SlF h B xs)(hx:xs≠[])(hm:m=xs.length)(hl:xs.length<=10000){K:VP} (x:∀A2 c2 h2 g2 o2,g.le g2->Sep h2 g2 o2->aY o2 37 A2 c2 xs->aY o2 27 wA wc hd->(∀b,wA=some ⟨b,0,none⟩->A2≠wA)->K (.slice A2 m c2) h2):wpH prog (aX #[27,27] 27 #[.slice (some ⟨be,0,none⟩) 0 0,.slice B m d]) K h:=by have q:aY o 37 (some ⟨be,0,none⟩) 0 ([]:List QV):=⟨aE _,.inr ⟨be,[],rfl,hb,by simp,rfl⟩⟩;refine OwnSl.app (ty:=27) V4 s q (n:=0) rfl hm hx sx gz0 gz0 ?_;intro A2 c2 h2 g2 o2 p k c i;have l:∀b y,wA=some ⟨b,0,none⟩->o b=some y->o2 b=some y/\A2≠some ⟨b,0,none⟩:=fun b y e f=>i b y f (fun z=>hne gz0);have:=x A2 c2 h2 g2 o2 p k c (ow.keep fun b y e f=>(l b y e f).1) (fun b e=>by rcases ow.2 with⟨_,u⟩|⟨t,r,w,j,_⟩;{grind};grind);grind
def Gm{A2:Option aL}{c2 n1 wn:Nat}(s:Sep h g o)(ow2:aY o 37 A2 c2 xs)(ow:aY o 27 wA wc hd)(ha:∀b,wA=some ⟨b,0,none⟩->A2≠wA)(sy:SlF h B ys)(hy:ys≠[])(hn1:n1=xs.length)(hm:m=ys.length)(hwn:wn=hd.length)(hl:xs.length<=10000)(hl2:ys.length<=10000)(hl3:hd.length<=10000){K:Option aL->Nat->Nat->aH->Prop} (x:∀A3 c3 A9 c9 h9 g9 o9,g.le g9->Sep h9 g9 o9->xs.length+ys.length<=c3->SlF g9 A3 (xs++ys)->aY o9 27 A9 c9 (hd++[(⟨A3,xs.length+ys.length,c3⟩:HV)])->K A9 (hd.length+1) c9 h9): wpH prog (aX #[27,27] 27 #[.slice A2 n1 c2,.slice B m d]) (fun v3 hp4=>∃(a:Option aL) (b c:Nat),v3= .slice a b c/\wpH prog (aU 26 1 #[(0,.slice a b c)]) (fun v4 hp5=>∃(a2:Option aL) (b2 c2:Nat),v4= .slice a2 b2 c2/\Heap.le hp4 hp5/\wpH prog (aX #[26,26] 26 #[.slice wA wn wc,.slice a2 b2 c2]) (fun v5 hp6=>∃(a3:Option aL) (b3 c3:Nat),v5= .slice a3 b3 c3/\K a3 b3 c3 hp6) hp5) hp4) h:=by subst hwn;refine OwnSl.app (ty:=27) V4 s ow2 hn1 hm hy sy oo oo ?_;intro A3 c3 H W k F A j D;have N:∀b y,wA=some ⟨b,0,none⟩->o b=some y->k b=some y/\A3≠some ⟨b,0,none⟩:=fun b y e hy=>D b y hy (fun V=>ha b e gz0);have r:aY k 27 wA wc hd:=ow.keep fun b y e hy=>(N b y e hy).1;have n:∀b,wA=some ⟨b,0,none⟩->A3≠wA:=fun b e=>by{rcases ow.2 with⟨_,R⟩|⟨Q,L,T,M,_⟩;{grind};grind};obtain⟨q,G,w⟩:=A.give (A2a k wA);have sl:SlF q A3 (xs++ys):=by{obtain⟨b3,rfl,C,i,u⟩:=j.rowB (by simp[hy]);have p:Uc k wA b3=none:=Ub k (fun e=>n b3 e e.symm);have l:q b3=some (.cells ((xs++ys).flatMap enc++i).toArray C):=by{rw[<- w.rest b3 p];exact A.own _ _ u};exact RowB.slF (o:=q) ⟨C,i,l⟩ (B7 _)};have f:=j.1;rw[List.length_append]at f;rw[hm];refine⟨_,_,_,rfl,?_⟩;refine OwnSl.push (ty:=26) B65 w r.only (y:=(⟨A3,xs.length+ys.length,c3⟩:HV)) (K1:=fun hp5=>Heap.le H hp5) rfl dc oo oo (fun S O=>O) ?_;intro A9 c9 h9 g9 o9 z E t _;exact x A3 c3 A9 c9 h9 g9 o9 (B0 F (B0 G z)) E f (sl.mono z) t
end
def B3n(k:Nat):Nat->Nat->Rat:=fun a b=>if a=b/\a<k then 1 else 0
section
variable {h:aH} {K:VP} {A B:Option aL} {n cap m:Nat} {r c:Int} {la:Nat->List UInt8} {E:Nat->Rat}
def Jt(hn:n<=10000) (hK:∀bo h',h.le h'->RowsV h' (some ⟨bo,0,none⟩) n n (fun a b=>if a=b then 1 else 0)->K (.slice (some ⟨bo,0,none⟩) n n) h'):aN prog 128 #[I (n:Int)] h K:=by refine(fnk func128 [(3,[4],[],[I 0])]) ?_;refine T9 hn hn ?_;intro F u s bo y A t1;refine⟨_,_,_,rfl,fun L d=>∃(k:Nat) (g o:aH),k<=n/\L=[I (k:Int)]/\h.le g/\Mt d g o bo y n n (B3n k),fun L _=>n-(iAt L 0).toNat,⟨0,u,s,oo,rfl,A,t1.congr fun a b _ _=>by unfold B3n;grind⟩,?_⟩;rintro z d ⟨k,g,o,E,H,f,t⟩;obtain rfl:z=(k:Int):=gz0;refine C1 (fun l=>?_) (fun j=>?_);{have c:k<n:=oo;obtain⟨C,m,w⟩:=t.head c;refine⟨_,rfl,oo,oo,_,_,_,t.sep.cell w,?_⟩;refine t.sep.call (Ao ⟨oo,oo⟩ ?_);intro D r e q G i;refine⟨_,_,_,_,_,_,_,_,rfl,t.sep.le_le i e,_,rfl,oo,oo,?_⟩;refine(t.next i e).store c c q ?_;intro M B p _;rw[wiS k oo];refine⟨⟨k+1,r,B,oo,rfl,B0 f e,p.congr fun a b _ _=>?_⟩,by simp only[O8];omega⟩;unfold A9o B3n;grind};·exact hK bo d (B0 f t.sep.le) ((t.rowsV).congr fun a b N _=>by unfold B3n;grind)
def A2x(rs:RowsV h A n n (mtx E n))(hn1:1<=n)(hn:n<=1000)(hm1:1<=m)(hs:∀i,i<n*n->Sz m (E i))(hm:7^n*m<=100000000) (hK1:Ib E n->∀A' c' h',h.le h'->RowsV h' A' n n (Qe E n)->K (.tuple #[.slice A' n c',.bool true]) h') (hK0:¬Ib E n->∀h',h.le h'->K (.tuple #[.slice none 0 0,.bool false]) h'):aN prog 77 #[.slice A n cap] h K:=by refine(fnk func77 [(5,[6,7],[],[.slice none 0 0,I 0]),(13,[11,12],[],[.slice none 0 0,I 0])] (os:=[(7,[0,2,3,4,5,7,8,9,10,1,6,11,12,13,14])]) (al:=[(7,[(10,[1,6])])]) (own:=[10]) (wr:=[1000000000])) ?_;refine Jt oo ?_;intro bu h0 l0 ru;refine⟨_,_,_,rfl,?_⟩;have wM:∀k,k<n->∀j,j<n+n->mtx (O3 E n) (n+n) k j=if j<n then mtx E n k j else if j=n+k then 1 else 0:=fun k _ j hj=>Gb E hj;refine⟨fun L hp=>∃(k:Nat) (g o:aH) (u:List HV) (A':Option aL) (c':Nat),k<=n/\L=[.slice A' k c',I (k:Int)]/\h0.le g/\Sep hp g o/\aY o 27 A' c' u/\u.length=k/\Row (RWr (n+n)) g u k (mtx (O3 E n) (n+n)),fun L _=>n-(iAt L 1).toNat,⟨0,h0,Y9,[],none,0,oo,rfl,B7 _,Sep.refl h0,OwnSl.nil,rfl,Row.nil⟩,?_⟩;rintro wA d wc z hp ⟨k,g,o,u,A',c',hk,eL,O,s,ow,N,rr⟩;obtain⟨⟨rfl,rfl,rfl⟩,rfl⟩:=eL;refine C1 (fun ak=>?_) (fun ay=>?_);{have F:d<n:=oo;obtain⟨a1,s1,ae,f1,f2,ai,xs,sx,au,qx⟩:=(RowsV.mono l0 rs).at F;obtain⟨a2,s2,av,f3,f4,af,ys,sy,a5,qy⟩:=ru.at F;have V:xs≠[]:=gz0;have R:ys≠[]:=gz0;have done:∀{A3:Option aL} {c3:Nat} {A9:Option aL} {c9:Nat} {h9 Q o9:aH},g.le Q->Sep h9 Q o9->xs.length+ys.length<=c3->SlF Q A3 (xs++ys)->aY o9 27 A9 c9 (u++[(⟨A3,xs.length+ys.length,c3⟩:HV)])-> ((∃(k:Nat) (g o:aH) (hd':List HV) (A':Option aL) (c':Nat),k<=n/\[cX A9 (u.length+1) c9,I (C4 ((d:Int)+1))]=[.slice A' k c',I (k:Int)]/\h0.le g/\Sep h9 g o/\aY o 27 A' c' hd'/\hd'.length=k/\Row (RWr (n+n)) g hd' k (mtx (O3 E n) (n+n)))/\n-(iAt [cX A9 (u.length+1) c9,I (C4 ((d:Int)+1))] 1).toNat<n-(iAt [cX wA d wc,I (d:Int)] 1).toNat):=by{intro A3 c3 A9 c9 h9 Q o9 D s9 M sl p;rw[N,wiS d oo];refine⟨⟨d+1,Q,o9,_,A9,c9,oo,rfl,B0 O D,s9,p,gz0,?_⟩,?_⟩;{have rA:Row (RWr (n+n)) Q u u.length (mtx (O3 E n) (n+n)):=by{rw[N];exact rr.mono (Nz (n+n)) D};have rB:=rA.push (w:=(⟨A3,xs.length+ys.length,c3⟩:HV)) (by refine⟨gz0,gz0,xs++ys,sl,gz0,?_⟩;refine Row.app au ((qx.mono F0 (B0 O D)).congr fun j hj=>gz0) ((qy.mono F0 (B0 O D)).congr fun j hj=>?_);grind);grind};·show n-((d+1:Nat):Int).toNat<n-(d:Int).toNat;omega};have X:h0.le hp:=B0 O s.le;have H:xs.length<=10000:=oo;have ah:ys.length<=10000:=oo;have ag:u.length<=10000:=oo;refine⟨a1,ae,oo,oo,_,_,_,C0 X ai,a2,av,oo,oo,?_,?_⟩;{refine⟨_,_,_,C0 X af,Da V4 ?_⟩;intro be B;have G:=W6 s ow B;have ac:aY (o.put be (.cells #[] 37)) 27 wA wc u:=ow.keep fun b y e hy=>by{rw[B9 _ _ (fun e2=>G gz0)];exact hy};have C:=s.new B (.cells #[] 37);refine⟨_,_,_,rfl,Heap.le_put _ B,?_⟩;refine Gn C (C3 _ _ _) ac G (sx.mono (B0 O C.le)) V oo H ?_;intro A2 c2 h2 g2 o2 T f S W ha;exact⟨_,_,_,rfl,Gm f S W ha (sy.mono (B0 O (B0 T f.le))) R oo oo N.symm H ah ag fun A3 c3 A9 c9 h9 Q o9 D s9 M sl p=>done (B0 T D) s9 M sl p⟩};·refine Da V4 ?_;intro be B;have G:=W6 s ow B;have ac:aY (o.put be (.cells #[] 37)) 27 wA wc u:=ow.keep fun b y e hy=>by{rw[B9 _ _ (fun e2=>G gz0)];exact hy};have C:=s.new B (.cells #[] 37);refine⟨_,_,_,rfl,Heap.le_put _ B,?_,?_⟩;{refine⟨_,_,_,C0 (B0 X (Heap.le_put _ B)) af,?_⟩;refine Gn C (C3 _ _ _) ac G (sx.mono (B0 O C.le)) V oo H ?_;intro A2 c2 h2 g2 o2 T f S W ha;exact⟨_,_,_,rfl,Gm f S W ha (sy.mono (B0 O (B0 T f.le))) R oo oo N.symm H ah ag fun A3 c3 A9 c9 h9 Q o9 D s9 M sl p=>done (B0 T D) s9 M sl p⟩};·refine Gn C (C3 _ _ _) ac G (sx.mono (B0 O C.le)) V oo H ?_;intro A2 c2 h2 g2 o2 T f S W ha;exact⟨_,_,_,rfl,_,_,_,C0 (B0 O (B0 T f.le)) af,Gm f S W ha (sy.mono (B0 O (B0 T f.le))) R oo oo N.symm H ah ag fun A3 c3 A9 c9 h9 Q o9 D s9 M sl p=>done (B0 T D) s9 M sl p⟩};have F:d=n:=oo;subst F;have ao:RowsV hp wA d (d+d) (mtx (O3 E d) (d+d)):=RowsV.of ⟨u,ow.slF s.ole,N,rr.mono (Nz (d+d)) s.le⟩;have ax:=A74 (Yt hm1 hs);have X:h.le hp:=B0 l0 (B0 O s.le);refine Ok (m:=m) ao hn1 oo oo oo oo hm1 ax hm ?_;intro h2 g2 o2 bo a6 c2 A2 aw wd T t a4 ap iq;refine⟨_,_,_,_,_,_,_,_,_,_,_,_,_,_,rfl,?_⟩;have a0:(ecE (mtx (O3 E d) (d+d)) d d).cs.length<=d:=(Q6 _ d d).1;have ar:Ib E d↔(ecE (mtx (O3 E d) (d+d)) d d).cs.length=d:=Iff.rfl;have aq:=t.rowsV;have lh:=B0 X (B0 T t.sep.le);refine C1 (fun ak=>hK0 (fun hx=>gz0) _ lh) (fun ay=>?_);have az:=hK1 (ar.2 oo);refine⟨fun L hp=>∃(k:Nat) (g o:aH) (u:List HV) (A':Option aL) (c':Nat),k<=d/\L=[.slice A' k c',I (k:Int)]/\h2.le g/\Sep hp g o/\aY o 27 A' c' u/\u.length=k/\Row (RWr d) g u k (Qe E d),fun L _=>d-(iAt L 1).toNat,⟨0,h2,Y9,[],none,0,oo,rfl,B7 _,Sep.refl h2,OwnSl.nil,rfl,Row.nil⟩,?_⟩;rintro vA vn vc z q ⟨k,g5,o5,ad,A',c',hk,eL,aa,s5,aj,r,an⟩;obtain⟨⟨rfl,rfl,rfl⟩,rfl⟩:=eL;refine C1 (fun ak=>?_) (fun a3=>?_);{have F:vn<d:=oo;obtain⟨a1,s1,ae,f1,f2,ai,am⟩:=aq.at F;refine⟨a1,ae,oo,oo,_,_,_,C0 (B0 aa s5.le) ai,⟨oo,oo⟩,?_⟩;simp only[aD];rw[f1];have ep:d+d-d=d:=oo;rw[ep];have cut:aT NQr h2 (V3 s1.A s1.c d 4) d (Qe E d vn):=by{obtain⟨xs,sx,hx,rx⟩:=am;refine⟨(xs.drop d).take (d+d-d),sx.cut (l:=d) (m:=d+d) oo oo oo,gz0,fun i hi=>?_⟩;obtain⟨w,e1,hw⟩:=rx (d+i) oo;exact⟨w,gz0,hw⟩};refine J0 (ty:=26) B65 s5 aj r.symm (y:=(⟨V3 s1.A s1.c d 4,d,s1.c-d⟩:HV)) rfl dc oo oo ?_;intro A9 c9 h9 Q o9 D s9 p _;rw[r,wiS vn oo];refine⟨⟨vn+1,Q,o9,_,A9,c9,oo,rfl,B0 aa D,s9,p,gz0,?_⟩,?_⟩;{have rA:Row (RWr d) Q ad ad.length (Qe E d):=by{rw[r];exact an.mono (Nz d) D};have rB:=rA.push (w:=(⟨V3 s1.A s1.c d 4,d,s1.c-d⟩:HV)) (by rw[r];exact⟨rfl,gz0,cut.mono F0 (B0 aa D)⟩);grind};·show d-((vn+1:Nat):Int).toNat<d-(vn:Int).toNat;omega};·have:vn=d:=oo;subst this;exact az vA vc q (B0 lh (B0 aa s5.le)) (RowsV.of ⟨ad,aj.slF s5.ole,r,an.mono (Nz vn) s5.le⟩)
end
def B5m{cs:List Nat}{n:Nat}(h:Asc cs n)(hl:cs.length=n){m:Nat}(hm:m<n):cs.getD m 0=m:=by
 have step:∀c,Md cs (c+1)<=Md cs c+1:=fun c=>by
  show(if c∈cs then Md cs c+1 else Md cs c)<=_;split<;>omega
 have grow:∀c j,Md cs (c+j)<=Md cs c+j:=by
  intro c j
  induction j with
  |zero=>exact aE _
  |succ j ih=>have:=step (c+j);rw[<- cN];omega
 have g:=A6y h
 have eq:∀c,c<=n->Md cs c=c:=fun c q=>by
  have i:=Xz cs c;have l:=grow c (n-c);rw[show c+(n-c)=n from o,g,hl]at l;omega
 have f:m∈cs:=by
  refine dE fun d=>?_;have i:=B4o d;rw[eq m o,eq (m+1) o]at i;omega
 obtain⟨p,e⟩:=(B8v h.asc m).1 f;have k:=eq m o;rw[dB,bL o];simp only[k]at e;exact e
def A5f{E:Nat->Rat}{n:Nat}(h:Ib E n){i j:Nat}(hi:i<n)(hj:j<n):sm n (fun t=>mtx E n i t*Qe E n t j)=if i=j then 1 else 0:=by have eq:=EqA.run (n:=n) (w:=n+n) (mtx (O3 E n) (n+n)) n o;have f:=Dl n ⟨mtx (O3 E n) (n+n),[],1⟩ rfl n;have c:(Pd n ⟨mtx (O3 E n) (n+n),[],1⟩ n).cs.length=n:=h;have l:∀a b,b<n->mtx (O3 E n) (n+n) a b=mtx E n a b:=fun a b q=>by{show O3 E n (a*(n+n)+b)=_;rw[Gb E o,iP q];rfl};have g:mtx (O3 E n) (n+n) i (n+j)=if i=j then 1 else 0:=by{show O3 E n (i*(n+n)+(n+j))=_;rw[Gb E o,iN (show ¬n+j<n from o)];by_cases e:i=j;{rw[iP e,iP o]};·rw[iN e,iN o]};obtain⟨B,El,p,_⟩:=eq.elim;obtain⟨m,d,e⟩:=p i hi;have top:=El.top m (n+j) (by rw[c];exact d) o;rw[c,e,g]at top;rw[top];refine C5 fun t k=>?_;rw[B5m f c k,e,l i t k];rfl
def A7d{E:Nat->Rat}{n m:Nat}(hm:1<=m)(hs:∀i,i<n*n->Sz m (E i))(h:Ib E n):∀i j,i<n->j<n->Sz (3^n*bnd (n+n) m) (Qe E n i j):=by intro i j e g;have f:=A33 (E:=O3 E n) (rows:=n) (cols:=n+n) (c:=n) (Yt hm hs) o;have d:=A0d (O3 E n) n (n+n) n (bnd (n+n) m);have k:(elE (O3 E n) n (n+n) n).cs.length=n:=h;have ev:=A7l (O3 E n) (rows:=n) (cols:=n+n) (c:=n) o e (show n+j<n+n from o) (.inl o);show Sz _ ((elE (O3 E n) n (n+n) n).R i (n+j));rw[<- ev];exact(U3 (A5n _ _ _ _) (f.M i (n+j) e o) f.last).mono d
def rsq(q:Rat):0<=q*q:=by rcases Rat.le_total (a:=0) (b:=q)with h|h;{exact cI h h};·have:=cI (a:=-q) (b:=-q) gz0 gz0;grind
def gM(s:Nat)(u:Nat->Rat)(W:Nat->Nat->Rat):Nat->Nat->Rat:=fun i j=>sm s fun l=>u l*(W l i*W l j)
def A2r{s n:Nat}{u:Nat->Rat}(hu:∀l,l<s->0<=u l){A:Nat->Nat->Rat}{k:Nat}(f:Nat->Nat->Rat)(hk:k<n)(hA:∀i j,i<n->j<n->A i j=gM s u f i j): (0<=A k k/\(A k k=0->∀i,i<n->A i k=0/\A k i=0))/\(A k k≠0->∀i j,i<n->j<n->A i j-A i k*(A k j/A k k)=gM s u (fun l i=>f l i-A i k/A k k*f l k) i j):=by have g:∀l,l<s->0<=u l*(f l k*f l k):=fun l c=>cI (hu l c) (rsq _);refine⟨⟨by rw[hA k k hk hk];exact A1n g,fun h i m=>?_⟩,fun h i j m p=>?_⟩;{have r:=Ed g (by have:=hA k k hk hk;unfold gM at this;rw[<- this,h];exact Rat.le_refl);have d:∀l,l<s->u l*f l k=0:=fun l c=>by{have:=r l c;grind};exact⟨by rw[hA i k m hk];exact K7 fun l c=>by have:=d l c;grind,by rw[hA k i hk m];exact K7 fun l c=>by have:=d l c;grind⟩};·have e:gM s u (fun l i=>f l i-A i k/A k k*f l k) i j=gM s u f i j+(- (A j k/A k k))*gM s u f i k+(- (A i k/A k k))*gM s u f k j+(A i k/A k k*(A j k/A k k))*gM s u f k k:=by{unfold gM;rw[<- J3,<- J3,<- J3,<- Y7,<- Y7,<- Y7];exact C5 fun l _=>by grind};have q:A k j=A j k:=by{rw[hA k j hk p,hA j k p hk];exact C5 fun l _=>by grind};rw[e,<- hA i j m p,<- hA i k m hk,<- hA k j hk p,<- hA k k hk hk,q];grind
def B92{s n:Nat}{u:Nat->Rat}(hu:∀l,l<s->0<=u l){A:Nat->Nat->Rat}(f:Nat->Nat->Rat)(hA:∀i j,i<n->j<n->A i j=gM s u f i j):∀k,k<n->Jv A n k:=by
 have inv:∀k,k<=n->∃f,∀i j,i<n->j<n->ldA A k i j=gM s u f i j:=by
  intro k
  induction k with
  |zero=>exact fun _=>⟨f,hA⟩
  |succ k ih=>
   intro m;obtain⟨f,d⟩:=ih o;have e:=A2r hu f (show k<n from o) d;by_cases h:ldA A k k k=0;·exact⟨f,fun i j c g=>by show(if ldA A k k k=0 then _ else _)=_;rw[iP h];exact d i j c g⟩
   ·exact⟨_,fun i j c g=>by show(if ldA A k k k=0 then _ else _)=_;rw[iN h];exact e.2 h i j c g⟩
 intro k m;obtain⟨f,d⟩:=inv k o;have e:=A2r hu f m d;exact⟨e.1.1,fun h i _ c=>(e.1.2 h i c).1⟩
def In{s r:Nat}(h:s<r)(A:Nat->Nat->Rat):∃x:Nat->Rat,(∃t,t<r/\x t≠0)/\∀i,i<s->sm r (fun t=>A i t*x t)=0:=by have g:=(Q6 A s r).2;have c:Asc (ecE A s r).cs r:=Dl s ⟨A,[],1⟩ rfl r;have f:0<(Lp (ecE A s r).cs r).length:=by{rw[Ut c];omega};obtain⟨d,e⟩:=Oj (ecE A s r).cs r _ (O0 f);refine⟨B8z (ecE A s r).R (ecE A s r).cs r 0,⟨_,d,?_⟩,fun i j=>A03 (M:=A) (n:=s) (w:=r) f j⟩;unfold B8z;rw[Zo e _ (aE _)];decide
def A5g{E:Nat->Rat}{n:Nat}(h:Ib E n)(hs:A0z n (mtx E n)){x:Nat->Rat}(hx:∀i,i<n->sm n (fun t=>mtx E n i t*x t)=0):∀t,t<n->x t=0:=fun t c=>by have e:sm n (fun i=>Qe E n i t*sm n (fun j=>mtx E n i j*x j))=0:=K7 fun i k=>by{rw[hx i k,bH]};have l:sm n (fun i=>Qe E n i t*sm n (fun j=>mtx E n i j*x j))=sm n (fun j=>x j*sm n (fun i=>mtx E n j i*Qe E n i t)):=by{rw[C5 (g:=fun i=>sm n fun j=>x j*(mtx E n j i*Qe E n i t)) fun i k=>by rw[<- J3];exact C5 fun j d=>by rw[hs i j k d];grind];rw[V5];exact C5 fun j _=>J3 _ _ _};rw[l,N6 c fun j d f=>by rw[A5f h d c,iN f,bH],A5f h c c,iP rfl,Rat.mul_one]at e;exact e
section
variable {s n:Nat} {u:Nat->Rat} {W:Nat->Nat->Rat}
def A5j(s n:Nat)(u:Nat->Rat)(W:Nat->Nat->Rat):A0z n (gM s u W):=fun i j _ _=>C5 fun l _=>by rw[dJ (W l i)]
def C2i(hu:∀l,l<s->0<u l){x:Nat->Rat}(hx:∀i,i<n->sm n (fun j=>gM s u W i j*x j)=0):∀l,l<s->sm n (fun j=>W l j*x j)=0:=by have e:sm n (fun i=>x i*sm n (fun j=>gM s u W i j*x j))=0:=K7 fun i k=>by{rw[hx i k,bH]};have c:∀i,sm n (fun j=>gM s u W i j*x j)=sm s (fun l=>u l*W l i*sm n (fun j=>W l j*x j)):=fun i=>by{rw[C5 (g:=fun j=>sm s fun l=>u l*W l i*(W l j*x j)) fun j _=>by unfold gM;rw[<- R4];exact C5 fun l _=>gz0];rw[V5];exact C5 fun l _=>J3 _ _ _};have m:sm n (fun i=>x i*sm n (fun j=>gM s u W i j*x j))=sm s (fun l=>u l*(sm n (fun j=>W l j*x j)*sm n (fun j=>W l j*x j))):=by{rw[C5 (g:=fun i=>sm s fun l=>u l*sm n (fun j=>W l j*x j)*(W l i*x i)) fun i _=>by rw[c,<- J3];exact C5 fun l _=>gz0];rw[V5];exact C5 fun l _=>by rw[J3];grind};rw[m]at e;have f:∀l,l<s->0<=u l*(sm n (fun j=>W l j*x j)*sm n (fun j=>W l j*x j)):=fun l d=>cI (Rat.le_of_lt (hu l d)) (rsq _);intro l d;have:=Ed f (by rw[e];exact Rat.le_refl) l d;have:=hu l d;grind
end
structure Ptw (s n:Nat) (u:Nat->Rat) (W:Nat->Nat->Rat):Prop where
 pos:∀ l,l<s->0<u l
 ex:∃ q:Nat->Nat->Rat,∀ l k,l<s->k<s->sm n (fun i=>W l i*q k i)=if l=k then 1 else 0
section
variable {s n:Nat} {u:Nat->Rat} {W:Nat->Nat->Rat}
def A06(u:Nat->Rat)(W:Nat->Nat->Rat)(cs:List Nat){a b:Nat}(hb:b<cs.length):mtx (C3e (gM s u W) cs) cs.length a b=gM s u (fun l t=>W l (cs.getD t 0)) a b:=A6z _ _ hb
def Ptw.rank(p:Ptw s n u W):(ecE (gM s u W) n n).cs.length=s:=by have inv:=B14 (A5j s n u W);have y:=A53 (gM s u W) n;have F:∀m,m<(ecE (gM s u W) n n).cs.length->(ecE (gM s u W) n n).cs.getD m 0<n:=fun m r=>(EqA.run (n:=n) (w:=n) (gM s u W) n (aE _)).lt _ (O0 r);rcases cR (ecE (gM s u W) n n).cs.length s with h|h|h;{exfalso;obtain⟨q,A⟩:=p.ex;obtain⟨z,⟨t,d,c⟩,L⟩:=In h (fun m k=>sm n fun j=>(ecE (gM s u W) n n).R m j*q k j);have ker:=C2i (x:=fun j=>sm s fun k=>q k j*z k) p.pos (n:=n) (fun i e=>by have D:sm n (fun j=>gM s u W i j*sm s fun k=>q k j*z k)=sm n fun j=>sm (ecE (gM s u W) n n).cs.length fun m=>gM s u W i ((ecE (gM s u W) n n).cs.getD m 0)*((ecE (gM s u W) n n).R m j*sm s fun k=>q k j*z k):=C5 fun j f=>by{(conv=>lhs;rw[y i e j f]);rw[<- R4];exact C5 fun m _=>by rw[dF]};rw[D,V5];refine K7 fun m r=>?_;rw[J3];have G:sm n (fun j=>(ecE (gM s u W) n n).R m j*sm s fun k=>q k j*z k)=sm s fun k=>(sm n fun j=>(ecE (gM s u W) n n).R m j*q k j)*z k:=by{rw[C5 (g:=fun j=>sm s fun k=>(ecE (gM s u W) n n).R m j*q k j*z k) fun j _=>by rw[<- J3];exact C5 fun k _=>by rw[dF]];rw[V5];exact C5 fun k _=>R4 _ _ _};rw[G,L m r,bH]) t d;have E:sm n (fun j=>W t j*sm s fun k=>q k j*z k)=z t:=by{rw[C5 (g:=fun j=>sm s fun k=>W t j*q k j*z k) fun j _=>by rw[<- J3];exact C5 fun k _=>by rw[dF]];rw[V5,N6 d fun k B c=>?_];{rw[R4,A t t d d,iP rfl,Rat.one_mul]};·rw[R4,A t k d B,iN (Ne.symm c),dH]};rw[E]at ker;exact c ker};{exact h};·exfalso;obtain⟨x,⟨t,d,c⟩,H⟩:=In h (fun l m=>W l ((ecE (gM s u W) n n).cs.getD m 0));refine c (A5g inv (fun i j e f=>?_) (x:=x) (fun i e=>?_) t d);{rw[A06 u W _ f,A06 u W _ e];exact A5j s (ecE (gM s u W) n n).cs.length u _ i j e f};·rw[C5 (g:=fun t=>sm s fun l=>u l*W l ((ecE (gM s u W) n n).cs.getD i 0)*(W l ((ecE (gM s u W) n n).cs.getD t 0)*x t)) fun t d=>by rw[A06 u W _ d];unfold gM;rw[<- R4];exact C5 fun l _=>gz0];rw[V5];exact K7 fun l C=>by rw[J3,H l C,bH]
end
section
set_option maxRecDepth 100000
variable {h:aH} {K:VP}
end
section
set_option maxRecDepth 100000
variable {h:aH} {K:VP}
end
section
set_option maxRecDepth 100000
variable {h:aH} {K:VP}
def C0d:cD prog 176 175 (.agg #[.string ({data:=#[] }:ByteArray),N0]) 2 40:=⟨by kernel_rfl,by kernel_rfl,rfl,dc⟩
def Yz:cD prog 302 361 (.agg #[I 0,I 0,I 0,I 0,I 0,I 0,.bool false,Sl none 0 0,.bool false,Sl none 0 0]) 10 112:=⟨by kernel_rfl,by kernel_rfl,rfl,dc⟩
def B0m:prog.cellsOf 244=4/\(prog.info? 244).isSome=true:=⟨by kernel_rfl,by kernel_rfl⟩
end
def Qk:List Int->Int->Int
 | [],d=>d
 |e::r,d=>if e<0\/e>24-d then -1 else Qk r (d+e)
def A0i(xs:List Int):Int:=if xs.length>6 then -1 else Qk xs 0
def K0(xs:List Int):Bool:=decide (0<=A0i xs)
def Ye{xs:List Int}{k:Nat}{d:Int}(hk:k<xs.length):Qk (xs.drop k) d=if xs.getD k 0<0\/xs.getD k 0>24-d then -1 else Qk (xs.drop (k+1)) (d+xs.getD k 0):=by rw[List.drop_eq_getElem_cons hk,Qk];simp[List.getD,hk]
def Oa{xs:List Int}{A:Option aL}{c:Nat}{h:aH}{K:VP}(s:SlI .i64 h A xs)(hK:K (I (A0i xs)) h):aN prog 211 #[.slice A xs.length c] h K:=by refine(fnk func211 [(5,[3,11],[],[I 0,I 0])]) ?_;refine C1 (fun y=>?_) (fun y=>?_);{have:xs.length>6:=o;simpa[A0i,this]using hK};·have t:¬xs.length>6:=o;refine⟨fun l r=>∃(k:Nat) (d:Int),l=[I d,I k]/\k<=xs.length/\0<=d/\d<=24/\A0i xs=Qk (xs.drop k) d/\r=h,fun l _=>xs.length-(iAt l 1).toNat,⟨0,0,rfl,o,o,o,by simp[A0i,t],rfl⟩,?_⟩;rintro e i B ⟨k,d,u,C,z,q,g,rfl⟩;obtain⟨rfl,rfl⟩:e=d/\i=(k:Int):=by{simpa using u};refine C1 (fun w=>?_) (fun w=>?_);{refine s.load rfl o o ?_;have hkl:k<xs.length:=o;rw[aD];have f:=Ye (d:=e) hkl;have p:C4 (24-e)=24-e:=C2 o o;refine C1 (fun m=>?_) (fun m=>?_);{rw[g,f,iP (.inl m)]at hK;exact hK};·rw[p];refine C1 (fun j=>?_) (fun j=>?_);{rw[g,f,iP (.inr j)]at hK;exact hK};·rw[C2 (n:=e+xs.getD k 0) o o,C2 (n:=(k:Int)+1) o o];refine⟨⟨k+1,e+xs.getD k 0,by simp,o,o,o,?_,rfl⟩,by simp only[iAt,aG,aF];omega⟩;rw[g,f,iN o]};·have:k=xs.length:=o;subst this;rw[g]at hK;simpa[Qk]using hK
def Rf{xs:List Int}{A:Option aL}{c:Nat}{h:aH}{K:VP}(s:SlI .i64 h A xs)(hK:K (I (A0i xs)) h):aN prog 180 #[.slice A xs.length c] h K:=by refine(fnk func180 [(5,[3,4],[],[I 0,I 0])]) ?_;refine C1 (fun y=>?_) (fun y=>?_);{have:xs.length>6:=o;simpa[A0i,this]using hK};·have t:¬xs.length>6:=o;refine⟨fun l r=>∃(k:Nat) (d:Int),l=[I d,I k]/\k<=xs.length/\0<=d/\d<=24/\A0i xs=Qk (xs.drop k) d/\r=h,fun l _=>xs.length-(iAt l 1).toNat,⟨0,0,rfl,o,o,o,by simp[A0i,t],rfl⟩,?_⟩;rintro e i B ⟨k,d,u,C,z,q,g,rfl⟩;obtain⟨rfl,rfl⟩:e=d/\i=(k:Int):=by{simpa using u};refine C1 (fun w=>?_) (fun w=>?_);{refine s.load rfl o o ?_;have hkl:k<xs.length:=o;rw[aD];have f:=Ye (d:=e) hkl;have p:C4 (24-e)=24-e:=C2 o o;refine C1 (fun m=>?_) (fun m=>?_);{rw[g,f,iP (.inl m)]at hK;exact hK};·refine s.load rfl o o ?_;rw[p,aD];refine C1 (fun j=>?_) (fun j=>?_);{rw[g,f,iP (.inr j)]at hK;exact hK};·refine s.load rfl o o ?_;rw[aD,C2 (n:=e+xs.getD k 0) o o,C2 (n:=(k:Int)+1) o o];refine⟨⟨k+1,e+xs.getD k 0,by simp,o,o,o,?_,rfl⟩,by simp only[iAt,aG,aF];omega⟩;rw[g,f,iN o]};·have:k=xs.length:=o;subst this;rw[g]at hK;simpa[Qk]using hK
def Dq{xs:List Int}{A:Option aL}{c:Nat}{h:aH}{K:VP}(s:SlI .i64 h A xs)(hK:K (.bool (K0 xs)) h):aN prog 259 #[.slice A xs.length c] h K:=by refine(fnk func259) ?_;exact Oa s ⟨_,rfl,by simpa[K0]using hK⟩
def Gw{xs:List Int}{A:Option aL}{c:Nat}{h:aH}{K:VP}(s:SlI .i64 h A xs)(hK:K (.bool (K0 xs)) h):aN prog 179 #[.slice A xs.length c] h K:=by refine(fnk func179) ?_;refine C1 (fun d=>?_) (fun d=>?_);{exact Rf s ⟨_,rfl,by simpa[K0]using hK⟩};·have:xs.length>6:=o;simpa[K0,A0i,this]using hK
def Gh{l:List Int}(h:∀x∈l,0<=x):0<=l.sum:=by
 induction l with
 |nil=>simp
 |cons x l ih=>have:=ih (fun y c=>h y (by simp[c]));have:=h x (by simp);simp;omega
def Gg{xs:List Int}{k:Nat}(hk:k<xs.length):(xs.take (k+1)).sum=(xs.take k).sum+xs.getD k 0:=by rw[cT hk,aZ];simp[List.getD,hk]
structure ExB (xs:List Int):Prop where
 len:xs.length<=6
 all:∀ x∈xs,0<=x/\x<=1048576
def B7o{l:List Int}(h:∀x∈l,x<=1048576):l.sum<=1048576*(l.length:Int):=by
 induction l with
 |nil=>simp
 |cons x l ih=>have:=ih (fun y c=>h y (by simp[c]));have:=h x (by simp);simp only[List.sum_cons,List.length_cons];omega
def Ta{xs:List Int}(h:ExB xs)(k:Nat):0<=(xs.take k).sum/\(xs.take k).sum<=6291456:=by refine⟨Gh fun x c=>(h.all x (cK c)).1,?_⟩;have:=B7o (l:=xs.take k) fun x c=>(h.all x (cK c)).2;have:=h.len;have:(xs.take k).length<=6:=by{simp;omega};omega
def Lc(a b:List Int):Nat->Int
 |0=>0
 |k+1=>if a.getD k 0≠b.getD k 0 then Sq (b.getD k 0) (a.getD k 0)else Lc a b k
def C03(a b:List Int):Int:=if a.sum≠b.sum then Sq a.sum b.sum else Lc a b a.length
section
variable {h:aH} {K:VP} {a b:List Int} {A B:Option aL} {ac bc:Nat}
def Ug(hl:a.length=b.length)(va:ExB a)(vb:ExB b)(sa:SlI .i64 h A a)(sb:SlI .i64 h B b)(hK:K (I (C03 a b)) h):aN prog 228 #[.slice A a.length ac,.slice B b.length bc] h K:=by have z:=va.len;refine(fnk func228 [(3,[5,6,12],[],[I 0,I 0,I 0]),(11,[9],[],[I 0])]) ?_;refine⟨fun l f=>∃k:Nat,l=[I (a.take k).sum,I (b.take k).sum,I k]/\k<=a.length/\f=h,fun l _=>a.length-(iAt l 2).toNat,⟨0,by simp,o,rfl⟩,?_⟩;rintro q C i e ⟨k,j,E,rfl⟩;obtain⟨rfl,rfl,rfl⟩:q=(a.take k).sum/\C=(b.take k).sum/\i=(k:Int):=by{simpa using j};have F:=Ta va (k+1);have D:=Ta vb (k+1);refine C1 (fun s=>?_) (fun s=>?_);{refine sa.load rfl o o ?_;refine sb.load rfl o o ?_;rw[aD,<- Gg o,<- Gg o,C2 o o,C2 o o,C2 o o];exact⟨⟨k+1,by simp,o,rfl⟩,by simp only[iAt,aG,aF];omega⟩};·have p:k=a.length:=o;subst p;rw[cV,show b.take a.length=b by rw[hl];exact cV];refine E6 (fun n=>Vj ⟨_,rfl,by simpa[C03,n]using hK⟩) (fun n=>?_);have w:C03 a b=Lc a b a.length:=by{simp[C03,n]};rw[w]at hK;refine⟨fun l f=>∃k:Nat,l=[I ((k:Int)-1)]/\k<=a.length/\Lc a b a.length=Lc a b k/\f=e,fun l _=>(iAt l 0+1).toNat,⟨a.length,by rw[C2 o o],o,rfl,rfl⟩,?_⟩;rintro i y ⟨k,d,r,c,rfl⟩;obtain rfl:i=(k:Int)-1:=by{simpa using d};refine C1 (fun u=>?_) (fun u=>?_);{obtain⟨k,rfl⟩:∃m,k=m+1:=⟨k-1,o⟩;have t:((k+1:Nat):Int)-1=(k:Int):=o;rw[t];refine sa.load rfl o o ?_;refine sb.load rfl o o ?_;rw[aD];refine E6 (fun g=>?_) (fun g=>?_);{refine sb.load rfl o o ?_;refine sa.load rfl o o ?_;rw[aD];refine Vj ⟨_,rfl,B7 _,?_⟩;rw[c,Lc,iP g]at hK;exact hK};·rw[C2 o o];refine⟨⟨k,rfl,o,?_,rfl⟩,by simp only[iAt,aF];omega⟩;rw[c,Lc,iN (by simpa using g)]};·have:k=0:=o;subst this;rw[c]at hK;exact hK
end
section
set_option maxRecDepth 100000
variable {h:aH} {K:VP}
end
section
set_option maxRecDepth 100000
variable {h:aH} {K:VP}
end
section
set_option maxRecDepth 100000
variable {h:aH} {K:VP}
def Sy:cD prog 60 22 (N0) 1 24:=⟨by kernel_rfl,by kernel_rfl,rfl,dc⟩
def C5d:cD prog 78 86 (.agg #[.bool false,Sl none 0 0,.bool false,Sl none 0 0,Sl none 0 0]) 5 88:=⟨by kernel_rfl,by kernel_rfl,rfl,dc⟩
def C0e:cD prog 115 64 (Mv (0:Int) (0:Int) none 0 0) 3 40:=⟨by kernel_rfl,by kernel_rfl,rfl,dc⟩
def Wy:∀(args:Array aR) (W:World),(callFunc 149 args).run prog W= .ok (.enter 149 args) W:=call149
end
def H0(n k:Int):Nat->Int
 |0=>1
 |i+1=>dC (H0 n k i*(n-k+(i+1))) (i+1)
def Y3(n k:Int):Int:=if n<k then 0 else H0 n k k.toNat
def Ws:∀n:Fin 31,∀k:Fin 7,∀i:Fin 7,(k:Nat)<=n->(i:Nat)<=k->0<=H0 (n:Nat) (k:Nat) i/\H0 (n:Nat) (k:Nat) i<=1000000:=by decide +kernel
def S5{n k:Int}{i:Nat}(hn0:0<=n)(hn:n<=30)(hk0:0<=k)(hk:k<=6)(hkn:k<=n)(hi:(i:Int)<=k):0<=H0 n k i/\H0 n k i<=1000000:=by have:=Ws ⟨n.toNat,o⟩ ⟨k.toNat,o⟩ ⟨i,o⟩ gz0 gz0;grind
def Am(a b:List Int):Bool:=a.length==b.length&&K0 a&&K0 b
def Zt{n k:Int}{h:aH}{K:VP}(hn0: -1<=n)(hn:n<=30)(hk0:0<=k)(hk:k<=6)(hK:K (I (Y3 n k)) h):aN prog 172 #[I n,I k] h K:=by refine(fnk func172 [(5,[5,6],[],[I 0,I 0])]) ?_;refine C1 (fun d=>?_) (fun d=>?_);{simpa[Y3,d]using hK};·refine⟨fun l j=>∃i:Nat,l=[I (H0 n k i),I (i+1)]/\(i:Int)<=k/\j=h,fun l _=>(k+1-iAt l 1).toNat,⟨0,rfl,hk0,rfl⟩,?_⟩;rintro c i A ⟨m,B,t,rfl⟩;obtain⟨rfl,rfl⟩:c=H0 n k m/\i=(m:Int)+1:=gz0;have e:=S5 (i:=m) o hn hk0 hk o t;refine C1 (fun g=>C1 (fun C=>o) (fun _=>?_)) (fun g=>?_);{have s:=S5 (i:=m+1) o hn hk0 hk o o;have D:H0 n k m*(n-k+(m+1))<=1000000*40:=by{have p:0<=n-k+(m+1):=o;have q:n-k+((m:Int)+1)<=40:=o;exact Int.mul_le_mul e.2 q p o};have y:0<=H0 n k m*(n-k+(m+1)):=Int.mul_nonneg e.1 o;have u:C4 (n-k)=n-k:=C2 o o;have r:C4 (C4 (n-k)+((m:Int)+1))=n-k+(m+1):=by{rw[u,C2 o o]};have w:C4 (H0 n k m*C4 (C4 (n-k)+((m:Int)+1)))=H0 n k m*(n-k+(m+1)):=by{rw[r,C2 o o]};have z:C4 (dC (C4 (H0 n k m*C4 (C4 (n-k)+((m:Int)+1)))) ((m:Int)+1))=H0 n k (m+1):=by{rw[w];show C4 (H0 n k (m+1))=_;exact C2 o o};have f:C4 ((m:Int)+1+1)=((m+1:Nat):Int)+1:=by{rw[C2 o o];omega};rw[z,f];exact⟨⟨m+1,rfl,o,rfl⟩,by simp only[iAt,aG,aF];omega⟩};·have:m=k.toNat:=o;subst this;simpa[Y3,d]using hK
def A5s:∀{xs:List Int} {d:Int},0<=Qk xs d->0<=d->d<=24->(∀x∈xs,0<=x)/\Qk xs d=d+xs.sum/\d+xs.sum<=24:=by
 intro xs
 induction xs with
 |nil=>intro d h f e;simp[Qk];exact e
 |cons x xs ih=>
  intro d h f e;rw[Qk]at h ⊢;split at h;·omega
  ·obtain⟨a,b,c⟩:=ih h o o;refine⟨fun y g=>?_,gz0,gz0⟩;grind
def W8{xs:List Int}(h:K0 xs=true):xs.length<=6/\(∀x∈xs,0<=x)/\A0i xs=xs.sum/\xs.sum<=24:=by have h:=of_decide_eq_true h;unfold A0i at h ⊢;split at h;{omega};·obtain⟨a,b,c⟩:=A5s h o o;grind
def B6s{l:List Int}(h:∀x∈l,0<=x){x:Int}(hx:x∈l):x<=l.sum:=by
 induction l with
 |nil=>cases hx
 |cons y l ih=>
  have d:=Gh (l:=l) (fun z c=>h z (by simp[c]));have e:=h y (by simp);grind
def Mj{xs:List Int}(h:K0 xs=true)(k:Nat):0<=xs.getD k 0/\xs.getD k 0<=24:=by obtain⟨_,c,_,f⟩:=W8 h;by_cases e:k<xs.length;{have d:xs.getD k 0∈xs:=gz0;have:=B6s c d;grind};grind
def Zw{xs:List Int}(h:K0 xs=true)(k:Nat):0<=(xs.take k).sum/\(xs.take k).sum<=24:=by obtain⟨_,d,_,i⟩:=W8 h;have f:∀x∈xs.take k,0<=x:=fun x c=>d x (cK c);have g:∀x∈xs.drop k,0<=x:=fun x c=>d x (List.mem_of_mem_drop c);have e:xs.sum=(xs.take k).sum+(xs.drop k).sum:=by{rw[<- aZ,List.take_append_drop]};have:=Gh f;have:=Gh g;omega
def B2o(a b:List Int):Int:=if Am a b then C03 a b else 0
def Fg{a b:List Int}(h:Am a b=true):a.length=b.length/\K0 a=true/\K0 b=true:=by simp only[Am,cW,beq_iff_eq]at h;grind
def opL(o:Int->Int->Int)(a b:List Int):List Int:=(aM a.length).map fun i=>o (a.getD i 0) (b.getD i 0)
def Cm(o:Int->Int->Int)(a b:List Int):(opL o a b).length=a.length:=by simp[opL]
def B6n(o:Int->Int->Int)(a b:List Int){i:Nat}(hi:i<(opL o a b).length):(opL o a b)[i]=o (a.getD i 0) (b.getD i 0):=by simp[opL]
section
variable {h:aH} {K:VP} {a b:List Int} {A B:Option aL} {ac bc:Nat}
def Hl(sa:SlI .i64 h A a)(sb:SlI .i64 h B b)(hK:K (.bool (Am a b)) h):aN prog 227 #[.slice A a.length ac,.slice B b.length bc] h K:=by refine(fnk func227) ?_;refine D5 (fun e=>?_) (fun e=>?_);{have c:a.length=b.length:=o;refine Dq sa ⟨_,rfl,?_⟩;refine Br.of (fun d=>Dq sb ⟨_,rfl,?_⟩) (fun d=>?_);{simpa[Am,c,d]using hK};·simpa[Am,c,d]using hK};·have c:(a.length==b.length)=false:=gz0;simpa[Am,c]using hK
def A8n(sa:SlI .i64 h A a)(sb:SlI .i64 h B b)(hK:K (.bool (Am a b)) h):aN prog 178 #[.slice A a.length ac,.slice B b.length bc] h K:=by refine(fnk func178) ?_;refine D5 (fun e=>?_) (fun e=>?_);{have c:a.length=b.length:=o;refine Gw sa ⟨_,rfl,?_⟩;refine Br.of (fun d=>Gw sb ⟨_,rfl,?_⟩) (fun d=>?_);{simpa[Am,c,d]using hK};·simpa[Am,c,d]using hK};·have c:(a.length==b.length)=false:=gz0;simpa[Am,c]using hK
def A32{a:List Int}(v:K0 a=true):ExB a:=by obtain⟨e,c,_,f⟩:=W8 v;exact⟨e,fun x d=>⟨c x d,by have:=B6s c d;omega⟩⟩
def Kg(sa:SlI .i64 h A a)(sb:SlI .i64 h B b)(hK:K (I (B2o a b)) h):aN prog 175 #[.slice A a.length ac,.slice B b.length bc] h K:=by refine(fnk func175) ?_;refine Hl sa sb ⟨_,rfl,Br.not (Br.of (fun c=>?_) (fun c=>?_))⟩;{exact Ug (Fg c).1 (A32 (Fg c).2.1) (A32 (Fg c).2.2) sa sb ⟨_,rfl,by simpa[B2o,c]using hK⟩};·simpa[B2o,c]using hK
def Py(sa:SlI .i64 h A a)(sb:SlI .i64 h B b)(hno:(Am a b&&K0 (opL (fun x y=>x+y) a b))=false->∀h',h.le h'->K (.tuple #[.slice none 0 0,.bool false]) h')(hyes:(Am a b&&K0 (opL (fun x y=>x+y) a b))=true->∀nb,h nb=none->K (.tuple #[.slice (some ⟨nb,0,none⟩) (opL (fun x y=>x+y) a b).length (opL (fun x y=>x+y) a b).length,.bool true]) (h.put nb (.cells ((opL (fun x y=>x+y) a b).map I).toArray 3))): aN prog 225 #[.slice A a.length ac,.slice B b.length bc,.func (.func 226) #[] #[]] h K:=by refine(fnk func225 [(5,[20],[],[I 0])]) ?_;refine Hl sa sb ⟨_,rfl,Br.not (Br.of (fun e=>?_) (fun e=>hno (by simp[e]) h (B7 h)))⟩;obtain⟨G,m,t⟩:=Fg e;have w:=(W8 m).1;refine Cy Gf o o o o ?_;intro nb j;refine⟨_,_,_,rfl,?_⟩;refine⟨fun l h'=>∃k:Nat,l=[I k]/\k<=a.length/\h'=h.put nb (.cells (Is I (I 0) (opL (fun x y=>x+y) a b) k).toArray 3),fun l _=>a.length-(iAt l 0).toNat,⟨0,rfl,o,?_⟩,?_⟩;{rw[Yb,Cm];congr 2;exact T5 _ _};rintro i F ⟨k,u,E,rfl⟩;obtain rfl:i=(k:Int):=gz0;have d:∀f,h.le (h.put nb f):=fun f=>Heap.le_put f j;refine C1 (fun s=>?_) (fun s=>?_);{refine(sa.mono (d _)).load rfl o o ?_;refine(sb.mono (d _)).load rfl o o ?_;rw[aD];have H:=Mj m k;have D:=Mj t k;refine(fnk func226) ?_;refine⟨_,rfl,_,rfl,o,o,?_⟩;rw[C2 (n:=(k:Int)+1) o o];refine Ra Fa (zs:=opL (fun x y=>x+y) a b) (i:=k) (by rw[Cm];omega) ?_ ⟨⟨k+1,by simp,o,rfl⟩,by simp only[iAt,aF];omega⟩;rw[B6n];exact C2 o o};·have g:k=a.length:=o;subst g;have q:a.length=(opL (fun x y=>x+y) a b).length:=(Cm _ _ _).symm;have p:SlI .i64 (h.put nb (.cells (Is I (I 0) (opL (fun x y=>x+y) a b) a.length).toArray 3)) (some ⟨nb,0,none⟩) (opL (fun x y=>x+y) a b):=by{rw[q,Uw];exact SlI.new h nb _ _ _};have C:aN prog 259 #[.slice (some ⟨nb,0,none⟩) a.length a.length] (h.put nb (.cells (Is I (I 0) (opL (fun x y=>x+y) a b) a.length).toArray 3)) fun r c=>∃t37:Bool,r= .bool t37/\Br (!t37) (K (.tuple #[.slice none 0 0,.bool false]) c) (K (.tuple #[.slice (some ⟨nb,0,none⟩) a.length a.length,.bool true]) c):=by{rw[q,Uw]at p ⊢;refine Dq p ⟨_,rfl,Br.not (Br.of (fun z=>?_) (fun z=>?_))⟩;{grind};grind};exact C
def Ui(sa:SlI .i64 h A a)(sb:SlI .i64 h B b)(hno:(Am a b&&K0 (opL (fun x y=>x+y) a b))=false->∀h',h.le h'->K (.tuple #[.slice none 0 0,.bool false]) h')(hyes:(Am a b&&K0 (opL (fun x y=>x+y) a b))=true->∀nb,h nb=none->K (.tuple #[.slice (some ⟨nb,0,none⟩) (opL (fun x y=>x+y) a b).length (opL (fun x y=>x+y) a b).length,.bool true]) (h.put nb (.cells ((opL (fun x y=>x+y) a b).map I).toArray 3))): aN prog 173 #[.slice A a.length ac,.slice B b.length bc] h K:=by refine(fnk func173) ?_;exact Py sa sb (fun e h' c=>⟨_,_,_,_,rfl,hno e h' c⟩) (fun e nb d=>⟨_,_,_,_,rfl,hyes e nb d⟩)
def Xv(sa:SlI .i64 h A a)(sb:SlI .i64 h B b)(hno:(Am a b&&K0 (opL (fun x y=>x+y) a b))=false->∀h',h.le h'->K (.tuple #[.slice none 0 0,.bool false]) h')(hyes:(Am a b&&K0 (opL (fun x y=>x+y) a b))=true->∀A' h',h.le h'->SlI .i64 h' A' (opL (fun x y=>x+y) a b)->K (.tuple #[.slice A' (opL (fun x y=>x+y) a b).length (opL (fun x y=>x+y) a b).length,.bool true]) h'): aN prog 173 #[.slice A a.length ac,.slice B b.length bc] h K:=by exact Ui sa sb hno fun e d c=>hyes e _ _ (Heap.le_put _ c) (SlI.new _ _ _ _ _)
end
def Bc(n d:Int):Bool:=decide (0<=n/\n<=6/\0<=d/\d<=24)
def A3c(n d:Int):Int:=if Bc n d then H0 (n+d) n n.toNat else 0
def Vk{n d:Int}(h:Bc n d=true):Y3 (n+d) n=A3c n d:=by have c:=of_decide_eq_true h;unfold Y3 A3c;grind
def Vh(n d:Int):0<=A3c n d/\A3c n d<=1000000:=by unfold A3c;split;{rename_i h;have c:=of_decide_eq_true h;exact S5 o o c.1 c.2.1 o o};·omega
def Ka(i:Int):Nat->Int
 |0=>0
 |t+1=>Ka i t+A3c (i-1) t
def A86:∀i:Fin 6,∀t:Fin 26,Ka ((i:Nat)+1:Int) t=Y3 ((i:Nat)+1+(t:Nat)-1:Int) ((i:Nat)+1:Int):=by decide +kernel
def B09{i d:Int}(h1:1<=i)(h2:i<=6)(h3:0<=d)(h4:d<=25):Ka i d.toNat=Y3 (i+d-1) i:=by have:=A86 ⟨(i-1).toNat,o⟩ ⟨d.toNat,o⟩;grind
def Ou{n k:Int}(hn:n<=30)(hk0:0<=k)(hk:k<=6):0<=Y3 n k/\Y3 n k<=1000000:=by unfold Y3;split;{omega};·exact S5 o hn hk0 hk o o
def B1v(xs:List Int):Nat->Int->Int
 |0,_=>0
 |i+1,deg=>Y3 (((i+1:Nat):Int)+(deg-xs.getD (i+1) 0)-1) ((i+1:Nat):Int)+B1v xs i (deg-xs.getD (i+1) 0)
def B1w(xs:List Int):Int:=Y3 (xs.length+A0i xs-1) xs.length+B1v xs (xs.length-1) (A0i xs)
section
variable {h:aH} {K:VP} {a b:List Int} {A B:Option aL} {ac bc:Nat}
def Rh{n d:Int}(hK:K (.tuple #[I (A3c n d),.bool (Bc n d)]) h):aN prog 121 #[I n,I d] h K:=by refine(fnk func121) ?_;have no:¬(0<=n/\n<=6/\0<=d/\d<=24)->K (.tuple #[I 0,.bool false]) h:=fun j=>by{have:Bc n d=false:=decide_eq_false j;simpa[A3c,this]using hK};refine C1 (fun g=>no o) (fun g=>C1 (fun e=>no o) (fun e=>C1 (fun i=>no o) (fun i=>C1 (fun f=>no o) (fun f=>?_))));rw[C2 o o];have c:Bc n d=true:=decide_eq_true o;refine Zt o o o o ⟨_,rfl,?_⟩;rw[Vk c,<- c];exact hK
def Ue{n d:Int}(hK:K (.tuple #[I (A3c n d),.bool (Bc n d)]) h):aN prog 181 #[I n,I d] h K:=by refine(fnk func181 [(5,[6,7],[],[I 0,I 0])]) ?_;have no:¬(0<=n/\n<=6/\0<=d/\d<=24)->K (.tuple #[I 0,.bool false]) h:=fun j=>by{have:Bc n d=false:=decide_eq_false j;simpa[A3c,this]using hK};refine C1 (fun A=>no o) (fun A=>C1 (fun e=>no o) (fun e=>C1 (fun f=>no o) (fun f=>C1 (fun u=>no o) (fun u=>?_))));have z:Bc n d=true:=decide_eq_true o;refine⟨fun l q=>∃i:Nat,l=[I (H0 (n+d) n i),I (i+1)]/\(i:Int)<=n/\q=h,fun l _=>(n+1-iAt l 1).toNat,⟨0,rfl,o,rfl⟩,?_⟩;rintro c i D ⟨m,E,p,rfl⟩;obtain⟨rfl,rfl⟩:c=H0 (n+d) n m/\i=(m:Int)+1:=gz0;have g:=S5 (n:=n+d) (k:=n) (i:=m) o o o o o p;refine C1 (fun e=>C1 (fun f=>o) (fun _=>?_)) (fun e=>?_);{have B:=S5 (n:=n+d) (k:=n) (i:=m+1) o o o o o o;have j:H0 (n+d) n m*(d+(m+1))<=1000000*40:=Int.mul_le_mul g.2 o o o;have w:0<=H0 (n+d) n m*(d+(m+1)):=Int.mul_nonneg g.1 o;have C:C4 (d+((m:Int)+1))=d+(m+1):=C2 o o;have t:C4 (H0 (n+d) n m*C4 (d+((m:Int)+1)))=H0 (n+d) n m*(d+(m+1)):=by{rw[C,C2 o o]};have y:C4 (dC (C4 (H0 (n+d) n m*C4 (d+((m:Int)+1)))) ((m:Int)+1))=H0 (n+d) n (m+1):=by{have s:H0 (n+d) n (m+1)=dC (H0 (n+d) n m*(d+(m+1))) (m+1):=by{rw[H0];grind};rw[t,<- s];exact C2 o o};have r:C4 ((m:Int)+1+1)=((m+1:Nat):Int)+1:=by{rw[C2 o o];omega};rw[y,r];exact⟨⟨m+1,rfl,o,rfl⟩,by simp only[iAt,aG,aF];omega⟩};·have:m=n.toNat:=o;subst this;simpa[A3c,z]using hK
def Wk{n d:Int}(hn:0<=n)(hn2:n<=100)(hK:K (I (A3c (n-1) d)) h):aN prog 182 #[I n,I d] h K:=by refine(fnk func182) ?_;rw[C2 o o];exact Ue ⟨_,_,rfl,hK⟩
def Ud{t12:Int}{out0:Int}{h:aH}{K:VP}(s:SlI .i64 h A a)(hv:K0 a=true)(ht:t12=A0i a)(ho:out0=Y3 (a.length+A0i a-1) a.length)(hK:K (.tuple #[I (B1w a),.bool true]) h):
 ∃(Invv:LP) (muv:LN),Invv [I t12,I out0,I ((a.length:Nat):Int)] h/\
 ∀(d:Int) (out:Int) (n:Int),∀hp3,Invv [I d,I out,I n] hp3->Br (decide (n>(1:Int))) (∃a',A=some a'/\0<=C4 (n-(1:Int))/\C4 (n-(1:Int))<(a.length:Int)/\∃(t33:Int),Heap.cell? hp3 (aK a' ((C4 (n-(1:Int))).toNat*1))=some (I t33)/\∃(Invv1:LP) (muv1:LN),Invv1 [I out,I (C4 (t33+(1:Int)))] hp3/\
 ∀(out1:Int) (e:Int),∀hp4,Invv1 [I out1,I e] hp4->Br (decide (e<=d)) (aN prog 182 #[I (C4 (n-(1:Int))),I (C4 (d-e))] hp4 (fun r3 hp5=>∃(t46:Int),r3=I t46/\Invv1 [I (C4 (out1+t46)),I (C4 (e+(1:Int)))] hp5/\muv1 [I (C4 (out1+t46)),I (C4 (e+(1:Int)))] hp5<muv1 [I out1,I e] hp4))
 (∃a1,A=some a1/\0<=C4 (n-(1:Int))/\C4 (n-(1:Int))<(a.length:Int)/\∃(t53:Int),Heap.cell? hp4 (aK a1 ((C4 (n-(1:Int))).toNat*1))=some (I t53)/\Invv [I (C4 (d-t53)),I out1,I (C4 (n-(1:Int)))] hp4/\muv [I (C4 (d-t53)),I out1,I (C4 (n-(1:Int)))] hp4<muv [I d,I out,I n] hp3))
 (K (.tuple #[I out,.bool true]) hp3):=by
 obtain⟨V,_,S,L⟩:=W8 hv;have hc:=Ou (n:=(a.length:Int)+A0i a-1) (k:=(a.length:Int)) oo oo oo;refine⟨fun l p=>∃(k:Nat) (dd f:Int),l=[I dd,I f,I k]/\k<=a.length/\dd=(a.take k).sum/\f+B1v a (k-1) dd=B1w a/\0<=f/\f<=1000000*(9-k)/\p=h,fun l _=>(iAt l 2).toNat,⟨a.length,t12,out0,rfl,oo,gz0,by rw[ho,ht];rfl,oo,oo,rfl⟩,?_⟩;rintro d out n F ⟨k,dd,f,M,T,C,g,R,E,rfl⟩;obtain⟨rfl,rfl,rfl⟩:d=dd/\out=f/\n=(k:Int):=gz0;refine C1 (fun B=>?_) (fun B=>?_)
 ·obtain⟨k,rfl⟩:∃m,k=m+2:=⟨k-2,oo⟩;have Q:C4 (((k+2:Nat):Int)-1)=((k+1:Nat):Int):=by rw[C2 oo oo];omega
  rw[Q];refine s.load rfl oo oo ?_;rw[aD];have W:=Mj hv (k+1);have D:(a.take (k+2)).sum=(a.take (k+1)).sum+a.getD (k+1) 0:=Gg (xs:=a) (k:=k+1) oo;have w:=Zw hv (k+1);have X:=B09 (i:=((k+1:Nat):Int)) (d:=d-a.getD (k+1) 0) oo oo oo oo;have z:=Ou (n:=((k+1:Nat):Int)+(d-a.getD (k+1) 0)-1) (k:=((k+1:Nat):Int)) oo oo oo;rw[C2 (n:=a.getD (k+1) 0+1) oo oo];refine⟨fun l p=>∃(t:Nat) (o:Int),l=[I o,I (d-t+1)]/\(t:Int)<=d-a.getD (k+1) 0/\o+Ka ((k+1:Nat):Int) t=out+Ka ((k+1:Nat):Int) (d-a.getD (k+1) 0).toNat/\out<=o/\p=F,fun l _=>(d+1-iAt l 1).toNat,⟨(d-a.getD (k+1) 0).toNat,out,gz0,oo,rfl,oo,rfl⟩,?_⟩;rintro o e hp4 ⟨t,O,H,G,c,u,rfl⟩;obtain⟨rfl,rfl⟩:o=O/\e=d-t+1:=gz0
  have q:∀m,0<=Ka ((k+1:Nat):Int) m:=by
   intro m
   induction m with
   |zero=>simp[Ka]
   |succ m ih=>have:=(Vh (((k+1:Nat):Int)-1) m).1;simp only[Ka];omega
  refine C1 (fun N=>?_) (fun N=>?_)
  ·obtain⟨t,rfl⟩:∃m,t=m+1:=⟨t-1,oo⟩;rw[C2 (n:=d-(d-((t+1:Nat):Int)+1)) oo oo,show d-(d-((t+1:Nat):Int)+1)=(t:Int)from oo];have y:=Vh (((k+1:Nat):Int)-1) t;simp only[Ka]at c;have:=q t;refine Wk oo oo ⟨_,rfl,?_⟩;rw[C2 (n:=o+_) oo oo,C2 (n:=d-((t+1:Nat):Int)+1+1) oo oo];exact⟨⟨t,_,by congr 3;omega,oo,oo,oo,rfl⟩,by simp only[iAt,aG,aF];omega⟩
  ·have r:t=0:=oo;subst r;simp only[Ka]at c;refine s.load rfl oo oo ?_;rw[aD,C2 (n:=d-a.getD (k+1) 0) oo oo];have j:out+(Y3 (((k+1:Nat):Int)+(d-a.getD (k+1) 0)-1) ((k+1:Nat):Int)+B1v a k (d-a.getD (k+1) 0))=B1w a:=g;refine⟨⟨k+1,_,_,rfl,oo,oo,?_,oo,oo,rfl⟩,by simp only[iAt,aG,aF];omega⟩;grind
 ·have:B1v a (k-1) d=0:=by rw[show k-1=0 from oo];rfl
  grind
def A55(s:SlI .i64 h A a)(hK:K (.tuple #[I (if K0 a then B1w a else 0),.bool (K0 a)]) h):aN prog 130 #[.slice A a.length ac] h K:=by refine(fnk func130 [(8,[4,5,6],[],[I 0,I 0,I 0]),(11,[5,7],[],[I 0,I 0])]) ?_;refine Gw s ⟨_,rfl,Br.not (Br.of (fun c=>?_) (fun c=>gz0))⟩;rw[c,iP rfl]at hK;obtain⟨g,_,f,e⟩:=W8 c;refine Rf s ⟨_,rfl,C1 (fun d=>?_) (fun d=>?_)⟩;{rw[C2 o o];refine Ue ⟨_,_,rfl,?_⟩;refine Ud s c rfl ?_ hK;rw[<- Vk (by simp[Bc];omega)];grind};·refine Ud s c rfl ?_ hK;unfold Y3;omega
def A2b(sa:SlI .i64 h A a)(sb:SlI .i64 h B b)(hno:(Am a b&&K0 (opL (fun x y=>x+y) a b))=false->∀h',h.le h'->K (.tuple #[.slice none 0 0,.bool false]) h')(hyes:(Am a b&&K0 (opL (fun x y=>x+y) a b))=true->∀A' h',h.le h'->SlI .i64 h' A' (opL (fun x y=>x+y) a b)->K (.tuple #[.slice A' (opL (fun x y=>x+y) a b).length (opL (fun x y=>x+y) a b).length,.bool true]) h'): aN prog 125 #[.slice A a.length ac,.slice B b.length bc] h K:=by refine(fnk func125 [(5,[7],[],[I 0])]) ?_;refine A8n sa sb ⟨_,rfl,Br.not (Br.of (fun f=>?_) (fun f=>hno (by simp[f]) h (B7 h)))⟩;obtain⟨H,p,u⟩:=Fg f;have z:=(W8 p).1;refine Cy Gf o o o o ?_;intro c m;refine⟨_,_,_,rfl,?_⟩;rw[aD];refine⟨fun l h'=>∃k:Nat,l=[I k]/\k<=a.length/\h'=h.put c (.cells (Is I (I 0) (opL (fun x y=>x+y) a b) k).toArray 3),fun l _=>a.length-(iAt l 0).toNat,⟨0,rfl,o,?_⟩,?_⟩;{rw[Yb,Cm];congr 2;exact T5 _ _};rintro i G ⟨k,w,F,rfl⟩;obtain rfl:i=(k:Int):=gz0;have e:∀g,h.le (h.put c g):=fun g=>Heap.le_put g m;refine C1 (fun t=>?_) (fun t=>?_);{refine(sa.mono (e _)).load rfl o o ?_;refine(sb.mono (e _)).load rfl o o ?_;rw[aD];have L:=Mj p k;have E:=Mj u k;refine⟨_,rfl,o,o,?_⟩;rw[C2 (n:=(k:Int)+1) o o];refine Ra Fa (zs:=opL (fun x y=>x+y) a b) (i:=k) (by rw[Cm];omega) ?_ ⟨⟨k+1,by simp,o,rfl⟩,by simp only[iAt,aF];omega⟩;rw[B6n];exact C2 o o};·have j:k=a.length:=o;subst j;have s:a.length=(opL (fun x y=>x+y) a b).length:=(Cm _ _ _).symm;have q:SlI .i64 (h.put c (.cells (Is I (I 0) (opL (fun x y=>x+y) a b) a.length).toArray 3)) (some ⟨c,0,none⟩) (opL (fun x y=>x+y) a b):=by{rw[s,Uw];exact SlI.new h c _ _ _};have D:aN prog 179 #[.slice (some ⟨c,0,none⟩) a.length a.length] (h.put c (.cells (Is I (I 0) (opL (fun x y=>x+y) a b) a.length).toArray 3)) fun r d=>∃t37:Bool,r= .bool t37/\Br (!t37) (K (.tuple #[.slice none 0 0,.bool false]) d) (K (.tuple #[.slice (some ⟨c,0,none⟩) a.length a.length,.bool true]) d):=by{rw[s]at q ⊢;refine Gw q ⟨_,rfl,Br.not (Br.of (fun C=>?_) (fun C=>?_))⟩;{grind};grind};exact D
end
def Priv.grow{h g h2:aH}{e:bG}{s:Nat}{A:Option aL}{n c:Nat}{xs:List aR}(p:Priv h g e s A n c xs)(hl:h.le h2):∃g2,g.le g2/\Priv h2 g2 e s A n c xs/\∀k,h k=none->g2 k=h2 k:=by rcases p with⟨r,f,⟨i,rfl⟩|⟨b,j,u,t,rfl,m⟩⟩;{exact⟨h2,hl,⟨r,f,.inl ⟨i,rfl⟩⟩,fun _ _=>rfl⟩};·have l:=hl b _ (C3 g b _);refine⟨fun k=>if k=b then none else h2 k,fun k o e=>?_,⟨r,f,.inr ⟨b,j,u,iP rfl,?_,m⟩⟩,fun k q=>?_⟩;{have d:k≠b:=gz0;show(if k=b then none else h2 k)=some o;rw[iN d];exact hl k o (by rw[B9 _ _ d];exact e)};{funext k;by_cases d:k=b;{rw[d,C3,l]};·rw[B9 _ _ d,iN d]};·have d:k≠b:=by{rintro rfl;rw[C3]at q;cases q};grind
def Ww{k:IntKind}{h h':aH}{a:aL}{xs:List Int}(e:h' a.block=h a.block)(s:SlI k h (some a) xs):SlI k h' (some a) xs:=by rcases s with s|⟨g,d,f⟩;{exact .inl s};·cases d;refine .inr ⟨a,rfl,fun i v c=>?_⟩;have:=f i v c;unfold Heap.cell? at this ⊢;rw[Vr]at this ⊢;grind
def Hb{k:IntKind}{h h2 g2 g3:aH}{e:bG}{A:Option aL}{n c:Nat}{xs:List Int}(p:Priv h2 g2 e 1 A n c (xs.map (Value.int k)))(hl:h.le g2)(hg:∀k,h k=none->g3 k=h2 k):SlI k g3 A xs:=by
 have g:SlI k h2 A xs:=p.slV;rcases p.2.2 with⟨f,_⟩|⟨b,j,i,d,l,_⟩
 ·have m:=p.1;have h2:=p.2.1;have:xs=[]:=List.eq_nil_of_length_eq_zero gz0;subst this;exact SlI.nil
 ·subst i;refine Ww (hg b ?_) g
  cases x:h b with
  |none=>rfl
  |some o=>have:=hl b o x;grind
def Xw{P:cC}{t e ty:bG}{z:aR}{bytes:Nat}(st:cD P t e z 1 bytes){h g:aH}{A:Option aL}{n c:Nat}{xs:List aR}(p:Priv h g e 1 A n c xs){v:aR}(hv:v.cells=#[v])(hv1:Pe v=true)
 (hb:(2*(n+1)+192)*bytes<=281474976710656) (hm:n+1<=9223372036854775807) {K:Option aL->Nat->Nat->aH->Prop}
 (x:∀A' c' h' g',g.le g'->Priv h' g' e 1 A' (n+1) c' (xs++[v])->K A' (n+1) c' h'):
 wpH P (aU t 1 #[(0,v)]) (fun v' hp=>∃(B:Option aL) (m d:Nat),v'= .slice B m d/\wpH P (aX #[t,t] ty #[.slice A n c,.slice B m d]) (fun v1 hp1=>∃(A':Option aL) (n' c':Nat),v1= .slice A' n' c'/\K A' n' c' hp1) hp) h:=by
 refine V6 st hv ?_;intro q f;refine⟨_,_,_,rfl,?_⟩;refine Bp st (p.put f _) (m:=1) (ys:=[v]) rfl (.inr ⟨_,rfl,?_⟩) gz0 hb hm ?_
 ·intro j u l
  cases j with
  |zero=>simp at l;subst l;rw[D6,D8];rfl
  |succ j=>grind
 ·intro A' c2 s r i k;refine⟨_,_,_,rfl,x A' c2 s r (B0 (Heap.le_put _ ?_) i) k⟩
  cases hgn:g q with
  |none=>rfl
  |some o=>have:=p.le q o hgn;grind
def MoRow(g:aH)(v:aR)(xs:List Int):Prop:=∃A c,v= .slice A xs.length c/\SlI .i64 g A xs/\xs.length<=6
def MoRows(g:aH):List aR->List (List Int)->Prop
 | [],[]=>True
 |v::vs,xs::xss=>MoRow g v xs/\MoRows g vs xss
 |_,_=>False
def MoRow.mono{g g':aH}(hl:g.le g'){v:aR}{xs:List Int}(r:MoRow g v xs):MoRow g' v xs:=by obtain⟨A,c,d,e,f⟩:=r;exact⟨A,c,d,e.mono hl,f⟩
def MoRows.mono{g g':aH}(hl:g.le g'):∀{vs:List aR} {xss:List (List Int)},MoRows g vs xss->MoRows g' vs xss
 | [],[],_=>trivial
 |_::_,_::_,⟨h1,h2⟩=>⟨h1.mono hl,MoRows.mono hl h2⟩
def MoRows.append{g:aH}:∀{vs us:List aR} {xss yss:List (List Int)},MoRows g vs xss->MoRows g us yss->MoRows g (vs++us) (xss++yss)
 | [],_,[],_,_,h=>h
 |_::_,_,_::_,_,⟨h1,h2⟩,h=>⟨h1,MoRows.append h2 h⟩
def MoRows.length{g:aH}:∀{vs:List aR} {xss:List (List Int)},MoRows g vs xss->vs.length=xss.length
 | [],[],_=>rfl
 |_::_,_::_,⟨_,h2⟩=>by simp[MoRows.length h2]
def MoRows.at{g:aH}:∀{vs:List aR} {xss:List (List Int)} {i:Nat},MoRows g vs xss->i<xss.length->∃v,vs[i]? = some v/\MoRow g v (xss.getD i [])
 | [],[],_,_,h=>by simp at h
 |v::_,xs::_,0,⟨h1,_⟩,_=>⟨v,by simp,by assumption⟩
 |_::_,_::_,i+1,⟨_,h2⟩,h=>by simpa using MoRows.at (i:=i) h2 gz0
def MoPriv(h g:aH)(A:Option aL)(c:Nat)(xss:List (List Int)):Prop:=∃vs,Priv h g 22 1 A xss.length c vs/\MoRows g vs xss
def MoSl(h:aH)(A:Option aL)(xss:List (List Int)):Prop:=∃vs,SlV h A vs/\MoRows h vs xss
def MoPriv.slR{h g:aH}{A:Option aL}{c:Nat}{xss:List (List Int)}(p:MoPriv h g A c xss):MoSl h A xss:=by obtain⟨f,d,e⟩:=p;exact⟨f,d.slV,e.mono d.le⟩
def MoPriv.le{h g:aH}{A:Option aL}{c:Nat}{xss:List (List Int)}(p:MoPriv h g A c xss):g.le h:=by obtain⟨f,d,e⟩:=p;exact d.le
def MoPriv.grow{h g h2:aH}{A:Option aL}{c:Nat}{xss:List (List Int)}(p:MoPriv h g A c xss)(hl:h.le h2):∃g2,g.le g2/\MoPriv h2 g2 A c xss/\∀k,h k=none->g2 k=h2 k:=by obtain⟨e,d,r⟩:=p;obtain⟨g2,a,b,c⟩:=d.grow hl;exact⟨g2,a,⟨e,b,r.mono a⟩,c⟩
def Ob{P:cC}(st:cD P 60 22 (.slice none 0 0) 1 24){ty:bG}{h g:aH}{A:Option aL}{c:Nat}{xss:List (List Int)}(p:MoPriv h g A c xss){B:Option aL}{xs:List Int}{n d:Nat}(hn:n=xs.length)(s:SlI .i64 g B xs)(hx:xs.length<=6)(hb:xss.length<=1000000){K:Option aL->Nat->Nat->aH->Prop} (x:∀A' c' h' g',g.le g'->MoPriv h' g' A' c' (xss++[xs])->K A' (xss++[xs]).length c' h'): wpH P (aU 60 1 #[(0,.slice B n d)]) (fun v' hp=>∃(B:Option aL) (m d:Nat),v'= .slice B m d/\wpH P (aX #[60,60] ty #[.slice A xss.length c,.slice B m d]) (fun v1 hp1=>∃(A':Option aL) (n' c':Nat),v1= .slice A' n' c'/\K A' n' c' hp1) hp) h:=by obtain⟨i,f,r⟩:=p;refine Xw st f rfl rfl o o ?_;intro A' c' h' g' e hp;have:=x A' c' h' g' e ⟨i++[.slice B n d],gz0,(r.mono e).append ⟨⟨B,d,by rw[hn],s.mono e,hx⟩,trivial⟩⟩;grind
def O7:Nat->Nat->List (List Int)
 |0,d=>if d=0 then [[]]else []
 |n+1,d=>(aM (d+1)).flatMap fun j=>(O7 n j).map (· ++ [((d:Int)-j)])
def Qa:Nat->Nat->Nat
 |0,d=>if d=0 then 1 else 0
 |n+1,d=>((aM (d+1)).map (Qa n)).sum
def Ny:∀n d,(O7 n d).length=Qa n d
 |0,d=>by simp only[O7,Qa];grind
 |n+1,d=>by
  simp only[O7,Qa,cM,List.length_map];congr 1;apply cL;intro j _;exact Ny n j
def A2i:∀n d xs,xs∈O7 n d->xs.length=n
 |0,d,xs,h=>by
  simp only[O7]at h;grind
 |n+1,d,xs,h=>by
  simp only[O7,List.mem_flatMap,List.mem_map]at h;obtain⟨j,_,ys,hy,rfl⟩:=h;simp[A2i n j ys hy]
def A8y:∀n:Fin 7,((aM 25).map (Qa n)).sum<=1000000:=by decide +kernel
def Ii(f:Nat->Nat){a b:Nat}(h:a<=b):((aM a).map f).sum<=((aM b).map f).sum:=by
 induction b with
 |zero=>grind
 |succ b ih=>
  by_cases e:a=b+1;·grind
  ·rw[bC,bO,aZ];omega
def Tc{n k:Nat}(hn:n<=6)(hk:k<=25):((aM k).map (Qa n)).sum<=1000000:=bY (Ii (Qa n) hk) (A8y ⟨n,o⟩)
def N2(n d k:Nat)(tail:List Int):List (List Int):=(aM k).flatMap fun j=>(O7 n j).map (· ++ (((d:Int)-j)::tail))
def Tl(n d:Nat)(tail:List Int):N2 n d (d+1) tail=(O7 (n+1) d).map (· ++ tail):=by simp only[N2,O7,List.map_flatMap,List.map_map];congr 1;funext j;simp_all
def Rb(n d k:Nat)(tail:List Int):N2 n d (k+1) tail=N2 n d k tail++(O7 n k).map (· ++ (((d:Int)-k)::tail)):=by simp[N2,bC]
def Tk(n d k:Nat)(tail:List Int):(N2 n d k tail).length=((aM k).map (Qa n)).sum:=by simp only[N2,cM,List.length_map];congr 1;apply cL;intro j _;exact Ny n j
section
variable {h g:aH} {K:VP}
def Zu(n:Nat):n<=6->∀(d:Nat) (tail:List Int) (xss:List (List Int)) (R T:Option aL) (rc tc:Nat) (h g:aH) (K:VP),d<=24->n+tail.length<=6->xss.length+Qa n d<=1000000->MoPriv h g R rc xss->SlI .i64 g T tail->
 (∀R' c' h' g',g.le g'->MoPriv h' g' R' c' (xss++(O7 n d).map (· ++ tail))->K (.slice R' (xss++(O7 n d).map (· ++ tail)).length c') h')->
 aN prog 195 #[.slice R xss.length rc,I n,I d,.slice T tail.length tc] h K:=by
 induction n with
 |zero=>
  intro _ d tail xss R T rc tc h g K W ht i p s w;refine(fnk func195 [(6,[0,9],[],[.slice none 0 0,I 0])]) ?_;show Br _ _ _;refine D5 (fun _=>?_) (fun S=>absurd rfl S);refine C1 (fun B=>?_) (fun B=>?_)
  ·have e:O7 0 d=[]:=by simp only[O7];grind
   have:=w R rc h g (B7 g) gz0;grind
  ·have L:d=0:=o;subst L;refine Da Gf ?_;intro j c;refine⟨_,_,_,rfl,?_⟩;have F:Priv (h.put j (.cells #[] 3)) (h.put j (.cells #[] 3)) 3 1 (some ⟨j,0,none⟩) 0 0 []:=Priv.nil _ _ _ _;have sh:=(s.mono p.le).mono (Heap.le_put (.cells #[] 3) c);refine Bp Gf F (m:=tail.length) (ys:=tail.map I) (by simp) ?_ (by simp[Pe]) o o ?_;·assumption
   intro A' c' X V f t;refine⟨_,_,_,rfl,?_⟩;have u:h.le V:=B0 (Heap.le_put _ c) f;obtain⟨N,q,y,r⟩:=p.grow (B0 u t.le);have H:SlI .i64 N A' tail:=Hb (by simpa using t) u r;refine Ob Sy y (aS _) H o o ?_;intro A4 c4 h4 g4 A p4;have:=w A4 c4 h4 g4 (B0 q A) (by assumption);assumption
 |succ n ih=>
  intro hn d tail xss R T rc tc h g K W ht i p s w;have G:xss.length+((aM (d+1)).map (Qa n)).sum<=1000000:=i;refine(fnk func195 [(6,[0,9],[],[.slice none 0 0,I 0])]) ?_;refine D5 (fun S=>o) (fun _=>?_);refine⟨fun l h'=>∃(k:Nat) (R':Option aL) (c':Nat) (g':aH),l=[.slice R' (xss++N2 n d k tail).length c',I ((d:Int)-k)]/\k<=d+1/\g.le g'/\MoPriv h' g' R' c' (xss++N2 n d k tail),fun l _=>(iAt l 1+1).toNat,⟨0,R,rc,g,by simp[N2],o,B7 g,by simpa[N2]using p⟩,?_⟩;rintro R1 n1 c1 last D ⟨k,R',c',g',hl,hk,z,E⟩;obtain⟨⟨rfl,rfl,rfl⟩,rfl⟩:(R1=R'/\n1=(xss++N2 n d k tail).length/\c1=c')/\last=(d:Int)-k:=gz0;refine C1 (fun B=>?_) (fun B=>?_)
  ·refine V6 Gf rfl ?_;intro j c;refine⟨_,_,_,rfl,?_⟩;have F:Priv (D.put j (.cells #[I ((d:Int)-k)] 3)) D 3 1 (some ⟨j,0,none⟩) 1 1 [I ((d:Int)-k)]:=⟨rfl,aE _,.inr ⟨j,[I ((d:Int)-k)],rfl,c,rfl,rfl,rfl⟩⟩;have sh:=((s.mono z).mono E.le).mono (Heap.le_put (.cells #[I ((d:Int)-k)] 3) c);refine Bp Gf F (m:=tail.length) (ys:=tail.map I) (by simp) ?_ (by simp[Pe]) o o ?_;·assumption
   intro A2 c2 X V f t;refine⟨_,_,_,rfl,?_⟩;obtain⟨N,q,y,r⟩:=E.grow (B0 f t.le);have H:SlI .i64 N A2 (((d:Int)-k)::tail):=Hb (by simpa using t) f r;have e1:C4 (((n+1:Nat):Int)-1)=(n:Int):=by rw[C2 o o];omega
   have e2:C4 ((d:Int)-((d:Int)-k))=(k:Int):=by rw[C2 o o];omega
   have e3:C4 ((d:Int)-k-1)=(d:Int)-(k+1:Nat):=by rw[C2 o o];omega
   rw[e1,e2,e3];have aa:=Ii (Qa n) (show k+1<=d+1 from o);have el:1+tail.length=(((d:Int)-k)::tail).length:=gz0;rw[el]
   have Q:((aM (k+1)).map (Qa n)).sum=((aM k).map (Qa n)).sum+Qa n k:=by
    rw[bC,bO,aZ];simp
   refine ih o k _ _ _ _ _ _ _ _ _ o o ?_ y H ?_;·rw[List.length_append,Tk];omega
   ·intro R5 c5 h5 g5 M O;rw[cU,<- Rb]at O ⊢;exact⟨_,_,_,rfl,⟨k+1,R5,c5,g5,rfl,o,B0 z (B0 q M),O⟩,by simp only[iAt,aG,aF];omega⟩
  ·have C:k=d+1:=o;subst C;have:=w R1 c1 D g' z (by rw[<- Tl];exact E);rw[<- Tl]at this;exact this
end
def Wd(n k:Nat):List (List Int):=(aM k).flatMap (O7 n)
def A24(n k:Nat):Wd n (k+1)=Wd n k++O7 n k:=by simp[Wd,bC]
def A6w(n k:Nat):(Wd n k).length=((aM k).map (Qa n)).sum:=by simp only[Wd,cM];congr 1;apply cL;intro j _;exact Ny n j
def Vq(n d:Int):Int:=if Bc n d then(if A3c n d>4096 then 2 else 0)else 3
def B3h(n d:Int):List (List Int):=if Bc n d then(if A3c n d>4096 then []else Wd n.toNat (d.toNat+1))else []
def MoSl.nil{h:aH}{A:Option aL}:MoSl h A []:=⟨[],.inl rfl,trivial⟩
def MoSl.mono{h h':aH}(hl:h.le h'){A:Option aL}{xss:List (List Int)}(s:MoSl h A xss):MoSl h' A xss:=by obtain⟨e,c,d⟩:=s;exact⟨e,c.mono hl,d.mono hl⟩
section
variable {h g:aH} {K:VP}
def A8t{n d:Int}(hK:∀A c h',h.le h'->MoSl h' A (B3h n d)->K (.tuple #[.slice A (B3h n d).length c,I (Vq n d)]) h'):aN prog 147 #[I n,I d] h K:=by refine(fnk func147 [(8,[8,24],[],[.slice none 0 0,I 0])]) ?_;refine Rh ⟨_,_,rfl,?_⟩;refine Br.not (Br.of (fun f=>?_) (fun f=>?_));{refine C1 (fun s=>?_) (fun s=>?_);{have:=hK none 0 h (B7 h) (by unfold B3h;rw[iP f,iP s];exact MoSl.nil);unfold B3h Vq at this;grind};·have M:=of_decide_eq_true f;have i:=Vh n d;refine Cy Sy o i.1 o o ?_;intro b B;refine⟨_,_,_,rfl,?_⟩;obtain⟨n',rfl⟩:∃n':Nat,n=n':=⟨n.toNat,o⟩;obtain⟨d',rfl⟩:∃d':Nat,d=d':=⟨d.toNat,o⟩;have j:B3h n' d'=Wd n' (d'+1):=by{unfold B3h;grind};have E:Vq n' d'=0:=by{unfold Vq;grind};refine⟨fun l h'=>∃(k:Nat) (R':Option aL) (e:Nat) (g:aH),l=[.slice R' (Wd n' k).length e,I k]/\k<=d'+1/\h.le g/\MoPriv h' g R' e (Wd n' k),fun l _=>(d'+1)-(iAt l 1).toNat,⟨0,some ⟨b,0,none⟩,_,h,rfl,o,B7 h,[],⟨rfl,Nat.zero_le _,.inr ⟨b,aC (A3c n' d').toNat (.slice none 0 0),rfl,B,?_,?_,rfl⟩⟩,trivial⟩,?_⟩;{rw[show(cX none 0 0).cells=#[.slice none 0 0]from rfl,T5]};{simp};rintro R1 F c1 t y ⟨k,R',e,g,L,G,w,p⟩;obtain⟨⟨rfl,rfl,rfl⟩,rfl⟩:(R1=R'/\F=(Wd n' k).length/\c1=e)/\t=(k:Int):=gz0;rw[C2 (n:=(d':Int)+1) o o];refine C1 (fun C=>?_) (fun C=>?_);{have N:=Tc (n:=n') (k:=k+1) o o;have u:((aM (k+1)).map (Qa n')).sum=((aM k).map (Qa n')).sum+Qa n' k:=by{rw[bC,bO,aZ];simp};have z:=A6w n' k;refine Zu n' o k [] (Wd n' k) R1 none c1 0 y g _ o gz0 o p SlI.nil ?_;intro R5 c5 H D q r;rw[show(O7 n' k).map (· ++ [])=O7 n' k by simp,<- A24]at r ⊢;rw[C2 (n:=(k:Int)+1) o o];exact⟨_,_,_,rfl,⟨k+1,R5,c5,D,rfl,o,B0 w q,r⟩,by simp only[iAt,aG,aF];omega⟩};·have m:k=d'+1:=o;subst m;have:=hK R1 c1 y (B0 w p.le) (by rw[j];exact p.slR);grind};·have:=hK none 0 h (B7 h) (by unfold B3h;rw[iN (by simp[f])];exact MoSl.nil);unfold B3h Vq at this;grind
end
def MoPriv.call{P:cC}{f:FuncId}{args:Array aR}{h g:aH}{A:Option aL}{c:Nat}{xss:List (List Int)}(p:MoPriv h g A c xss){K:VP}(x:aN P f args g (fun r h0=>g.le h0/\∀h',MoPriv h' h0 A c xss->K r h')):aN P f args h K:=by obtain⟨i,e,rv⟩:=p;exact e.call (x.mono fun r h0 ⟨j,d⟩ h' k=>d h' ⟨i,k,rv.mono j⟩)
section
variable {h g:aH} {K:VP}
def A2j(d:Nat):O7 1 d=[[(d:Int)]]:=by simp only[O7];rw[List.range_succ_eq_map];simp_all
def A56(n:Nat):n<=6->∀(d:Nat) (xss:List (List Int)) (R:Option aL) (rc:Nat) (h g:aH) (K:VP),d<=24->xss.length+Qa n d<=1000000->MoPriv h g R rc xss->
 (∀R' c' h' g',g.le g'->MoPriv h' g' R' c' (xss++O7 n d)->K (.slice R' (xss++O7 n d).length c') h')->
 aN prog 85 #[.slice R xss.length rc,I n,I d] h K:=by
 induction n with
 |zero=>
  intro _ d xss R rc h g K hd s p hK;refine(fnk func85 [(8,[0,7],[],[.slice none 0 0,I 0]),(12,[0,9],[],[.slice none 0 0,I 0])]) ?_;refine D5 (fun _=>?_) (fun h0=>absurd rfl h0);refine D5 (fun h1=>?_) (fun h1=>?_)
  ·have ad:d=0:=o;subst ad;refine Ob Sy p (xs:=[]) rfl SlI.nil (by simp) o ?_;assumption
  ·have e:O7 0 d=[]:=by simp only[O7];grind
   have:=hK R rc h g (B7 g) gz0;grind
 |succ n ih=>
  intro hn d xss R rc h g K hd s p hK;have V:xss.length+((aM (d+1)).map (Qa n)).sum<=1000000:=s;refine(fnk func85 [(8,[0,7],[],[.slice none 0 0,I 0]),(12,[0,9],[],[.slice none 0 0,I 0])]) ?_;refine D5 (fun h0=>o) (fun _=>?_);refine D5 (fun h1=>?_) (fun h1=>?_)
  ·have W:n=0:=o;subst W;refine V6 Gf rfl ?_;intro j f;refine⟨_,_,_,rfl,?_⟩;have N:Priv (h.put j (.cells #[I d] 3)) h 3 1 (some ⟨j,0,none⟩) 1 1 ([(d:Int)].map I):=⟨rfl,aE _,.inr ⟨j,[I d],rfl,f,rfl,rfl,rfl⟩⟩;obtain⟨g3,T,p3,ac⟩:=p.grow (Heap.le_put (.cells #[I d] 3) f);have s3:SlI .i64 g3 (some ⟨j,0,none⟩) [(d:Int)]:=Hb N (B7 h) ac;refine Ob Sy p3 (xs:=[(d:Int)]) rfl s3 (by simp) o ?_;intro A4 c4 h4 g4 af p4;have:=hK A4 c4 h4 g4 (B0 T af) (by rw[A2j];exact p4);rw[A2j]at this;exact this
  ·refine⟨fun l h'=>∃(k:Nat) (R':Option aL) (c':Nat) (g':aH),l=[.slice R' (xss++N2 n d k []).length c',I ((d:Int)-k)]/\k<=d+1/\g.le g'/\MoPriv h' g' R' c' (xss++N2 n d k []),fun l _=>(iAt l 1+1).toNat,⟨0,R,rc,g,by simp[N2],o,B7 g,by simpa[N2]using p⟩,?_⟩;rintro R1 n1 c1 last hp ⟨k,R',c',g',hl,hk,hg,p1⟩;obtain⟨⟨rfl,rfl,rfl⟩,rfl⟩:(R1=R'/\n1=(xss++N2 n d k []).length/\c1=c')/\last=(d:Int)-k:=gz0;refine C1 (fun h2=>?_) (fun h2=>?_)
   ·have e1:C4 (((n+1:Nat):Int)-1)=(n:Int):=by rw[C2 o o];omega
    have e2:C4 ((d:Int)-((d:Int)-k))=(k:Int):=by rw[C2 o o];omega
    have e3:C4 ((d:Int)-k-1)=(d:Int)-(k+1:Nat):=by rw[C2 o o];omega
    rw[e1,e2,e3]
    have am:((aM (k+1)).map (Qa n)).sum=((aM k).map (Qa n)).sum+Qa n k:=by
     rw[bC,bO,aZ];simp
    have au:=Ii (Qa n) (show k+1<=d+1 from o);have hr:=Tk n d k [];have ar:=Ny n k;have p0:MoPriv g' g' none 0 []:=⟨[],Priv.nil _ _ _ _,trivial⟩;refine p1.call (ih o k [] none 0 g' g' _ o gz0 p0 ?_);intro R5 c5 A g5 al S;rw[List.nil_append]at S ⊢;have F:g'.le A:=B0 al S.le;refine⟨F,fun aw p6=>⟨_,_,_,rfl,?_⟩⟩;obtain⟨ap,ak,G⟩:=S.slR;have a0:=G.length;refine⟨fun l h'=>∃(m:Nat) (R':Option aL) (c':Nat) (L:aH),l=[.slice R' (xss++N2 n d k []++((O7 n k).take m).map (· ++ [(d:Int)-k])).length c',I m]/\m<=(O7 n k).length/\A.le L/\MoPriv h' L R' c' (xss++N2 n d k []++((O7 n k).take m).map (· ++ [(d:Int)-k])),fun l _=>(O7 n k).length-(iAt l 1).toNat,⟨0,R1,c1,A,by simp,o,B7 A,gz0⟩,?_⟩;rintro R7 n7 c7 i7 q ⟨m,R',c',L,az,hm,u,H⟩;obtain⟨⟨rfl,rfl,rfl⟩,rfl⟩:(R7=R'/\n7=(xss++N2 n d k []++((O7 n k).take m).map (· ++ [(d:Int)-k])).length/\c7=c')/\i7=(m:Int):=gz0;refine C1 (fun h3=>?_) (fun h3=>?_)
    ·have c:m<(O7 n k).length:=o;refine Da Gf ?_;intro j f;refine⟨_,_,_,rfl,?_⟩;have t:A.le (q.put j (.cells #[] 3)):=B0 u (B0 H.le (Heap.le_put _ f));obtain⟨v,hv,B,bc,rfl,sB,av⟩:=G.at c;obtain⟨a,ha,hc⟩:=(ak.mono t).at (i:=m) o;rw[bL o]at hv;refine⟨a,ha,o,o,B,_,bc,by rw[aD,Nat.mul_one,hc];exact hv,?_⟩
     have an:((O7 n k).getD m []).length=n:=by
      have:(O7 n k).getD m []=(O7 n k)[m]:=gz0;rw[this];exact A2i n k _ (List.getElem_mem c)
     have ax:=sB.mono t;have N:Priv (q.put j (.cells #[] 3)) (q.put j (.cells #[] 3)) 3 1 (some ⟨j,0,none⟩) 0 0 []:=Priv.nil _ _ _ _;refine Bp Gf N (m:=((O7 n k).getD m []).length) (ys:=((O7 n k).getD m []).map I) (by simp) ?_ (by simp[Pe]) o o ?_;·assumption
     intro A9 c9 h9 g9 ai p9;refine⟨_,_,_,rfl,?_⟩;refine Xw Gf p9 rfl rfl o o ?_;intro A10 ao aq X z w;have r:q.le X:=B0 (Heap.le_put _ f) (B0 ai z);obtain⟨M,C,ag,E⟩:=H.grow (B0 r w.le);have O:SlI .i64 M A10 ((O7 n k).getD m []++[(d:Int)-k]):=Hb (by simpa using w) r E
     have Q:(xss++N2 n d k []++((O7 n k).take m).map (· ++ [(d:Int)-k])).length<=1000000:=by
      grind
     refine Ob Sy ag (by simp) O gz0 Q ?_;intro A12 aa ay aj y D
     have ah:xss++N2 n d k []++((O7 n k).take m).map (· ++ [(d:Int)-k])++[(O7 n k).getD m []++[(d:Int)-k]]=xss++N2 n d k []++((O7 n k).take (m+1)).map (· ++ [(d:Int)-k]):=by
      rw[cT c,bO,cU];grind
     rw[ah]at D ⊢;rw[C2 (n:=(m:Int)+1) o o];exact⟨⟨m+1,A12,aa,aj,rfl,o,B0 u (B0 C y),D⟩,by simp only[iAt,aG,aF];omega⟩
    ·have ae:m=(O7 n k).length:=o;subst ae;rw[cV,cU,<- Rb]at H ⊢;exact⟨⟨k+1,R7,c7,L,rfl,o,B0 hg (B0 F u),H⟩,by simp only[iAt,aG,aF];omega⟩
   ·have e0:N2 n d (d+1) []=O7 (n+1) d:=by rfl
    grind
def Pr{n d:Nat}(hn:n<=6)(hd:d<=24)(hK:∀A c h',h.le h'->MoSl h' A (Wd n (d+1))->K (.slice A (Wd n (d+1)).length c) h'):aN prog 41 #[I n,I d] h K:=by refine(fnk func41 [(3,[5,6],[],[.slice none 0 0,I 0])]) ?_;refine⟨fun l h'=>∃(k:Nat) (R':Option aL) (e:Nat) (f:aH),l=[.slice R' (Wd n k).length e,I k]/\k<=d+1/\h.le f/\MoPriv h' f R' e (Wd n k),fun l _=>(d+1)-(iAt l 1).toNat,⟨0,none,0,h,rfl,o,B7 h,[],Priv.nil _ _ _ _,trivial⟩,?_⟩;rintro R1 u c1 t m ⟨k,R',e,f,B,z,r,g⟩;obtain⟨⟨rfl,rfl,rfl⟩,rfl⟩:(R1=R'/\u=(Wd n k).length/\c1=e)/\t=(k:Int):=gz0;refine C1 (fun y=>?_) (fun y=>?_);{have D:=Tc (n:=n) (k:=k+1) o o;have q:((aM (k+1)).map (Qa n)).sum=((aM k).map (Qa n)).sum+Qa n k:=by{rw[bC,bO,aZ];simp};have w:=A6w n k;refine A56 n o k (Wd n k) R1 c1 m f _ o o g ?_;intro R5 c5 C s i p;rw[<- A24]at p ⊢;rw[C2 (n:=(k:Int)+1) o o];exact⟨_,_,_,rfl,⟨k+1,R5,c5,s,rfl,o,B0 r i,p⟩,by simp only[iAt,aG,aF];omega⟩};·have j:k=d+1:=o;subst j;exact hK R1 c1 m (B0 r g.le) g.slR
def MoSl.row{A:Option aL}{xss:List (List Int)}(s:MoSl h A xss){i:Nat}(hi:i<xss.length):∃a B bc,A=some a/\h.cell? (a.add i)=some (.slice B xss[i].length bc)/\SlI .i64 h B xss[i]/\xss[i].length<=6:=by obtain⟨d,e,rv⟩:=s;obtain⟨v,j,B,bc,rfl,g,f⟩:=rv.at hi;have c:i<d.length:=gz0;obtain⟨a,k,l⟩:=e.at c;grind
end
def mo(v d:Nat):List (List Int):=Wd v (d+1)
def mon(v d i:Nat):List Int:=(mo v d).getD i []
def mi(a b:List Int):Nat:=(B1w (opL (fun x y=>x+y) a b)).toNat
def C5o(v D:Nat):Bool:=decide ((mo v D).length<=28)&&decide (A3c v D=(mo v D).length)&&Bc v D && (aM (mo v D).length).all fun i=>K0 (mon v D i)&&decide ((mon v D i).length=v)&&decide ((B1w (mon v D i)).toNat=i) && (aM (mo v D).length).all fun k=>decide (B2o (mon v D i) (mon v D k)=if i<k then -1 else if i=k then 0 else 1)
def C5n(v d D:Nat):Bool:=(aM (mo v d).length).all fun i=>decide (mon v d i=mon v D i)&&(aM (mo v d).length).all fun k=>Am (mon v d i) (mon v d k)&&K0 (opL (fun x y=>x+y) (mon v d i) (mon v d k))&&decide (mi (mon v d i) (mon v d k)<(mo v D).length)&&decide (opL (fun x y=>x+y) (mon v d i) (mon v d k)=mon v D (mi (mon v d i) (mon v d k)))&&decide (mi (mon v d i) (mon v d k)=mi (mon v d k) (mon v d i))&&decide ((B1w (opL (fun x y=>x+y) (mon v d i) (mon v d k)))=mi (mon v d i) (mon v d k))
def B4v:∀v:Fin 3,∀D:Fin 7,1<=v.val->C5o v D=true:=by decide +kernel
def B4t:∀v:Fin 3,∀d:Fin 4,∀D:Fin 7,1<=v.val->2*d.val<=D.val->C5n v d D=true:=by decide +kernel
structure MoFacts (v D:Nat):Prop where
 len:(mo v D).length<=28
 cnt:A3c v D=(mo v D).length
 rng:Bc v D=true
 val:∀ i,i<(mo v D).length->K0 (mon v D i)=true/\(mon v D i).length=v/\(B1w (mon v D i)).toNat=i
 cmp:∀ i k,i<(mo v D).length->k<(mo v D).length->B2o (mon v D i) (mon v D k)=if i<k then -1 else if i=k then 0 else 1
def O9{v D:Nat}(h1:1<=v)(h2:v<=2)(hD:D<=6):MoFacts v D:=by have:=B4v ⟨v,o⟩ ⟨D,o⟩ h1;simp only[C5o,cW,decide_eq_true_eq,List.all_eq_true,List.mem_range]at this;obtain⟨⟨⟨f,g⟩,j⟩,d⟩:=this;exact⟨f,g,j,fun i c=>⟨(d i c).1.1.1,(d i c).1.1.2,(d i c).1.2⟩,fun i k c e=>(d i c).2 k e⟩
structure MuFacts (v d D:Nat) (i k:Nat):Prop where
 same:mon v d i=mon v D i
 pair:(Am (mon v d i) (mon v d k)&&K0 (opL (fun x y=>x+y) (mon v d i) (mon v d k)))=true
 lt:mi (mon v d i) (mon v d k)<(mo v D).length
 eq:opL (fun x y=>x+y) (mon v d i) (mon v d k)=mon v D (mi (mon v d i) (mon v d k))
 sym:mi (mon v d i) (mon v d k)=mi (mon v d k) (mon v d i)
 idx:B1w (opL (fun x y=>x+y) (mon v d i) (mon v d k))=mi (mon v d i) (mon v d k)
def O2{v d D i k:Nat}(h1:1<=v)(h2:v<=2)(hd:d<=3)(hD:D<=6)(hdD:2*d<=D)(hi:i<(mo v d).length)(hk:k<(mo v d).length):MuFacts v d D i k:=by have:=B4t ⟨v,o⟩ ⟨d,o⟩ ⟨D,o⟩ h1 hdD;simp only[C5n,cW,decide_eq_true_eq,List.all_eq_true,List.mem_range]at this;obtain⟨e,f⟩:=this i hi;obtain⟨⟨⟨⟨⟨m,n⟩,l⟩,j⟩,c⟩,g⟩:=f k hk;exact⟨e,by simp_all,l,j,c,g⟩
def B8s{v d i:Nat}(hi:i<(mo v d).length):(mo v d)[i]=mon v d i:=by unfold mon;grind
section
variable {h:aH} {K:VP} {A B:Option aL} {c cc n m v D:Nat} {V:Nat->Rat}
def Jr(h1:1<=v)(h2:v<=2)(hD:D<=6)(hK:∀A c h',h.le h'->MoSl h' A (mo v D)->K (.tuple #[.slice A (mo v D).length c,I 0]) h'):aN prog 147 #[I (v:Int),I (D:Int)] h K:=by obtain⟨g,e,d,_,_⟩:=O9 h1 h2 hD;refine A8t ?_;have f:B3h (v:Int) (D:Int)=mo v D:=by{unfold B3h;rw[iP d,iN o];simp[mo]};have i:Vq (v:Int) (D:Int)=0:=by{unfold Vq;grind};grind
def Ri(h1:1<=v)(h2:v<=2)(hD:D<=6)(hK:K (.tuple #[I ((mo v D).length:Int),.bool true]) h):aN prog 121 #[I (v:Int),I (D:Int)] h K:=by obtain⟨c,e,d,_,_⟩:=O9 h1 h2 hD;refine Rh ?_;grind
def MoSl.mon(s:MoSl h A (mo v D)){i:Nat}(hi:i<(mo v D).length):∃a B bc,A=some a/\h.cell? (a.add (i*1))=some (.slice B (mon v D i).length bc)/\SlI .i64 h B (mon v D i):=by obtain⟨a,B,bc,e,c0,c,_⟩:=s.row hi;rw[B8s hi]at c0 c;grind
def Nh{k:Nat}(h1:1<=v)(h2:v<=2)(hD:D<=6)(s:MoSl h A (mo v D))(hk:k<(mo v D).length)(t:SlI .i64 h B (mon v D k))(hK:K (.tuple #[I (k:Int),.bool true]) h):aN prog 174 #[.slice A (mo v D).length c,.slice B (mon v D k).length cc,.func (.func 175) #[] #[]] h K:=by obtain⟨M,_,_,_,C⟩:=O9 h1 h2 hD;refine(fnk func174 [(3,[9,10],[],[I 0,I 0])]) ?_;refine⟨fun L m=>∃i j:Nat,i<=k/\k<=j/\j<=(mo v D).length/\L=[I (i:Int),I (j:Int)]/\m=h,fun L _=>(iAt L 1).toNat-(iAt L 0).toNat,⟨0,_,o,o,aE _,rfl,rfl⟩,?_⟩;rintro N H m ⟨i,j,E,l,G,z,rfl⟩;obtain⟨rfl,rfl⟩:=z;have d:C4 (Int.fdiv (C8 (C4 ((i:Int)+(j:Int)))) (2^(min ((1:Int)).toNat 64)))=(((i+j)/2:Nat):Int):=by{rw[C2 (n:=(i:Int)+j) o o,C6 o o];have F:(2:Int)^(min ((1:Int)).toNat 64)=2:=dc;rw[F];have y:Int.fdiv ((i:Int)+(j:Int)) 2=(((i+j)/2:Nat):Int):=by{grind};rw[y,C2 o o]};rw[d];refine C1 (fun r=>?_) (fun q=>?_);{have p:(i+j)/2<(mo v D).length:=o;obtain⟨a,B2,w,e,c0,g⟩:=s.mon p;refine⟨a,e,o,o,_,_,_,by exact c0,?_⟩;refine Kg g t ⟨_,rfl,?_⟩;rw[C _ _ p hk];refine C1 (fun u=>?_) (fun u=>?_);{rw[C2 o o];exact⟨⟨(i+j)/2+1,j,o,l,G,by simp,rfl⟩,by simp only[iAt,aG,aF];omega⟩};·have f:k<=(i+j)/2:=by{omega};exact⟨⟨i,(i+j)/2,E,f,o,rfl,rfl⟩,by simp only[iAt,aG,aF];omega⟩};·obtain rfl:i=k:=o;refine C1 (fun _=>?_) (fun e=>o);obtain⟨a,B2,w,e,c0,g⟩:=s.mon hk;refine⟨a,e,o,o,_,_,_,by exact c0,?_⟩;refine Kg g t ⟨_,rfl,?_⟩;grind
structure FnV (h:aH) (A:Option aL) (v D m:Nat) (V:Nat->Rat):Prop where
 v1:1<=v
 v2:v<=2
 d6:D<=6
 row:aT SSr h A (mo v D).length (fun i=>F3 (V i))
 sz:∀ i,i<(mo v D).length->Sz m (V i)
 sm:m<=1000000
def FnV.mono{h':aH}(l:h.le h')(f:FnV h A v D m V):FnV h' A v D m V:=⟨f.v1,f.v2,f.d6,f.row.mono E9 l,f.sz,f.sm⟩
def Wm(gl:Gl h)(r:aT SSr h A n (fun i=>F3 (V i)))(hn:n<=1000000)(hs:∀i,i<n->Sz m (V i))(hm:m<=1000000)(hK:K (.bool true) h):aN prog 122 #[.slice A n c] h K:=by refine(fnk func122 [(2,[7],[],[I 0])]) ?_;refine⟨fun L f=>∃i:Nat,i<=n/\L=[I (i:Int)]/\f=h,fun L _=>n-(iAt L 0).toNat,⟨0,o,rfl,rfl⟩,?_⟩;rintro z f ⟨i,k,l,rfl⟩;obtain rfl:z=(i:Int):=gz0;refine C1 (fun j=>?_) (fun g=>hK);have d:i<n:=o;obtain⟨a,e,c0⟩:=r.sat d;refine⟨a,e,o,o,_,by exact c0,?_⟩;refine Pj gl (Tx.of (hs i d) o).len (fun _=>⟨_,rfl,Br.nt ?_⟩) (fun no=>absurd ⟨V i,rfl⟩ no);rw[wiS i o];exact⟨⟨i+1,o,rfl,rfl⟩,by simp only[O8];omega⟩
def Dr(gl:Gl h)(f:FnV h A v D m V)(hK:K (.bool true) h):aN prog 71 #[.agg #[I (v:Int),I (D:Int),.slice A (mo v D).length c]] h K:=by have g:=f.v1;have i:=f.v2;have d:=(O9 f.v1 f.v2 f.d6).len;refine(fnk func71 (own:=[1])) ?_;refine C1 (fun e=>o) (fun _=>C1 (fun e=>o) (fun _=>?_));refine Ri f.v1 f.v2 f.d6 ⟨_,_,rfl,?_⟩;refine Br.of (fun _=>C1 (fun _=>D5 (fun _=>?_) (fun e=>absurd rfl e)) (fun e=>o)) (fun e=>by cases e);exact Wm gl f.row o f.sz f.sm ⟨_,rfl,hK⟩
def Cx(f:FnV h A v D m V)(hK:∀T tc h',h.le h'->MoSl h' T (mo v D)->K (.agg #[.slice T (mo v D).length tc,.slice A (mo v D).length c]) h'):aN prog 161 #[.agg #[I (v:Int),I (D:Int),.slice A (mo v D).length c]] h K:=by refine(fnk func161 (own:=[1,2])) ?_;refine Jr f.v1 f.v2 f.d6 ?_;grind
def A2k{k:Nat}{T:Option aL}{tc:Nat}(f:FnV h A v D m V)(s:MoSl h T (mo v D))(hk:k<(mo v D).length)(t:SlI .i64 h B (mon v D k))(hK:K (.string (bs (F3 (V k)))) h):aN prog 190 #[.agg #[.slice T (mo v D).length tc,.slice A (mo v D).length c],.slice B (mon v D k).length cc] h K:=by refine(fnk func190 (own:=[2])) ?_;refine Nh f.v1 f.v2 f.d6 s hk t ⟨_,_,rfl,Br.nt (C1 (fun e=>o) (fun _=>?_))⟩;obtain⟨a,e,c0⟩:=f.row.sat hk;grind
end
section
variable {α β:Type} [E:Enc α] {R:aH->α->β->Prop} {e:bG} {h0 h1 hp:aH} {A:Option aL} {c n:Nat} {f:Nat->β}
def Lst(R:aH->α->β->Prop)(e:bG)(h0 hp:aH)(A:Option aL)(c n:Nat)(f:Nat->β):Prop:=∃g o,∃xs:List α,h0.le g/\Sep hp g o/\aY o e A c xs/\xs.length=n/\Row R g xs n f
def Lst.nil:Lst R e h0 h0 none 0 0 f:=⟨h0,Y9,[],B7 _,Sep.refl _,OwnSl.nil,rfl,Row.nil⟩
def Lst.le(l:Lst R e h0 hp A c n f):h0.le hp:=by obtain⟨g,o,i,d,s,_⟩:=l;exact B0 d s.le
def Lst.weak(w:h1.le h0)(l:Lst R e h0 hp A c n f):Lst R e h1 hp A c n f:=by obtain⟨g,o,d,i,s,r⟩:=l;exact⟨g,o,d,B0 w i,s,r⟩
def Lst.row(m:Mon R)(l:Lst R e h0 hp A c n f):aT R hp A n f:=by obtain⟨g,o,d,j,s,w,i,r⟩:=l;exact⟨d,w.slF s.ole,i,r.mono m s.le⟩
def Lst.congr{f':Nat->β}(l:Lst R e h0 hp A c n f)(x:∀i,i<n->f i=f' i):Lst R e h0 hp A c n f':=by obtain⟨g,o,d,k,s,w,j,r⟩:=l;exact⟨g,o,d,k,s,w,j,r.congr x⟩
def Lst.cap(l:Lst R e h0 hp A c n f):n<=c:=by obtain⟨g,o,d,i,s,w,rfl,r⟩:=l;exact w.1
def Lst.call(m:Mon R){P:cC}{F:FuncId}{args:Array aR}{K:VP}(l:Lst R e h0 hp A c n f)(x:∀g,h0.le g->aN P F args g (fun r g'=>g.le g'/\∀h',hp.le h'->Lst R e g' h' A c n f->K r h')):aN P F args hp K:=by obtain⟨g,o,j,q,s,w,p,r⟩:=l;refine s.call (FCall.mono (x g q) ?_);rintro v g' ⟨d,k⟩ h' i;exact k h' (s.le_le i d) ⟨g',o,j,B7 _,i,w,p,r.mono m d⟩
def Lst.base(pos:0<E.default.size)(l:Lst R e h0 hp A c n f):∃g,h0.le g/\Lst R e g hp A c n f/\∀i,i<n->∃a w,A=some a/\R g w (f i)/\∀j v,(enc w)[j]? = some v->hp.cell? (aK (aK a (i*E.default.size)) j)=some v:=by obtain⟨g,o,d,u,s,w,t,r⟩:=l;refine⟨g,u,⟨g,o,d,B7 _,s,w,t,r⟩,fun i q=>?_⟩;have k:i<d.length:=oo;obtain⟨a,m,p⟩:=(w.slF s.ole).at pos k;exact⟨a,d[i],m,r.get q k,p⟩
def Lst.lit1{P:cC}{t:bG}{z:aR}{bytes:Nat}(st:cD P t e z E.default.size bytes){v:aR}{y:α}(hv:v.cells=(enc y).toArray)(hsz:E.default.size<=1000)(hR:R h0 y (f 0)){K:VP} (x:∀b h',h0.le h'->Lst R e h0 h' (some ⟨b,0,none⟩) 1 1 f->K (.slice (some ⟨b,0,none⟩) 1 1) h'):wpH P (aU t 1 #[(0,v)]) K h0:=by have d:(enc y).length=E.default.size:=E.default.len y;refine T7 st (vs:=[v]) (fun u j=>gz0) rfl gz0 rfl fun b c=>x b _ (Heap.le_put _ c) ⟨h0,_,[y],B7 _,Z7 c,⟨aE _,.inr ⟨b,enc y,rfl,?_,o,?_⟩⟩,rfl,fun i g=>⟨y,?_,?_⟩⟩;{rw[C3];simp[hv]};{rw[List.length_singleton,Nat.one_mul,List.take_of_length_le o];simp};{grind};grind
def Lst.push(m:Mon R){P:cC}{t ty:bG}{z:aR}{bytes k:Nat}(st:cD P t e z E.default.size bytes)(l:Lst R e h0 hp A c n f)(hk:k=n){v:aR}{y:α}(hv:v.cells=(enc y).toArray)(hR:R h0 y (f n))(hsz:E.default.size<=1000/\bytes<=1000) (hb:n<=1000000) {K:Option aL->Nat->Nat->aH->Prop} (x:∀A' c' h',Lst R e h0 h' A' c' (n+1) f->K A' (n+1) c' h'): wpH P (aU t 1 #[(0,v)]) (fun v' hp=>∃(B:Option aL) (m d:Nat),v'= .slice B m d/\wpH P (aX #[t,t] ty #[.slice A k c,.slice B m d]) (fun v1 hp1=>∃(A':Option aL) (n' c':Nat),v1= .slice A' n' c'/\K A' n' c' hp1) hp) hp:=by subst hk;obtain⟨g,o,xs,q,s,w,j,r⟩:=l;refine J0 (ty:=ty) st s w j.symm (y:=y) hv hsz.1 (by rw[j];exact bY (aP (show 2*(k+1)+192<=3000000 from oo) hsz.2) dc) oo ?_;intro A' c' h' p D i u C _;rw[j];refine x A' c' h' ⟨p,D,_,B0 q i,u,C,gz0,?_⟩;have F:=Row.push (R:=R) (g:=p) (xs:=xs) (f:=f) (by rw[j];exact r.mono m i) (w:=y) (by rw[j];exact m _ _ _ _ (B0 q i) hR);grind
def Lst.pushG(m:Mon R){P:cC}{t ty:bG}{z:aR}{bytes k:Nat}(st:cD P t e z E.default.size bytes)(l:Lst R e h0 hp A c n f)(hk:k=n){v:aR}{y:α}(hv:v.cells=(enc y).toArray)(hR:R h0 y (f n))(hsz:E.default.size<=1000/\bytes<=1000) (hb:n<=1000000) {K:Option aL->Nat->Nat->aH->Prop} (x:∀A' c' h',Lst R e h0 h' A' c' (n+1) f->K A' (n+1) c' h'): wpH P (aU t 1 #[(0,v)]) (fun v' hp'=>∃(B:Option aL) (m d:Nat),v'= .slice B m d/\Heap.le hp hp'/\wpH P (aX #[t,t] ty #[.slice A k c,.slice B m d]) (fun v1 hp1=>∃(A':Option aL) (n' c':Nat),v1= .slice A' n' c'/\K A' n' c' hp1) hp') hp:=by subst hk;obtain⟨g,o,xs,q,s,w,j,r⟩:=l;rw[<- j];refine OwnSl.push (ty:=ty) st s w (y:=y) hv hsz.1 (by rw[j];exact bY (aP (show 2*(k+1)+192<=3000000 from oo) hsz.2) dc) oo (K1:=fun C=>Heap.le hp C) (fun _ l=>l) ?_;intro A' c' h' p F i u D _;rw[j];refine x A' c' h' ⟨p,F,_,B0 q i,u,D,gz0,?_⟩;have G:=Row.push (R:=R) (g:=p) (xs:=xs) (f:=f) (by rw[j];exact r.mono m i) (w:=y) (by rw[j];exact m _ _ _ _ (B0 q i) hR);grind
end
section
variable {α β α2 β2:Type} [E:Enc α] [E2:Enc α2] {R:aH->α->β->Prop} {e e2:bG} {h0 hp:aH} {A A2:Option aL} {c n c2 n2:Nat} {f:Nat->β} {R2:aH->α2->β2->Prop} {f2:Nat->β2}
def Lst2(R:aH->α->β->Prop)(e:bG)(R2:aH->α2->β2->Prop)(e2:bG)(h0 hp:aH)(A:Option aL)(c n:Nat)(f:Nat->β)(A2:Option aL)(c2 n2:Nat)(f2:Nat->β2):Prop:=∃g o,∃xs:List α,∃ys:List α2,h0.le g/\Sep hp g o/\aY o e A c xs/\aY o e2 A2 c2 ys/\(∀b,A=some ⟨b,0,none⟩->A2≠some ⟨b,0,none⟩)/\xs.length=n/\ys.length=n2/\Row R g xs n f/\Row R2 g ys n2 f2
def Lst2.nil:Lst2 R e R2 e2 h0 h0 none 0 0 f none 0 0 f2:=⟨h0,Y9,[],[],B7 _,Sep.refl _,OwnSl.nil,OwnSl.nil,fun _ x=>by(cases x),rfl,rfl,Row.nil,Row.nil⟩
def Lst2.swap(l:Lst2 R e R2 e2 h0 hp A c n f A2 c2 n2 f2):Lst2 R2 e2 R e h0 hp A2 c2 n2 f2 A c n f:=by obtain⟨g,o,k,j,t,s,w,p,m,q,d,r,i⟩:=l;exact⟨g,o,j,k,t,s,p,w,fun b x y=>m b y x,d,q,i,r⟩
def Lst2.le(l:Lst2 R e R2 e2 h0 hp A c n f A2 c2 n2 f2):h0.le hp:=by obtain⟨g,o,i,j,d,s,_⟩:=l;exact B0 d s.le
def Lst2.row(m:Mon R)(l:Lst2 R e R2 e2 h0 hp A c n f A2 c2 n2 f2):aT R hp A n f:=by obtain⟨g,o,d,p,u,s,w,t,q,j,i,r,k⟩:=l;exact⟨d,w.slF s.ole,j,r.mono m s.le⟩
def Lst2.cap(l:Lst2 R e R2 e2 h0 hp A c n f A2 c2 n2 f2):n<=c:=by obtain⟨g,o,k,j,q,s,w,p,m,rfl,d,r,i⟩:=l;exact w.1
def Lst2.pushG(m:Mon R)(m2:Mon R2){P:cC}{t ty:bG}{z:aR}{bytes k:Nat}(st:cD P t e z E.default.size bytes)(l:Lst2 R e R2 e2 h0 hp A c n f A2 c2 n2 f2)(hk:k=n){v:aR}{y:α}(hv:v.cells=(enc y).toArray)(hR:R h0 y (f n))(hsz:E.default.size<=1000/\bytes<=1000) (hb:n<=1000000) {K:Option aL->Nat->Nat->aH->Prop} (x:∀A' c' h',Lst2 R e R2 e2 h0 h' A' c' (n+1) f A2 c2 n2 f2->K A' (n+1) c' h'): wpH P (aU t 1 #[(0,v)]) (fun v' hp'=>∃(B:Option aL) (m d:Nat),v'= .slice B m d/\Heap.le hp hp'/\wpH P (aX #[t,t] ty #[.slice A k c,.slice B m d]) (fun v1 hp1=>∃(A':Option aL) (n' c':Nat),v1= .slice A' n' c'/\K A' n' c' hp1) hp') hp:=by subst hk;obtain⟨g,o,xs,W,F,s,w,M,X,j,D,r,V⟩:=l;rw[<- j];refine OwnSl.push (ty:=ty) st s w (y:=y) hv hsz.1 (by rw[j];exact bY (aP (show 2*(k+1)+192<=3000000 from oo) hsz.2) dc) oo (K1:=fun S=>Heap.le hp S) (fun _ l=>l) ?_;intro A' c' h' G L i N Q O;rw[j];have C:∀b x,A2=some ⟨b,0,none⟩->o b=some x->L b=some x/\A'≠some ⟨b,0,none⟩:=fun b x q u=>O b x u fun p=>X b p q;have H:∀b,A2=some ⟨b,0,none⟩->∃x,o b=some x:=fun b q=>by{rcases M.2 with⟨_,p⟩|⟨b',T,p,q3,_⟩;{grind};grind};refine x A' c' h' ⟨G,L,_,W,B0 F i,N,Q,M.keep fun b x q u=>(C b x q u).1,fun b q p=>?_,gz0,D,?_,V.mono m2 i⟩;{grind};have rB:=Row.push (R:=R) (g:=G) (xs:=xs) (f:=f) (by rw[j];exact r.mono m i) (w:=y) (by rw[j];exact m _ _ _ _ (B0 F i) hR);grind
end
def Bu(V:Nat->Rat)(v d:Nat):Nat->Nat->Rat:=fun i k=>V (mi (mon v d i) (mon v d k))
def nM(v d:Nat):Nat:=(mo v d).length
section
variable {h:aH} {K:VP} {A B T:Option aL} {c cc tc n m v d D:Nat} {V:Nat->Rat}
def A8v{i k:Nat}(f:FnV h A v D m V)(s:MoSl h T (mo v D))(hd3:d<=3)(hD:2*d<=D)(hi:i<nM v d)(hk:k<nM v d)(sb:SlI .i64 h B (opL (fun x y=>x+y) (mon v d i) (mon v d k)))(hK:K (.string (bs (F3 (Bu V v d i k)))) h):aN prog 190 #[.agg #[.slice T (mo v D).length tc,.slice A (mo v D).length c],.slice B (opL (fun x y=>x+y) (mon v d i) (mon v d k)).length cc] h K:=by have q:=O2 f.v1 f.v2 hd3 f.d6 hD hi hk;rw[q.eq]at sb ⊢;exact A2k f s q.lt sb hK
def Gx(gl:Gl h)(f:FnV h A v D m V)(hd3:d<=3)(hD:2*d<=D)(hK:∀A' c' h',h.le h'->aT SSr h' A' (nM v d*nM v d) (R9 (Bu V v d) (nM v d))->K (.tuple #[Jz (nM v d) (nM v d) A' (nM v d*nM v d) c',I 0]) h'): aN prog 144 #[.agg #[I (v:Int),I (D:Int),.slice A (mo v D).length c],I (d:Int)] h K:=by have r:=f.v1;have t:=f.v2;have d6:=f.d6;have G:nM v d<=28:=(O9 r t (show d<=6 from o)).len;have ah:nM v d*nM v d<=28*28:=aP G G;refine(fnk func144 [(14,[62],[(11,3)],[I 0,I 0,I 0,.slice none 0 0]),(17,[68],[(11,3)],[I 0,I 0,I 0,.slice none 0 0])] (own:=[2,4,10,11]) (wr:=[1000000000])) ?_;have e2:C4 (dC (D:Int) 2)=((D/2:Nat):Int):=by{rw[Int.tdiv_eq_ediv_of_nonneg o,C2 o o];omega};refine Dr gl f ⟨_,rfl,Br.nt (C1 (fun e=>o) (fun _=>?_))⟩;rw[e2];refine C1 (fun e=>o) (fun _=>Ri r t o ⟨_,_,rfl,C1 (fun e=>?_) (fun _=>?_)⟩);{unfold nM at G;omega};refine Jr r t o fun A1 c1 h1 W Q=>⟨_,_,_,_,rfl,E6 (fun e=>absurd rfl e) (fun _=>?_)⟩;have E:=f.mono W;refine Cx E fun T tc w M s2=>⟨_,_,_,_,_,_,rfl,?_⟩;have f2:=E.mono M;have H:=Q.mono M;clear Q E;change MoSl w A1 (mo v d)at H;generalize hF:R9 (Bu V v d) (nM v d)=F;have n:∀i k,k<nM v d->F (i*nM v d+k)=F3 (Bu V v d i k):=fun i k N=>by{obtain⟨a1,a2⟩:=dm1 (i:=i) N;rw[<- hF];unfold R9;rw[a1,a2]};rw[hF]at hK;refine⟨fun L s=>∃(i:Nat) (A':Option aL) (c':Nat),i<=nM v d/\L=[I (i:Int),I (nM v d:Int),I (nM v d:Int),.slice A' (i*nM v d) c']/\Lst SSr 9 w s A' c' (i*nM v d) F,fun L _=>nM v d-(iAt L 0).toNat,⟨0,none,0,o,by rw[bV];rfl,by rw[bV];exact Lst.nil⟩,?_⟩;rintro z m0 m1 mA mn mc s ⟨i,A',c',hi,p,L⟩;simp only[bX,cY,cP,true_and,and_true]at p;obtain⟨rfl,rfl,rfl,rfl,rfl,rfl⟩:=p;refine C1 (fun ad=>?_) (fun aa=>?_);{have l:i<nM v d:=by{unfold nM at *;omega};have u:(i+1)*nM v d=i*nM v d+nM v d:=by{rw[Nat.add_mul,Nat.one_mul]};have X:(i+1)*nM v d<=nM v d*nM v d:=aJ _ l;obtain⟨a,B1,bc,e,c0,s0⟩:=H.mon l;refine⟨_,e,o,by unfold nM at *;omega,_,_,_,by rw[aD];exact C0 L.le c0,?_⟩;refine⟨fun L s=>∃(k:Nat) (A':Option aL) (c':Nat),k<=nM v d/\L=[I (k:Int),I (nM v d:Int),I (nM v d:Int),.slice A' (i*nM v d+k) c']/\Lst SSr 9 w s A' c' (i*nM v d+k) F,fun L _=>nM v d-(iAt L 0).toNat,⟨0,mA,mc,o,rfl,L⟩,?_⟩;rintro z m0 m1 ac ae ag af ⟨k,A2,c2,N,p,L2⟩;simp only[bX,cY,cP,true_and,and_true]at p;obtain⟨rfl,rfl,rfl,rfl,rfl,rfl⟩:=p;refine C1 (fun R=>?_) (fun O=>?_);{have j:k<nM v d:=by{unfold nM at *;omega};obtain⟨a3,B3,ai,e3,c3,t0⟩:=H.mon j;refine⟨_,e3,o,by unfold nM at *;omega,_,_,_,by rw[aD];exact C0 L2.le c3,?_⟩;have q:=O2 r t hd3 d6 hD l j;refine L2.call E9 fun g C=>Xv (s0.mono C) (t0.mono C) (fun no=>by rw[q.pair]at no;cases no) fun _ B h' S sB=>⟨S,fun h4 _ L3=>⟨_,_,_,_,rfl,?_⟩⟩;have L4:=L3.weak (B0 C S);refine A8v (f2.mono L4.le) (s2.mono L4.le) hd3 hD l j (sB.mono L3.le) ⟨_,rfl,B7 _,?_⟩;refine L4.pushG E9 I6 (y:=F3 (Bu V v d i k)) rfl (by rfl) (n i k j).symm dc o fun A5 c5 h5 L5=>?_;rw[wiS k o];exact⟨⟨k+1,_,_,o,rfl,L5.weak (B7 _)⟩,by simp only[O8];omega⟩};·obtain rfl:k=nM v d:=by{unfold nM at *;omega};rw[wiS i o];rw[<- u]at L2 ⊢;exact⟨⟨i+1,_,_,o,rfl,L2⟩,by simp only[O8];omega⟩};·obtain rfl:i=nM v d:=by{unfold nM at *;omega};exact hK _ _ _ (B0 (B0 W M) L.le) (L.row E9)
end
def C2x{P:cC}{t e' ty:bG}{z:aR}{bytes:Nat}(s:cD P t e' z 1 bytes){h g o:aH}{b:Nat}{arr:List aR}{e:bG}(sp:Sep h g o)(ho:o b=some (.cells arr.toArray e)){d n c m cc:Nat}(hd:d+n<=arr.length){B:Option aL}{ys:List aR}(sy:SlV h B ys)(hm:min m n=ys.length)(h1:∀v∈ys,Pe v=true){K:VP} (x:∀h',Sep h' g (o.put b (.cells (I8 arr d ys).toArray e))->K (I ys.length) h'):wpH P (dG #[t,t] ty #[.slice (some ⟨b,d,none⟩) n c,.slice B m cc]) K h:=by obtain⟨i,q,r,k,l⟩:=s.parts;have p:ys.length<=n:=oo;unfold dG;simp only[List.getElem?_toArray,aF,aG,C9,F4 s.und,K5 q,I5,Builtin.lenOf,k];have f:Nat.min m n=ys.length:=hm;rw[f];refine Ki (s:=1) (cs:=ys) (by simp) sy ?_;simp only[C9];have j:h.put b (.cells arr.toArray e)=h:=Pc (sp.own b _ ho);rw[<- j];refine H9 ys d 0 arr oo h1 ?_;exact x _ (sp.upd ho _)
section
variable {h:aH} {K:VP} {A:Option aL} {n ac N cap:Nat} {r c:Int} {la:Nat->List UInt8}
def Zi(x:List UInt8)(n:Nat):(aC n x).flatMap enc=aC n (aO (bs x)):=by have c:(aC n x).flatMap enc=(aC n x).flatMap fun l=>[aO (bs l)]:=rfl;rw[c,B55,List.map_replicate]
def Rg{v:ByteArray}(s:SlV h A [.string v])(hN:1<=N)(hl:N<=1000000) (hK:∀b h' o',Sep h' h o'->o' b=some (.cells (aC N (aO v)).toArray 9)->K (.slice (some ⟨b,0,none⟩) N N) h'):aN prog 116 #[.slice A 1 ac,I (N:Int)] h K:=by refine(fnk func116 [(8,[8],[],[I 0])]) ?_;refine C1 (fun g=>oo) (fun _=>?_);rw[C6 (n:=((1:Nat):Int)) oo oo,C6 (n:=(N:Int)) oo oo];refine B2t oo oo ⟨_,_,rfl,?_⟩;have L:((1:Nat):Int)*(N:Int)/18446744073709551616=0:=oo;have G:((1:Nat):Int)*(N:Int)%18446744073709551616=N:=oo;rw[L,G];refine C1 (fun g=>oo) (fun _=>?_);refine C1 (fun g=>oo) (fun _=>?_);rw[C2 (n:=(N:Int)) oo oo];refine I3 I6 (zx:=([]:List UInt8)) rfl oo oo oo oo ?_;intro b q;simp only[aD];refine⟨_,_,_,rfl,?_⟩;have r:=(Sep.refl h).new q (.cells ((aC N ([]:List UInt8)).flatMap enc).toArray 9);have t:h.le (h.put b (.cells ((aC N ([]:List UInt8)).flatMap enc).toArray 9)):=Heap.le_put _ q;rw[Zi]at r t;show wpH _ (dG _ _ _) _ (h.put b (.cells ((aC N ([]:List UInt8)).flatMap enc).toArray 9));rw[Zi];refine C2x I6 r (C3 _ _ _) (d:=0) (by simp) (s.mono t) (by simp;omega) (fun w H=>by rw[List.mem_singleton.1 H];rfl) ?_;intro g y;refine⟨_,rfl,?_⟩;have cut:I8 (aC N (aO (bs []))) 0 [aO v]=aC 1 (aO v)++aC (N-1) (aO (bs [])):=by{unfold I8;simp};rw[cut]at y;refine⟨fun l e=>∃(k:Nat) (o:aH),l=[I (k:Int)]/\0<k/\k<=N/\Sep e h o/\o b=some (.cells (aC k (aO v)++aC (N-k) (aO (bs []))).toArray 9),fun l _=>N-(iAt l 0).toNat,⟨1,_,rfl,oo,hN,y,C3 _ _ _⟩,?_⟩;rintro i e ⟨k,o,p,F,B,w,f⟩;obtain rfl:=sI1 p;refine C1 (fun D=>?_) (fun D=>?_);{refine⟨⟨oo,oo⟩,⟨oo,oo⟩,?_⟩;simp only[aD,I4,Nat.sub_zero];rw[Ot oo,D6,aS,Nat.mul_one];have m:(aC k (aO v)++aC (N-k) (aO (bs []))).length=N:=by{simp;omega};have E:SlV e (some ⟨b,0,none⟩) (aC (min k (N-k)) (aO v)):=by{right;refine⟨_,rfl,fun i u c=>?_⟩;have j:i<min k (N-k):=by{by_cases j:i<min k (N-k);{exact j};·rw[List.getElem?_eq_none (by rw[aI];omega)]at c;cases c};rw[cF,iP j]at c;rw[D6,aS];unfold Heap.cell?;simp only[w.own b _ f,Option.isSome_none,Bool.false_eq_true,if_false,List.getElem?_toArray];rw[List.getElem?_append_left (by rw[aI];omega),cF,iP oo];exact c};refine C2x I6 w f (d:=k) (by rw[m];omega) E (by rw[aI]) (fun u c=>by rw[List.eq_of_mem_replicate c];rfl) ?_;intro O z;rw[aI];have M:C4 ((k:Int)+(min k (N-k):Nat))=((k+min k (N-k):Nat):Int):=by{rw[C2 oo oo];omega};have C:I8 (aC k (aO v)++aC (N-k) (aO (bs []))) k (aC (min k (N-k)) (aO v))=aC (k+min k (N-k)) (aO v)++aC (N-(k+min k (N-k))) (aO (bs [])):=by{unfold I8;rw[List.take_left' (by simp),aI,List.drop_append,List.drop_of_length_le (by rw[aI];omega),List.nil_append,aI,List.drop_replicate,List.replicate_append_replicate];congr 2;omega};rw[C]at z;refine⟨_,rfl,?_⟩;rw[M];exact⟨⟨k+min k (N-k),_,rfl,oo,oo,z,C3 _ _ _⟩,by simp only[O8];omega⟩};·have:k=N:=oo;subst this;rw[Nat.sub_self,List.replicate_zero,List.append_nil]at f;exact hK b e o w f
end
def A3r{X Y:Prop}(x:X):Br true X Y:=x
section
variable {h:aH} {A:Option aL} {n cap:Nat} {r c:Int} {ls:Nat->List UInt8}
end
def eq0{d:Rat}:(ByteArray.toList (bs (F3 d))==ByteArray.toList ({data:=#[48] }:ByteArray))=decide (d=0):=by have c:({data:=#[48] }:ByteArray)=bs (F3 0):=by{rw[A1e];rfl};rw[c,Rl];by_cases h:d=0;{rw[h];simp};·rw[decide_eq_false h];exact decide_eq_false fun e=>h (A6a e)
section
variable {h:aH} {K:VP} {A:Option aL} {n cap m:Nat} {r c:Int} {la:Nat->List UInt8}
end
def Sep.storeRaw{P:cC}{t:bG}{m:Nat}(one:P.cellsOf t=m/\(P.info? t).isSome=true){v:aR}{vs:List aR}(hv:v.cells=vs.toArray)(hl:vs.length=m)(h1:∀x∈vs,Pe x=true){h g o:aH}(s:Sep h g o){b:Nat}{arr:List aR}{e:bG}(hb:o b=some (.cells arr.toArray e)){off:Nat}(hoff:off+m<=arr.length){K:Unit->aH->Prop} (x:∀h' o',o'=o.put b (.cells (I8 arr off vs).toArray e)->Sep h' g o'->K () h'):wpH P (bM t (.pointer (some ⟨b,off,none⟩)) v) K h:=by obtain⟨i,d⟩:=Option.isSome_iff_exists.1 one.2;have j:i.size=m:=by{simpa[Program.cellsOf,d]using one.1};have c:(h.without b).put b (.cells arr.toArray e)=h:=K8 (s.own b _ hb);unfold bM;simp only[C9,Instr.sureAddr,I5,storeVar,K5 d,j,hv,List.size_toArray,hl,ne_eq,not_true_eq_false,if_false];rw[<- c];refine H9 vs off 0 _ oo h1 ?_;rw[Nat.add_zero];have f:(h.without b).put b (.cells (I8 arr off vs).toArray e)=h.put b (.cells (I8 arr off vs).toArray e):=by{rw[<- c,Ea,c]};rw[f];exact x _ _ rfl (s.upd hb _)
def B1c:prog.cellsOf 3=1/\(prog.info? 3).isSome=true:=⟨by kernel_rfl,by kernel_rfl⟩
def B1b:prog.cellsOf 232=1/\(prog.info? 232).isSome=true:=⟨by kernel_rfl,by kernel_rfl⟩
def QB(g o:aH)(b n:Nat)(f:Nat->Rat):Prop:=∃xs:List QV,RowX o b xs/\xs.length=n/\Row RQr g xs n f
def onT(T:Tb)(x:Nat):Prop:=x=T.bt\/x=T.bE\/x=T.bS
section
variable {g o:aH} {b n:Nat} {f:Nat->Rat}
def QB.ko(q:QB g o b n f){g' o':aH}(l:g.le g')(e:o' b=o b):QB g' o' b n f:=by obtain⟨d,r,c,i⟩:=q;exact⟨d,r.keep fun x j=>gz0,c,i.mono H1 l⟩
def QB.congr(q:QB g o b n f){f':Nat->Rat}(e:∀i,i<n->f i=f' i):QB g o b n f':=by obtain⟨d,r,c,j⟩:=q;exact⟨d,r,c,j.congr e⟩
def QB.at(q:QB g o b n f){i:Nat}(hi:i<n):∃w:QV,RQ g w (f i)/\o.cell? (aK (aK ⟨b,0,none⟩ (i*4)) 0)=some (.bool w.s)/\o.cell? (aK (aK ⟨b,0,none⟩ (i*4)) 1)=some (.slice w.A w.n w.c)/\o.cell? (aK (aK ⟨b,0,none⟩ (i*4)) 2)=some (.bool w.s2)/\o.cell? (aK (aK ⟨b,0,none⟩ (i*4)) 3)=some (.slice w.A2 w.n2 w.c2):=by obtain⟨l,r,y,t⟩:=q;obtain⟨w,e,m⟩:=t i hi;have d:i<l.length:=oo;have cell:∀k v,(enc l[i])[k]? = some v->o.cell? (aK (aK ⟨b,0,none⟩ (i*4)) k)=some v:=by{intro k v p;rw[D6,D6,aS];exact r.rowB.cell (i:=i) d (j:=k) p};rw[bL d]at e;have u:=Option.some.inj e;rw[u]at cell;exact⟨w,m,cell 0 _ rfl,cell 1 _ rfl,cell 2 _ rfl,cell 3 _ rfl⟩
def QB.rowV(q:QB g o b n f){h:aH}(s:Sep h g o):aT RQr h (some ⟨b,0,none⟩) n f:=by obtain⟨d,r,c,e⟩:=q;exact⟨d,r.rowB.slF s.ole,c,e.mono H1 s.le⟩
def QB.store(q:QB g o b n f){h:aH}(s:Sep h g o){i:Nat}(hi:i<n){w:QV}{z:Rat}(hw:RQ g w z){K:Unit->aH->Prop} (k:∀h' o',Sep h' g o'->QB g o' b n (fun a=>if a=i then z else f a)->(∀y,y≠b->o' y=o y)->K () h'):wpH prog (bM 244 (.pointer (some (aK ⟨b,0,none⟩ (i*4)))) w.v) K h:=by obtain⟨p,r,t,j⟩:=q;have c:i<p.length:=oo;refine S6 Ge (y:=w) rfl s r (i:=i) c ?_;intro h' o' u l d e;exact k h' o' d ⟨_,e,gz0,Row.upd j c hw⟩ (fun y m=>by rw[l,B9 _ _ m])
end
structure El (h g o:aH) (be:Nat) (T:Tb) (M:Nat->Nat->Int) (S:Nat->Rat) (n k:Nat) (w:IV) (z:Int) (L D:aR):Prop where
 t:Tab h g o T M S
 rows:T.rows=n
 cols:T.cols=n
 hd:∃ e,o be=some (.cells (List.toArray [I (n:Int),I (k:Int),.pointer (some ⟨T.bt,0,none⟩),.bool w.s,.slice w.A w.n w.c,L,D]) e)
 off:¬ onT T be
 last:ZIr g w z
section
variable {h g o:aH} {be:Nat} {T:Tb} {M:Nat->Nat->Int} {S:Nat->Rat} {n k:Nat} {w:IV} {z:Int} {L D:aR} {K:VP} {m:Nat}
def El.cell(X:El h g o be T M S n k w z L D){i:Nat}{v:aR}(hv:[I (n:Int),I (k:Int),.pointer (some ⟨T.bt,0,none⟩),.bool w.s,.slice w.A w.n w.c,L,D][i]? = some v):h.cell? ⟨be,i,none⟩=some v:=by obtain⟨e,d⟩:=X.hd;refine X.t.sep.cell ?_;unfold Heap.cell?;grind
def El.c0(X:El h g o be T M S n k w z L D):h.cell? (aK ⟨be,0,none⟩ 0)=some (I (n:Int)):=by exact X.cell rfl
def El.c1(X:El h g o be T M S n k w z L D):h.cell? (aK ⟨be,0,none⟩ 1)=some (I (k:Int)):=by exact X.cell rfl
def El.c2(X:El h g o be T M S n k w z L D):h.cell? (aK ⟨be,0,none⟩ 2)=some (.pointer (some ⟨T.bt,0,none⟩)):=by exact X.cell rfl
def El.c3(X:El h g o be T M S n k w z L D):h.cell? (aK (aK ⟨be,0,none⟩ 3) 0)=some (.bool w.s):=by exact X.cell rfl
def El.c4(X:El h g o be T M S n k w z L D):h.cell? (aK (aK ⟨be,0,none⟩ 3) 1)=some (.slice w.A w.n w.c):=by exact X.cell rfl
def El.c5(X:El h g o be T M S n k w z L D):h.cell? (aK ⟨be,0,none⟩ 5)=some L:=by exact X.cell rfl
def El.c6(X:El h g o be T M S n k w z L D):h.cell? (aK ⟨be,0,none⟩ 6)=some D:=by exact X.cell rfl
def El.next(X:El h g o be T M S n k w z L D){h' g':aH}(s:Sep h' g' o)(l:g.le g'):El h' g' o be T M S n k w z L D:=⟨X.t.next s l,X.rows,X.cols,X.hd,X.off,Eh _ _ _ _ l X.last⟩
def Tab.away(t:Tab h g o T M S){h' o':aH}(s:Sep h' g o'){b:Nat}(hb:¬onT T b)(ko:∀y,y≠b->o' y=o y):Tab h' g o' T M S:=t.keep s (B7 _) (fun k x e d=>by rw[ko k (fun c=>hb (c▸d))];exact e)
def El.away(X:El h g o be T M S n k w z L D){h' o':aH}(s:Sep h' g o'){b:Nat}(hb:¬onT T b)(hbe:be≠b)(ko:∀y,y≠b->o' y=o y):El h' g o' be T M S n k w z L D:=by obtain⟨e,c⟩:=X.hd;exact⟨X.t.away s hb ko,X.rows,X.cols,⟨e,gz0⟩,X.off,X.last⟩
def El.set(X:El h g o be T M S n k w z L D){t:bG}{q off:Nat}{v:aR}{vs:List aR}(one:prog.cellsOf t=q/\(prog.info? t).isSome=true)(hv:v.cells=vs.toArray)(hl:vs.length=q)(h1:∀x∈vs,Pe x=true)(hoff:off+q<=7){n' k':Nat}{w':IV}{z':Int}{L' D':aR}(hn:n'=n)(hw:ZIr g w' z') (hs:I8 [I (n:Int),I (k:Int),.pointer (some ⟨T.bt,0,none⟩),.bool w.s,.slice w.A w.n w.c,L,D] off vs=[I (n':Int),I (k':Int),.pointer (some ⟨T.bt,0,none⟩),.bool w'.s,.slice w'.A w'.n w'.c,L',D']) {K:Unit->aH->Prop} (x:∀h' o',El h' g o' be T M S n' k' w' z' L' D'->(∀y,y≠be->o' y=o y)->K () h'):wpH prog (bM t (.pointer (some (aK ⟨be,0,none⟩ off))) v) K h:=by obtain⟨e,f⟩:=X.hd;rw[D6,aS];refine X.t.sep.storeRaw one hv hl h1 f hoff ?_;intro h' o' d i;have ko:∀y,y≠be->o' y=o y:=fun y j=>by{rw[d,B9 _ _ j]};subst hn;exact x h' o' ⟨X.t.away i X.off ko,X.rows,X.cols,⟨e,by rw[d,C3,hs]⟩,X.off,hw⟩ ko
def B9n(X:El h g o be T M S n k w z L D)(gl:Gl g){i j:Nat}(hi:i<n)(hj:j<n)(bm:ZB m (M i j))(bz:ZB m z)(bs:Sz m (S i))(hd:Sz m (cG (M i j) z))(hm1:1<=m)(hm:m<=6400000000) (hK:∀w' h' g',g.le g'->Sep h' g' o->h.le h'->RQ g' w' (cG (M i j) z/S i)->K w'.v h'):aN prog 244 #[.pointer (some ⟨be,0,none⟩),I (i:Int),I (j:Int)] h K:=by have c:i<T.rows:=by{rw[X.rows];exact hi};have l:j<T.cols:=by{rw[X.cols];exact hj};refine(fnk func244 (os:=[(1,[0,1,2,3,4,6,9,10,11,12,14,15,16,17,18,19,20,21,22,23,5,7,8,13,24,25])]) (own:=[6])) ?_;obtain⟨Q,is,C,B,q,s⟩:=X.t.sat c;obtain⟨R,F,r,G⟩:=X.t.at c l;refine⟨_,rfl,_,X.c2,_,rfl,_,_,_,_,X.c3,X.c4,_,rfl,_,X.c2,_,rfl,_,_,_,X.t.c2,_,rfl,oo,oo,_,_,_,_,_,_,_,_,C,B,q,s,?_⟩;refine Af X.t c ⟨_,_,_,rfl,B7 _,_,rfl,oo,oo,_,_,_,_,r,G,?_⟩;refine X.t.sep.call (Q5 gl.tz F X.last bm bz hm ?_);intro N V e E O d;refine⟨_,_,_,_,_,_,_,_,rfl,X.t.sep.le_le d e,?_⟩;refine d.call (Xl (gl.mono e).tz E (H1 _ _ _ _ e is) hd bs hm1 hm ?_);intro H A p y u f;exact⟨_,_,_,_,_,_,_,_,rfl,d.le_le f p,hK H u A (B0 e p) f (B0 (X.t.sep.le_le d e) (d.le_le f p)) y⟩
def A28(X:El h g o be T M S n k w z L D)(hk:k<n)(hn:n<=10000) (hK1:∀i:Nat,k<i->i<n->M i k≠0->K (.tuple #[I (i:Int),.bool true]) h) (hK0:(∀j,k<j->j<n->M j k=0)->K (.tuple #[I 0,.bool false]) h):aN prog 245 #[.pointer (some ⟨be,0,none⟩)] h K:=by refine(fnk func245 [(2,[4],[],[I 0])] (os:=[(4,[0,1,2,3,4,6,7,8,9,5,10,11,12,13])])) ?_;refine⟨_,rfl,_,X.c1,?_⟩;rw[wiS k oo];refine⟨fun L' p=>∃i:Nat,k<i/\i<=n/\L'=[I (i:Int)]/\p=h/\∀j,k<j->j<i->M j k=0,fun L' _=>n-(iAt L' 0).toNat,⟨k+1,oo,oo,rfl,rfl,fun j _ _=>oo⟩,?_⟩;rintro y p ⟨i,l,E,C,rfl,q⟩;obtain rfl:=sI1 C;refine⟨_,rfl,_,X.c0,C1 (fun u=>?_) (fun r=>hK0 fun j a b=>q j a oo)⟩;have d:i<n:=oo;have f:i<T.rows:=by{rw[X.rows];exact d};have m:k<T.cols:=by{rw[X.cols];exact hk};refine⟨_,rfl,_,X.c2,_,rfl,_,X.c1,?_⟩;obtain⟨F,A,s,B⟩:=X.t.at f m;refine Af X.t f ⟨_,_,_,rfl,B7 _,_,rfl,oo,oo,_,_,_,_,s,B,?_⟩;refine G2 (A.mono X.t.sep.le) ⟨_,rfl,B7 _,Br.not (C1 (fun e=>?_) (fun e=>hK1 i l d e))⟩;rw[wiS i oo];refine⟨⟨i+1,oo,oo,rfl,rfl,fun j a b=>?_⟩,by simp only[O8];omega⟩;by_cases c:j=i;{rw[c];exact e};·exact q j a oo
def A3m(X:El h g o be T M S n k w z L D)(hk:k<n)(hn:n<=10000)(hz:z≠0)(hM:∀a b,k<=a->a<n->b<n->ZB m (M a b))(bz:ZB m z)(hm1:1<=m)(hm:2*m+1<=100000000) (hK:∀h' g' o' w',g.le g'->El h' g' o' be T (fun a b=>if k<a then(M k k*M a b-M a k*M k b).tdiv z else M a b) S n (k+1) w' (M k k) L D->(∀b,¬onT T b->b≠be->o' b=o b)->K (.tuple #[]) h'):aN prog 248 #[.pointer (some ⟨be,0,none⟩)] h K:=by refine(fnk func248 [(2,[3],[],[I 0])] (wr:=[206])) ?_;refine⟨_,rfl,_,X.c1,?_⟩;rw[wiS k oo];refine⟨fun L' Q=>∃(i:Nat) (r C:aH),k<i/\i<=n/\L'=[I (i:Int)]/\g.le r/\El Q r C be T (fun a b=>if k<a/\a<i then(M k k*M a b-M a k*M k b).tdiv z else M a b) S n k w z L D/\(∀b,¬onT T b->b≠be->C b=o b),fun L' _=>n-(iAt L' 0).toNat,⟨k+1,g,o,oo,oo,rfl,B7 _,⟨X.t.congr (fun a b _ _=>by rw[iN oo]) (fun _ _=>rfl),X.rows,X.cols,X.hd,X.off,X.last⟩,fun _ _ _=>rfl⟩,?_⟩;rintro y Q ⟨i,r,C,W,ac,eL,O,X1,ko⟩;obtain rfl:=sI1 eL;refine⟨_,rfl,_,X1.c0,C1 (fun aa=>?_) (fun V=>?_)⟩;{have F:i<n:=oo;refine⟨_,rfl,_,X1.c2,_,rfl,_,_,_,_,X1.c3,X1.c4,?_⟩;have er:=X.rows;have ec:=X.cols;refine Yg (m:=m) X1.t (i:=i) (p:=k) (c:=k) oo oo oo oo X1.last hz hm1 hm (fun b f=>by rw[iN oo];exact hM i b oo F oo) (fun b f=>by rw[iN oo];exact hM k b (aE _) hk oo) bz ?_;intro h2 g2 o2 R t2 ko2;rw[wiS i oo];have N:be≠T.bE:=fun e=>X.off (.inr (.inl e));obtain⟨e,he⟩:=X1.hd;refine⟨rfl,⟨i+1,g2,o2,oo,oo,rfl,B0 O R,⟨t2.congr (fun a b _ _=>?_) (fun _ _=>rfl),er,ec,⟨e,by rw[ko2 _ N];exact he⟩,X.off,Eh _ _ _ _ R X1.last⟩,fun b f d=>by rw[ko2 b (fun e=>f (.inr (.inl e)))];exact ko b f d⟩,by simp only[O8];omega⟩;by_cases c:a=i;{have q1:¬(k<k/\k<i):=oo;have q2:¬(k<i/\i<i):=oo;simp only[iN q1,iN q2];rw[iP c,iP (show k<a/\a<i+1 from oo),c]};·rw[iN c];by_cases c2:k<a/\a<i;{rw[iP c2,iP oo]};·rw[iN c2,iN (show ¬(k<a/\a<i+1)from oo)]};·have H:i=n:=oo;subst H;have l:k<T.rows:=by{rw[X.rows];exact hk};have u:k<T.cols:=by{rw[X.cols];exact hk};refine⟨_,rfl,_,X1.c2,?_⟩;obtain⟨j,G,e0,e1⟩:=X1.t.at l u;rw[iN oo]at G;refine Af X1.t l ⟨_,_,_,rfl,_,rfl,oo,oo,_,_,_,_,e0,e1,?_⟩;refine⟨_,rfl,?_⟩;refine X1.set (n':=i) (k':=k) (w':=j) (z':=M k k) (L':=L) (D':=D) (vs:=[.bool j.s,.slice j.A j.n j.c]) Sw rfl rfl (by intro x q;simp only[bW,bK,or_false]at q;rcases q with rfl|rfl<;>rfl) oo rfl G rfl ?_;intro h3 o3 X3 B;refine⟨_,rfl,_,X3.c1,_,rfl,?_⟩;rw[wiS k oo];refine X3.set (n':=i) (k':=k+1) (w':=j) (z':=M k k) (L':=L) (D':=D) (vs:=[I ((k+1:Nat):Int)]) B1c rfl rfl (by intro x q;simp only[bW,bK,or_false]at q;subst q;rfl) oo rfl G rfl ?_;intro h4 o4 X4 E;refine hK h4 r o4 j O ⟨X4.t.congr (fun a b ha f=>?_) (fun _ _=>rfl),X4.rows,X4.cols,X4.hd,X4.off,X4.last⟩ (fun b f d=>by rw[E b d,B b d];exact ko b f d);have:a<i:=by{rw[<- X.rows];exact ha};by_cases c:k<a;{rw[iP ⟨c,this⟩,iP c]};·rw[iN (fun x=>c x.1),iN c]
end
def C5q{l s r:Rat}(hl:l≠0)(hs:s≠0):l*(s*r)/l/s=r:=by grind
section
variable {E:Nat->Rat} {n k:Nat}
def B2a(sy:A0z n (mtx E n))(hk:k<=n)(ok:∀m,m<k->Jv (mtx E n) n m):LdR n k (mtx E n) (elE E n n k):=LdR.run sy k hk ok
def B70(hk:k<n):Tj n k (elP E n n k)=Hj n k (elE E n n k):=(A34 E (Nat.le_of_lt hk)).row hk
def A7k(sy:A0z n (mtx E n))(hk:k<n)(ok:∀m,m<=k->Jv (mtx E n) n m)(e:ldA (mtx E n) k k k=0):elP E n n (k+1)=elP E n n k:=by have r:=B70 (E:=E) hk;rw[(B2a sy o fun m c=>ok m o).none hk e (ok k (aE _))]at r;show Ec n k (elP E n n k)=_;unfold Ec;grind
def A7j(sy:A0z n (mtx E n))(hk:k<n)(ok:∀m,m<k->Jv (mtx E n) n m)(e:ldA (mtx E n) k k k≠0): (∀i j,k<i->i<n->(elP E n n (k+1)).M i j=((elP E n n k).M k k*(elP E n n k).M i j-(elP E n n k).M i k*(elP E n n k).M k j).tdiv (elP E n n k).last)/\(elP E n n (k+1)).last=(elP E n n k).M k k/\∀i,k<i->(elP E n n (k+1)).S i=(elP E n n k).S i:=by have R:=B2a sy o ok;have r:=B70 (E:=E) hk;rw[R.row hk e]at r;have f:=R.len;rw[<- A5o E (Nat.le_of_lt hk)]at f;have c:elP E n n (k+1)=Ec n k (elP E n n k):=rfl;unfold Ec at c;rw[r,iP hk]at c;generalize elP E n n k=s at *;have l:=Jh s.cs.length k;have g:∀i,k<i->xch s.cs.length k i=i:=fun i d=>by{unfold xch;grind};rw[c];refine⟨fun i j d _=>?_,rfl,fun i d=>?_⟩;{show clr (fun i=>s.M (xch s.cs.length k i)) s.cs.length k s.last i j=_;unfold clr;grind};grind
def C63(sy:A0z n (mtx E n)):∀k,k<=n->(∀m,m<k->Jv (mtx E n) n m)->∀i,k<=i->i<n->(elP E n n k).S i=Wc E n i:=by
 intro k
 induction k with
 |zero=>intro _ _ i _ _;rfl
 |succ k ih=>
  intro g ok i j d;have c:=ih o (fun m f=>ok m o) i o d;by_cases e:ldA (mtx E n) k k k=0;·rw[A7k sy g (fun m f=>ok m o) e];exact c
  ·rw[(A7j sy g (fun m f=>ok m o) e).2.2 i o];exact c
structure LdF (E:Nat->Rat) (n k Q:Nat):Prop where
 val:∀ i j,k<=i->i<n->j<n->((elP E n n k).M i j:Rat)=(elP E n n k).last*(Wc E n i*ldA (mtx E n) k i j)
 last:(elP E n n k).last≠0
 zM:∀ a b,a<n->b<n->ZB Q ((elP E n n k).M a b)
 zl:ZB Q (elP E n n k).last
 zS:∀ a,a<n->Sz Q (Wc E n a)
 zA:∀ i j,k<=i->i<n->j<n->Sz Q (ldA (mtx E n) k i j)
def ldF{m Q:Nat}(hs:∀i,i<n*n->Sz m (E i))(hQ1:3^n*bnd n m+bnd n m<=Q)(sy:A0z n (mtx E n))(hk:k<=n)(ok:∀m,m<k->Jv (mtx E n) n m):LdF E n k Q:=by have rel:=A34 E (rows:=n) (cols:=n) hk;have R:=B2a sy hk ok;have r:=R.len;have z:=A33 (E:=E) (rows:=n) (cols:=n) (c:=k) hs hk;have l:1<=bnd n m:=by{unfold bnd;omega};have u:3^(elP E n n k).cs.length*bnd n m<=3^n*bnd n m:=aJ _ (Nat.pow_le_pow_right dc z.len);have s:=C63 sy k hk ok;have val:∀i j,k<=i->i<n->j<n->((elP E n n k).M i j:Rat)=(elP E n n k).last*(Wc E n i*ldA (mtx E n) k i j):=fun i j p d f=>by{rw[rel.val i j d f,iN o,R.low i j p d f,s i p d]};have q:∀a,a<n->Sz (bnd n m) (Wc E n a):=fun a g=>A4d fun j f=>hs _ (R8 g f);refine⟨val,rel.last,fun a b g t=>(z.M a b g t).mono o,z.last.mono o,fun a g=>(q a g).mono o,fun i j p d f=>?_⟩;have e:ldA (mtx E n) k i j=cG ((elP E n n k).M i j) (elP E n n k).last/Wc E n i:=by{have w:=Se E n i;rw[cQ,val i j p d f,C5q (S3 rel.last) gz0]};rw[e];exact((U3 rel.last (z.M i j d f) z.last).div (q i d) l).mono o
end
def A8w(A:Nat->Nat->Rat)(n k:Nat):Nat->Rat:=fun t=>if t%n<k then ldL A (t/n) (t%n)else 0
def A9b(A:Nat->Nat->Rat)(k:Nat):Nat->Rat:=fun j=>if j<k then ldD A j else 0
structure Ld (h g o:aH) (be bl bd:Nat) (T:Tb) (E:Nat->Rat) (n k:Nat) (M:Nat->Nat->Int) (w:IV) (Lf Df:Nat->Rat):Prop where
 e:El h g o be T M (Wc E n) n k w (elP E n n k).last (.slice (some ⟨bl,0,none⟩) (n*n) (n*n)) (.slice (some ⟨bd,0,none⟩) n n)
 m:∀ i j,k<=i->i<n->j<n->M i j=(elP E n n k).M i j
 l:QB g o bl (n*n) Lf
 d:QB g o bd n Df
 tl:¬ onT T bl
 td:¬ onT T bd
 el:be≠bl
 ed:be≠bd
 ld:bl≠bd
section
variable {h g o:aH} {be bl bd:Nat} {T:Tb} {E:Nat->Rat} {n k:Nat} {M:Nat->Nat->Int} {w:IV} {Lf Df:Nat->Rat} {K:VP} {Q:Nat}
def Ld.next(X:Ld h g o be bl bd T E n k M w Lf Df){h' g':aH}(s:Sep h' g' o)(l:g.le g'):Ld h' g' o be bl bd T E n k M w Lf Df:=⟨X.e.next s l,X.m,X.l.ko l rfl,X.d.ko l rfl,X.tl,X.td,X.el,X.ed,X.ld⟩
def Ld.congr(X:Ld h g o be bl bd T E n k M w Lf Df){Lf' Df':Nat->Rat}(e1:∀i,i<n*n->Lf i=Lf' i)(e2:∀i,i<n->Df i=Df' i):Ld h g o be bl bd T E n k M w Lf' Df':=⟨X.e,X.m,X.l.congr e1,X.d.congr e2,X.tl,X.td,X.el,X.ed,X.ld⟩
def Ld.storeL(X:Ld h g o be bl bd T E n k M w Lf Df){i:Nat}(hi:i<n*n){v:QV}{z:Rat}(hv:RQ g v z){K:Unit->aH->Prop} (x:∀h' o',Ld h' g o' be bl bd T E n k M w (fun a=>if a=i then z else Lf a) Df->K () h'):wpH prog (bM 244 (.pointer (some (aK ⟨bl,0,none⟩ (i*4)))) v.v) K h:=by refine X.l.store X.e.t.sep hi hv ?_;intro h' o' c q ko;exact x h' o' ⟨X.e.away c X.tl X.el ko,X.m,q,X.d.ko (B7 _) (ko _ X.ld.symm),X.tl,X.td,X.el,X.ed,X.ld⟩
def Ld.storeD(X:Ld h g o be bl bd T E n k M w Lf Df){i:Nat}(hi:i<n){v:QV}{z:Rat}(hv:RQ g v z){K:Unit->aH->Prop} (x:∀h' o',Ld h' g o' be bl bd T E n k M w Lf (fun a=>if a=i then z else Df a)->K () h'):wpH prog (bM 244 (.pointer (some (aK ⟨bd,0,none⟩ (i*4)))) v.v) K h:=by refine X.d.store X.e.t.sep hi hv ?_;intro h' o' c q ko;exact x h' o' ⟨X.e.away c X.td X.ed ko,X.m,X.l.ko (B7 _) (ko _ X.ld),q,X.tl,X.td,X.el,X.ed,X.ld⟩
def Ld.at(X:Ld h g o be bl bd T E n k M w Lf Df)(gl:Gl g)(F:LdF E n k Q){i j:Nat}(hk:k<=i)(hi:i<n)(hj:j<n)(hQ1:1<=Q)(hQ:Q<=6400000000) (hK:∀w' h' g',g.le g'->Sep h' g' o->h.le h'->RQ g' w' (ldA (mtx E n) k i j)->K w'.v h'):aN prog 244 #[.pointer (some ⟨be,0,none⟩),I (i:Int),I (j:Int)] h K:=by have c:=X.m i j hk hi hj;have p:=Se E n i;refine B9n (m:=Q) X.e gl hi hj (by rw[c];exact F.zM i j hi hj) F.zl (F.zS i hi) (by rw[c];exact U3 F.last (F.zM i j hi hj) F.zl) hQ1 hQ ?_;intro w' h' g' l s f d;refine hK w' h' g' l s f ?_;rw[c,cQ,F.val i j hk hi hj,C5q (S3 F.last) gz0]at d;exact d
def Ld.partner(X:Ld h g o be bl bd T E n k M w Lf Df)(F:LdF E n k Q)(hk:k<n)(hn:n<=10000):aN prog 245 #[.pointer (some ⟨be,0,none⟩)] h (fun r h'=>h'=h/\∃(a:Nat) (b:Bool),r= .tuple #[I (a:Int),.bool b]/\(b=true->k<a/\a<n/\ldA (mtx E n) k a k≠0)/\(b=false->∀j,k<j->j<n->ldA (mtx E n) k j k=0)):=by have key:∀i,k<=i->i<n->(M i k=0↔ldA (mtx E n) k i k=0):=fun i c p=>by{have q:=F.val i k c p hk;have l:=S3 F.last;have t:Wc E n i≠0:=by{have:=Se E n i;grind};rw[X.m i k c p hk];constructor;{intro e;rw[e]at q;grind};·intro e;simp_all};refine A28 X.e hk hn (fun i f d l=>⟨rfl,i,true,rfl,fun _=>⟨f,d,fun e=>l ((key i oo d).2 e)⟩,fun e=>by cases e⟩) (fun s=>⟨rfl,0,false,rfl,(fun e=>by cases e),fun _ j f d=>(key j oo d).1 (s j f d)⟩)
end
def B0e{q:Rat}:q.num.sign<0↔q<0:=by have c:=Rat.num_nonneg (q:=q);grind
def A37{n i j:Nat}(hj:j<n):(i*n+j)/n=i/\(i*n+j)%n=j:=by refine⟨?_,?_⟩;{rw[cH,Nat.mul_add_div o,bJ hj,Nat.add_zero]};·rw[cH,Nat.mul_add_mod,bI hj]
def B8x(A:Nat->Nat->Rat)(n k i:Nat):Nat->Rat:=fun t=>if t%n=k/\t/n<i then ldL A (t/n) k else A8w A n k t
def A77(A:Nat->Nat->Rat){n k i:Nat}(h:i=n\/ldA A k k k=0/\k<i):∀t,t<n*n->B8x A n k i t=A8w A n (k+1) t:=by intro t d;unfold B8x A8w;have e:t/n<n:=aQ d;by_cases c:t%n=k;{by_cases c2:t/n<i;{grind};·rcases h with h|⟨g,f⟩;{omega};·unfold ldL;grind};grind
def B2j(A:Nat->Nat->Rat)(k:Nat):(fun a=>if a=k then ldA A k k k else A9b A k a)=A9b A (k+1):=by funext a;unfold A9b ldD;grind
section
variable {h:aH} {A:Option aL} {E:Nat->Rat} {n cap m Q:Nat} {K:VP}
def Wq(gl:Gl h)(rq:aT RQr h A (n*n) E)(hcap:n*n<=cap)(hn1:1<=n)(hn:n<=64)(sy:A0z n (mtx E n))(hs:∀i,i<n*n->Sz m (E i))(hQ1:3^n*bnd n m+bnd n m<=Q)(hQ:2*Q+1<=100000000)
 (hK1:(∀k,k<n->Jv (mtx E n) n k)->∀h' g' o' be bl bd T M w,h.le h'->h.le g'->Ld h' g' o' be bl bd T E n n M w (A8w (mtx E n) n n) (A9b (mtx E n) n)->K (.tuple #[.pointer (some ⟨be,0,none⟩),.bool true]) h')
 (hK0:∀k,k<n->(∀k',k'<k->Jv (mtx E n) n k')->¬Jv (mtx E n) n k->∀h' g' o' be bl bd T M w,h.le h'->h.le g'->Ld h' g' o' be bl bd T E n k M w (A8w (mtx E n) n k) (A9b (mtx E n) k)->K (.tuple #[.pointer (some ⟨be,0,none⟩),.bool false]) h'):aN prog 192 #[.slice A (n*n) cap,I (n:Int)] h K:=by
 have ai:n*n<=64*64:=aP hn hn;have bo:bnd n m=1+n*m+m:=rfl;refine(fnk func192 [(6,[7,29],[],[.bool false,I 0]),(17,[12],[],[I 0])] (cs:=[(12,[7],[],[.bool false])]) (os:=[(19,[0,1,2,3,4,5,6,7,8,9,10,11,13,12,14,15,16])]) (own:=[9]) (wr:=[248])) ?_;refine(fnk func243 (wr:=[1000000000])) ?_;refine Ns (m:=m) gl rq hcap hn1 o hn1 o hs o ?_;intro h1 g1 o1 T a0 t1 er ec;refine⟨_,rfl,?_⟩;refine t1.sep.call (Eu dc dc ?_);intro s2 A2 n2 c2 g2 l2 i2 h2 a5;have t2:=t1.next a5 l2;refine⟨_,_,_,_,rfl,Qm ?_⟩;intro be u
 have fr:∀{O gg oo:aH} {k x b},Sep O gg oo->oo k=some x->O b=none->k≠b:=by
  rintro O gg oo k x b s e G rfl;rw[s.own k x e]at G;cases G
 obtain⟨⟨y1,z1⟩,⟨y2,z2⟩,⟨y3,z3⟩⟩:=t2.own
 have q:∀{O gg oo:aH} {b},Tab O gg oo T (A4e E n) (Wc E n)->O b=none->¬onT T b:=by
  intro O gg oo b t G g;obtain⟨⟨y1,z1⟩,⟨y2,z2⟩,⟨y3,z3⟩⟩:=t.own;rcases g with rfl|rfl|rfl;·exact fr t.sep z1 G rfl
  ·exact fr t.sep z2 G rfl
  ·exact fr t.sep z3 G rfl
 have s3:=t2.sep.new u (.cells (Value.agg #[I (n:Int),I (0:Int),.pointer (some ⟨T.bt,0,none⟩),.bool s2,.slice A2 n2 c2,.slice none 0 0,.slice none 0 0]).cells 284);have X3:El _ g2 _ be T (A4e E n) (Wc E n) n 0 ⟨s2,A2,n2,c2⟩ 1 (.slice none 0 0) (.slice none 0 0):=⟨t2.keep s3 (B7 _) (fun k x e _=>by rw[B9 _ _ (fr t2.sep e u)];exact e),er,ec,⟨284,C3 _ _ _⟩,q t2 u,i2⟩;refine⟨_,rfl,_,rfl,?_⟩;generalize (h2.put be (.cells (Value.agg #[I (n:Int),I (0:Int),.pointer (some ⟨T.bt,0,none⟩),.bool s2,.slice A2 n2 c2,.slice none 0 0,.slice none 0 0]).cells 284))=h3 at *;generalize (o1.put be (.cells (Value.agg #[I (n:Int),I (0:Int),.pointer (some ⟨T.bt,0,none⟩),.bool s2,.slice A2 n2 c2,.slice none 0 0,.slice none 0 0]).cells 284))=o3 at *;have a4:h.le g2:=B0 a0 l2;have ay:C4 ((n:Int)*(n:Int))=((n*n:Nat):Int):=by exact O1 o
 rw[ay];have B:∀{O gg oo M k w z L D},El O gg oo be T M (Wc E n) n k w z L D->∃x,oo be=some x:=fun X=>by obtain⟨e,he⟩:=X.hd;grind
 refine I3 A0v (zx:=J6) rfl o o o o ?_;intro bl R;refine⟨_,_,_,rfl,_,rfl,?_⟩;have H:be≠bl:=by obtain⟨x,g⟩:=B X3;exact fr X3.t.sep g R
 have X4:=X3.away (X3.t.sep.new R (.cells ((aC (n*n) J6).flatMap enc).toArray 244)) (q X3.t R) H (fun y hy=>B9 _ _ hy);have q4:QB g2 (o3.put bl (.cells ((aC (n*n) J6).flatMap enc).toArray 244)) bl (n*n) (fun _=>0):=⟨_,RowX.mk,aI,fun i hi=>⟨J6,gz0,RQ.zero⟩⟩;have tl:=q X3.t R;refine X4.set (n':=n) (k':=0) (w':=⟨s2,A2,n2,c2⟩) (z':=1) (L':=.slice (some ⟨bl,0,none⟩) (n*n) (n*n)) (D':=.slice none 0 0) (vs:=[.slice (some ⟨bl,0,none⟩) (n*n) (n*n)]) B1b rfl rfl (by intro x g;simp only[bW,bK,or_false]at g;subst g;rfl) o rfl X4.last rfl ?_;intro h5 o5 X5 a3;have q5:=q4.ko (B7 _) (a3 _ H.symm);refine I3 A0v (zx:=J6) rfl o o o o ?_;intro bd N;refine⟨_,_,_,rfl,_,rfl,?_⟩;have ah:be≠bd:=by obtain⟨x,g⟩:=B X5;exact fr X5.t.sep g N
 have ap:bl≠bd:=by obtain⟨xs,⟨e,g⟩,_⟩:=q5;exact fr X5.t.sep g N
 have td:=q X5.t N;have X6:=X5.away (X5.t.sep.new N (.cells ((aC n J6).flatMap enc).toArray 244)) td ah (fun y hy=>B9 _ _ hy);have d6:QB g2 (o5.put bd (.cells ((aC n J6).flatMap enc).toArray 244)) bd n (fun _=>0):=⟨_,RowX.mk,aI,fun i hi=>⟨J6,gz0,RQ.zero⟩⟩;have q6:=q5.ko (o':=o5.put bd (.cells ((aC n J6).flatMap enc).toArray 244)) (B7 _) (B9 _ _ ap);refine X6.set (n':=n) (k':=0) (w':=⟨s2,A2,n2,c2⟩) (z':=1) (L':=.slice (some ⟨bl,0,none⟩) (n*n) (n*n)) (D':=.slice (some ⟨bd,0,none⟩) n n) (vs:=[.slice (some ⟨bd,0,none⟩) n n]) B1b rfl rfl (by intro x g;simp only[bW,bK,or_false]at g;subst g;rfl) o rfl X6.last rfl ?_;intro h7 o7 X7 ao;have X0:Ld h7 g2 o7 be bl bd T E n 0 (A4e E n) ⟨s2,A2,n2,c2⟩ (A8w (mtx E n) n 0) (A9b (mtx E n) 0):=⟨X7,fun _ _ _ _ _=>rfl,(q6.ko (B7 _) (ao _ H.symm)).congr (fun i _=>by rfl),(d6.ko (B7 _) (ao _ ah.symm)).congr (fun i _=>by rfl),tl,td,H,ah,ap⟩;have V:1<=Q:=o
 have ix:∀{i j:Nat},i<n->j<n->C4 (C4 ((i:Int)*(n:Int))+(j:Int))=((i*n+j:Nat):Int):=fun {i j} hi hj=>by
  have:=R8 hi hj;rw[<- aW,O1 o];exact O1 (n:=i*n+j) o
 have ae:∀{i:Nat},i<n->C4 ((i:Int)+1)=((i+1:Nat):Int):=fun {i} hi=>by rw[C2]<;>omega
 refine⟨fun L hq=>∃(k:Nat) (g' o':aH) (M:Nat->Nat->Int) (w:IV),k<=n/\L=[.bool true,I (k:Int)]/\h.le g'/\(∀k',k'<k->Jv (mtx E n) n k')/\Ld hq g' o' be bl bd T E n k M w (A8w (mtx E n) n k) (A9b (mtx E n) k),fun L _=>n-(iAt L 1).toNat,⟨0,g2,o7,_,_,o,rfl,a4,fun k' ac=>o,X0⟩,?_⟩;rintro a9 z5 hq ⟨k,g',o',M,w,hk,eL,lg,ok,X⟩;obtain⟨rfl,rfl⟩:=eL
 refine C1 (fun am=>?_) (fun bk=>by
  have:k=n:=o;subst this;exact hK1 ok hq g' o' be bl bd T M w (B0 lg X.e.t.sep.le) lg X);have f:k<n:=o;have F:=ldF hs hQ1 sy hk ok;refine X.at (gl.mono lg) F (aE _) f f V o ?_;intro w1 h1 g1 l1 s1 bn i1;refine⟨_,_,_,_,_,_,_,_,rfl,?_⟩;have X1:=X.next s1 l1;have p:h.le g1:=B0 lg l1;refine FCall.mono (X1.partner F f o) ?_;rintro r W ⟨rfl,a,b,rfl,a7,aw⟩;have an:RQ W w1 (ldA (mtx E n) k k k):=H1 _ _ _ _ s1.le i1;refine⟨_,_,rfl,fun L g=>L=[.bool true]/\g=W/\Jv (mtx E n) n k,?_,?_⟩
 ·refine A4j an ⟨_,rfl,C1 (fun al=>?_) (fun ba=>?_)⟩
  ·have aq:=B0e.1 al;exact hK0 k f ok (fun x=>absurd x.1 gz0) W g1 o' be bl bd T M w (B0 p s1.le) p X1
  ·have ai:0<=ldA (mtx E n) k k k:=by
    simp_all
   refine Dn an ⟨_,rfl,C1 (fun e0=>?_) (fun S=>⟨rfl,rfl,ai,fun e=>absurd e S⟩)⟩
   cases b with
   |true=>
    obtain⟨b1,b2,b3⟩:=a7 rfl;exact hK0 k f ok (fun x=>b3 (x.2 e0 a b1 b2)) W g1 o' be bl bd T M w (B0 p s1.le) p X1
   |false=>exact⟨rfl,rfl,ai,fun _ j c1 c2=>aw rfl j c1 c2⟩
 rintro p1 g ⟨eL,rfl,bi⟩;simp only[bX,Value.bool.injEq,and_true]at eL;subst eL
 have af:∀k',k'<=k->Jv (mtx E n) n k':=fun k' ac=>by
  grind
 refine⟨_,rfl,_,_,_,X1.e.c5,?_⟩;refine s1.call (Kq o ?_);intro w2 g3 l3 i3 h4 s4;refine⟨_,_,_,_,_,_,_,_,rfl,s1.le_le s4 l3,_,rfl,?_⟩;rw[ix f f];have X2:=X1.next s4 l3;have ar:=R8 f f;refine⟨o,o,?_⟩;refine X2.storeL ar (z:=1) i3 ?_;intro h5 o5 X5;refine⟨_,rfl,_,_,_,X5.e.c6,_,rfl,o,o,?_⟩;have ag:RQ g3 w1 (ldA (mtx E n) k k k):=H1 _ _ _ _ l3 i1;refine X5.storeD f ag ?_;intro h6 o6 X6
 have X7:Ld h6 g3 o6 be bl bd T E n k M w (B8x (mtx E n) n k (k+1)) (A9b (mtx E n) (k+1)):=X6.congr (fun t ht=>by
  show(if t=k*n+k then 1 else A8w (mtx E n) n k t)=_;unfold B8x;have dm:=Nat.div_add_mod t n;by_cases c:t=k*n+k
  ·obtain⟨d1,d2⟩:=A37 (i:=k) f;rw[iP c,c,d1,d2,iP ⟨rfl,o⟩,B1s]
  ·rw[iN c];by_cases c2:t%n=k/\t/n<k+1
   ·have am:t/n<k:=by
     grind
    rw[B1t am];unfold A8w;grind
   ·rw[iN c2]) (fun t _=>by rw[<- B2j]);have aj:h.le g3:=B0 p l3;refine Dn (H1 _ _ _ _ X7.e.t.sep.le ag) ⟨_,rfl,C1 (fun e0=>?_) (fun S=>?_)⟩
 ·refine⟨_,rfl,_,X7.e.c1,_,rfl,?_⟩;rw[ae f];refine X7.e.set (n':=n) (k':=k+1) (w':=w) (z':=(elP E n n k).last) (L':=.slice (some ⟨bl,0,none⟩) (n*n) (n*n)) (D':=.slice (some ⟨bd,0,none⟩) n n) (vs:=[I ((k+1:Nat):Int)]) B1c rfl rfl (by intro x g;simp only[bW,bK,or_false]at g;subst g;rfl) o rfl X7.e.last rfl ?_;intro h8 o8 Y ko;have es:=A7k sy f af e0;refine⟨⟨k+1,g3,o8,M,w,o,rfl,aj,fun k' ac=>af k' o,⟨gz0,fun i j a b c=>by rw[es];exact X7.m i j o b c,(X7.l.ko (B7 _) (ko _ X7.el.symm)).congr (A77 _ (.inr ⟨e0,o⟩)),X7.d.ko (B7 _) (ko _ X7.ed.symm),X7.tl,X7.td,X7.el,X7.ed,X7.ld⟩⟩,?_⟩;show n-((k+1:Nat):Int).toNat<n-((k:Nat):Int).toNat;omega
 rw[ae f];refine⟨fun L g=>∃(i:Nat) (g4 o4:aH),k<i/\i<=n/\L=[I (i:Int)]/\g3.le g4/\Ld g g4 o4 be bl bd T E n k M w (B8x (mtx E n) n k i) (A9b (mtx E n) (k+1)),fun L _=>n-(iAt L 0).toNat,⟨k+1,g3,o6,o,o,rfl,B7 _,X7⟩,?_⟩;rintro z6 g ⟨i,g4,o4,bg,bf,eL,l4,X8⟩;obtain rfl:z6=(i:Int):=gz0;have ad:h.le g4:=B0 aj l4;refine C1 (fun bc=>?_) (fun bb=>?_)
 ·have C:i<n:=o;refine⟨_,rfl,_,_,_,X8.e.c5,?_⟩;refine X8.at (gl.mono ad) F o C f V o ?_;intro w9 h9 g9 l9 s9 a8 i9;refine⟨_,_,_,_,_,_,_,_,rfl,a8,?_⟩;refine s9.call (Xl (m:=Q) (gl.mono (B0 ad l9)).tz i9 (H1 _ _ _ _ (B0 l4 l9) ag) (F.zA i k o C f) (F.zA k k (aE _) f f) V o ?_);intro bj az aa a1 bh ak;refine⟨_,_,_,_,_,_,_,_,rfl,s9.le_le ak aa,_,rfl,?_⟩;rw[ix C f];have a6:=R8 C f;refine⟨o,o,?_⟩;refine((X8.next s9 l9).next ak aa).storeL a6 a1 ?_;intro bm ax X11;rw[ae C];refine⟨⟨i+1,az,ax,o,o,rfl,B0 l4 (B0 l9 aa),X11.congr (fun t ht=>?_) (fun _ _=>rfl)⟩,by simp only[O8];omega⟩;show(if t=i*n+k then ldA (mtx E n) k i k/ldA (mtx E n) k k k else B8x (mtx E n) n k i t)=_;unfold B8x;have dm:=Nat.div_add_mod t n;by_cases c:t=i*n+k
  ·obtain⟨d1,d2⟩:=A37 (i:=i) f;rw[iP c,c,d1,d2,iP ⟨rfl,o⟩];unfold ldL;rw[iN o,iN o,iN S]
  ·by_cases c2:t%n=k/\t/n<i;·grind
   ·grind
 ·have a2:i=n:=o;subst a2;refine A3m (m:=Q) X8.e f o F.last (fun a b ka ha G=>by rw[X8.m a b ka ha G];exact F.zM a b ha G) F.zl V hQ ?_;intro h9 g9 o9 w9 l9 Y ko;obtain⟨au,av,_⟩:=A7j sy f ok S;refine⟨rfl,⟨k+1,g9,o9,_,w9,o,rfl,B0 ad l9,fun k' ac=>af k' o,⟨by rw[av,<- X8.m k k (aE _) f f];exact Y,fun i j a b c=>?_,(X8.l.ko l9 (ko _ X8.tl X8.el.symm)).congr (A77 _ (.inl rfl)),X8.d.ko l9 (ko _ X8.td X8.ed.symm),X8.tl,X8.td,X8.el,X8.ed,X8.ld⟩⟩,?_⟩;·rw[iP (show k<i from o),au i j o b,X8.m k k (aE _) f f,X8.m i j o b c,X8.m i k o b f,X8.m k j (aE _) f c]
  ·show i-((k+1:Nat):Int).toNat<i-((k:Nat):Int).toNat;omega
end
def ns(f:Nat->Nat):Nat->Nat
 |0=>0
 |n+1=>ns f n+f n
def C66(A:Nat->Nat->Rat)(n k:Nat)(v:Nat->Rat):Prop:=(v k=1/\(∀i,k<i->i<n->v i=0)/\ldA A k k k<0)\/ (∃p,k<p/\p<n/\v p=1/\(∀i,k<i->i<n->i≠p->v i=0)/\ldA A k k k=0/\ldA A k p k≠0/\v k=(ldA A k p p+1)/(ldA A k p k * -2))
def C5v(n k Q:Nat):Nat:=(n-k)*(2*Q+2)+4*Q+10
structure Wv (E:Nat->Rat) (n k Q t:Nat) (v:Nat->Rat) (s:Nat->Nat):Prop where
 seed:C66 (mtx E n) n k v
 low:∀ i,i<t->v i=0
 zero:∀ m,t<=m->m<k->sm n (fun i=>ldL (mtx E n) i m*v i)=0
 sz:∀ i,i<n->Sz (s i) (v i)
 tot:ns (fun i=>if i<t then 0 else 2*Q+1+s i) n+(2*Q+2)<=2^(k-t)*C5v n k Q
def B9p:Sz 1 (1:Rat):=(⟨ZB.one (aE 1),ZB.one (aE 1)⟩:Sz 1 1)
def B6t{E:Nat->Rat}{n Q m:Nat}(F:LdF E n m Q)(hm:m<n)(hQ:1<=Q){i:Nat}(hi:i<n):Sz (2*Q) (ldL (mtx E n) i m):=by unfold ldL;by_cases c:i=m;{rw[iP c];exact B9p.mono o};·rw[iN c];by_cases c2:i<m;{rw[iP c2];exact(Sz.zero (aE 1)).mono o};·rw[iN c2];split;{exact(Sz.zero (aE 1)).mono o};·exact((F.zA i m o hi hm).div (F.zA m m (aE _) hm hm) hQ).mono o
section
variable {h g o:aH} {be bl bd bv:Nat} {T:Tb} {E:Nat->Rat} {n k Q W m:Nat} {M:Nat->Nat->Int} {w:IV} {K:VP}
structure Lv (h g o:aH) (be bl bd bv:Nat) (T:Tb) (E:Nat->Rat) (n k:Nat) (M:Nat->Nat->Int) (w:IV) (v:Nat->Rat):Prop where
 x:Ld h g o be bl bd T E n k M w (A8w (mtx E n) n k) (A9b (mtx E n) k)
 q:QB g o bv n v
 t:¬ onT T bv
 e:be≠bv
 l:bl≠bv
 d:bd≠bv
end
def SymT(q:Nat)(ls:Nat->List UInt8):Prop:=∀i j,i<q->j<i->ls (i*q+j)=ls (j*q+i)
def SqOk(r c:Int)(n:Nat)(ls:Nat->List UInt8)(q:Nat):Prop:=MOk r c n ls q q/\SymT q ls
def SqE(r c:Int)(n:Nat)(ls:Nat->List UInt8)(e:Int):Prop:=(¬Mx r c n ls/\e=1)\/(Mx r c n ls/\(¬∃q,SqOk r c n ls q)/\e=4)
def SymT.symm{q:Nat}{ls:Nat->List UInt8}(h:SymT q ls):A0z q (mtx (rvs ls) q):=fun i j e d=>by show rv (ls (i*q+j))=rv (ls (j*q+i));rcases cR i j with c|c|c;{rw[h j i d c]};{rw[c]};·rw[h i j e c]
section
variable {h:aH} {K:VP} {A:Option aL} {n cap m:Nat} {r c:Int} {ls:Nat->List UInt8}
def MOk.sq{q q':Nat}(mk:MOk r c n ls q q')(e:r=c):q=q':=by have:=mk.er;have:=mk.ec;omega
def A97(gl:Gl h)(rv':aT SSr h A n ls)(hn:n<=1000000)(hl:LL n ls) (hK1:∀q,SqOk r c n ls q->∀b h',Own RQr h h' b (q*q) (rvs ls)->K (.tuple #[.slice (some ⟨b,0,none⟩) (q*q) (q*q),I 0]) h') (hK0:∀e,SqE r c n ls e->∀h',h.le h'->K (.tuple #[.slice none 0 0,I e]) h'):aN prog 191 #[Jz r c A n cap] h K:=by refine(fnk func191 [(7,[22],[],[I 0]),(10,[26],[],[I 0])] (own:=[1])) ?_;refine Z1 gl rv' hn hl ?_ (fun s k l1=>⟨_,_,_,_,rfl,hK0 1 (.inl ⟨s,rfl⟩) k l1⟩);intro q q' mk b k own;refine⟨_,_,_,_,rfl,?_⟩;show Br _ _ _;refine E6 (fun f=>hK0 4 (.inr ⟨⟨_,_,mk⟩,(fun⟨a,x,_⟩=>f (by have:=x.er;have:=x.ec;omega)),rfl⟩) k own.le) (fun t=>?_);obtain rfl:=mk.sq t;have:=mk.r2;obtain⟨rfl,rfl,_,_,_,_,rfl,R⟩:=id mk;have H:aT SSr k A (q*q) ls:=rv'.mono E9 own.le;have W:q*q<=64*64:=aP o o;have M:∀{i j:Nat},i<q->j<q->C4 (C4 ((i:Int)*(q:Int))+(j:Int))=((i*q+j:Nat):Int):=fun {i j} m p=>by{have:=R8 m p;rw[<- aW,O1 o];exact O1 (n:=i*q+j) o};have w:∀{i j:Nat},i<q->j<i->ls (i*q+j)≠ls (j*q+i)->¬∃a,SqOk (q:Int) (q:Int) (q*q) ls a:=by{rintro i j m p f ⟨a,x,y⟩;obtain rfl:a=q:=by{have:=x.er;omega};exact f (y i j m p)};refine⟨fun L l=>∃i:Nat,i<=q/\L=[I (i:Int)]/\l=k/\∀a b,a<i->b<a->ls (a*q+b)=ls (b*q+a),fun L _=>q-(iAt L 0).toNat,⟨0,o,rfl,rfl,fun a b Q=>o⟩,?_⟩;rintro z l ⟨i,m,C,rfl,G⟩;obtain rfl:=sI1 C;refine C1 (fun V=>?_) (fun T=>hK1 q ⟨mk,fun a b Q g=>G a b o g⟩ b l own);have d:i<q:=o;refine⟨fun L D=>∃j:Nat,j<=i/\L=[I (j:Int)]/\D=l/\∀b,b<j->ls (i*q+b)=ls (b*q+i),fun L _=>i-(iAt L 0).toNat,⟨0,o,rfl,rfl,fun b g=>o⟩,?_⟩;rintro z2 D ⟨j,p,C,rfl,E⟩;obtain rfl:=sI1 C;refine C1 (fun N=>?_) (fun F=>?_);{have B:j<i:=o;have i1:=R8 d (show j<q from o);have X:=R8 (show j<q from o) d;obtain⟨u,rfl,hc⟩:=H.sat i1;obtain⟨u',O,S⟩:=H.sat X;simp only[Option.some.injEq]at O;subst O;rw[M d (show j<q from o),M (show j<q from o) d];refine⟨_,rfl,o,o,_,hc,_,rfl,o,o,_,S,?_⟩;dsimp only;rw[Rl];refine Br.not (C1 (fun e=>?_) (fun e=>hK0 4 (.inr ⟨⟨_,_,mk⟩,w d B e,rfl⟩) D own.le));rw[wiS j o];refine⟨⟨j+1,o,rfl,rfl,fun b g=>?_⟩,by simp only[O8];omega⟩;by_cases c:b=j;{rw[c];exact e};·exact E b o};·rw[wiS i o];refine⟨⟨i+1,o,rfl,rfl,fun a b Q g=>?_⟩,by simp only[O8];omega⟩;by_cases c:a=i;{rw[c];exact E b o};·exact G a b o g
structure FacV (h:aH) (q:Nat) (A1:Option aL) (A2:Option aL) (E:Nat->Rat):Prop where
 l:aT SSr h A1 (q*q) (fun t=>F3 (A8w (mtx E q) q q t))
 d:aT SSr h A2 q (fun t=>F3 (A9b (mtx E q) q t))
def A39{Q:Nat}(gl:Gl h)(rv':aT SSr h A n ls)(hn:n<=1000000)(hl:LL n ls)(hs:∀i,i<n->Sz m (rv (ls i)))(hb:∀q,MOk r c n ls q q->3^q*bnd q m+bnd q m<=Q)(hQ:Q<=20000000) (hK1:∀q,SqOk r c n ls q->(∀k,k<q->Jv (mtx (rvs ls) q) q k)->∀b1 b2 h',h.le h'->FacV h' q (some ⟨b1,0,none⟩) (some ⟨b2,0,none⟩) (rvs ls)->K (.tuple #[.agg #[I r,I c,.slice (some ⟨b1,0,none⟩) (q*q) (q*q),.slice (some ⟨b2,0,none⟩) q q],.bool true,I 0]) h') (hK2:∀q,SqOk r c n ls q->(¬∀k,k<q->Jv (mtx (rvs ls) q) q k)->∀h',h.le h'->K (.tuple #[.agg #[I 0,I 0,.slice none 0 0,.slice none 0 0],.bool false,I 0]) h') (hK0:∀e,SqE r c n ls e->∀h',h.le h'->K (.tuple #[.agg #[I 0,I 0,.slice none 0 0,.slice none 0 0],.bool false,I e]) h'):aN prog 145 #[Jz r c A n cap] h K:=by refine(fnk func145 (os:=[(7,[0,1,2,3,4,5,6,7,10,8,9,11])]) (own:=[1,2,9])) ?_;refine A97 gl rv' hn hl ?_ (fun e L G l1=>⟨_,_,_,_,rfl,E6 (fun _=>hK0 e L G l1) (fun e0=>by rcases L with⟨_,x⟩|⟨_,_,x⟩<;>omega)⟩);intro q sq b G own;obtain⟨mk,H⟩:=id sq;have j:=hb q mk;obtain⟨rfl,rfl,_,_,_,_,rfl,N⟩:=id mk;refine⟨_,_,_,_,rfl,E6 (fun z=>absurd rfl z) (fun _=>?_)⟩;refine Wq (Q:=Q) (gl.mono own.le) (own.vis H1) (aE _) o o H.symm hs j o ?_ ?_;{intro ok B V o2 be R bd T M w u S X;have E:1<=Q:=by{unfold bnd at j;omega};have F:=fun k (C:k<=q)=>ldF hs j H.symm C fun m D=>ok m o;refine⟨_,_,rfl,?_⟩;show Br false _ _;refine⟨_,rfl,_,_,_,X.e.c5,?_⟩;have s:Gl B:=gl.mono (B0 own.le u);refine Y6 (m:=2*Q) s (X.l.rowV X.e.t.sep) o (fun i p=>?_) o ?_;{unfold A8w;have D:i%q<q:=cO _ o;rw[iP D];exact B6t (F _ o) D E (aQ p)};intro O h3 f;refine⟨_,_,_,rfl,f.le,_,rfl,_,_,_,C0 f.le X.e.c6,?_⟩;refine Y6 (m:=Q) (s.mono f.le) ((X.d.rowV X.e.t.sep).mono H1 f.le) o (fun i p=>?_) o ?_;{unfold A9b ldD;rw[iP p];exact(F i o).zA i i (aE _) p p};intro b4 W g;exact⟨_,_,_,rfl,g.le,hK1 q sq ok O b4 W (B0 (B0 own.le u) (B0 f.le g.le)) ⟨(f.vis E9).mono E9 g.le,g.vis E9⟩⟩};·intro k C ok y B V o2 be R bd T M w u S X;refine⟨_,_,rfl,?_⟩;show Br true _ _;exact hK2 q sq (fun x=>y (x k C)) B (B0 own.le u)
end
def Br.yes{X Y:Prop}(x:X):Br true X Y:=x
def Br.no{X Y:Prop}(y:Y):Br false X Y:=y
abbrev E4:Nat->Rat:=fun i=>([4,2,2,1]:List Rat).getD i 0
abbrev E0:Nat->Rat:=fun i=>([0,1,1,0]:List Rat).getD i 0
section
variable {h:aH} {A:Option aL} {n cap:Nat} {r c:Int} {ls:Nat->List UInt8}
end
