/- A part. -/
import Derived.Test.YteppbhimdjmabaaGreatDoorG25
open Go.Proofs.Tryz
set_option linter.all false
open _root_.Go.Addr renaming add->aM
open _root_.Go.Addr.mk renaming injEq->bL
open _root_.Go.Builtin renaming append_->cL,copy_->dP
open _root_.Go.Instr renaming storeAt->bU,buildSlice->cU
open Int renaming toNat_natCast->aU,natCast_mul->bX,lt_or_gt_of_ne->dF
open List renaming replicate->aE,length_replicate->aP,length_cons->aS,mem_cons_of_mem->bF,mem_cons_self->bI,length_map->bJ,getElem?_eq_getElem->bO,length_append->bY,eq_nil_of_length_eq_zero->cJ,getD_eq_getElem?_getD->cO,getElem_mem->cT,toArray->dK,append_assoc->dL,take_append_of_le_length->dN,getElem?_append_left->dO,getElem?_replicate->dT,take_of_length_le->eD,drop_of_length_le->eE
open List.cons renaming injEq->cW
open Nat renaming mul_le_mul_right->aC,le_refl->aJ,zero_add->aQ,div_lt_of_lt_mul->aR,mul_le_mul->aY,add_mul_mod_self_right->aZ,add_mul_div_right->bM,zero_le->cC,add_mul->cD,mod_eq_of_lt->cH,div_eq_of_lt->cI,add_comm->cM,mod_lt->cN,add_assoc->cQ,exists_eq_add_of_le->cR,one_mul->cY,zero_mul->dI,add_zero->dJ,pow_pos->dM,add_sub_cancel_left->dR,sub_self->dX,mul_comm->dY,le_of_lt->dZ,le_mul_of_pos_left->eC
open Option.some renaming injEq->aV
open Rat renaming mul_nonneg->aH,divInt->aK,le_of_lt->aN,divInt_eq_div->aT,intCast_mul->aW,one_mul->bC,mul_assoc->bK,pow_succ->bN,intCast_neg->cK,mul_pos->cP,mul_zero->cV,div_def->cX,mul_inv_cancel->dB,inv_mul_cancel->dC,div_mul_cancel->dE,zero_mul->dH,pow_zero->dU,mul_comm->dV
open _root_.Go.Value renaming string->aL,cells->bZ
open _root_.Go.Value.slice renaming injEq->dG
open _root_ renaming Nat->J,Int->Z,Rat->Y,List->eF
open _root_.Go renaming Addr->aI,Value->aX,TypeId->cF
open _root_.Go.Proofs.YteppbhimdjmabaaGreatDoor renaming Heap->aF,FCall->aO,RowV->bG,OwnSl->bH,SliceT->cZ
namespace Go.Proofs.YteppbhimdjmabaaGreatDoor
set_option maxRecDepth 20000
open Go
def C7o:eF aX->J
 | [_,.slice _ n _]=>n
 |_=>0
def C2q{h:aF}{s:Bool}{A:Option aI}{n c b:J}{z:Z}{e:cF}(i:ZI h s A n c z)(hb:h b=none):WV (h.put b (.cells ([Value.agg #[.bool s,.slice A n c]].flatMap (fun v=>v.cells.toList)).toArray e)) (some ⟨b,0,none⟩) 1 [z]:=by refine⟨rfl,[(⟨s,A,n,c⟩:IV)],Rv e h b [(⟨s,A,n,c⟩:IV)],rfl,fun k a=>?_⟩;have:k=0:=o;subst this;exact⟨_,rfl,i.mono (Heap.le_put _ hb)⟩
section
variable {h:aF} {K:VP} {A B:Option aI} {n c k d mw mv M:J} {w v f:eF Z}
def Yu(gl:Gtz h)(r:WV h A n w)(rv:WV h B k v)(hw:Nz w)(hv:Nz v)(hw0:w≠[])(hk:k+1=n)(hn:n<=6)(hc:n<=c)(hd:k<=d)(bw:WB M w)(bv:WB M v)(hM:3600*(M+1)<=40000000)
 (hK:∀W V cw cv G A' n' c' h',h.le h'->WV h' A' n' G->n'<=c'->Pm w W cw->Pm v V cv->Gc W V G->WB (446*(M+1)) G->G.length<=6->K (.slice A' n' c') h'):aO prog 111 #[.slice A n c,.slice B k d] h K:=by
 refine(fnk func111 [(4,[5,6],[],[.slice none 0 0,.slice none 0 0])] (own:=[9])) ?_;refine O8 gl r hw o bw o hc ?_;intro W cw A1 c1 h1 l1 w1 pw bW T;refine⟨_,_,_,rfl,?_⟩;refine O8 (gl.mono l1) (rv.mono l1) hv o bv o hd ?_;intro V cv A2 c2 h2 l2 w2 pv bV aa;refine⟨_,_,_,rfl,B9 (fun e=>o) (fun _=>?_)⟩;have nW:=pw.nz hw;have nV:=pv.nz hv;have W0:W≠[]:=pw.ne.2 hw0;have L1:=w1.1;have L2:=w2.1
 refine⟨fun L C=>∃(a b:eF Z) (A1:Option aI) (n1 c1:J) (A2:Option aI) (n2 c2:J),L=[.slice A1 n1 c1,.slice A2 n2 c2]/\h2.le C/\WV C A1 n1 a/\WV C A2 n2 b/\n1<=c1/\n2<=c2/\GcI W V a b/\Bdd M a/\Bdd M b/\Lb a b,fun L _=>C7o L,
  ⟨W,V,A1,n,c1,A2,k,c2,rfl,B8 _,w1.mono l2,w2,T,aa,GcI.start nW nV W0 (pw.prim (by have:=pw.pos hw hw0;omega)) (fun z=>pv.prim (by have:=pv.pos hv (pv.ne.1 z);omega)),Bdd.start bW o,Bdd.start bV o,o,o,o⟩,?_⟩;rintro aA an ac bA bn bc C ⟨a,b,A3,n3,c3,A4,n4,c4,eL,lp,S,O,j,E,g,t,ad,D⟩;simp only[cW,dG,and_true]at eL;obtain⟨⟨rfl,rfl,rfl⟩,rfl,rfl,rfl⟩:=eL;have la:=S.1;have y:=O.1;have f:=B6 l1 (B6 l2 lp);refine B9 (fun af=>D4 (fun e1=>?_) (fun e1=>?_)) (fun hz=>?_)
 ·refine O0 o o ?_;intro s5 A5 n5 c5 h5 p i5;refine⟨_,_,_,_,rfl,?_⟩;refine Ah tWh (vs:=[.agg #[.bool s5,.slice A5 n5 c5]]) (fun u hu=>by rw[List.mem_singleton.1 hu];rfl) rfl (by show 1*2<=16777216;decide) rfl ?_;intro b6 s;refine⟨_,_,_,rfl,hK W V cw cv [1] _ 1 1 _ (B6 f (B6 p (Heap.le_put _ s))) (C2q i5 s) (aJ _) pw pv (g.one o) (fun i=>?_) (by simp)⟩
  cases i with
  |zero=>exact ZB.one o
  |succ i=>exact zb0
 ·have b0:b≠[]:=by rintro rfl;simp at y;omega
  obtain⟨ag,μ,bμ,hμ⟩:=t;obtain⟨H,ν,bν,hν⟩:=ad;have lim:=Bdd.lim (n:=an) hM o hμ hν;refine Nw (S) O g.nza g.nzb o o j bμ bν lim ?_;intro q R m A5 n5 c5 A6 n6 c6 z h5 p _ wR ae iz m0 he nR F bR _ _ _;refine⟨_,_,_,_,_,_,_,_,_,_,rfl,?_⟩;have hR:=F b0;have lR:=wR.1;have st:=fun l h3=>Bdd.step (M:=M) (l:=l) D h3 hμ hν;rw[la,y]at bR;have bz:=aC (M+1) (Ea R.length).2;have Q:=st _ hR;refine O8 ((gl.mono f).mono p) wR nR o bR o ae ?_;intro R' x A7 c7 h7 l7 w7 p7 b7 X;have N:=p7.len;refine⟨_,_,_,rfl,⟨b,R',bA,bn,bc,A7,n6,c7,rfl,B6 lp (B6 p l7),(O.mono p).mono l7,w7,E,X,g.step b0 m0 he nR p7,⟨H,ν,bν,hν⟩,⟨o,_,b7,by rw[N];exact Q⟩,⟨o,o,by have:=D.2.1;have:=D.1;omega⟩⟩,by show n6<bn;omega⟩
 ·have b0:b=[]:=cJ o;subst b0;exact hK W V cw cv a _ _ _ _ f S j pw pv g.done t.le D.1
end
def WB.dl{m:J}{w:eF Z}(h:WB m w)(hl:w.length<=1000):WB (m+10) (dl w):=fun i=>by rw[B7t];by_cases a:i+1<w.length;{refine(h (i+1)).mul ?_;unfold ZB;omega};·rw[Zx o,Int.zero_mul];exact zb0
section
variable {h:aF} {K:VP} {A B:Option aI} {n c k d mw mv M:J} {w v f:eF Z}
def Au(gl:Gtz h)(r:WV h A n w)(hw:Nz w)(hw0:w≠[])(hn:n<=6)(hc:n<=c)(bw:WB M w)(hM:3600*(M+11)<=40000000) (hK:∀S A' n' c' h',h.le h'->WV h' A' n' S->n'<=c'->SqF w S->WB (2690*(M+11)) S->K (.slice A' n' c') h'):aO prog 56 #[.slice A n c] h K:=by refine(fnk func56) ?_;refine O8 gl r hw o bw o hc ?_;intro W cw A1 c1 h1 C g pw j y;refine⟨_,_,_,rfl,?_⟩;have b:=pw.nz hw;have W0:W≠[]:=pw.ne.2 hw0;have p:=pw.pos hw hw0;have L1:=g.1;have lW:=List.length_pos_iff.2 W0;have bD:=j.dl o;refine Gv g o (j.mono (show M<=M+10 from o)) o o ?_;intro A2 n2 c2 h2 k D t;refine⟨_,_,_,rfl,?_⟩;have L2:=D.1;rw[Jp]at L2;have Q:=(gl.mono C).mono k;refine Yu Q (g.mono k) D b (A45 b) W0 o hn y t (j.mono (show M<=M+10 from o)) bD o ?_;intro W2 V2 O V G A3 n3 c3 h3 B H ad l i a L lG;refine⟨_,_,_,rfl,?_⟩;have dW:Dv G W:=Dv.scale a.da l.val;have R:Dv G (dl W):=Dv.scale a.db i.val;obtain⟨N,e,T,he⟩:=id dW;obtain⟨f,hf⟩:=C7s a.prim N.natAbs N W e (aJ _) T he;have u:∀x,pe W x=pe (trZ f) x*pe G x:=fun x=>by{rw[Cj,hf x]};have S0:trZ f≠[]:=by{intro z;obtain⟨x,hx⟩:=b.val W0;refine hx ?_;rw[u x,z];simp only[pe];grind};have s:=Hs f;have d:=A75 (N:=1) dc b s a.nz S0 a.ne (fun x=>gz0);have aa:=List.length_pos_iff.2 a.ne;have hβ:(n+1)*(446*(M+10+1)+1)<=7*(447*(M+11)):=aY o o;have hβ2:n*(446*(M+10+1)+1)<=6*(447*(M+11)):=aY o o;refine A9e ((g.mono k).mono B) H s a.nz a.ne S0 d u o j L o ?_;intro A4 n4 c4 h4 X F m b4;refine⟨_,_,_,rfl,hK _ _ _ _ _ (B6 C (B6 k (B6 B X))) F m ⟨s,S0,by have:=pw.len;omega,W,G,cw,p,pw.val,R,u,a.nz,a.ne,?_⟩ (b4.mono o)⟩;refine a.cb.scale (l.lenNz W0 b) l.val i.val fun z=>?_;have q:=i.ne;by_cases E:dl W=[];{grind};·exact absurd z (i.lenNz E (A45 b))
def A2u{x:QV}{q:Y}{p:J}(r:WV h A n w)(iq:RQ h x q)(hn:n<=1000)(hb:WB mw w)(hq:Sz p q)(hT:mw+(n+2)*(p+1)<=40000000) (hK:∀s A' n' c' z pw h',h.le h'->ZI h' s A' n' c' z->Hn w q.num (q.den:Z) 0 z pw->ZB (mw+1+n*(p+1)) z->K (.agg #[.bool s,.slice A' n' c']) h'):aO prog 258 #[.slice A n c,x.v] h K:=by refine(fnk func258 [(5,[9],[(5,2),(8,2)],[I 0,.bool false,.slice none 0 0,.bool false,.slice none 0 0])] (os:=[(2,[0,2,4,5,1,3,6,7])]) (own:=[3,4,5,6,7,8]) (wr:=[127])) ?_;refine A6h iq ⟨_,_,_,_,rfl,B8 _,?_⟩;refine Do iq ?_;intro s1 A1 n1 c1 h1 l1 i1;refine⟨_,_,_,_,rfl,l1,?_⟩;refine O0 o o ?_;intro s2 A2 n2 c2 h2 l2 i2;have rl:=r.1;refine⟨_,_,_,_,rfl,fun L l=>∃(k:J) (u y:IV) (C D:Z),k<=n/\L=[I ((k:Z)-1),.bool u.s,.slice u.A u.n u.c,.bool y.s,.slice y.A y.n y.c]/\h2.le l/\ZIr l u C/\ZIr l y D/\Hn w q.num (q.den:Z) k C D/\ZB (mw+1+(n-k)*(p+1)) C/\ZB (1+(n-k)*p) D,fun L _=>(iAt L 0+1).toNat,⟨n,⟨false,none,0,0⟩,⟨s2,A2,n2,c2⟩,0,1,aJ _,by rw[C0 o o],B8 _,ZI.zero,i2,by rw[rl];exact Hn.start _ _ _,zb0,by exact ZB.one o⟩,?_⟩;rintro i v0 vA vn vc p0 pA pn pc l ⟨k,u,y,C,D,hk,eL,H,iu,O,hh,X,d⟩;obtain⟨rfl,rfl,⟨rfl,rfl,rfl⟩,rfl,rfl,rfl,rfl⟩:=eL;have N:=B6 l1 l2;have B:=B6 N H;refine B9 (fun ac=>?_) (fun ad=>?_);{obtain⟨j,rfl⟩:∃j,k=j+1:=⟨k-1,o⟩;rw[show((j+1:J):Z)-1=(j:Z)from o];have ae:n-j=(n-(j+1))+1:=o;have hβ1:mw+1+(n-j)*(p+1)=mw+1+(n-(j+1))*(p+1)+(p+1):=gz0;have hμ1:1+(n-j)*p=1+(n-(j+1))*p+p:=gz0;have aa:(n-j)*(p+1)<=n*(p+1):=aC _ o;have G:(n+2)*(p+1)=n*(p+1)+2*(p+1):=cD _ _ _;have af:(n-(j+1))*p<=(n-(j+1))*(p+1):=Nat.mul_le_mul_left _ o;generalize hT1:(n-(j+1))*(p+1)=T at *;generalize hU1:(n-(j+1))*p=U at *;refine An Tw ?_;intro b Q;have Z0:SumS (l.put b (.cells #[.slice none 0 0,.slice none 0 0] 217)) l b 217 200000001 0 0:=SumS.zero Q;refine⟨_,rfl,?_⟩;have e:=iq.num.mono B;have g:∀{gg:aF} {w:IV} {x:Z},ZIr gg w x->ZB (mw+T+p+2) x->w.n<=100000000:=fun i b=>ZI.len i b o;have b1:=X.mono (show mw+1+T<=mw+T+p+2 from o);have b2:=hq.1.mono (show p<=mw+T+p+2 from o);have W:=(hb j).mono (show mw<=mw+T+p+2 from o);have b4:=d.mono (show 1+U<=mw+T+p+2 from o);have x1:=Ms b1 b2;have x2:=Ms W b4;have q0:=A1f (m:=mw+T+p+2) (k:=2) o o;have m2:=g (w:=⟨x.s,x.A,x.n,x.c⟩) e b2;have m4:=g O b4;refine O9 Z0 iu e gz0 o (N1:=mw+T+p+2) o o ?_;intro G3 g3 t Z3;obtain⟨a,ww,rfl,S,f0,f1⟩:=(r.2.mono Q8 (B6 B t)).zat (i:=j) o;have m3:=g S W;refine⟨rfl,a,rfl,o,o,_,_,_,_,C2 Z3.le f0,C2 Z3.le f1,?_⟩;refine O9 Z3 S (O.mono t) o o (N1:=mw+T+p+2) o o ?_;intro G4 g4 M Z4;refine⟨rfl,Cp Z4 o ?_⟩;intro sv Av nv cv G5 E V;simp only[Int.zero_add]at V;refine⟨_,_,_,_,rfl,?_⟩;have F:l.le G5:=B6 t (B6 M (B6 Z4.le E));have f:ZB p (q.den:Z):=hq.2;refine I6 (O.mono F) (i1.mono (B6 (B6 l2 H) F)) (d.mono (show 1+U<=1+U+p from o)) (f.mono o) o ?_;intro s6 A6 n6 c6 h6 l6 i6;refine⟨_,_,_,_,rfl,⟨j,⟨sv,Av,nv,cv⟩,⟨s6,A6,n6,c6⟩,_,_,o,by rw[C0 o o],B6 H (B6 F l6),V.mono l6,i6,hh.step o,?_,?_⟩,by show(C4 ((j:Z)-1)+1).toNat<((j:Z)+1).toNat;rw[C0 o o];omega⟩;{have y1:=X.mul hq.1;have y2:=(hb j).mul d;exact((y1.mono (show mw+1+T+p<=mw+1+T+p from o)).add (y2.mono (show mw+(1+U)<=mw+1+T+p from o))).mono o};·rw[hμ1];exact d.mul f};·obtain rfl:k=0:=o;grind
end
section
set_option maxRecDepth 100000
variable {h:aF} {K:VP}
def C88:cZ prog 285 115 (N0) 1 24:=⟨by kernel_rfl,by kernel_rfl,rfl,dc⟩
end
section
variable {α:Type} [E:Enc α]
def OwnSl.store{P:Program}{t e:cF}(one:P.cellsOf t=E.default.size/\(P.info? t).isSome=true){v:aX}{y:α}(hv:v.cells=(enc y).toArray){h g o:aF}{A:Option aI}{c:J}{xs:eF α}(s:Sep h g o)(w:bH o e A c xs){i b:J}(hi:i<xs.length)(hA:A=some ⟨b,0,none⟩){K:Unit->aF->Prop} (x:∀h' o',Sep h' g o'->bH o' e A c (xs.set i y)->(∀k,k≠b->o' k=o k)->K () h'):wpH P (bU t (.pointer (some (aM ⟨b,0,none⟩ (i*E.default.size)))) v) K h:=by rcases w.2 with⟨B,_⟩|⟨C,j,d,n,q,z⟩;{exfalso;grind};·rw[hA]at d;simp only[aV,bL,and_true]at d;subst d;obtain⟨ex,hex⟩:∃ex,j=xs.flatMap enc++ex:=⟨j.drop (xs.length*E.default.size),by rw[<- z,List.take_append_drop]⟩;rw[hex]at n q;obtain⟨r,f⟩:=Option.isSome_iff_exists.1 one.2;have hs:r.size=E.default.size:=by{simpa[Program.cellsOf,f]using one.1};have hl:=E.default.len y;have m:(i+1)*E.default.size<=xs.length*E.default.size:=aC _ hi;rw[cD,cY]at m;have a:(h.without b).put b (.cells (xs.flatMap enc++ex).toArray e)=h:=P8 (s.own b _ n);unfold bU;simp only[C8,Instr.sureAddr,I5,storeVar,K4 f,hs,hv,List.size_toArray,hl,ne_eq,not_true_eq_false,if_false];rw[D9,aQ,<- a];refine H8 (enc y) (i*E.default.size) 0 _ (by rw[bY,N3,hl];omega) (E.default.one y) ?_;have l:J0 (xs.flatMap enc++ex) (i*E.default.size+0) (enc y)=(xs.set i y).flatMap enc++ex:=by{rw[dJ,<- A1u xs hi];unfold J0;rw[dN (by rw[N3];omega),List.drop_append_of_le_length (by rw[N3,hl];omega),dL,dL,dL]};rw[l];have p:(h.without b).put b (.cells ((xs.set i y).flatMap enc++ex).toArray e)=h.put b (.cells ((xs.set i y).flatMap enc++ex).toArray e):=by{rw[<- a,Kd,a]};rw[p];refine x _ _ (s.upd n _) ⟨by simpa using w.1,.inr ⟨b,(xs.set i y).flatMap enc++ex,hA,C3 _ _ _,?_,?_⟩⟩ (fun k u=>C1 _ _ u);{rw[bY,N3]at q ⊢;grind};·rw[dN (by rw[N3];omega),eD (by rw[N3];omega)]
end
section
variable {h g:aF} {K:VP} {A:Option aI} {n c cols:J}
def B5e(h:aF)(v:aX)(A:Option aI)(n c cols:J):Prop:=∃f0 f1:aI,v= .func (.func 290) #[] #[.pointer (some f0),.pointer (some f1)]/\h.cell? f0=some (.slice A n c)/\h.cell? f1=some (I (cols:Z))
def Zt(hc:1<=cols)(hK:∀v h',h.le h'->B5e h' v A n c cols->K v h'):aO prog 243 #[.slice A n c,I (cols:Z)] h K:=by refine(fnk func243) ?_;refine Ru ?_;intro b f;refine⟨_,rfl,Ru ?_⟩;intro d a;have c1:Heap.cell? ((h.put b (.cells (bZ (.slice A n c)) 128)).put d (.cells (bZ (I (cols:Z))) 3)) ⟨d,0,none⟩=some (I (cols:Z)):=by{rw[E6];rfl};refine⟨_,rfl,_,c1,B9 (fun e=>o) (fun _=>hK _ _ (B6 (Heap.le_put _ f) (Heap.le_put _ a)) ⟨⟨b,0,none⟩,⟨d,0,none⟩,rfl,?_,c1⟩)⟩;refine C2 (Heap.le_put _ a) ?_;rw[E6];rfl
def Vi{g0:aF}{v:aX}{rows:J}(ic:B5e g0 v A (rows*cols) c cols)(hc:1<=cols)(hn:rows*cols<=1000000000)(hcap:rows*cols<=c){B:eF aX->aF->(aF->Prop)->Prop}{K:aF->Prop}(jq9:J->aF->Prop)(h0:jq9 0 h)(hle:∀k h,jq9 k h->g0.le h) (hB:∀k h1,k<rows->jq9 k h1->B [.slice (X9 A ((k+1)*cols) (k*cols) 4) cols cols] h1 (jq9 (k+1))) (hK:∀h1,jq9 rows h1->K h1):A9d prog v h B K:=by obtain⟨m,p,rfl,z,w⟩:=ic;refine⟨290,#[],#[.pointer (some m),.pointer (some p)],rfl,A2d,?_⟩;intro l rec hl a;show aO _ _ #[.func (.yield l) #[] #[],.pointer (some m),.pointer (some p)] _ _;refine(fnk func290 [(1,[4],[],[I 0])]) ?_;refine⟨fun L t=>∃(k:J) (h1:aF),k<=rows/\L=[I ((k*cols:J):Z)]/\h1 l=none/\t=h1.put l (.loop rec)/\jq9 k h1,fun L _=>rows*cols-(iAt L 0).toNat,⟨0,h,o,by simp,hl,rfl,h0⟩,?_⟩;rintro i t ⟨k,h1,N,Q,f,rfl,u⟩;obtain rfl:i=((k*cols:J):Z):=gz0;have n:=B6 (hle k h1 u) (Heap.le_put (.loop rec) f);have j:=C2 n z;have E:=C2 n w;refine⟨_,_,_,j,B9 (fun D=>?_) (fun y=>?_)⟩;{have d:k<rows:=by{grind};have M:(k+1)*cols<=rows*cols:=aC _ d;have R:(k+1)*cols=k*cols+cols:=gz0;have G:(if((rows*cols-(((k*cols:J):Z)).toNat:J):Z)<(cols:Z)then((rows*cols-(((k*cols:J):Z)).toNat:J):Z)else(cols:Z))=(cols:Z):=by{omega};have q:C4 (((k*cols:J):Z)+(cols:Z))=(((k+1)*cols:J):Z):=by{rw[C0]<;>omega};refine⟨_,E,_,_,_,j,⟨o,o⟩,_,_,_,j,?_⟩;rw[G,q];simp only[aU];have C:(k+1)*cols-k*cols=cols:=o;rw[C];refine⟨⟨o,o⟩,⟨o,o⟩,⟨o,o⟩,?_⟩;refine(a _ h1 (jq9 (k+1)) f (hB k h1 d u)).mono ?_;rintro r O ⟨rfl,s,e,rfl,b⟩;refine⟨_,rfl,?_⟩;show ∃(t11:Z),_;have g:=B6 (hle _ s b) (Heap.le_put (.loop rec) e);refine⟨_,C2 g w,?_⟩;rw[q];exact⟨⟨k+1,s,o,rfl,e,rfl,b⟩,by simp only[U4];omega⟩};·have F:k=rows:=by{by_cases H:k=rows;{exact H};·exfalso;have:(k+1)*cols<=rows*cols:=aC _ o;grind};grind
end
section
variable {α:Type} [E:Enc α]
def Xq{P:Program}{t e:cF}{z:aX}{bytes:J}(st:cZ P t e z E.default.size bytes){h g o:aF}{A:Option aI}{c:J}{xs:eF α}(s:Sep h g o)(w:bH o e A c xs){v:aX}{y:α}(hv:v.cells=(enc y).toArray)(hsz:E.default.size<=1000)
 (hb:(2*(xs.length+1)+192)*bytes<=281474976710656) (hn:xs.length+1<=9223372036854775807) {K:VP}
 (x0:∀B m d hp,h.le hp->(∀{ty:cF} {K2:VP},(∀A' c' h' g' o',g.le g'->Sep h' g' o'->bH o' e A' c' (xs++[y])->(∀k u,o k=some u->A≠some ⟨k,0,none⟩->o' k=some u/\A'≠some ⟨k,0,none⟩)->K2 (.slice A' (xs.length+1) c') h')->wpH P (cL #[t,t] ty #[.slice A xs.length c,.slice B m d]) K2 hp)->K (.slice B m d) hp):
 wpH P (cU t 1 #[(0,v)]) K h:=by
 obtain⟨T,p,M⟩:=w.priv s;refine Ah st (vs:=[v]) (fun u hu=>by rw[List.mem_singleton.1 hu,hv];simp[E.default.len]) rfl gz0 rfl ?_;intro b f;have L:[v].flatMap (fun v=>v.cells.toList)=[y].flatMap enc:=by simp[hv]
 rw[L];refine x0 _ _ _ _ (Heap.le_put _ f) (fun {ty K2} x=>?_);have p':PrivF (h.put b (.cells ([y].flatMap enc).toArray e)) (T.put b (.cells ([y].flatMap enc).toArray e)) e A c xs:=Priv.put p f _;refine R9 st p' (ys:=[y]) rfl (Rv e h b [y]) hb hn ?_;intro A' c' h' g' W hp;rw[bY]
 have q:∀k u,h k=some u->A≠some ⟨k,0,none⟩->g' k=some u:=by
  intro k u a R;have j:k≠b:=gz0;exact W k u (by rw[C1 _ _ j];grind)
 have H:∀k u,g k=some u->A≠some ⟨k,0,none⟩:=by
  intro k u a r;rcases w.2 with⟨_,h0⟩|⟨n,l,i,C,_⟩;·grind
  ·rw[r]at i;simp only[aV,bL,and_true]at i;subst i;rw[s.dis k _ C]at a;cases a
 rcases hp.2.2 with⟨S,_⟩|⟨n,l,i,C,D,ha,V⟩
 ·exfalso;have:=hp.2.1;grind
 ·subst i;let o':aF:=fun k=>if k=n then some (.cells (dK l) e)else if A=some ⟨k,0,none⟩then none else o k;have O:o' n=some (.cells (dK l) e):=gz0;have ok:∀k,k≠n->A≠some ⟨k,0,none⟩->o' k=o k:=fun k Q G=>by grind
  let g2:aF:=fun k=>match o' k with|some _=>none|none=>h' k
  have gs:∀k u,o' k=some u->g2 k=none:=fun k u a=>by grind
  have gn:∀k,o' k=none->g2 k=h' k:=fun k a=>by grind
  have F:∀k u,k≠n->g' k=some u->h' k=some u:=fun k u Q a=>by rw[D,C1 _ _ Q];exact a
  have N:∀k u,o k=some u->A≠some ⟨k,0,none⟩->k≠n:=by
   rintro k u a G rfl;have:=q k u (s.own k u a) G;grind
  refine x _ c' h' g2 o' (fun k u a=>?_) ⟨fun k u a=>?_,fun k a=>(gn k a).symm,gs⟩ ⟨hp.2.1,.inr ⟨n,l,rfl,O,ha,V⟩⟩ (fun k u a G=>?_)
  ·have X:o k=none:=by
    cases ho:o k with
    |none=>rfl
    |some y=>rw[s.dis k y ho]at a;cases a
   have r:=H k u a;have e3:=q k u (s.le k u a) r;grind
  ·by_cases j:k=n
   ·subst j;rw[O]at a;cases a;rw[D,C3]
   ·by_cases r:A=some ⟨k,0,none⟩;·grind
    ·rw[ok k j r]at a;exact F k u j (q k u (s.own k u a) r)
  grind
end
def A2b{P:Program}{t:cF}(one:P.cellsOf t=1/\(P.info? t).isSome=true){v:aX}(hv:Qj v=true)(hc:v.cells=#[v]){h g o:aF}(s:Sep h g o){b:J}{cs:Array aX}{e:cF}(hb:o b=some (.cells cs e)){i:J}(hi:i<cs.size){K:Unit->aF->Prop} (x:∀h' o',Sep h' g o'->o'=o.put b (.cells (cs.setIfInBounds i v) e)->K () h'):wpH P (bU t (.pointer (some (aM ⟨b,0,none⟩ i))) v) K h:=by rw[D9,aQ];have a:h.put b (.cells cs e)=h:=Qi (s.own b _ hb);rw[<- a];refine Bu one.1 one.2 hv hc hi ?_;exact x _ _ (s.upd hb _) rfl
structure NT (o:aF) (bp bt cols:J) (es:eF IV) (ss:eF QV) (A:Option aI) (c:J) (A':Option aI) (c':J):Prop where
 hp:∃ e,o bp=some (.cells #[.pointer (some ⟨bt,0,none⟩)] e)
 ht:∃ e,o bt=some (.cells #[I (cols:Z),.slice A es.length c,.slice A' ss.length c'] e)
 oe:bH o 118 A c es
 os:bH o 143 A' c' ss
 ne:bp≠bt
 a1:A≠some ⟨bp,0,none⟩/\A≠some ⟨bt,0,none⟩
 a2:A'≠some ⟨bp,0,none⟩/\A'≠some ⟨bt,0,none⟩
 a3:∀ b,A=some ⟨b,0,none⟩->A'≠some ⟨b,0,none⟩
section
variable {h g o:aF} {bp bt cols:J} {es:eF IV} {ss:eF QV} {A A':Option aI} {c c':J}
def NT.cp(n:NT o bp bt cols es ss A c A' c')(s:Sep h g o):h.cell? ⟨bp,0,none⟩=some (.pointer (some ⟨bt,0,none⟩)):=by obtain⟨e,a⟩:=n.hp;refine s.cell ?_;unfold Heap.cell?;grind
def NT.c1(n:NT o bp bt cols es ss A c A' c')(s:Sep h g o):h.cell? (aM ⟨bt,0,none⟩ 1)=some (.slice A es.length c):=by obtain⟨e,a⟩:=n.ht;refine s.cell ?_;rw[D9];unfold Heap.cell?;grind
def NT.c2(n:NT o bp bt cols es ss A c A' c')(s:Sep h g o):h.cell? (aM ⟨bt,0,none⟩ 2)=some (.slice A' ss.length c'):=by obtain⟨e,a⟩:=n.ht;refine s.cell ?_;rw[D9];unfold Heap.cell?;grind
def B69:prog.cellsOf 114=1/\(prog.info? 114).isSome=true:=by constructor<;>kernel_rfl
def B68:prog.cellsOf 128=1/\(prog.info? 128).isSome=true:=by constructor<;>kernel_rfl
def NT.buildE(n:NT o bp bt cols es ss A c A' c')(s:Sep h g o)(w:IV)(hl:es.length<=100000000){F:aF->Prop}(hF:∀h' g' o' A2 c2,g.le g'->Sep h' g' o'->NT o' bp bt cols (es++[w]) ss A2 c2 A' c'->F h'){K:VP} (x:∀B m d hp,h.le hp->hp.cell? ⟨bp,0,none⟩=some (.pointer (some ⟨bt,0,none⟩))->(∀{K2:VP},(∀A2 c2 h2,h2.cell? ⟨bp,0,none⟩=some (.pointer (some ⟨bt,0,none⟩))->wpH prog (bU 114 (.pointer (some (aM ⟨bt,0,none⟩ 1))) (.slice A2 (es.length+1) c2)) (fun _ h3=>F h3) h2->K2 (.slice A2 (es.length+1) c2) h2)->wpH prog (cL #[114,114] 114 #[.slice A es.length c,.slice B m d]) K2 hp)->K (.slice B m d) hp): wpH prog (cU 114 1 #[(0,w.v)]) K h:=by refine Xq tZs s n.oe (y:=w) rfl dc oo oo ?_;intro B m d hp C f;refine x B m d hp C (C2 C (n.cp s)) (fun {K2} q=>f ?_);intro A2 c2 h2 N D M z Q keep;obtain⟨T,t⟩:=n.hp;obtain⟨O,r⟩:=n.ht;have L:=keep bp _ t n.a1.1;have H:=keep bt _ r n.a1.2;refine q A2 c2 h2 ?_ ?_;{refine z.cell ?_;unfold Heap.cell?;grind};·refine A2b B69 rfl rfl z H.1 (by simp) ?_;intro h3 E S G;have ko:∀k,k≠bt->E k=D k:=fun k q=>by{rw[G,C1 _ _ q]};refine hF h3 N E A2 c2 M S ⟨⟨T,gz0⟩,⟨O,by rw[G,C3];simp⟩,Q.keep fun b y i l=>gz0,?_,n.ne,⟨L.2,H.2⟩,n.a2,?_⟩;{refine(n.os.keep (o':=D) fun b y i l=>(keep b y l (fun e=>n.a3 b e i)).1).keep fun b y i l=>by rw[ko b (fun e=>n.a2.2 gz0)];exact l};·intro b i a;rcases n.os.2 with⟨_,V⟩|⟨u,R,j,p,_⟩;{grind};·rw[j]at a;simp only[aV,bL,and_true]at a;subst a;exact(keep u _ p (fun e=>n.a3 u e j)).2 i
def NT.buildS(n:NT o bp bt cols es ss A c A' c')(s:Sep h g o)(w:QV)(hl:ss.length<=100000000){F:aF->Prop}(hF:∀h' g' o' A2 c2,g.le g'->Sep h' g' o'->NT o' bp bt cols es (ss++[w]) A c A2 c2->F h'){K:VP} (x:∀B m d hp,h.le hp->hp.cell? ⟨bp,0,none⟩=some (.pointer (some ⟨bt,0,none⟩))->(∀{K2:VP},(∀A2 c2 h2,h2.cell? ⟨bp,0,none⟩=some (.pointer (some ⟨bt,0,none⟩))->wpH prog (bU 128 (.pointer (some (aM ⟨bt,0,none⟩ 2))) (.slice A2 (ss.length+1) c2)) (fun _ h3=>F h3) h2->K2 (.slice A2 (ss.length+1) c2) h2)->wpH prog (cL #[128,128] 128 #[.slice A' ss.length c',.slice B m d]) K2 hp)->K (.slice B m d) hp): wpH prog (cU 128 1 #[(0,w.v)]) K h:=by refine Xq A0k s n.os (y:=w) rfl dc oo oo ?_;intro B m d hp u f;refine x B m d hp u (C2 u (n.cp s)) (fun {K2} l=>f ?_);intro A2 c2 h2 M z L t O keep;obtain⟨S,q⟩:=n.hp;obtain⟨N,p⟩:=n.ht;have H:=keep bp _ q n.a2.1;have G:=keep bt _ p n.a2.2;refine l A2 c2 h2 ?_ ?_;{refine t.cell ?_;unfold Heap.cell?;grind};·refine A2b B68 rfl rfl t G.1 (by simp) ?_;intro h3 D R E;have ko:∀k,k≠bt->D k=z k:=fun k l=>by{rw[E,C1 _ _ l]};refine hF h3 M D A2 c2 L R ⟨⟨S,gz0⟩,⟨N,by rw[E,C3];simp⟩,?_,O.keep fun b y a i=>gz0,n.ne,n.a1,⟨H.2,G.2⟩,?_⟩;{refine(n.oe.keep (o':=z) fun b y a i=>(keep b y i (fun e=>n.a3 b a e)).1).keep fun b y a i=>by rw[ko b (fun e=>n.a1.2 gz0)];exact i};·intro b a;rcases n.oe.2 with⟨_,T⟩|⟨r,Q,C,j,_⟩;{grind};·rw[C]at a;simp only[aV,bL,and_true]at a;subst a;exact(keep r _ j (fun e=>n.a3 r C e)).2
end
def A6f(E:J->Y)(cols i:J):J->Y:=fun j=>E (i*cols+j)
def B6l(E:J->Y)(cols i j:J):Z:=scl (A6f E cols i j) (Ai (A6f E cols i) cols:Z)
def B5k(E:J->Y)(cols i:J):J->J
 |0=>0
 |j+1=>Int.gcd (B5k E cols i j:Z) (B6l E cols i j)
def A55(E:J->Y)(cols i:J):J:=if B5k E cols i cols=0 then 1 else B5k E cols i cols
def A66(E:J->Y)(cols i j:J):Z:=(B6l E cols i j).tdiv (A55 E cols i:Z)
def Xt(E:J->Y)(cols i:J):Y:=aK (Ai (A6f E cols i) cols:Z) (A55 E cols i:Z)
def B7e(E:J->Y)(cols i:J):∀n j,j<n->(B5k E cols i n:Z)∣B6l E cols i j:=by
 intro n
 induction n with
 |zero=>omega
 |succ n ih=>
  intro j a;by_cases e:j=n;·subst e;exact Int.gcd_dvd_right _ _
  ·exact Int.dvd_trans (Int.gcd_dvd_left _ _) (ih j o)
def Ue(E:J->Y)(cols i:J):0<A55 E cols i:=by unfold A55;grind
def B7q(E:J->Y)(cols i:J){j:J}(hj:j<cols):(A55 E cols i:Z)∣B6l E cols i j:=by unfold A55;split;{omega};·exact B7e E cols i cols j hj
def B9p(E:J->Y)(cols i:J){j:J}(hj:j<cols):(A66 E cols i j:Y)=Xt E cols i*E (i*cols+j):=by have d:=Ue E cols i;have a:((A55 E cols i:J):Z)≠0:=o;have c:((A66 E cols i j:Z):Y)*((A55 E cols i:J):Z)=E (i*cols+j)*((Ai (A6f E cols i) cols:J):Z):=by{rw[<- aW];unfold A66;rw[Int.tdiv_mul_cancel (B7q E cols i hj)];exact A3e (by have:=Ph (A6f E cols i) cols j hj;exact Int.natCast_dvd_natCast.2 this)};have b:=T3 a;unfold Xt;rw[aT];grind
def Tv(E:J->Y)(cols i:J):0<Xt E cols i:=by unfold Xt;rw[aT];have a:(0:Y)<((Ai (A6f E cols i) cols:J):Z):=by{have:=Pg (A6f E cols i) cols;exact_mod_cast this};have b:(0:Y)<((A55 E cols i:J):Z):=by{have:=Ue E cols i;exact_mod_cast this};exact cP a (Rat.inv_pos.2 b)
def ZB.gcd2{k:J}{x y:Z}(hx:ZB k x)(hy:ZB k y):ZB k (Int.gcd x y:Z):=by by_cases h:y=0;{subst h;rw[Int.gcd_zero_right];assumption};·exact ZB.gcd h hy
section
variable {E:J->Y} {cols i m:J}
def A17(h:∀j,j<cols->Sz m (E (i*cols+j))){j:J}(hj:j<cols):ZB (1+cols*m+m) (B6l E cols i j):=by have:=A3d (h j hj) (Hj (f:=A6f E cols i) cols h);exact this.mono o
def B3q(h:∀j,j<cols->Sz m (E (i*cols+j))):∀j,j<=cols->ZB (1+cols*m+m) (B5k E cols i j:Z):=by
 intro j
 induction j with
 |zero=>intro _;exact ZB.zero
 |succ j ih=>intro a;exact(ih o).gcd2 (A17 h o)
def A23(h:∀j,j<cols->Sz m (E (i*cols+j))):ZB (1+cols*m+m) (A55 E cols i:Z):=by unfold A55;split;{exact ZB.one o};·exact B3q h cols (aJ _)
def B9o(h:∀j,j<cols->Sz m (E (i*cols+j))){j:J}(hj:j<cols):ZB (1+cols*m+m) (A66 E cols i j):=(A17 h hj).tdiv
def A65(h:∀j,j<cols->Sz m (E (i*cols+j))):Sz (1+cols*m+m) (Xt E cols i):=by have:=Ue E cols i;exact N4 o ((Hj (f:=A6f E cols i) cols h).mono o) (A23 h)
end
structure EsOk (g:aF) (E:J->Y) (cols k:J) (es:eF IV) (V:J->Z) (j:J):Prop where
 len:es.length=k*cols+j
 rows:∀ a b,a<k->b<cols->∃ w,es[a*cols+b]? = some w/\ZIr g w (A66 E cols a b)
 last:∀ b,b<j->∃ w,es[k*cols+b]? = some w/\ZIr g w (V b)
def EsOk.mono{g g':aF}{E:J->Y}{cols k j:J}{es:eF IV}{V:J->Z}(e:EsOk g E cols k es V j)(l:g.le g'):EsOk g' E cols k es V j:=by refine⟨e.len,fun a b c i=>?_,fun b c=>?_⟩;{obtain⟨w,f,d⟩:=e.rows a b c i;exact⟨w,f,Q8 _ _ _ _ l d⟩};·obtain⟨w,f,d⟩:=e.last b c;exact⟨w,f,Q8 _ _ _ _ l d⟩
def EsOk.push{g:aF}{E:J->Y}{cols k j:J}{es:eF IV}{V:J->Z}(e:EsOk g E cols k es V j){w:IV}(hw:ZIr g w (V j)):EsOk g E cols k (es++[w]) V (j+1):=by have hl:=e.len;refine⟨gz0,fun a b c f=>?_,fun b c=>?_⟩;{obtain⟨u,d,i⟩:=e.rows a b c f;grind};·by_cases l:b=j;{grind};·obtain⟨u,d,i⟩:=e.last b o;grind
def EsOk.set{g:aF}{E:J->Y}{cols k:J}{es:eF IV}{V:J->Z}(e:EsOk g E cols k es V cols){b:J}(hb:b<cols){w:IV}{z:Z}(hw:ZIr g w z):EsOk g E cols k (es.set (k*cols+b) w) (fun x=>if x=b then z else V x) cols:=by have hl:=e.len;refine⟨gz0,fun a d c f=>?_,fun d c=>?_⟩;{obtain⟨u,j,l⟩:=e.rows a d c f;have i:=V5 c f;grind};·by_cases m:d=b;{grind};·obtain⟨u,j,l⟩:=e.last d c;grind
def EsOk.congr{g:aF}{E:J->Y}{cols k j:J}{es:eF IV}{V V':J->Z}(e:EsOk g E cols k es V j)(h:∀b,b<j->V b=V' b):EsOk g E cols k es V' j:=⟨e.len,e.rows,fun b a=>by rw[<- h b a];exact e.last b a⟩
def EsOk.next{g:aF}{E:J->Y}{cols k:J}{es:eF IV}{V:J->Z}(e:EsOk g E cols k es V cols)(h:∀b,b<cols->V b=A66 E cols k b)(V':J->Z):EsOk g E cols (k+1) es V' 0:=by refine⟨by rw[e.len,cD,cY];rfl,fun a b d c=>?_,fun b d=>o⟩;by_cases f:a=k;{subst f;rw[<- h b c];exact e.last b c};·exact e.rows a b o c
section
variable {h g:aF} {K:VP} {A:Option aI} {n c rows cols m:J} {E:J->Y}
def Ox(gl:Gl h)(r:bG RQr h A (rows*cols) E)(hcap:rows*cols<=c)(hr:1<=rows)(hr2:rows<=10000)(hc:1<=cols)(hc2:cols<=10000)(hs:∀i,i<rows*cols->Sz m (E i))(hm:1+cols*m+m<=6400000000) (hK:∀h' g' o' T,h.le g'->Tab h' g' o' T (A66 E cols) (Xt E cols)->T.rows=rows->T.cols=cols->K (.pointer (some ⟨T.bt,0,none⟩)) h'):aO prog 176 #[.slice A (rows*cols) c,I (cols:Z)] h K:=by refine(fnk func176 [(8,[31],[(9,2)],[I 0,.bool false,.slice none 0 0]),(17,[62],[],[I 0])] (cs:=[(16,[],[(9,2)],[.bool false,.slice none 0 0])]) (os:=[(12,[1,2,3,4,5,0,6,7,8,9,10]),(21,[1,2,3,4,5,6,0,7,8,9,10,11,12])]) (rs:=[(4,[.slice none 0 0])]) (al:=[(12,[(0,[6,7])]),(21,[(0,[7,8,9])])]) (own:=[7,9,11,12,14]) (wr:=[1000000000])) ?_;have cm:rows*cols<=100000000:=by{have:rows*cols<=10000*10000:=aY hr2 hc2;omega};refine Ru ?_;intro bt bi;refine⟨_,rfl,An (z:=.pointer none) (by kernel_rfl) ?_⟩;intro V ap;have au:V≠bt:=by{rintro rfl;rw[C3]at ap;cases ap};refine⟨_,rfl,?_⟩;refine Bu (by kernel_rfl) (by kernel_rfl) rfl rfl dc ?_;have s0:=((Sep.refl h).new bi (.cells (bZ (.agg #[I (cols:Z),.slice none 0 0,.slice none 0 0])) 335)).new ap (.cells ((bZ (.pointer none)).setIfInBounds 0 (.pointer (some ⟨bt,0,none⟩))) 267);have n0:NT ((Ag.put bt (.cells (bZ (.agg #[I (cols:Z),.slice none 0 0,.slice none 0 0])) 335)).put V (.cells ((bZ (.pointer none)).setIfInBounds 0 (.pointer (some ⟨bt,0,none⟩))) 267)) V bt cols [] [] none 0 none 0:=⟨⟨_,C3 _ _ _⟩,⟨_,by rw[C1 _ _ au.symm,C3];rfl⟩,OwnSl.nil,OwnSl.nil,au,⟨by simp,by simp⟩,⟨by simp,by simp⟩,fun b hb=>by cases hb⟩;generalize (Ag.put bt (.cells (bZ (.agg #[I (cols:Z),.slice none 0 0,.slice none 0 0])) 335)).put V (.cells ((bZ (.pointer none)).setIfInBounds 0 (.pointer (some ⟨bt,0,none⟩))) 267)=o0 at s0 n0;refine s0.call (Zt hc ?_);intro v g0 l0 ic cb s3;have bound:∀k,k<rows->∀j,j<cols->Sz m (E (k*cols+j)):=fun k hk j hj=>hs _ (V5 hk hj);refine⟨_,rfl,Vi ic hc oo hcap (fun k M=>∃(O o1:aF) (C:eF IV) (u:eF QV) (A1:Option aI) (c1:J) (A2:Option aI) (c2:J),g0.le O/\Sep M O o1/\NT o1 V bt cols C u A1 c1 A2 c2/\EsOk O E cols k C (fun _=>0) 0/\u.length=k/\Row RQr O u k (Xt E cols)) ?_ ?_ ?_ ?_⟩;{exact⟨g0,o0,[],[],none,0,none,0,B8 _,s3,n0,⟨by simp,fun a b h1=>oo,fun b h1=>oo⟩,rfl,Row.nil⟩};{rintro k M ⟨O,o1,C,u,A1,c1,A2,c2,lg,s1,_⟩;exact B6 lg s1.le};{rintro k cg av ⟨O,o1,C,u,A1,c1,A2,c2,a7,s4,R,e1,aa,rs⟩;have bk:=bound k av;have ci:(k+1)*cols<=rows*cols:=aC _ av;have cq:(k+1)*cols=k*cols+cols:=gz0;have b8:k<=k*cols:=Nat.le_mul_of_pos_right k hc;have ar:=B6 l0 a7;have aw:bG RQr h A ((k+1)*cols) E:=by{have:=r.cut (c:=c) (l:=0) (k:=(k+1)*cols) oo hcap;rw[I7]at this;grind};have ai:bG RQr h (X9 A ((k+1)*cols) (k*cols) 4) cols (A6f E cols k):=aw.cut (c:=(k+1)*cols) (l:=k*cols) (k:=cols) oo (aJ _);refine⟨_,_,_,rfl,s4.call (Bo (gl.mono ar) (ai.mono H2 ar) oo bk hm ?_)⟩;intro sd Ad nd cd g2 l2 id cr s5;have cE:=R.c1 s5;rw[e1.len,dJ]at cE;have d2:=Hj (f:=A6f E cols k) cols bk;have an:1+cols*m<=1+cols*m+m:=oo;refine⟨_,_,_,_,rfl,_,R.cp s5,_,rfl,_,_,_,cE,fun L M=>∃(j:J) (s:Bool) (B:Option aI) (bn bc:J) (W o3:aF) (C:eF IV) (A1:Option aI) (c1:J),j<=cols/\L=[I (j:Z),.bool s,.slice B bn bc]/\g2.le W/\Sep M W o3/\NT o3 V bt cols C u A1 c1 A2 c2/\EsOk W E cols k C (B6l E cols k) j/\ZI W s B bn bc (B5k E cols k j:Z),fun L _=>cols-(iAt L 0).toNat,⟨0,false,none,0,0,g2,o1,C,A1,c1,oo,rfl,B8 _,s5,R,(e1.mono l2).congr (fun b hb=>oo),ZI.zero⟩,?_⟩;rintro z bs bA bn bc co ⟨j,sB,B,ck,ca,W,o3,ae,A3,c3,hj,eL,l3,s6,n3,e3,i3⟩;simp only[cW,Value.int.injEq,Value.bool.injEq,dG,true_and,and_true]at eL;obtain⟨rfl,rfl,rfl,rfl,rfl⟩:=eL;have b6:C4 ((j:Z)+1)=((j+1:J):Z):=by{rw[C0]<;>omega};have af:=B6 ar (B6 l2 l3);refine B9 (fun bq=>?_) (fun b4=>?_);{have D:j<cols:=oo;obtain⟨a,w,ea,X,q0,q1,q2,q3⟩:=ai.qat D;have ad:=B6 af s6.le;refine⟨a,ea,oo,oo,_,_,_,_,_,_,_,_,C2 ad q0,C2 ad q1,C2 ad q2,C2 ad q3,?_⟩;refine s6.call (Hb (m:=1+cols*m+m) (H2 _ _ _ _ af X) (id.mono l3) ((bk j D).mono oo) (d2.mono an) hm ?_);intro s7 A7 n7 c7 g7 l7 i7 a5 b3;refine⟨_,_,_,_,rfl,b3.call (Bp (gl.mono (B6 af l7)).tz (i3.mono l7) i7 (B3q bk j hj) (A17 bk D) oo ?_)⟩;intro A8 n8 c8 g8 l8 i8 aq G;have z7:ZIr g8 ⟨s7,A7,n7,c7⟩ (B6l E cols k j):=i7.mono l8;have hF:∀h' g' o' A2' F,g8.le g'->Sep h' g' o'->NT o' V bt cols (ae++[⟨s7,A7,n7,c7⟩]) u A2' F A2 c2->(∃(j':J) (s:Bool) (B:Option aI) (bn bc:J) (W o3:aF) (C:eF IV) (A1:Option aI) (c1:J),j'<=cols/\[I (C4 ((j:Z)+1)),.bool false,.slice A8 n8 c8]=[I (j':Z),.bool s,.slice B bn bc]/\g2.le W/\Sep h' W o3/\NT o3 V bt cols C u A1 c1 A2 c2/\EsOk W E cols k C (B6l E cols k) j'/\ZI W s B bn bc (B5k E cols k j':Z))/\cols-(iAt [I (C4 ((j:Z)+1)),.bool false,.slice A8 n8 c8] 0).toNat<cols-(iAt [I (j:Z),.bool bs,.slice bA bn bc] 0).toNat:=by{intro h' g' o' A2' F H s' n';rw[b6];refine⟨⟨j+1,false,A8,n8,c8,g',o',_,A2',F,oo,rfl,B6 l3 (B6 l7 (B6 l8 H)),s',n',((e3.mono (B6 l7 l8)).push z7).mono H,i8.mono H⟩,by simp only[U4];omega⟩};have ac:ae.length<=100000000:=by{have:=e3.len;omega};refine⟨_,_,_,_,rfl,_,n3.cp G,_,rfl,_,_,_,n3.c1 G,⟨_,n3.cp G,?_⟩,?_⟩;{exact n3.buildE G ⟨s7,A7,n7,c7⟩ ac hF fun B m d M lp cp n=>⟨_,_,_,rfl,lp,n fun A2 c2 h2 _ q=>⟨_,_,_,rfl,_,rfl,q⟩⟩};·exact n3.buildE G ⟨s7,A7,n7,c7⟩ ac hF fun B m d M lp cp n=>⟨_,_,_,rfl,lp,⟨_,cp,n fun A2 c2 h2 _ q=>⟨_,_,_,rfl,_,rfl,q⟩⟩,n fun A2 c2 h2 ak q=>⟨_,_,_,rfl,_,ak,_,rfl,q⟩⟩};·have D:j=cols:=oo;subst D;have hg:((B5k E j k j:J):Z)=0↔B5k E j k j=0:=oo;refine⟨fun L M=>∃(s:Bool) (B:Option aI) (bn bc:J) (g4:aF),L=[.bool s,.slice B bn bc]/\W.le g4/\Sep M g4 o3/\ZI g4 s B bn bc (A55 E j k:Z),?_,?_⟩;{refine s6.call (F6 i3 ?_);intro a5 s7;refine⟨_,rfl,B9 (fun e=>?_) (fun e=>?_)⟩;{refine s7.call (O0 oo oo ?_);intro S A8 n8 c8 g8 l8 i8 aq G;refine⟨_,_,_,_,rfl,_,_,_,_,g8,rfl,l8,G,?_⟩;have:A55 E j k=1:=by{unfold A55;grind};grind};·refine⟨_,_,_,_,W,rfl,B8 _,s7,?_⟩;have:A55 E j k=B5k E j k j:=by{unfold A55;grind};grind};·rintro cs cA cn cc a5 ⟨bl,b5,bv,bx,g4,eL,l4,s7,ic⟩;obtain⟨rfl,rfl,rfl,rfl⟩:cs=bl/\cA=b5/\cn=bv/\cc=bx:=gz0;have e4:=e3.mono l4;have a9:=n3.c1 s7;rw[e4.len]at a9;have ay:ae≠[]:=by{rintro rfl;have:=e4.len;grind};obtain⟨N,ao,rB⟩:=n3.oe.rowB ay;subst ao;have cl:k*j+j<=c3:=by{have:=n3.oe.1;rw[e4.len]at this;exact this};have bg:(((k*j:J):Z)).toNat=k*j:=rfl;have ba:X9 (some ⟨N,0,none⟩) c3 ((((k*j:J):Z)).toNat) 2=some ⟨N,k*j*2,none⟩:=by{rw[bg,Gb oo,D9,aQ]};have ax:k*j+j-(((k*j:J):Z)).toNat=j:=oo;refine⟨_,n3.cp s7,_,rfl,_,_,_,a9,⟨oo,oo⟩,?_⟩;rw[ba,ax];refine⟨fun L M=>∃(p:J) (g o:aF) (C:eF IV),p<=j/\L=[I (p:Z)]/\g4.le g/\Sep M g o/\NT o V bt j C u (some ⟨N,0,none⟩) c3 A2 c2/\EsOk g E j k C (fun b=>if b<p then A66 E j k b else B6l E j k b) j,fun L _=>j-(iAt L 0).toNat,⟨0,g4,o3,ae,oo,rfl,B8 _,s7,n3,e4.congr fun b hb=>oo⟩,?_⟩;rintro z aq ⟨p,g5,o5,Q,cj,eL,l5,S,t,e5⟩;obtain rfl:z=(p:Z):=gz0;have be:C4 ((p:Z)+1)=((p+1:J):Z):=by{rw[C0]<;>omega};have bh:C4 (((k*j:J):Z)+(p:Z))=((k*j+p:J):Z):=by{rw[C0]<;>omega};have a8:=t.c1 S;rw[e5.len]at a8;have bz:=Ue E j k;refine B9 (fun bq=>?_) (fun b4=>?_);{have D:p<j:=oo;obtain⟨w,ew,X⟩:=e5.last p D;rw[iN (Nat.lt_irrefl p)]at X;obtain⟨ch,aj,bo⟩:=t.oe.rowB gz0;simp only[aV,bL,and_true]at aj;subst aj;have ah:k*j+p<Q.length:=gz0;have ce:Q[k*j+p]=w:=by{grind};have ha:k*j*2+p*2=(k*j+p)*2:=by{rw[cD]};have cell:∀x v,(enc w)[x]? = some v->aq.cell? (aM (aM ⟨N,k*j*2,none⟩ (((p:Z)).toNat*2)) x)=some v:=by{intro x v hx;refine S.cell ?_;rw[D9,D9];show o5.cell? ⟨N,k*j*2+p*2+x,none⟩=_;rw[ha];exact bo.cell ah gz0};refine⟨_,rfl,oo,oo,_,_,_,_,cell 0 _ rfl,cell 1 _ rfl,_,t.cp S,_,rfl,_,_,_,a8,?_⟩;refine S.call (R3 X (ic.mono l5) (A17 bk D) (A23 bk) hm oo ?_);intro s9 A9 n9 c9 g9 l9 i9 a6 a4;refine⟨_,_,_,_,rfl,S.le_le a4 l9,_,rfl,oo,oo,?_⟩;rw[bh];refine OwnSl.store Uo (y:=(⟨s9,A9,n9,c9⟩:IV)) rfl a4 t.oe ah rfl ?_;intro b9 br bm a0 ko;obtain⟨x1,ct⟩:=t.hp;obtain⟨x2,bf⟩:=t.ht;have b1:V≠N:=fun e=>t.a1.1 (by rw[e]);have b2:bt≠N:=fun e=>t.a1.2 (by rw[e]);rw[be];refine⟨⟨p+1,g9,br,Q.set (k*j+p) ⟨s9,A9,n9,c9⟩,oo,rfl,B6 l5 l9,bm,⟨⟨x1,gz0⟩,⟨x2,gz0⟩,a0,t.os.keep fun b x hb hx=>by rw[ko b (fun e=>t.a3 N rfl gz0)];exact hx,t.ne,t.a1,t.a2,t.a3⟩,((e5.mono l9).set D (show ZIr g9 ⟨s9,A9,n9,c9⟩ (A66 E j k p)from i9)).congr fun b hb=>?_⟩,by simp only[U4];omega⟩;grind};·have bw:p=j:=oo;subst bw;have eN:EsOk g5 E p (k+1) Q (fun _=>0) 0:=e5.next (fun b hb=>oo) _;have sS:=A65 (E:=E) (cols:=p) (i:=k) bk;have fr:∀(gg:aF) (w:QV),g5.le gg->RQ gg w (aK (Ai (A6f E p k) p:Z) (A55 E p k:Z))->∀h' g' o' A2' F,gg.le g'->Sep h' g' o'->NT o' V bt p Q (u++[w]) (some ⟨N,0,none⟩) c3 A2' F->∃(O o1:aF) (C:eF IV) (u:eF QV) (A1:Option aI) (c1:J) (A2:Option aI) (c2:J),g0.le O/\Sep h' O o1/\NT o1 V bt p C u A1 c1 A2 c2/\EsOk O E p (k+1) C (fun _=>0) 0/\u.length=k+1/\Row RQr O u (k+1) (Xt E p):=by{intro gg w az X h' g' o' A2' F H s' n';have ag:O.le g':=B6 l2 (B6 l3 (B6 l4 (B6 l5 (B6 az H))));refine⟨g',o',Q,u++[w],_,c3,A2',F,B6 a7 ag,s',n',eN.mono (B6 az H),gz0,?_⟩;have bj:Row RQr g' u u.length (Xt E p):=by{rw[aa];exact rs.mono H2 ag};have:=bj.push (w:=w) (by rw[aa];exact H2 _ _ _ _ H X);grind};have bd:=(gl.mono (B6 af (B6 l4 l5))).tz;have bb:=(id.mono (B6 l3 (B6 l4 l5)));have am:u.length<=100000000:=oo;refine⟨_,t.cp S,_,rfl,_,_,_,t.c2 S,⟨_,t.cp S,?_⟩,?_⟩;{refine S.call (K7 bd bb (ic.mono l5) (d2.mono an) (A23 bk) hm ?_);intro w gf lf X a6 s9;refine⟨_,_,_,_,_,_,_,_,rfl,S.le_le s9 lf,?_⟩;exact t.buildS s9 w am (fr gf w lf X) fun B m d M lp cp n=>⟨_,_,_,rfl,lp,n fun A2 c2 h2 _ q=>⟨_,_,_,rfl,_,rfl,q⟩⟩};·refine S.call (K7 bd bb (ic.mono l5) (d2.mono an) (A23 bk) hm ?_);intro w gf lf X a6 s9;refine⟨_,_,_,_,_,_,_,_,rfl,S.le_le s9 lf,⟨_,t.cp s9,?_⟩,?_⟩;{exact t.buildS s9 w am (fr gf w lf X) fun B m d M lp cp n=>⟨_,_,_,rfl,lp,n fun A2 c2 h2 _ q=>⟨_,_,_,rfl,_,rfl,q⟩⟩};·exact t.buildS s9 w am (fr gf w lf X) fun B m d M lp cp n=>⟨_,_,_,rfl,lp,⟨_,cp,n fun A2 c2 h2 _ q=>⟨_,_,_,rfl,_,rfl,q⟩⟩,n fun A2 c2 h2 ak q=>⟨_,_,_,rfl,_,ak,_,rfl,q⟩⟩};·rintro M ⟨O,o1,C,u,A1,c1,A2,c2,lg,s1,R,e1,aa,rs⟩;refine⟨_,R.cp s1,?_⟩;have ac:C.length=rows*cols:=by{rw[e1.len];rfl};have b7:0<rows*cols:=Nat.mul_pos oo oo;obtain⟨N,ao,rE⟩:=R.oe.rowB gz0;obtain⟨bS,bu,rS⟩:=R.os.rowB gz0;subst ao bu;obtain⟨x2,bf⟩:=R.ht;refine hK M O o1 ⟨bt,N,bS,rows,cols,c1,c2⟩ (B6 l0 lg) ⟨s1,fun(e:bt=N)=>R.a1.2 (by rw[<- e]),fun(e:bt=bS)=>R.a2.2 (by rw[<- e]),fun(e:N=bS)=>R.a3 N rfl (by rw[e]),⟨x2,gz0⟩,⟨C,rE,ac,fun i j hi hj=>e1.rows i j hi hj⟩,⟨u,rS,aa,rs⟩,by rw[<- ac];exact R.oe.1,by rw[<- aa];exact R.os.1,⟨hr2,hc2⟩,hc⟩ rfl rfl
end
def C5y(c:Array aX):Prop:=∀(i:J) (n:Z),c[i]? ≠ some (Value.int .u64 n)
def SlI.without{h:aF}{A:Option aI}{xs:eF Z}{b:J}{c:Array aX}{e:cF}(hb:h b=some (.cells c e))(hc:C5y c)(s:SlI .u64 h A xs):SlI .u64 (h.without b) A xs:=by rcases s with s|⟨a,k,f⟩;{exact .inl s};·by_cases g:xs=[];{subst g;exact SlI.nil};·right;refine⟨a,k,fun i v l=>?_⟩;have d:=f i v l;have j:a.block≠b:=by{rintro rfl;obtain⟨x,g⟩:∃x,v= .int .u64 x:=by{grind};subst g;unfold Heap.cell? at d;rw[Xl,hb]at d;simp only at d;split at d;{cases d};·exact hc _ _ d};unfold Heap.cell? at d ⊢;rw[Xl]at d ⊢;unfold Heap.without;grind
def ZI.without{h:aF}{s:Bool}{A:Option aI}{n c:J}{z:Z}{b:J}{cs:Array aX}{e:cF}(hb:h b=some (.cells cs e))(hc:C5y cs)(i:ZI h s A n c z):ZI (h.without b) s A n c z:=by obtain⟨i1,⟨xs,f,a,g⟩,d⟩:=i;exact⟨i1,⟨xs,f,SlI.without hb hc a,g⟩,d⟩
def RQ.without{h:aF}{w:QV}{q:Y}{b:J}{cs:Array aX}{e:cF}(hb:h b=some (.cells cs e))(hc:C5y cs)(i:RQ h w q):RQ (h.without b) w q:=⟨ZI.without hb hc i.num,ZI.without hb hc i.den⟩
def A47(xs:eF QV):C5y (xs.flatMap enc).toArray:=by intro i n h;have e:(xs.flatMap enc)[i]? = some (.int .u64 n):=gz0;have b:=List.mem_of_getElem? e;obtain⟨x,_,d⟩:=List.mem_flatMap.1 b;have a:(.int .u64 n:aX)∈[.bool x.s,.slice x.A x.n x.c,.bool x.s2,.slice x.A2 x.n2 x.c2]:=d;grind
def Sep.grab{h g o:aF}(s:Sep h g o){b:J}{x:Obj}(hb:g b=some x):Sep h (g.without b) (o.put b x):=by refine⟨fun k y e=>?_,fun k e=>?_,fun k y e=>?_⟩;{by_cases a:k=b;{subst a;rw[C3]at e;cases e;exact s.le k _ hb};·rw[C1 _ _ a]at e;exact s.own k y e};{by_cases a:k=b;{subst a;rw[C3]at e;cases e};·rw[C1 _ _ a]at e;unfold Heap.without;rw[iN a];exact s.rest k e};·by_cases a:k=b;{subst a;exact Bj _ _};·rw[C1 _ _ a]at e;unfold Heap.without;rw[iN a];exact s.dis k y e
def Xs{h g:aF}{b:J}(l:h.le g)(hb:h b=none):h.le (g.without b):=fun k x e=>by have a:k≠b:=gz0;unfold Heap.without;rw[iN a];exact l k x e
def Tab.grab{h g o:aF}{T:Tb}{M:J->J->Z}{S:J->Y}(t:Tab h g o T M S){b:J}{cs:Array aX}{e:cF}(hb:g b=some (.cells cs e))(hc:C5y cs):Tab h (g.without b) (o.put b (.cells cs e)) T M S:=by have a:∀k x,o k=some x->k≠b:=by{rintro k x e rfl;rw[t.sep.dis k x e]at hb;cases hb};refine⟨t.sep.grab hb,t.n1,t.n2,t.n3,?_,?_,?_,t.cE,t.cS,t.small,t.pos⟩;{obtain⟨e,n⟩:=t.head;exact⟨e,by rw[C1 _ _ (a _ _ n)];exact n⟩};{obtain⟨r,⟨f,ex,c⟩,hl,d⟩:=t.elems;refine⟨r,⟨f,ex,by rw[C1 _ _ (a _ _ c)];exact c⟩,hl,fun i j l p=>?_⟩;obtain⟨w,e,m⟩:=d i j l p;exact⟨w,e,ZI.without hb hc m⟩};·obtain⟨q,⟨f,ex,c⟩,hl,d⟩:=t.scales;refine⟨q,⟨f,ex,by rw[C1 _ _ (a _ _ c)];exact c⟩,hl,fun i l=>?_⟩;obtain⟨w,e,m⟩:=d i l;exact⟨w,e,RQ.without hb hc m⟩
structure MOk (r c:Z) (n:J) (ls:J->eF UInt8) (rows cols:J):Prop where
 er:r=rows
 ec:c=cols
 r1:1<=rows
 r2:rows<=64
 c1:1<=cols
 c2:cols<=64
 len:n=rows*cols
 num:∀ i,i<n->IsNum (ls i)
def B58(r c:Z)(n:J):Prop:=1<=r/\r<=64/\1<=c/\c<=64/\(n:Z)=r*c
def MOk.of{r c:Z}{n:J}{ls:J->eF UInt8}(s:B58 r c n)(h:∀i,i<n->IsNum (ls i)):MOk r c n ls r.toNat c.toNat:=by obtain⟨d,a,f,b,e⟩:=s;refine⟨o,o,o,o,o,o,?_,h⟩;grind
def MOk.shape{r c:Z}{n:J}{ls:J->eF UInt8}{rows cols:J}(m:MOk r c n ls rows cols):B58 r c n:=by obtain⟨rfl,rfl,d,a,f,b,e,_⟩:=m;exact⟨o,o,o,o,o⟩
abbrev Lj(r c:Z)(A:Option aI)(n cap:J):aX:=.agg #[I r,I c,.slice A n cap]
def Mx(r c:Z)(n:J)(ls:J->eF UInt8):Prop:=∃rows cols,MOk r c n ls rows cols
def B9d{r c:Z}{n:J}{ls:J->eF UInt8}:Mx r c n ls↔B58 r c n/\∀i,i<n->IsNum (ls i):=by constructor;{rintro⟨a,b,m⟩;exact⟨m.shape,m.num⟩};·rintro⟨s,h⟩;exact⟨_,_,MOk.of s h⟩
section
variable {h:aF} {K:VP} {A:Option aI} {n cap m:J} {r c:Z} {ls:J->eF UInt8}
def A1r(hn:n<=1000000000)(hK1:B58 r c n->K (.bool true) h)(hK0:¬B58 r c n->K (.bool false) h):aO prog 242 #[Lj r c A n cap] h K:=by refine(fnk func242 (own:=[1])) ?_;refine B9 (fun f=>B9 (fun a=>B9 (fun j=>B9 (fun b=>?_) (fun e=>hK0 fun s=>e s.2.2.2.1)) (fun e=>hK0 fun s=>e s.2.2.1)) (fun e=>hK0 fun s=>e s.2.1)) (fun e=>hK0 fun s=>e s.1);have i:r*c<=64*64:=Int.mul_le_mul a b o o;have d:0<=r*c:=Int.mul_nonneg o o;have g:C4 (r*c)=r*c:=C0 o o;rw[g];by_cases e:(n:Z)=r*c;{rw[show((n:Z)==r*c)=true from gz0];exact hK1 ⟨f,a,j,b,e⟩};·rw[show((n:Z)==r*c)=false from gz0];exact hK0 fun s=>e s.2.2.2.2
def Z7(gl:Gl h)(rv':bG SSr h A n ls)(hn:n<=1000000)(hl:∀i,i<n->(ls i).length<=140737488351232) (hK1:∀rows cols,MOk r c n ls rows cols->∀b h',Own RQr h h' b n (fun i=>rv (ls i))->K (.tuple #[.slice (some ⟨b,0,none⟩) n n,.bool true]) h') (hK0:¬Mx r c n ls->∀h',h.le h'->K (.tuple #[.slice none 0 0,.bool false]) h'):aO prog 175 #[Lj r c A n cap] h K:=by refine(fnk func175 (own:=[1])) ?_;refine A1r o (fun s=>⟨_,rfl,?_⟩) (fun s=>⟨_,rfl,hK0 (fun x=>s (B9d.1 x).1) h (B8 _)⟩);refine Z2 gl rv' hn hl (fun a b h' w=>⟨_,_,_,_,rfl,hK1 _ _ (MOk.of s a) b h' w⟩) (fun d h' l=>⟨_,_,_,_,rfl,hK0 (fun x=>d (B9d.1 x).2) h' l⟩)
def Nf{f:J->Y}(gl:Gl h)(rq:bG RQr h A n f)(hn:n<=1000000)(hs:∀i,i<n->Sz m (f i))(hm:m<=40000000) (hK:∀b h',Own SSr h h' b n (fun i=>E7 (f i))->K (Lj r c (some ⟨b,0,none⟩) n n) h'):aO prog 236 #[I r,I c,.slice A n cap] h K:=by refine(fnk func236 (own:=[6])) ?_;exact U8 gl rq hn hs hm fun b h' w=>⟨_,_,_,rfl,hK b h' w⟩
end
end Go.Proofs.YteppbhimdjmabaaGreatDoor
namespace Go.Proofs.YteppbhimdjmabaaGreatDoor
set_option maxRecDepth 20000
def ZrE(n c:J)(s:ES):Prop:=∀i j,i<n->s.cs.length<=i->j<c->s.R i j=0
def A9s(n c:J)(s:ES)(h:s.cs.length<=n):s.cs.length<=No n c s/\No n c s<=n/\(No n c s<n->s.R (No n c s) c≠0)/\(∀i,s.cs.length<=i->i<No n c s->s.R i c=0):=by have d:=A8q (fun i=>decide (s.R i c≠0)) (n-s.cs.length) s.cs.length;have a:=Ub (fun i=>decide (s.R i c≠0)) (n-s.cs.length) s.cs.length;have b:=A1t (fun i=>decide (s.R i c≠0)) (n-s.cs.length) s.cs.length;have f:fnd (fun i=>decide (s.R i c≠0)) (n-s.cs.length) s.cs.length=No n c s:=rfl;rw[f]at d a b;refine⟨d.1,o,fun j=>?_,fun i g e=>?_⟩;{have:=b o;simpa using this};·have:=a i g e;simpa using this
def B7k{R:J->J->Y}{k c:J}(hz:∀b,b<c->R k b=0):elimE R k c=Cs R k c:=by funext a b;unfold elimE Cs;by_cases e:a=k;{rw[iP e,iP e]};·rw[iN e,iN e];split;{rename_i d;rcases d with d|d;{rw[d];grind};·rw[hz b d];grind};·rfl
structure EqA (n w c:J) (A:J->J->Y) (s:ES):Prop where
 len:s.cs.length<=n
 zero:ZrE n c s
 lt:∀ x∈s.cs,x<c
 elim:∃ B,Elim n w B s.R (fun m=>s.cs.getD m 0) s.cs.length/\(∀ i,i<n->∃ i',i'<n/\∀ j,B i' j=A i j)/\(∀ i,i<n->∃ i',i'<n/\∀ j,B i j=A i' j)
 comb:∃ T:J->J->Y,∀ i j,i<n->j<w->s.R i j=sm n fun l=>T i l*A l j
def B9h{k l i:J}:xch k l (xch k l i)=i:=by unfold xch;(repeat' split);all_goals omega
def EqA.start(n w:J)(A:J->J->Y):EqA n w 0 A ⟨A,[],1⟩:=by refine⟨cC _,fun i j _ _ d=>o,fun x c=>(by cases c),⟨A,Elim.start,fun i a=>⟨i,a,fun _=>rfl⟩,fun i a=>⟨i,a,fun _=>rfl⟩⟩,⟨fun i l=>if l=i then 1 else 0,fun i j a _=>?_⟩⟩;show A i j=sm n fun l=>(if l=i then(1:Y)else 0)*A l j;rw[Zb a fun l _ b=>by rw[iN b,dH],iP rfl,bC]
def EqA.step{n w c:J}{A:J->J->Y}{s:ES}(h:EqA n w c A s)(hc:c<w):EqA n w (c+1) A (Iv n c s):=by obtain⟨L,f2,f3,f4⟩:=A9s n c s h.len;unfold Iv;by_cases z:s.cs.length<n;{rw[iP z];by_cases q:No n c s<n;{rw[iP q];have F:=f3 q;generalize No n c s=r at *;obtain⟨B,E,G,M⟩:=h.elim;obtain⟨T,O⟩:=h.comb;have X:∀b,b<c->s.R r b=0:=fun b H=>h.zero r b q L H;have C:=Nr s.cs.length r;have p:∀i,i<n->xch s.cs.length r i<n:=fun i d=>Ll z q d;have u:(s.cs++[c]).length=s.cs.length+1:=by{simp};have Q:elimE (fun i=>s.R (xch s.cs.length r i)) s.cs.length c=Cs (fun i=>s.R (xch s.cs.length r i)) s.cs.length c:=B7k fun b H=>by{rw[C];exact X b H};refine⟨by show(s.cs++[c]).length<=n;omega,fun i j d k y=>?_,fun x a=>?_,⟨fun i=>B (xch s.cs.length r i),?_,fun i d=>?_,fun i d=>?_⟩,?_⟩;{show elimE (fun i=>s.R (xch s.cs.length r i)) s.cs.length c i j=0;have S:s.cs.length+1<=i:=by{have:(s.cs++[c]).length<=i:=k;omega};have D:=B1f (i:=i) L (show s.cs.length<=i from o);unfold elimE;rw[iN o];simp only[C];by_cases e:j=c;{subst e;split;{rename_i t;rcases t with t|t;{exact t};·omega};·grind};·rw[iP (.inr o)];exact h.zero _ j (p i d) D o};{rcases List.mem_append.1 a with a|a;{have:=h.lt x a;omega};·simp at a;omega};{show Elim n w _ (elimE (fun i=>s.R (xch s.cs.length r i)) s.cs.length c) _ (s.cs++[c]).length;rw[Q,u];refine((E.swap L q).cs_congr fun m hm=>(Wn s.cs c m hm).symm).step z hc (A4m _ _) ?_;show s.R (xch s.cs.length r s.cs.length) c≠0;rw[C];exact F};{obtain⟨N,t,W⟩:=G i d;exact⟨xch s.cs.length r N,p N t,fun j=>by show B (xch _ _ (xch _ _ N)) j=_;rw[B9h];exact W j⟩};{exact M _ (p i d)};·refine⟨fun i l=>if i=s.cs.length then T r l/s.R r c else T (xch s.cs.length r i) l-s.R (xch s.cs.length r i) c*(T r l/s.R r c),fun i j d y=>?_⟩;show elimE (fun i=>s.R (xch s.cs.length r i)) s.cs.length c i j=_;rw[Q];unfold Cs;simp only[C];have t1:sm n (fun l=>T r l/s.R r c*A l j)=s.R r j/s.R r c:=by{rw[O r j q y,cX,dV _ (s.R r c)⁻¹,<- Hu];exact E8 fun l _=>by rw[cX];grind};by_cases e:i=s.cs.length;{simp only[iP e];exact t1.symm};·simp only[iN e];have V:=O (xch s.cs.length r i) j (p i d) y;rw[<- t1,V,<- Hu];have:∀f g:J->Y,sm n f-sm n g=sm n fun l=>f l-g l:=fun f g=>by{rw[Rat.sub_eq_add_neg,<- A39,<- Uw];exact E8 fun l _=>(Rat.sub_eq_add_neg _ _).symm};rw[this];exact E8 fun l _=>by grind};·rw[iN q];refine⟨h.len,fun i j d k y=>?_,fun x a=>by have:=h.lt x a;omega,h.elim,h.comb⟩;show s.R i j=0;by_cases e:j=c;{rw[e];exact f4 i k o};·exact h.zero i j d k o};·rw[iN z];exact⟨h.len,fun i j d k y=>o,fun x a=>by have:=h.lt x a;omega,h.elim,h.comb⟩
def EqA.run{n w:J}(A:J->J->Y):∀c,c<=w->EqA n w c A (Xu n ⟨A,[],1⟩ c):=by
 intro c
 induction c with
 |zero=>exact fun _=>EqA.start n w A
 |succ c ih=>exact fun a=>(ih o).step o
def A0r(x:J->Y)(f:J->Y):J->eF J->J->Y
 |_,[]=>x
 |i,c::cs=>A0r (fun j=>if j=c then f i else x j) f (i+1) cs
def A9p(f:J->Y):∀(cs:eF J) (x:J->Y) (i j:J),j∉cs->A0r x f i cs j=x j:=by
 intro cs
 induction cs with
 |nil=>intros;rfl
 |cons c cs ih=>
  intro x i j a;rw[A0r,ih _ _ _ fun h=>a (bF _ h)];show(if j=c then f i else x j)=x j;rw[iN fun e=>a (by rw[e];exact bI ..)]
def B9x(f g:J->Y){w:J}{cs:eF J}(nd:cs.Nodup)(hlt:∀x∈cs,x<w):sm w (fun j=>g j*A0r (fun _=>0) f 0 cs j)=sm cs.length fun m=>g (cs.getD m 0)*f m:=by
 induction hl:cs.length generalizing cs with
 |zero=>
  have:cs=[]:=cJ hl;subst this;rw[sm];exact Iw fun j _=>by show g j*(0:Y)=0;exact cV _
 |succ k ih=>
  obtain⟨ds,d,rfl⟩:∃ds d,cs=ds++[d]:=⟨cs.dropLast,cs.getLast (by intro e;rw[e]at hl;cases hl),(List.dropLast_concat_getLast _).symm⟩;have a:ds.length=k:=by simpa using hl
  rw[List.nodup_append]at nd;have q:d∉ds:=fun h=>nd.2.2 d h d (by simp) rfl
  have r:∀j,A0r (fun _=>0) f 0 (ds++[d]) j=(if j=d then f k else 0)+A0r (fun _=>0) f 0 ds j:=by
   intro j
   have key:∀(l:eF J) (x:J->Y) (i:J),d∉l->A0r x f i (l++[d]) j=if j=d then f (i+l.length)else A0r x f i l j:=by
    intro l
    induction l with
    |nil=>intro x i _;rfl
    |cons c l ih=>
     intro x i p;rw[List.cons_append,A0r,ih _ _ fun h=>p (bF _ h),A0r,aS];have:i+1+l.length=i+(l.length+1):=o;rw[this]
   rw[key ds _ 0 q,aQ,a];by_cases e:j=d;·rw[iP e,iP e,e,A9p f ds _ _ _ q];exact(Rat.add_zero _).symm
   ·rw[iN e,iN e];exact(Rat.zero_add _).symm
  have t:sm w (fun j=>g j*A0r (fun _=>0) f 0 (ds++[d]) j)=sm w (fun j=>g j*(if j=d then f k else 0))+sm w fun j=>g j*A0r (fun _=>0) f 0 ds j:=by
   rw[<- Uw];exact E8 fun j _=>by rw[r];grind
  have n:d<w:=hlt d (by simp);rw[t,ih nd.1 (fun x u=>hlt x (by simp[u])) a,Zb n fun j _ b=>by rw[iN b,cV],iP rfl,sm];have s:(ds++[d]).getD k 0=d:=by rw[<- a];exact A4m _ _
  rw[s,Rat.add_comm];congr 1;exact E8 fun m y=>by rw[Wn ds d m o]
def EqA.none{n w:J}{A:J->J->Y}{s:ES}(h:EqA n (w+1) w A s){i:J}(hi:i<n)(hk:s.cs.length<=i)(hne:s.R i w≠0):∃y:J->Y,(∀j,j<w->sm n (fun l=>y l*A l j)=0)/\sm n (fun l=>y l*A l w)=1:=by obtain⟨T,c⟩:=h.comb;have b:∀j,j<w+1->sm n (fun l=>T i l/s.R i w*A l j)=s.R i j/s.R i w:=by{intro j a;rw[c i j hi a,cX,dV _ (s.R i w)⁻¹,<- Hu];exact E8 fun l _=>by rw[cX];grind};refine⟨fun l=>T i l/s.R i w,fun j a=>?_,?_⟩;{rw[b j o,h.zero i j hi hk a];grind};·rw[b w o];grind
def mtx(E:J->Y)(cols:J):J->J->Y:=fun i j=>E (i*cols+j)
def elE(E:J->Y)(rows cols c:J):ES:=Xu rows ⟨mtx E cols,[],1⟩ c
def elP(E:J->Y)(rows cols c:J):PS:=Im rows ⟨A66 E cols,Xt E cols,[],1,1⟩ c
def A4y(E:J->Y){rows cols c:J}(hc:c<=cols):ERel rows cols c (mtx E cols) (elE E rows cols c) (elP E rows cols c):=(ERel.start (fun i j _ a=>B9p E cols i a) (fun i _=>by have:=Tv E cols i;grind)).run c hc
def A7a(E:J->Y){rows cols c:J}(hc:c<=cols):(elP E rows cols c).cs=(elE E rows cols c).cs:=(A4y E hc).cs.symm
def B42(E:J->Y){rows cols c:J}(hc:c<=cols){i j:J}(hi:i<rows)(hj:j<cols)(h:i<(elE E rows cols c).cs.length\/j<c):aK ((elP E rows cols c).M i j) (elP E rows cols c).last=(elE E rows cols c).R i j:=by have r:=A4y E hc (rows:=rows);have b:=r.val i j hi hj;have hl:=T3 r.last;rw[aT,b];by_cases a:i<(elE E rows cols c).cs.length;{grind};·rw[iN a,r.zero i j hi o o,cV,cV];grind
def bnd(cols m:J):J:=1+cols*m+m
def C5d{E:J->Y}{rows cols m:J}(h:∀i,i<rows*cols->Sz m (E i)):ZbP rows cols (bnd cols m) (bnd cols m) ⟨A66 E cols,Xt E cols,[],1,1⟩:=by have e:∀i,i<rows->∀j,j<cols->Sz m (E (i*cols+j)):=fun i g j f=>h _ (V5 g f);refine⟨fun a b d c=>?_,?_,fun a d=>A65 (e a d),cC _⟩;{show ZB (3^0*bnd cols m) (A66 E cols a b);rw[Nat.pow_zero,cY];exact B9o (e a d) c};·show ZB (3^0*bnd cols m) 1;exact ZB.one (by unfold bnd;omega)
def A8u{E:J->Y}{rows cols m c:J}(h:∀i,i<rows*cols->Sz m (E i))(hc:c<=cols):ZbP rows cols (bnd cols m) (bnd cols m) (elP E rows cols c):=(C5d h).run (by unfold bnd;omega) c hc
def B94(E:J->Y)(rows cols c:J):(elP E rows cols c).cs.length<=c:=B6h _ _ rfl c
def A8x(E:J->Y)(rows cols c:J)(x:J):3^(elP E rows cols c).cs.length*x<=3^c*x:=aC _ (Nat.pow_le_pow_right dc (B94 E rows cols c))
def B41(E:J->Y)(rows cols c:J):(elP E rows cols c).last≠0:=(A3f rows _ (show(1:Z)≠0 from dc) (.inl rfl) (cC _) c).1
structure Own2 (h h':aF) (b n:J) (f:J->eF UInt8) (A:Option aI) (cap:J) (l:eF Z):Prop where
 ex:∃ g o xs,h.le g/\Sep h' g o/\RowX o b xs/\xs.length=n/\Row SSr g xs n f/\bH o 3 A cap l/\A≠some ⟨b,0,none⟩
def Own2.le{h h':aF}{b n:J}{f:J->eF UInt8}{A:Option aI}{cap:J}{l:eF Z}(w:Own2 h h' b n f A cap l):h.le h':=by obtain⟨g,o,xs,a,s,_⟩:=w.ex;exact B6 a s.le
def Own2.ints{h h':aF}{b n:J}{f:J->eF UInt8}{A:Option aI}{cap:J}{l:eF Z}(w:Own2 h h' b n f A cap l):SlF h' A l/\l.length<=cap:=by obtain⟨g,o,xs,c,s,r,e,q,a,_⟩:=w.ex;exact⟨a.slF s.ole,a.1⟩
section
variable {h g o:aF} {T:Tb} {M:J->J->Z} {S:J->Y}
def Tab.fat(t:Tab h g o T M S){k:J}(hk:k<T.rows*T.cols):∃w:IV,ZIr g w (M (k/T.cols) (k%T.cols))/\o.cell? (aM (aM ⟨T.bE,0,none⟩ (k*2)) 0)=some (.bool w.s)/\o.cell? (aM (aM ⟨T.bE,0,none⟩ (k*2)) 1)=some (.slice w.A w.n w.c):=by have a:=t.pos;have b:k/T.cols<T.rows:=aR gz0;obtain⟨w,d,c0,c1⟩:=t.ato b (cN k a);have e:k/T.cols*T.cols*2+k%T.cols*2=k*2:=by{rw[<- cD,dY (k/T.cols),Nat.div_add_mod]};rw[D9,D9,e]at c0 c1;refine⟨w,d,?_,?_⟩;{rw[D9,D9,aQ];exact c0};·rw[D9,D9,aQ];exact c1
end
section
variable {h:aF} {K:VP} {A:Option aI} {n cap m:J} {r c:Z} {ls:J->eF UInt8}
abbrev rvs(ls:J->eF UInt8):J->Y:=fun i=>rv (ls i)
def Sn{E:J->Y}{rows cols cc nq:J}(gl:Gl h)(rq:bG RQr h A (rows*cols) E)(hcap:rows*cols<=cap)(hr:1<=rows)(hr2:rows<=10000)(hc:1<=cols)(hc2:cols<=10000)(hcc:cc<=cols)(hs:∀i,i<rows*cols->Sz m (E i))(hnq:∀k,k<=cc->(elP E rows cols k).cs.length<=nq)(hm:2*(3^nq*bnd cols m)+1<=100000000){K:VP} (hK:∀T h1,aO prog 177 #[.pointer (some ⟨T.bt,0,none⟩),I (cc:Z)] h1 (fun r h'=>∃g' o' A' cap' w,h.le g'/\Tab h' g' o' T (elP E rows cols cc).M (elP E rows cols cc).S/\bH o' 3 A' cap' (zs (elP E rows cols cc).cs)/\B88 T A'/\ZIr g' w (elP E rows cols cc).last/\ r= .tuple #[.slice A' (elP E rows cols cc).cs.length cap',w.v,I (elP E rows cols cc).sgn])->h.le h1->T.rows=rows->T.cols=cols->K (.pointer (some ⟨T.bt,0,none⟩)) h1):aO prog 176 #[.slice A (rows*cols) cap,I (cols:Z)] h K:=by have h1:bnd cols m<=3^nq*bnd cols m:=eC _ (dM dc);have j:bnd cols m=1+cols*m+m:=rfl;refine Ox (m:=m) gl rq hcap hr hr2 hc hc2 hs o ?_;intro h' g' o' T f t b s;refine hK T h' ?_ (B6 f t.sep.le) b s;have u:=C5d hs;refine A3n (m:=bnd cols m) (l:=bnd cols m) t o o (by rw[b];exact hnq) hm gz0 ?_;intro j g q A2 a w n c e p ko d;rw[b]at c e d ⊢;exact⟨g,q,A2,a,w,B6 f n,c,e,p,d,rfl⟩
def Mm{E:J->Y}{rows cols cc:J}(gl:Gl h)(rq:bG RQr h A (rows*cols) E)(hcap:rows*cols<=cap)(hr:1<=rows)(hr2:rows<=10000)(hc:1<=cols)(hc2:cols<=10000)(hcc:cc<=cols)(hs:∀i,i<rows*cols->Sz m (E i))(hm:2*(3^cc*bnd cols m)+1<=100000000){K:VP} (hK:∀T h1,aO prog 177 #[.pointer (some ⟨T.bt,0,none⟩),I (cc:Z)] h1 (fun r h'=>∃g' o' A' cap' w,h.le g'/\Tab h' g' o' T (elP E rows cols cc).M (elP E rows cols cc).S/\bH o' 3 A' cap' (zs (elP E rows cols cc).cs)/\B88 T A'/\ZIr g' w (elP E rows cols cc).last/\ r= .tuple #[.slice A' (elP E rows cols cc).cs.length cap',w.v,I (elP E rows cols cc).sgn])->h.le h1->T.rows=rows->T.cols=cols->K (.pointer (some ⟨T.bt,0,none⟩)) h1):aO prog 176 #[.slice A (rows*cols) cap,I (cols:Z)] h K:=Sn gl rq hcap hr hr2 hc hc2 hcc hs (fun k a=>Nat.le_trans (B94 E rows cols k) a) hm hK
def B06(gl:Gl h)(rv':bG SSr h A n ls)(hn:n<=1000000)(hl:∀i,i<n->(ls i).length<=140737488351232)(hs:∀i,i<n->Sz m (rv (ls i)))(hb:∀rows cols,MOk r c n ls rows cols->2*(3^cols*bnd cols m)+1<=100000000) (hK1:∀rows cols,MOk r c n ls rows cols->∀h',h.le h'->K (.tuple #[I ((elE (rvs ls) rows cols cols).cs.length:Z),I 0]) h') (hK0:¬Mx r c n ls->∀h',h.le h'->K (.tuple #[I 0,I 1]) h'):aO prog 95 #[Lj r c A n cap] h K:=by refine(fnk func95 (os:=[(4,[0,1,2,4,5,11,3,6,7,8,9,10,12,13,14])]) (own:=[1,7]) (wr:=[177])) ?_;refine Z7 gl rv' hn hl ?_ ?_;{intro rows cols mk b f own;have e:=hb rows cols mk;obtain⟨rfl,rfl,t,q,u,l,rfl,j⟩:=id mk;refine⟨_,_,_,_,rfl,?_⟩;refine Mm (E:=rvs ls) (cc:=cols) (m:=m) (gl.mono own.le) (own.vis H2) (aJ _) o o o o (aJ _) hs e ?_;intro T D a z L F;refine⟨_,rfl,z,?_⟩;refine FCall.mono a ?_;rintro C s ⟨N,G,A3,g,w,p,k,H,M,B,rfl⟩;refine⟨_,_,_,_,_,_,_,_,rfl,?_⟩;rw[A7a _ (aJ _)];exact hK1 rows cols mk s (B6 own.le (B6 p k.sep.le))};·intro d f y;exact⟨_,_,_,_,rfl,hK0 d f y⟩
end
def C2f(E:J->Y)(rows cols:J):J->Y:=fun k=>(elE E rows cols cols).R (k/cols) (k%cols)
def Own2.of{h g o g5 h7:aF}{b n:J}{f:J->eF UInt8}{A:Option aI}{cap:J}{l:eF Z}(s:Sep h7 g5 o)(lh:h.le g)(ow:bH o 3 A cap l)(w:Own SSr g g5 b n f):Own2 h h7 b n f A cap l:=by
 obtain⟨p,a,xs,t,c,d,u,i⟩:=w.ex;have m:∀k x,a k=some x->(o.join a) k=some x:=fun k x e=>by show(match a k with|some x=>some x|none=>o k)=_;rw[e]
 have E:∀k,a k=none->(o.join a) k=o k:=fun k e=>by show(match a k with|some x=>some x|none=>o k)=_;rw[e]
 have z:∀k x,o k=some x->a k=none:=by
  intro k x e
  cases ho:a k with
  |none=>rfl
  |some y=>have:=s.dis k x e;rw[c.own k y ho]at this;cases this
 refine⟨p,o.join a,xs,B6 lh t,s.join c,d.keep (fun x e=>m b x e),u,i,ow.keep fun k x _ e=>gz0,fun F=>?_⟩;obtain⟨e,D⟩:=d;rcases ow.2 with⟨_,B⟩|⟨C,r,q,j,_⟩;·grind
 grind
def Zk(o:aF)(A:Option aI):aF:=fun k=>if A=some ⟨k,0,none⟩then o k else none
def B31(o:aF)(A:Option aI):(Zk o A).le o:=fun k x e=>by unfold Zk at e;grind
def OwnSl.only{α:Type}[E:Enc α]{o:aF}{e:cF}{A:Option aI}{c:J}{xs:eF α}(w:bH o e A c xs):bH (Zk o A) e A c xs:=w.keep fun b x a d=>by unfold Zk;grind
def A6w(o:aF){A:Option aI}{k:J}(h:A≠some ⟨k,0,none⟩):Zk o A k=none:=by unfold Zk;grind
section
variable {h:aF} {K:VP} {A:Option aI} {n cap m:J} {r c:Z} {ls:J->eF UInt8}
def A4b(gl:Gl h)(rv':bG SSr h A n ls)(hn:n<=1000000)(hl:∀i,i<n->(ls i).length<=140737488351232)(hs:∀i,i<n->Sz m (rv (ls i)))(hb:∀rows cols,MOk r c n ls rows cols->2*(3^cols*bnd cols m)+1<=40000000) (hK1:∀rows cols,MOk r c n ls rows cols->∀b h' A' cap',Own2 h h' b n (fun k=>E7 (C2f (rvs ls) rows cols k)) A' cap' (zs (elE (rvs ls) rows cols cols).cs)->K (.tuple #[Lj r c (some ⟨b,0,none⟩) n n,.slice A' (elE (rvs ls) rows cols cols).cs.length cap',I 0]) h') (hK0:¬Mx r c n ls->∀h',h.le h'->K (.tuple #[Lj 0 0 none 0 0,.slice none 0 0,I 1]) h'):aO prog 169 #[Lj r c A n cap] h K:=by refine(fnk func169 [(7,[38],[],[I 0])] (own:=[1,2,9,12]) (wr:=[177])) ?_;refine Z7 gl rv' hn hl ?_ ?_;{intro rows cols mk b h1 own;have R:=hb rows cols mk;obtain⟨rfl,rfl,a4,a0,a1,a3,rfl,av⟩:=id mk;have ol:=own.le;have ov:=own.vis H2;obtain⟨g1,o1,xs,V,s1,rx,hx,rr⟩:=own.ex;obtain⟨e1,ad⟩:=id rx;refine⟨_,_,_,_,rfl,?_⟩;refine Mm (E:=rvs ls) (cc:=cols) (m:=m) (gl.mono ol) ov (aJ _) oo oo oo oo (aJ _) hs oo ?_;intro T h2 O l2 a5 ae;refine⟨_,rfl,?_⟩;refine FCall.mono O ?_;rintro r3 h3 ⟨g3,o3,A3,d,w,l3,X,ow,ap,iw,rfl⟩;refine⟨_,_,_,_,_,_,_,_,rfl,_,rfl,_,_,_,X.c1,?_⟩;have j:=A8u (E:=rvs ls) (rows:=rows) (c:=cols) hs (aJ _);have az:=A8x (rvs ls) rows cols cols (bnd cols m);have q:=B41 (rvs ls) rows cols cols;have l:∀k,k<rows*cols->aK ((elP (rvs ls) rows cols cols).M (k/cols) (k%cols)) (elP (rvs ls) rows cols cols).last=C2f (rvs ls) rows cols k:=by{intro k C;have W:k/cols<rows:=aR gz0;have B:=cN k (show 0<cols from oo);exact B42 (rvs ls) (aJ _) W B (.inr B)};rw[A7a _ (aJ _)]at ow ⊢;generalize elP (rvs ls) rows cols cols=st at *;have a:g3 b=some (.cells (xs.flatMap enc).toArray e1):=l3 _ _ (s1.own _ _ ad);have an:A3≠some ⟨b,0,none⟩:=by{intro hA;rcases ow.2 with⟨_,h0⟩|⟨b',ay,t,R,_⟩;{grind};·rw[hA]at t;simp only[aV,bL,and_true]at t;subst t;rw[X.sep.dis _ _ R]at a;cases a};have al:∀k x,o3 k=some x->k≠b:=by{rintro k x e rfl;rw[X.sep.dis k x e]at a;cases a};have t4:=X.grab a (A47 xs);have ak:ZI (g3.without b) w.s w.A w.n w.c st.last:=ZI.without a (A47 xs) iw;have G:g1.le (g3.without b):=Xs (B6 s1.le l3) (s1.dis _ _ ad);have am:bH (o3.put b (.cells (xs.flatMap enc).toArray e1)) 3 A3 d (zs (elE (rvs ls) rows cols cols).cs):=ow.keep fun k x _ e=>by{rw[C1 _ _ (al k x e)];exact e};have ah:RowX (o3.put b (.cells (xs.flatMap enc).toArray e1)) b xs:=RowX.mk;generalize g3.without b=g4 at *;generalize o3.put b (.cells (xs.flatMap enc).toArray e1)=o4 at *;have nb:b≠T.bt/\b≠T.bE/\b≠T.bS:=by{obtain⟨⟨x1,y1⟩,⟨x2,y2⟩,⟨x3,y3⟩⟩:=X.own;grind};refine⟨fun L hp=>∃(k:J) (g o:aF) (F:eF QV),k<=rows*cols/\L=[I (k:Z)]/\g4.le g/\Tab hp g o T st.M st.S/\RowX o b F/\F.length=rows*cols/\Row RQr g F k (C2f (rvs ls) rows cols)/\(∀f,f≠b->o f=o4 f),fun L _=>rows*cols-(iAt L 0).toNat,⟨0,g4,o4,xs,oo,rfl,B8 _,t4,ah,hx,Row.nil,fun _ _=>rfl⟩,?_⟩;rintro z hp ⟨k,g5,o5,F,C,eL,l5,u,ac,hy,aa,ax⟩;obtain rfl:z=(k:Z):=gz0;refine B9 (fun aj=>?_) (fun a2=>?_);{have p:k<rows*cols:=gz0;obtain⟨w5,z5,c0,c1⟩:=u.fat (k:=k) oo;rw[ae]at z5;have W:k/cols<rows:=aR gz0;have B:=cN k (show 0<cols from oo);refine⟨_,rfl,oo,aj,_,_,_,_,u.sep.cell c0,u.sep.cell c1,?_⟩;refine u.sep.call (K7 (gl.mono (B6 V (B6 G l5))).tz z5 (ak.mono l5) (j.M _ _ W B) j.last oo ?_);intro w6 N D i6 h6 s6;rw[l k p]at i6;refine⟨_,_,_,_,_,_,_,_,rfl,_,rfl,oo,oo,?_⟩;refine P7 Gy (y:=w6) rfl s6 ac (i:=k) oo ?_;intro h7 o7 x7 eo s7 ar;have ko:∀f,f≠b->o7 f=o5 f:=fun f C=>by{rw[eo,C1 _ _ C]};rw[wiS k oo];refine⟨⟨k+1,N,o7,_,oo,rfl,B6 l5 D,u.keep s7 D (fun f x e aw=>by grind),ar,gz0,(aa.mono H2 D).set oo i6,fun f C=>gz0⟩,by simp only[U4];omega⟩};·have p:k=rows*cols:=gz0;subst p;have ag:bH o5 3 A3 d (zs (elE (rvs ls) rows cols cols).cs):=am.keep fun f x hA e=>by{grind};obtain⟨N,D,s6⟩:=u.sep.give (B31 o5 A3);obtain⟨e5,aq⟩:=id ac;have ao:N b=some (.cells (F.flatMap enc).toArray e5):=by{rw[<- s6.rest b (A6w o5 an)];exact u.sep.own _ _ aq};have au:bG RQr N (some ⟨b,0,none⟩) (rows*cols) (C2f (rvs ls) rows cols):=⟨F,(RowX.rowB ⟨e5,ao⟩).slF (B8 _),hy,aa.mono H2 D⟩;have Q:h.le N:=B6 V (B6 G (B6 l5 D));have af:∀k,k<rows*cols->Sz (3^st.cs.length*bnd cols m) (C2f (rvs ls) rows cols k):=by{intro k C;have W:k/cols<rows:=aR gz0;have B:=cN k (show 0<cols from oo);rw[<- l k C];exact N4 q (j.M _ _ W B) j.last};refine s6.call (Nf (gl.mono Q) au hn af oo ?_);intro b2 g7 H h7 s7;exact⟨_,_,_,_,_,rfl,hK1 rows cols mk b2 h7 A3 d (Own2.of s7 Q ag.only H)⟩};·intro ai h1 l1;exact⟨_,_,_,_,rfl,hK0 ai h1 l1⟩
end
def Ql{h:aF}{K:VP}{s:Bool}{A:Option aI}{n c:J}{z:Z}(i:ZI h s A n c z)(hK:∀w,RQ h w (z:Y)->K w.v h):aO prog 197 #[.agg #[.bool s,.slice A n c]] h K:=by refine(fnk func197 (own:=[1,2])) ?_;exact hK _ (A0u i)
def A2v:E7 0=[48]:=by rfl
section
variable {h:aF} {K:VP} {A:Option aI} {n cap m:J} {r c:Z} {ls:J->eF UInt8}
end
structure HV where
 A:Option aI
 n:J
 c:J
abbrev HV.v(s:HV):aX:=.slice s.A s.n s.c
instance:Enc HV:=⟨⟨fun s=>[.slice s.A s.n s.c],1,fun _=>rfl,fun s v hv=>by rw [List.mem_singleton.1 hv];rfl⟩⟩
def RowsV(h:aF)(A:Option aI)(n w:J)(M:J->J->Y):Prop:=∃hd:eF HV,SlF h A hd/\hd.length=n/\∀i,i<n->∃s,hd[i]? = some s/\s.n=w/\w<=s.c/\bG NQr h s.A w (M i)
def RowsV.at{h:aF}{A:Option aI}{n w:J}{M:J->J->Y}(r:RowsV h A n w M){i:J}(hi:i<n):∃(a:aI) (s:HV),A=some a/\s.n=w/\w<=s.c/\h.cell? (aM a (i*1))=some (.slice s.A s.n s.c)/\bG NQr h s.A w (M i):=by obtain⟨b,s,e,r⟩:=r;obtain⟨u,l,k,d,r⟩:=r i hi;obtain⟨a,f,j⟩:=SlF.at dc s (i:=i) o;have g:b[i]=u:=by{grind};have:=j 0 _ (by rw[g];rfl);exact⟨a,u,f,k,d,this,r⟩
structure Mt (h g o:aF) (bo:J) (rb:J->J) (n w:J) (M:J->J->Y):Prop where
 sep:Sep h g o
 hd:∃ hd:eF HV,RowB o bo hd/\hd.length=n/\∀ i,i<n->∃ c,hd[i]? = some ⟨some ⟨rb i,0,none⟩,w,c⟩/\w<=c
 nb:∀ i,i<n->rb i≠bo
 inj:∀ i j,i<n->j<n->rb i=rb j->i=j
 row:∀ i,i<n->∃ xs:eF QV,RowB o (rb i) xs/\xs.length=w/\Row NQr g xs w (M i)
section
variable {h g o:aF} {bo n w:J} {rb:J->J} {M:J->J->Y}
end
end Go.Proofs.YteppbhimdjmabaaGreatDoor
namespace Go.Proofs.YteppbhimdjmabaaGreatDoor
set_option maxRecDepth 20000
def Ao(e:J):(0:Y)<2^e:=by
 induction e with
 |zero=>rw[dU];grind
 |succ e ih=>rw[bN];exact cP ih gz0
def Jh(e f:J):(2:Y)^(e+f)=2^e*2^f:=by
 induction f with
 |zero=>rw[dJ,dU,Rat.mul_one]
 |succ f ih=>rw[<- cQ,bN,bN,ih];grind
def A44(e:J):(1:Y)<=2^e:=by
 induction e with
 |zero=>rw[dU];grind
 |succ e ih=>rw[bN];grind
def Rc{e f:J}(h:e<=f):(2:Y)^e<=2^f:=by obtain⟨d,rfl⟩:=cR h;rw[Jh];have:=aH (aN (Ao e)) (show 0<=(2:Y)^d-1 by have:=A44 d;grind);grind
def BR(e:J)(x:Y):Prop:=abR x<=2^e
def BR.mono{e f:J}{x:Y}(h:BR e x)(k:e<=f):BR f x:=by unfold BR at *;have:=Rc k;grind
def BR.add{e:J}{x y:Y}(h:BR e x)(k:BR e y):BR (e+1) (x+y):=by unfold BR at *;have:=Me x y;rw[bN];grind
def BR.mul{e f:J}{x y:Y}(h:BR e x)(k:BR f y):BR (e+f) (x*y):=by unfold BR at *;rw[O7,Jh];exact V3 (J3 _) h (J3 _) k
def Vu(e:J):(((2^e:J):Z):Y)=2^e:=by
 induction e with
 |zero=>rfl
 |succ e ih=>rw[Nat.pow_succ,bX,aW,bN,ih];rfl
def BR.int{e:J}{z:Z}(h:z.natAbs<=2^e):BR e (z:Y):=by unfold BR;rw[<- Vu];refine Qc.2 ⟨?_,?_⟩;{rw[<- cK];exact Rat.intCast_le_intCast.2 o};·exact Rat.intCast_le_intCast.2 o
section
variable {S:eF Z} {m p:J} {x:Y}
def c2:((2:Z):Y)=2:=rfl
def c3:((3:Z):Y)=3:=rfl
def c4:((4:Z):Y)=4:=rfl
def c6:((6:Z):Y)=6:=rfl
def c9:((9:Z):Y)=9:=rfl
def c0':((0:Z):Y)=0:=rfl
end
end Go.Proofs.YteppbhimdjmabaaGreatDoor
namespace Go.Proofs.YteppbhimdjmabaaGreatDoor
set_option maxRecDepth 20000
section
variable {S:eF Z} {m p:J} {x y:Y}
def B1b(m:J)(w:eF Z):Prop:=∀z∈w,z.natAbs<=2^m
def C4p{w:eF Z}(h:B1b m w)(hx:BR p x):BR (m+w.length*(p+1)) (pe w x):=by
 induction w with
 |nil=>
  unfold BR pe abR;have:=Ao (m+([]:eF Z).length*(p+1));split<;>grind
 |cons c w ih=>
  have a:BR m (c:Y):=BR.int (h c bI);have b:=hx.mul (ih fun z d=>h z (bF _ d));have e:(c::w).length*(p+1)=w.length*(p+1)+(p+1):=by rw[aS,Nat.succ_mul]
  exact((a.mono (show m<=m+w.length*(p+1)+p from o)).add (b.mono o)).mono o
def B8m{w:eF Z}(h:B1b m w)(hx:BR p x)(hy:BR p y):abR (pe w x-pe w y)<=2^(m+w.length*(p+1))*abR (x-y):=by
 induction w with
 |nil=>
  have e:pe [] x-pe [] y=0:=by show(0:Y)-0=0;grind
  rw[e];have:=aH (aN (Ao (m+([]:eF Z).length*(p+1)))) (J3 (x-y));unfold abR at *;grind
 |cons c w ih=>
  have a:B1b m w:=fun z j=>h z (bF _ j);have g:=ih a;have b:=C4p a hy;unfold BR at hx b
  have e:pe (c::w) x-pe (c::w) y=x*(pe w x-pe w y)+(x-y)*pe w y:=by
   show(c:Y)+x*pe w x-((c:Y)+y*pe w y)=_;grind
  rw[e];have f:=Me (x*(pe w x-pe w y)) ((x-y)*pe w y);rw[O7,O7]at f;have k:=V3 (J3 x) hx (J3 _) g;have l:=V3 (J3 (x-y)) (show abR (x-y)<=abR (x-y)from gz0) (J3 _) b;have i:(c::w).length*(p+1)=w.length*(p+1)+(p+1):=by rw[aS,Nat.succ_mul]
  rw[i,show m+(w.length*(p+1)+(p+1))=(m+w.length*(p+1))+(p+1)from o,Jh,bN];generalize (2:Y)^(m+w.length*(p+1))=Q at *;have d:0<=Q*abR (x-y):=by have:=J3 (pe w x-pe w y);grind
  have:=aH d (show 0<=(2:Y)^p-1 by have:=A44 p;grind);grind
def Sq.self{w:eF Z}{t:eF (eF Z)}(q:Sq w S t):Sq S S t:=⟨q.ch,⟨[1],1,1,dl S,dc,dc,fun x=>by rw[Z6];have:((1:Z):Y)=1:=rfl;grind,fun x=>by rw[Z6,Na];have:((1:Z):Y)=1:=rfl;grind⟩,q.der,q.con⟩
end
def C8t:eF aX->J
 | [_,_,.slice _ n _]=>n
 |_=>0
def RowW(h:aF)(hd:eF HV)(L:eF (eF Z)):Prop:=hd.length=L.length/\∀i,i<L.length->∃s w,hd[i]? = some s/\L[i]? = some w/\WV h s.A s.n w/\s.n<=s.c
def RowW.mono{h h':aF}{hd:eF HV}{L:eF (eF Z)}(r:RowW h hd L)(l:h.le h'):RowW h' hd L:=⟨r.1,fun i d=>by obtain⟨s,w,a,e,b,c⟩:=r.2 i d;exact⟨s,w,a,e,b.mono l,c⟩⟩
def RowW.push{h:aF}{hd:eF HV}{L:eF (eF Z)}(r:RowW h hd L){s:HV}{w:eF Z}(hw:WV h s.A s.n w)(hs:s.n<=s.c):RowW h (hd++[s]) (L++[w]):=by refine⟨by simp[r.1],fun i f=>?_⟩;have e:=r.1;by_cases hl:i<L.length;{obtain⟨u,v,a,g,b,d⟩:=r.2 i hl;grind};grind
def ChV(h:aF)(A:Option aI)(n:J)(L:eF (eF Z)):Prop:=∃hd:eF HV,SlF h A hd/\n=L.length/\RowW h hd L
def ChV.mono{h h':aF}{A:Option aI}{n:J}{L:eF (eF Z)}(r:ChV h A n L)(l:h.le h'):ChV h' A n L:=by obtain⟨a,s,e,q⟩:=r;exact⟨a,s.mono l,e,q.mono l⟩
def ChV.at{h:aF}{A:Option aI}{n:J}{L:eF (eF Z)}(r:ChV h A n L){i:J}(hi:i<n):∃(a:aI) (s:HV) (w:eF Z),A=some a/\L[i]? = some w/\h.cell? (aM a (i*1))=some (.slice s.A s.n s.c)/\WV h s.A s.n w/\s.n<=s.c:=by obtain⟨b,s,e,q⟩:=r;obtain⟨u,w,m,l,d,g⟩:=q.2 i o;obtain⟨a,f,k⟩:=SlF.at dc s (i:=i) gz0;have j:b[i]'gz0=u:=by{grind};have:=k 0 _ (by rw[j];rfl);exact⟨a,u,w,f,l,this,d,g⟩
def Sb{α:Type}[E:Enc α]{o:aF}{b:J}{e:cF}{xs:eF α}:bH (o.put b (.cells (xs.flatMap enc).toArray e)) e (some ⟨b,0,none⟩) xs.length xs:=⟨aJ _,.inr ⟨b,xs.flatMap enc,rfl,C3 _ _ _,N3 xs,by rw[eD];rw[N3];omega⟩⟩
def B8b{a b c:J}(h1:a=b)(h2:b+c<=7):(2*(a+1)+192)*24<=281474976710656/\a+1<=9223372036854775807:=o
structure ChB (M:J) (L:eF (eF Z)):Prop where
 bits:∀ w∈L,WB (446*(M+1)) w
 len:∀ w∈L,w.length<=6
 nz:∀ w∈L,Nz w/\w≠[]
structure Chn (S:eF Z) (t:eF (eF Z)):Prop where
 ch:PCh (S::t)
 der:∀ Q t',t=Q::t'->∃ c:Z,0<c/\∀ x,pd S x=(c:Y)*pe Q x
 con:t=[]->S.length<=1
def WB.allB{M:J}{w:eF Z}(h:WB M w):B1b M w:=fun z b=>by obtain⟨i,a,rfl⟩:=List.getElem_of_mem b;have:=h i;unfold cf at this;rw[cO,bO a]at this;exact dZ this
def B6e{p q R R' Qx m x':Y}{B:J}(he:m*p=Qx*q+R)(hR:R=x'*R')(hx:R'=0\/1<=x')(hm:abR m<=2^B)(hQ:abR Qx<=2^B):abR q+abR R'<=2^(B+2)*(abR p+abR q):=by have g:=A44 B;have b:=J3 p;have d:=J3 q;have f:=J3 R';have k:abR R'<=abR R:=by{rcases hx with z|z;{grind};·rw[hR,O7];have:1<=abR x':=by{unfold abR;grind};have:=aH (show 0<=abR x'-1 from gz0) f;grind};have i:abR R<=2^B*(abR p+abR q):=by{have e:R=m*p-Qx*q:=gz0;have a:=A98 (m*p) (Qx*q);rw[<- e,O7,O7]at a;have j:=V3 (J3 m) hm b (show abR p<=abR p from gz0);have l:=V3 (J3 Qx) hQ d (show abR q<=abR q from gz0);grind};have c:(2:Y)^(B+2)=2^B*4:=gz0;rw[c];have:=aH (show 0<=(2:Y)^B-1 from gz0) (show 0<=abR p+abR q from gz0);grind
def A5q(M P:J):J:=446*(M+11)+7*(P+1)+2
def SpS(S:eF Z)(M k:J)(p q:eF Z):Prop:=∀P x,BR P x->abR (pe p x)+abR (pe q x)<=2^(k*A5q M P)*(abR (pe S x)+abR (pd S x))
def SpS.start{S Q0:eF Z}{c0:Z}{M:J}(h:∀x,pd S x=(c0:Y)*pe Q0 x)(hc:Q0≠[]->0<c0):SpS S M 0 S Q0:=fun P x _=>by by_cases z:Q0=[];{have e:abR (pe [] x)=0:=by{rfl};have:=J3 (pd S x);grind};·have:=Rat.intCast_le_intCast.2 (show(1:Z)<=c0 from gz0);rw[h x,O7];have e:abR (c0:Y)=(c0:Y):=by{unfold abR;grind};rw[e];have:=aH (show 0<=(c0:Y)-1 from gz0) (J3 (pe Q0 x));grind
def SpS.step{S p q Q R R' R2:eF Z}{m x':Z}{M k T:J}(h:SpS S M k p q)(he:∀x,(m:Y)*pe p x=pe Q x*pe q x+pe R x)(hR:∀x,pe R x=(x':Y)*pe R' x)(hx:R'≠[]->0<x')(h2:R2=R'\/R2=J8 (-1) R')(bQ:WB T Q)(bm:ZB T m)(lQ:Q.length<=6)(hT:T<=446*(M+11)):SpS S M (k+1) q R2:=fun P x a=>by have g:=h P x a;have f:abR (pe R2 x)=abR (pe R' x):=by{rcases h2 with rfl|rfl;{rfl};·rw[F4,O7];have:abR ((-1:Z):Y)=1:=by{rfl};grind};have d:abR (pe Q x)<=2^(446*(M+11)+7*(P+1)):=by{have:=C4p bQ.allB a;unfold BR at this;have i:=aC (P+1) lQ;have:=Rc (show T+Q.length*(P+1)<=446*(M+11)+7*(P+1)from o);grind};have b:abR (m:Y)<=2^(446*(M+11)+7*(P+1)):=by{have:=(BR.int (e:=T) (dZ bm)).mono (show T<=446*(M+11)+7*(P+1)from o);exact this};have st:=B6e (p:=pe p x) (q:=pe q x) (R:=pe R x) (R':=pe R' x) (Qx:=pe Q x) (m:=(m:Y)) (x':=(x':Y)) (he x) (hR x) (by by_cases z:R'=[];{left;rw[z];rfl};·right;have:=Rat.intCast_le_intCast.2 (show(1:Z)<=x' from gz0);exact this) b d;rw[f,cD,cY,Jh];have c:=Ao (A5q M P);have:446*(M+11)+7*(P+1)+2=A5q M P:=rfl;have:=aH (aN c) (show 0<=2^(k*A5q M P)*(abR (pe S x)+abR (pd S x))-(abR (pe p x)+abR (pe q x))from gz0);grind
def B78:∀(t:eF (eF Z)) (S p:eF Z) (c:eF (eF Z)),S::t=c++[p]->Ee S t=p:=by
 intro t
 induction t with
 |nil=>
  intro S p c h;rcases c with _|⟨a,c⟩;·simp at h;assumption
  simp_all
 |cons Q t ih=>
  intro S p c h;rcases c with _|⟨a,c⟩;·simp at h
  ·rw[List.cons_append,cW]at h;exact ih Q p c h.2
def SpS.fin{S p:eF Z}{ch t c0:eF (eF Z)}{M:J}(h:SpS S M (ch.length-1) p [])(e:ch=c0++[p])(e2:ch=S::t)(hl:ch.length<=7):∀P x,BR P x->abR (pe (Ee S t) x)<=2^(6*A5q M P)*(abR (pe S x)+abR (pd S x)):=fun P x a=>by rw[B78 t S p c0 gz0];have b:=h P x a;have c:abR (pe [] x)=0:=by{rfl};have:=Rc (aC (A5q M P) (show ch.length-1<=6 from o));have:=aH (show 0<=(2:Y)^(6*A5q M P)-2^((ch.length-1)*A5q M P)from gz0) (show 0<=abR (pe S x)+abR (pd S x) by have:=J3 (pe S x);have:=J3 (pd S x);grind);grind
def ChI(h:aF)(M:J)(S Q0:eF Z)(hp:aF)(Ac:Option aI)(nc cc:J)(A1:Option aI)(n1 c1:J)(A2:Option aI)(n2 c2:J):Prop:=∃(ch:eF (eF Z)) (hd:eF HV) (g o:aF) (p q:eF Z),nc=ch.length/\h.le g/\Sep hp g o/\bH o 115 Ac cc hd/\RowW g hd ch/\WV g A1 n1 p/\WV g A2 n2 q/\n1<=c1/\n2<=c2/\Nz p/\Nz q/\p≠[]/\Bdd (M+10) p/\Bdd (M+10) q/\Lb p q/\ChB (M+10) ch/\ch.length+q.length<=7/\((ch=[S]/\q=Q0)\/∃t',ch=S::Q0::t'/\Q0≠[])/\(q≠[]->Hist ch p q)/\(q=[]->PCh ch)/\(∃c0,ch=c0++[p])/\SpS S M (ch.length-1) p q
section
variable {h:aF} {K:VP} {A B:Option aI} {n c M:J} {S:eF Z}
def Sp(gl:Gtz h)(r:WV h A n S)(nS:Nz S)(S0:S≠[])(hn:n<=6)(hc:n<=c)(bS:WB M S)(hM:3600*(M+11)<=40000000) (hK:∀t A' n' c' h',h.le h'->ChV h' A' n' (S::t)->n'<=7->ChB (M+10) (S::t)->Chn S t->(∀P x,BR P x->abR (pe (Ee S t) x)<=2^(6*A5q M P)*(abR (pe S x)+abR (pd S x)))->K (.slice A' n' c') h'):aO prog 189 #[.slice A n c] h K:=by refine(fnk func189 [(3,[3,4,5],[],[.slice none 0 0,.slice none 0 0,.slice none 0 0])] (own:=[8])) ?_;have L1:=r.1;have lS:=List.length_pos_iff.2 S0;refine Ah C88 (vs:=[.slice A n c]) (fun u hu=>by rw[List.mem_singleton.1 hu];rfl) rfl gz0 rfl ?_;intro b hb;refine⟨_,_,_,rfl,?_⟩;have s0:Sep (h.put b (.cells ([(⟨A,n,c⟩:HV)].flatMap enc).toArray 115)) h (Ag.put b (.cells ([(⟨A,n,c⟩:HV)].flatMap enc).toArray 115)):=S3 hb;have bD:=bS.dl oo;refine s0.call (Gv r oo (bS.mono (show M<=M+10 from oo)) oo oo ?_);intro A2 n2 c2 g2 l2 w2 ar h2 s2;have L2:=w2.1;rw[Jp]at L2;refine⟨_,_,_,rfl,?_⟩;refine s2.call (O8 (gl.mono l2) w2 (A45 nS) oo bD oo ar ?_);intro Q0 c0 A3 c3 g3 l3 w3 f b3 av h3 s3;have L3:=f.len;rw[Jp]at L3;have nQ:=f.nz (A45 nS);refine⟨_,_,_,rfl,fun L hp=>∃(Ac:Option aI) (nc cc:J) (A1:Option aI) (n1 c1:J) (A2:Option aI) (n2 c2:J),L=[.slice Ac nc cc,.slice A1 n1 c1,.slice A2 n2 c2]/\ChI h M S Q0 hp Ac nc cc A1 n1 c1 A2 n2 c2,fun L _=>C8t L,⟨_,_,_,_,_,_,_,_,_,rfl,[S],[⟨A,n,c⟩],g3,_,S,Q0,rfl,B6 l2 l3,s3,Sb,?_,(r.mono l2).mono l3,w3,hc,av,nS,nQ,S0,Bdd.start (bS.mono oo) oo,Bdd.start b3 oo,⟨oo,oo,oo⟩,⟨fun w a=>?_,fun w a=>?_,fun w a=>?_⟩,gz0,.inl ⟨rfl,rfl⟩,fun _=>Hist.start _ _,fun _=>PCh.one _,⟨[],rfl⟩,SpS.start (fun x=>by rw[<- Na,f.val]) fun z=>f.pos (A45 nS) (f.ne.1 z)⟩,?_⟩;{refine⟨rfl,fun i hi=>?_⟩;have:i=0:=gz0;subst this;exact⟨_,_,rfl,rfl,(r.mono l2).mono l3,hc⟩};{rw[List.mem_singleton.1 a];exact bS.mono oo};{grind};{grind};rintro cA cn cc bA bn bc lA ln lc hp ⟨Ac,nc,bg,A1,n1,c1,A4,n4,c4,eL,N,hd,g,o,p,q,ay,lg,s,ow,B,wp,wq,ai,ac,np,nq,p0,bp,bq,lb,cb,X,ah,j,ae,⟨c0',aa⟩,E⟩;simp only[cW,dG,and_true]at eL;obtain⟨⟨rfl,rfl,rfl⟩,⟨rfl,rfl,rfl⟩,rfl,rfl,rfl⟩:=eL;have lp:=wp.1;have lq:=wq.1;refine B9 (fun a1=>?_) (fun hz=>?_);{have G:q≠[]:=gz0;have a7:=List.length_pos_iff.2 G;have F:hd.length=N.length:=B.1;refine V8 (ty:=285) C88 s ow (ay.trans F.symm) (y:=(⟨lA,ln,lc⟩:HV)) rfl dc (B8b F X).1 (B8b F X).2 ?_;intro A5 c5 h5 g5 o5 l5 s5 al _;obtain⟨bd,μ,bμ,hμ⟩:=id bp;obtain⟨a9,ν,bν,hν⟩:=id bq;have lim:=Bdd.lim (M:=M+10) (n:=bn) hM oo hμ hν;refine s5.call (Nw (wp.mono l5) (wq.mono l5) np nq oo oo ai bμ bν lim ?_);intro Q R m A6 n6 c6 A7 n7 c7 z g7 l7 _ wR am iz m0 he nR ao bR bQ bm lQ h7 s7;refine⟨_,_,_,_,_,_,_,_,_,_,rfl,?_⟩;have hR:=ao G;have lR:=wR.1;rw[lp,lq]at bR bQ bm;rw[lp]at lQ;have be:=Bdd.step (M:=M+10) (l:=R.length) lb hR hμ hν;have bz:=aC (M+10+1) (Ea R.length).2;refine s7.call (O8 (((gl.mono lg).mono l5).mono l7) wR nR oo bR oo am ?_);intro R' x A8 c8 g8 l8 w8 C b8 au h8 s8;have ak:=C.len;have ag:=C.nz nR;refine⟨_,_,_,rfl,s8.call (Cw (iz.mono l8) ?_)⟩;intro h9 s9;refine⟨_,rfl,?_⟩;have aj:=B6 l5 (B6 l7 l8);have fin:∀(R2:eF Z) A9 n9 c9 h9 g9,g8.le g9->Sep h9 g9 o5->WV g9 A9 n9 R2->n9<=c9->WB (μ+(p.length-q.length+1)*(ν+1)) R2->R2=(if 0<m then J8 (-1) R' else R')->ChI h M S Q0 h9 A5 (hd.length+1) c5 lA ln lc A9 n9 c9:=by{intro R2 A9 n9 c9 h9 g9 l9 s9 w9 aq b9 e9;have d:=B6 aj l9;have bb:R2.length=R.length:=by{rw[e9];split<;>simp[J8,ak]};have ax:Nz R2:=by{rw[e9];split;{exact ag.scl dc};omega};refine⟨N++[q],hd++[⟨lA,ln,lc⟩],g9,o5,q,R2,gz0,B6 lg d,s9,al,(B.mono d).push (wq.mono d) ac,wq.mono d,w9,ac,aq,nq,ax,G,bq,⟨oo,_,b9,gz0⟩,⟨oo,oo,gz0⟩,⟨fun w a=>?_,fun w a=>?_,fun w a=>?_⟩,gz0,.inr ?_,fun h0=>?_,fun h0=>?_,⟨N,rfl⟩,?_⟩;{rcases List.mem_append.1 a with a|a;{exact cb.bits w a};·rw[List.mem_singleton.1 a];exact bq.le};{rcases List.mem_append.1 a with a|a;{exact cb.len w a};grind};{rcases List.mem_append.1 a with a|a;{exact cb.nz w a};grind};{rcases ah with⟨k,e2⟩|⟨t',k⟩;{exact⟨[],gz0,gz0⟩};grind};{have H:R≠[]:=gz0;rw[e9];exact(j G).step m0 he (C.pos nR H) C.val};{have H:R=[]:=by{grind};exact(j G).done m0 (u:=Q) fun x=>by rw[he x,H];simp only[pe];grind};·have ek:(N++[q]).length-1=(N.length-1)+1:=gz0;have az:1+(p.length-q.length+1)*ν<=μ+(p.length-q.length+1)*(ν+1):=gz0;rw[ek];exact E.step he C.val (fun z=>C.pos nR (C.ne.1 z)) gz0 bQ (bm.mono az) oo oo};refine B9 (fun hm=>?_) (fun hm=>?_);{have ap:0<m:=Int.sign_pos_iff.1 hm;refine s9.call (O0 oo oo ?_);intro a5 A10 ba a4 a8 T aw a6 ad;refine⟨_,_,_,_,rfl,?_⟩;refine ad.call (A2t (w8.mono T) aw oo (b8.mono (show _<=40000000 from oo)) (ZB.neg (ZB.one oo)) oo ?_);intro A11 an bh a3 a0 D W bi V;rw[Sm (ag.scl dc)]at D;refine⟨_,_,_,rfl,⟨_,_,_,_,_,_,_,_,_,rfl,fin _ _ _ _ _ _ (B6 T a0) V D W (fun i=>?_) gz0⟩,?_⟩;{rw[Bh,Int.neg_one_mul];exact(b8 i).neg};·show an<ln;have:=D.1;simp only[J8,bJ]at this;omega};·have ap:¬0<m:=fun z=>hm (Int.sign_pos_iff.2 z);refine⟨⟨_,_,_,_,_,_,_,_,_,rfl,fin R' _ _ _ _ _ (B8 _) s9 w8 au b8 gz0⟩,?_⟩;show n7<ln;omega};·have G:q=[]:=cJ oo;subst G;have bf:=ae rfl;have O:∀{l:eF (eF Z)},N=l->ChV hp cA cn l:=fun e=>⟨hd,ow.slF s.ole,gz0,by rw[<- e];exact B.mono s.le⟩;have af:=B6 lg s.le;rcases ah with⟨k,e2⟩|⟨t',k⟩;{refine hK [] _ _ _ _ af (O k) oo gz0 ⟨gz0,fun _ _ z=>(by cases z),fun _=>?_⟩ (E.fin aa k oo);grind};·refine hK (Q0::t') _ _ _ _ af (O k.1) oo gz0 ⟨gz0,fun Q a2 z=>?_,fun z=>(by cases z)⟩ (E.fin aa k.1 oo);obtain⟨rfl,rfl⟩:=List.cons.inj z;exact⟨c0,f.pos (A45 nS) (f.ne.1 k.2),fun x=>by rw[<- Na,f.val]⟩
end
end Go.Proofs.YteppbhimdjmabaaGreatDoor
namespace Go.Proofs.YteppbhimdjmabaaGreatDoor
set_option maxRecDepth 20000
section
variable {w S S1 S2 Q1 Q2:eF Z} {t t1 t2:eF (eF Z)} {a b:Y}
def SqF.cop(f:SqF w S):∀D,Nz D->Dv D S->Dv D (dl S)->D.length<=1:=by obtain⟨W,G,c,c0,m,b,i,d,g,N,α,β,k,j⟩:=f.ex;exact fun D l e a=>A9m d g i b ⟨N,pe α,pe β,k,PF.po α,PF.po β,fun x=>by rw[j,Na]⟩ l e a
def Dv.trim{d p:eF Z}(h:Dv d p)(hp:Nz p)(p0:p≠[])(hd:Nz d)(d0:d≠[]):∃(N:Z) (e:eF Z),N≠0/\Nz e/\e≠[]/\(∀x,(N:Y)*pe p x=pe e x*pe d x)/\p.length+1=e.length+d.length:=by obtain⟨N,e,b,f⟩:=h;have a:∀x,(N:Y)*pe p x=pe (trZ e) x*pe d x:=fun x=>by{rw[Cj];exact f x};have c:trZ e≠[]:=by{intro z;obtain⟨x,i⟩:=hp.val p0;have:=a x;rw[z]at this;have g:pe [] x=0:=rfl;rw[g,dH]at this;rcases Rat.mul_eq_zero.1 this with q|q;{exact F5 b q};·exact i q};exact⟨N,trZ e,b,Hs e,c,a,A75 b hp (Hs e) hd c d0 a⟩
def Dv.both{d p:eF Z}(h1:Dv d p)(h2:Dv p d)(hp:Nz p)(p0:p≠[])(hd:Nz d)(d0:d≠[]):∃N k:Z,N≠0/\k≠0/\∀x,(N:Y)*pe p x=(k:Y)*pe d x:=by
 obtain⟨N,e,j,i,c,a,l⟩:=h1.trim hp p0 hd d0;obtain⟨N2,q,n,f,b,g,m⟩:=h2.trim hd d0 hp p0;have:=List.length_pos_iff.2 c;have:=List.length_pos_iff.2 b
 match e,c,i,a,(show e.length=1 from o)with
 | [k],_,zk,a,_=>
  refine⟨N,k,j,zk (by simp),fun x=>?_⟩;rw[a];have:pe [k] x=(k:Y):=by show(k:Y)+x*0=_;grind
  rw[this]
def B2t{u v:eF Z}{a b:Y}(h:∀x,a*pe u x=b*pe v x)(a0:a≠0)(x:Y):a*pd u x=b*pd v x:=by have d:=Je (w:=u) (S:=[1]) (G:=v) (c:=a⁻¹*b) (fun x=>by rw[Z6,bC,bK,<- h,<- bK,dC _ a0,bC]) x;rw[d,Z6,A41,<- bK,<- bK,dB _ a0];grind
def Rk(q:Sq w S (Q1::t))(hS:Nz S)(S0:S≠[])(cop:∀D,Nz D->Dv D S->Dv D (dl S)->D.length<=1):∃k:Y,k≠0/\∀x,pe (Ee S (Q1::t)) x=k:=by
 obtain⟨l,f⟩:=PCh.dvd _ _ q.ch;have f:=f Q1 t rfl;obtain⟨c,c0,n⟩:=q.der Q1 t rfl;generalize Ee S (Q1::t)=D at *;have d:∀{p:eF Z},Dv D p->Dv (trZ D) p:=fun⟨N,e,b,a⟩=>⟨N,e,b,fun x=>by rw[Cj];exact a x⟩
 have m:Dv (trZ D) (dl S):=by
  obtain⟨N,e,b,a⟩:=d f;refine⟨N,J8 c e,b,fun x=>?_⟩;rw[Na,n,F4];have:=a x;have i:(N:Y)*((c:Y)*pe Q1 x)=c*(N*pe Q1 x):=gz0;rw[i,this];grind
 have hl:=cop (trZ D) (Hs D) (d l) m
 have ne:trZ D≠[]:=by
  intro z;obtain⟨N,e,b,a⟩:=d l;obtain⟨x,r⟩:=hS.val S0;have:=a x;rw[z]at this;have i:pe [] x=0:=rfl;rw[i,cV]at this;rcases Rat.mul_eq_zero.1 this with q|q;·exact F5 b q
  ·exact r q
 have j:=Hs D;have g:∀x,pe D x=pe (trZ D) x:=fun x=>(Cj D x).symm
 match h:trZ D,ne,hl,j with
 | [k],_,_,j=>
  refine⟨(k:Y),F5 (j (by simp)),fun x=>?_⟩;rw[g,h];show(k:Y)+x*0=_;grind
def Aw.const{k:Y}{f:Y->Y}(k0:k≠0)(h:∀x,f x=k):Aw a b f:=⟨abR k,Te k0,fun x _ _=>by rw[h];grind⟩
def Sq.cell(q:Sq w S (Q1::t))(aw:Aw a b (pe (Ee S (Q1::t)))):∃η,0<η/\∀x y,a<=x->x<y->y<=b->y-x<=η-> (sgR (pe S x)=sgR (pe S y)/\sgR (pe S x)≠0/\chg 0 (Vs (S::Q1::t) x)=chg 0 (Vs (S::Q1::t) y))\/∃(e:Z) (W:J),(e=1\/e= -1)/\chg 0 (Vs (S::Q1::t) x)=(if sgR (pe S x)= -e then 1 else 0)+W/\chg 0 (Vs (S::Q1::t) y)=(if sgR (pe S y)= -e then 1 else 0)+W/\sgR (pe S y-pe S x)=e:=by obtain⟨c,c0,r⟩:=q.der Q1 t rfl;have st:=PCh.st _ _ q.ch aw;obtain⟨K,K0,l⟩:=Um a b S;obtain⟨η,p,g⟩:=Go.Proofs.YteppbhimdjmabaaGreatDoor.cell st ⟨K,(c:Y),K0,K8 c0,fun x y i f s d=>by rw[<- r];exact l x y i f s d⟩ (O4 _ _ _);refine⟨η,p,fun x y m j n k=>?_⟩;have e:=B57 (S::Q1::t);simp only[List.map_cons]at e;have c:=g x y m j n k;rw[e,e]at c;exact c
def A9g(q1:Sq w S1 (Q1::t1))(q2:Sq w S2 (Q2::t2))(aw1:Aw a b (pe (Ee S1 (Q1::t1))))(aw2:Aw a b (pe (Ee S2 (Q2::t2)))){l:Y}(l0:l≠0)(hl:∀x,pe S2 x=l*pe S1 x)(hab:a<=b): (chg 0 (Vs (S1::Q1::t1) a):Z)-chg 0 (Vs (S1::Q1::t1) b)=(chg 0 (Vs (S2::Q2::t2) a):Z)-chg 0 (Vs (S2::Q2::t2) b):=by obtain⟨η1,r,m⟩:=q1.cell aw1;obtain⟨η2,s,p⟩:=q2.cell aw2;obtain⟨η,n0,m1,m2⟩:∃η:Y,0<η/\η<=η1/\η<=η2:=by{by_cases h:η1<=η2;{exact⟨η1,r,gz0,h⟩};·exact⟨η2,s,gz0,gz0⟩};have sl:sgR l=1\/sgR l= -1:=by{rcases J9 l with h|h|h;{exact .inl h};{exact .inr h};·exact absurd (U9.1 h) l0};have hs:∀x,sgR (pe S2 x)=sgR l*sgR (pe S1 x):=fun x=>by{rw[hl,Ix]};have k:∀x y,sgR (pe S2 y-pe S2 x)=sgR l*sgR (pe S1 y-pe S1 x):=fun x y=>by{rw[hl,hl,show l*pe S1 y-l*pe S1 x=l*(pe S1 y-pe S1 x)from gz0,Ix]};refine C52 (R:=fun a b=>(chg 0 (Vs (S1::Q1::t1) a):Z)-chg 0 (Vs (S1::Q1::t1) b)=(chg 0 (Vs (S2::Q2::t2) a):Z)-chg 0 (Vs (S2::Q2::t2) b)) n0 (fun x _ _=>o) (fun x y i g j u=>?_) (fun x y z _ _ _ _ A t=>o) hab;have f:=hs x;have d:=hs y;have c:=k x y;have n:=J9 (pe S1 x);have q:=J9 (pe S1 y);rcases m x y i g j gz0 with⟨u1,u2,u3⟩|⟨e,W,he,u1,u2,u3⟩<;>rcases p x y i g j gz0 with⟨v1,v2,v3⟩|⟨e',W',he',v1,v2,v3⟩;{omega};{rw[v1,v2,u3,f,d,u1];omega};{have:sgR (pe S1 x)=sgR (pe S1 y):=by{rw[f,d]at v1;rcases sl with h|h<;>rw[h]at v1<;>omega};rw[u1,u2,v3,this];omega};·rw[u1,u2,v1,v2,f,d];rw[u3]at c;rcases sl with h|h<;>rw[h]at c ⊢ <;> rcases he with rfl|rfl<;>rcases n with z|z|z<;>rcases q with y|y|y<;>rw[z,y]<;>(rw[<- v3]at *;simp at c;rw[c];simp<;>omega)
end
end Go.Proofs.YteppbhimdjmabaaGreatDoor
namespace Go.Proofs.YteppbhimdjmabaaGreatDoor
set_option maxRecDepth 20000
def lc(w:eF Z):Z:=cf w (w.length-1)
def B3l{c:Z}{w:eF Z}(h:w≠[]):lc (c::w)=lc w:=by have:=List.length_pos_iff.2 h;obtain⟨k,hk⟩:∃k,w.length=k+1:=⟨w.length-1,o⟩;unfold lc cf;rw[aS,hk];rfl
def sI(neg:Bool)(w:eF Z):Z:=if neg=true/\(w.length-1)%2=1 then -(lc w).sign else(lc w).sign
def B6f(neg:Bool)(w:eF Z):sI neg w=1\/sI neg w= -1\/sI neg w=0:=by unfold sI;rcases Int.lt_trichotomy (lc w) 0 with h|h|h;{rw[Int.sign_eq_neg_one_of_neg h];split<;>omega};{rw[h];simp};·rw[Int.sign_eq_one_of_pos h];split<;>omega
def C03{neg:Bool}{c:Z}{w:eF Z}(h:w≠[]):sI neg (c::w)=(if neg then -1 else 1)*sI neg w:=by have:=List.length_pos_iff.2 h;unfold sI;rw[B3l h,aS];cases neg;{simp};·simp only[true_and,if_true];by_cases e:(w.length-1)%2=1;{rw[iP e,iN o];omega};·rw[iN e,iP o];omega
def B8n{w:eF Z}{q x:Y}:w≠[]->(∀i,i+1<w.length->abR (cf w i:Y)<=(q-1)*abR (lc w:Y))->1<=q->q<=abR x->lc w≠0->abR (lc w:Y)<=abR (pe w x)/\sgR (pe w x)=sI (decide (x<0)) w:=by
 induction w with
 |nil=>intro h;exact absurd rfl h
 |cons c w ih=>
  intro _ g n b hl;by_cases a:w=[]
  ·subst a;have e:pe [c] x=(c:Y):=by show(c:Y)+x*0=_;grind
   have f:lc [c]=c:=rfl;rw[e,f];refine⟨gz0,?_⟩;rw[A0q];unfold sI;rw[iN (by simp)];rfl
  ·have f:=B3l (c:=c) a;have j:=List.length_pos_iff.2 a;rw[f]at g hl ⊢;obtain⟨i1,p⟩:=ih a (fun i s=>g (i+1) (by rw[aS];omega)) n b hl;have m:0<abR (lc w:Y):=Te (F5 hl);have r:abR (c:Y)<=(q-1)*abR (lc w:Y):=g 0 (by rw[aS];omega);have e:pe (c::w) x=(c:Y)+x*pe w x:=rfl
   have l:q*abR (lc w:Y)<=abR (x*pe w x):=by
    rw[O7];exact V3 gz0 b (aN m) i1
   have k:=A98 ((c:Y)+x*pe w x) c;rw[show(c:Y)+x*pe w x-c=x*pe w x from gz0]at k
   have hs:=Uy (x:=x*pe w x) (y:=(c:Y)+x*pe w x) (t:=abR (x*pe w x)) Rat.le_refl (by
    rw[show x*pe w x-((c:Y)+x*pe w x)= -(c:Y)from gz0,A99];grind);rw[e];refine⟨gz0,?_⟩;rw[<- hs.1,Ix,p,C03 a]
   have:sgR x=if decide (x<0)=true then -1 else 1:=by
    by_cases d:x<0;·rw[iP (by simpa using d)];exact T8.2 d
    ·rw[iN (by simpa using d)];refine R4.2 ?_;unfold abR at b;rw[iN d]at b;grind
   rw[this]
def FarB(q:Y)(w:eF Z):Prop:=1<=q/\∀i,i+1<w.length->abR (cf w i:Y)<=(q-1)*abR (lc w:Y)
def FarB.mono{q q':Y}{w:eF Z}(h:FarB q w)(k:q<=q'):FarB q' w:=⟨by have:=h.1;grind,fun i a=>by have:=h.2 i a;have:=aH (show 0<=q'-q from gz0) (J3 (lc w:Y));grind⟩
def FarB.ex{M:J}{w:eF Z}(h:∀i,(cf w i).natAbs<2^M)(hl:lc w≠0):FarB (2^M+1) w:=by have:=Ao M;refine⟨gz0,fun i _=>?_⟩;have a:BR M (cf w i:Y):=BR.int (dZ (h i));have c:1<=abR (lc w:Y):=by{rcases dF hl with z|z;{have:=Rat.intCast_le_intCast.2 (show lc w <= -1 from o);have b:(((-1:Z)):Y)= -1:=rfl;unfold abR;split<;>grind};·have:=Rat.intCast_le_intCast.2 (show 1<=lc w from o);have b:(((1:Z)):Y)=1:=rfl;unfold abR;split<;>grind};unfold BR at a;have:=aH (aN (Ao M)) (show 0<=abR (lc w:Y)-1 from gz0);grind
def VI(neg:Bool)(L:eF (eF Z)):eF Z:=L.map (sI neg)
def B9b{L:eF (eF Z)}{q x:Y}(hf:∀w∈L,FarB q w)(hl:∀w∈L,w≠[]/\lc w≠0)(hx:q<=abR x):Vs L x=VI (decide (x<0)) L:=by unfold Vs VI;refine List.map_congr_left fun w a=>?_;exact(B8n (hl w a).1 (hf w a).2 (hf w a).1 hx (hl w a).2).2
def B8z{w:eF Z}{q a b:Y}(hw:w≠[])(hl:lc w≠0)(hf:FarB q w)(h:∀x,a<=x->x<=b->q<=abR x):Aw a b (pe w):=⟨abR (lc w:Y),Te (F5 hl),fun x c d=>(B8n hw hf.2 hf.1 (h x c d) hl).1⟩
def B4j{w S:eF Z}{t:eF (eF Z)}{M:J}{b:Y}(f:SqF w S)(q:Sq w S t)(hb:∀v∈S::t,∀i,(cf v i).natAbs<2^M)(hn:∀v∈S::t,Nz v/\v≠[])(hf:FarB b S): (chg 0 (VI true (S::t)):Z)-chg 0 (VI false (S::t))=(chg 0 (Vs (S::t) (-b)):Z)-chg 0 (Vs (S::t) b):=by have p:=hf.1;have e:∀v∈S::t,v≠[]/\lc v≠0:=fun v a=>⟨(hn v a).2,by have:=(hn v a).1 (hn v a).2;rwa [Jk (hn v a).2]at this⟩;have r:=Ao M;obtain⟨B,hB,hbB⟩:∃B:Y,(2:Y)^M+1<=B/\b<=B:=⟨2^M+1+b,gz0,gz0⟩;have c:∀v∈S::t,FarB B v:=fun v a=>(FarB.ex (hb v a) (e v a).2).mono hB;have ab:∀x:Y,0<=x->abR x=x/\abR (-x)=x:=fun x s=>by{unfold abR;constructor<;>split<;>grind};have g:=B9b c e (x:=B) (by rw[(ab B gz0).1];exact Rat.le_refl);have j:=B9b c e (x:=-B) (by rw[(ab B gz0).2];exact Rat.le_refl);rw[decide_eq_false gz0]at g;rw[decide_eq_true gz0]at j;rw[<- g,<- j];have d:=e S bI;have k:Aw b B (pe S):=B8z d.1 d.2 hf fun x n m=>by{have:=(ab x gz0).1;grind};have l:Aw (-B) (-b) (pe S):=B8z d.1 d.2 hf fun x n m=>by{have:=(ab (-x) gz0).2;rw[show - -x=x from gz0]at this;grind};have c1:=Xc q.self hbB k;have c2:=Xc q.self (show -B <= -b from gz0) l;omega
def Gq{X yq9:Prop}(y:yq9):Br (!true) X yq9:=y
def Uok(n:J)(ls:J->eF UInt8):Prop:=(∀i,i<n->IsNum (ls i))/\(0<n->ls (n-1)≠[48])
def Uok.lead{n:J}{ls:J->eF UInt8}(u:Uok n ls)(h:0<n):rv (ls (n-1))≠0:=by obtain⟨q,a⟩:=u.1 (n-1) o;intro e;rw[a,F3]at e;subst e;exact u.2 h (by assumption)
structure UvR (c:J->Y) (n:J) (w:eF Z) (D:Z):Prop where
 len:n=w.length
 pos:0<D
 eq:∀ i,i<n->(cf w i:Y)=c i*(D:Y)
 nz:Nz w
 lc:D=((Ai c n:J):Z)
def UvR.val{c:J->Y}{n:J}{w:eF Z}{D:Z}(u:UvR c n w D)(x:Y):pe w x=ps (cf w) x n:=by rw[u.len,Vr]
def Zu:∀(l:eF Z) (b:Z),chg b l<=l.length:=by
 intro l
 induction l with
 |nil=>intro b;simp[chg]
 |cons s l ih=>
  intro b;rw[chg,aS];grind
section
variable {h:aF} {K:VP} {A B:Option aI} {n c m M:J} {S w:eF Z} {ls:J->eF UInt8}
def Uj(hn:n<=65)(hK:K (.bool true) h):aO prog 116 #[.slice A n c] h K:=by refine(fnk func116) ?_;grind
def A0e(gl:Gl h)(r:bG SSr h A n ls)(hn:n<=65)(hl:∀i,i<n->(ls i).length<=140737488351232) (hK1:Uok n ls->∀b h',Own RQr h h' b n (fun i=>rv (ls i))->K (.tuple #[.slice (some ⟨b,0,none⟩) n n,.bool true]) h') (hK0:¬Uok n ls->∀h',h.le h'->K (.tuple #[.slice none 0 0,.bool false]) h'):aO prog 109 #[.slice A n c] h K:=by refine(fnk func109) ?_;refine Uj hn ⟨_,rfl,Gq ?_⟩;have m:(0<n->ls (n-1)≠[48])->aO prog 117 #[.slice A n c] h (fun s j=>∃(t22aA:Option aI) (t22an:J) (t22ac:J) (t22b:Bool),s= .tuple #[.slice t22aA t22an t22ac,.bool t22b]/\K (.tuple #[.slice t22aA t22an t22ac,.bool t22b]) j):=fun l=>Z2 gl r o hl (fun f b p t=>⟨_,_,_,_,rfl,hK1 ⟨f,l⟩ _ _ t⟩) (fun g p q=>⟨_,_,_,_,rfl,hK0 (fun u=>g u.1) _ q⟩);refine B9 (fun k=>?_) (fun z=>m fun l=>o);have d:0<n:=o;obtain⟨a,rfl,w⟩:=r.sat (i:=n-1) o;rw[show C4 ((n:Z)-1)=((n-1:J):Z) by rw[C0]<;>omega];refine⟨_,rfl,o,o,_,w,?_⟩;have y:(ByteArray.toList (bs (ls (n-1)))==ByteArray.toList ({data:=#[48] }:ByteArray))=decide (ls (n-1)=[48]):=Ib _ [48];rw[y];exact B9 (fun e=>hK0 (fun u=>u.2 d e) _ (B8 _)) (fun e=>m fun _=>e)
def Bq(gl:Gl h)(r:bG SSr h A n ls)(hn:n<=65)(hl:∀i,i<n->(ls i).length<=140737488351232) (hK1:Uok n ls->∀h',h.le h'->K (.bool true) h') (hK0:¬Uok n ls->∀h',h.le h'->K (.bool false) h'):aO prog 51 #[.slice A n c] h K:=by refine(fnk func51) ?_;exact A0e gl r hn hl (fun u b d a=>⟨_,_,_,_,rfl,hK1 u _ a.le⟩) (fun u d e=>⟨_,_,_,_,rfl,hK0 u _ e⟩)
def Ui{f:J->Y}(gl:Gl h)(r:bG RQr h A n f)(hn:n<=65)(hs:∀i,i<n->Sz m (f i))(hm:m+(1+n*m+m)<=40000000)(h0:0<n->f (n-1)≠0) (hK:∀(w:eF Z) (D:Z) (z:IV) A' n' c' h',h.le h'->WV h' A' n' w->n'<=c'->ZIr h' z D->UvR f n w D->WB (m+(1+n*m)) w->ZB (1+n*m) D->K (.tuple #[.slice A' n' c',z.v]) h'):aO prog 119 #[.slice A n c] h K:=by refine(fnk func119 [(4,[15],[],[I 0])] (os:=[(8,[0,2,1,3,4])]) (own:=[3,4,7])) ?_;refine Bo gl r oo hs oo ?_;intro s1 A1 n1 c1 Q T i1;have N:ZB (1+n*m) (Ai f n:Z):=Hj n hs;refine⟨_,_,_,_,rfl,?_⟩;refine G7 tWh (zx:=A2k) rfl oo oo oo oo ?_;intro b O;refine⟨_,_,_,rfl,fun L M=>∃k:J,k<=n/\L=[I k]/\OwnK ZIr Q M b n k (fun i=>scl (f i) (Ai f n)),fun L _=>n-(iAt L 0).toNat,⟨0,oo,rfl,OwnK.zero O⟩,?_⟩;rintro t M ⟨k,hk,eL,g,o,xs,u,d,S,l,R⟩;obtain rfl:t=(k:Z):=gz0;refine B9 (fun X=>?_) (fun W=>?_);{have j:k<n:=oo;obtain⟨a,q,rfl,iq,f0,f1,f2,f3⟩:=(r.mono H2 (B6 T u)).qat j;refine⟨a,rfl,oo,oo,_,_,_,_,_,_,_,_,C2 d.le f0,C2 d.le f1,C2 d.le f2,C2 d.le f3,?_⟩;refine d.call (Hb iq (i1.mono u) ((hs k j).mono (show m<=1+n*m+m from oo)) (N.mono oo) oo ?_);intro s2 A2 n2 c2 g2 l2 i2 h2 C;refine⟨_,_,_,_,rfl,_,rfl,oo,oo,?_⟩;refine OwnK.store Q8 Kj (y:=(⟨s2,A2,n2,c2⟩:IV)) u l2 C S l R j rfl i2 ?_;intro h3 p;rw[wiS k oo];exact⟨⟨k+1,oo,rfl,p⟩,by simp only[U4];omega⟩};·obtain rfl:k=n:=oo;have p:Own ZIr Q M b k (fun i=>scl (f i) (Ai f k)):=⟨g,o,xs,u,d,S,l,R⟩;have H:(0:Z)<Ai f k:=by{have:=Pg f k;omega};have F:∀i,i<k->(scl (f i) (Ai f k):Y)=f i*((Ai f k:Z):Y):=fun i B=>A3e (Int.natCast_dvd_natCast.2 (Ph f k i B));have s:Nz ((List.range k).map fun i=>scl (f i) (Ai f k)):=by{intro E;have aa:0<k:=by{grind};rw[Jk E,bJ,List.length_range,Zw _ oo];intro e;have:=F (k-1) oo;rw[e]at this;rcases Rat.mul_eq_zero.1 this.symm with z|z;{grind};simp_all};have wv:=B1g (p.vis Q8);refine Dh wv oo (aJ _) ?_;intro A5 n5 c5 V G;rw[Sm s]at V;refine⟨_,_,_,rfl,B8 _,hK _ _ ⟨s1,A1,n1,c1⟩ _ _ _ _ (B6 T p.le) V G (i1.mono p.le) ⟨by simp,H,fun i B=>gz0,s,rfl⟩ (WB.row fun i B=>A3d (hs i B) N) N⟩
def Dj(gl:Gl h)(r:bG SSr h A n ls)(hn:n<=65)(hl:∀i,i<n->(ls i).length<=140737488351232)(u:Uok n ls)(hs:∀i,i<n->Sz m (rv (ls i)))(hm:m+(1+n*m+m)<=40000000) (hK:∀(w:eF Z) (D:Z) (z:IV) A' n' c' h',h.le h'->WV h' A' n' w->n'<=c'->ZIr h' z D->UvR (fun i=>rv (ls i)) n w D->WB (m+(1+n*m)) w->ZB (1+n*m) D->K (.tuple #[.slice A' n' c',z.v,.bool true]) h'):aO prog 55 #[.slice A n c] h K:=by refine(fnk func55 (own:=[3,5,9])) ?_;refine O0 o o ?_;intro W A1 X c1 T t i1;refine⟨_,_,_,_,rfl,Uj hn ⟨_,rfl,Gq ?_⟩⟩;refine Z2 (gl.mono t) (r.mono F1 t) o hl (fun G b R F=>⟨_,_,_,_,rfl,Gq ?_⟩) (fun j=>absurd u.1 j);have k:=F.vis H2;have y:=B6 t F.le;have g:=gl.mono y;refine B9 (fun E=>?_) (fun V=>?_);{have d:0<n:=o;obtain⟨a,q,Q,M,H,L,N,O⟩:=k.qat (i:=n-1) o;rw[show C4 ((n:Z)-1)=((n-1:J):Z) by rw[C0]<;>omega];refine⟨_,Q,o,o,_,_,_,_,_,_,_,_,H,L,N,O,?_⟩;have f:=u.lead d;refine Bv M ⟨_,rfl,B9 (fun e=>absurd e f) (fun _=>?_)⟩;refine Ui g k hn hs hm (fun _=>f) ?_;intro w D z A' n' c' h' B wv C p uv l s;exact⟨_,_,_,_,_,_,_,rfl,hK w D z _ _ _ _ (B6 y B) wv C p uv l s⟩};·refine Ui g k hn hs hm (fun S=>o) ?_;intro w D z A' n' c' h' B wv C p uv l s;exact⟨_,_,_,_,_,_,_,rfl,hK w D z _ _ _ _ (B6 y B) wv C p uv l s⟩
def Vf(gl:Gl h)(r:bG SSr h A n ls)(hn:n<=65)(h0:0<n)(hl:∀i,i<n->(ls i).length<=140737488351232)(u:Uok n ls)(hs:∀i,i<n->Sz m (rv (ls i)))(hm:m+(1+n*m+m)<=40000000) (hK:∀(w:eF Z) (D:Z) (z:IV) A' n' c' h',h.le h'->WV h' A' n' w->n'<=c'->ZIr h' z D->UvR (fun i=>rv (ls i)) n w D->WB (m+(1+n*m)) w->ZB (1+n*m) D->K (.tuple #[.slice A' n' c',z.v,I 0]) h'):aO prog 112 #[.slice A n c] h K:=by refine(fnk func112 (own:=[3,6])) ?_;refine Dj gl r hn hl u hs hm ?_;intro w D z A' n' c' h' b wv d g uv f a;refine⟨_,_,_,_,_,_,_,_,rfl,Gq (D4 (fun e=>?_) (fun _=>hK w D z _ _ _ _ b wv d g uv f a))⟩;have:=wv.1;have:=uv.len;omega
def A6y(q:Y):(q.num:Y)=q*((q.den:Z):Y):=by have h:=Rat.num_divInt_den q;rw[aT]at h;have a:((q.den:Z):Y)≠0:=F5 (by have:=q.den_pos;omega);grind
def A6g{a:QV}{q:Y}{p:J}(r:WV h A n w)(i:RQ h a q)(hn:n<=1000)(hb:WB M w)(hq:Sz p q)(hT:M+(n+2)*(p+1)<=40000000)(hK:∀h',h.le h'->K (I (sgR (pe w q))) h'): aO prog 252 #[.agg #[.bool a.s,.slice a.A a.n a.c,.bool a.s2,.slice a.A2 a.n2 a.c2,I 0],.slice A n c] h K:=by refine(fnk func252 (own:=[2])) ?_;refine D4 (fun _=>?_) (fun e=>absurd rfl e);refine A2u r i hn hb hq hT ?_;intro s A' f k z pw h' g d b j;refine⟨_,_,_,_,rfl,Cw d ⟨_,rfl,?_⟩⟩;have:=b.sgn (by have:=q.den_pos;omega) (A6y q);rw[A0q]at this;grind
def Ja{L:eF (eF Z)}{sg:eF Z->Z}{b0 b2:Bool}{A0 A2:Option aI}{n0 c0 n2 c2:J}{i0:Z}(r:ChV h A n L)(hn:n<=1000)(hsc:∀w,sg w=1\/sg w= -1\/sg w=0) (hsg:∀hp (s:HV) w (K:VP),h.le hp->w∈L->WV hp s.A s.n w->(∀h',hp.le h'->K (I (sg w)) h')->aO prog 252 #[.agg #[.bool b0,.slice A0 n0 c0,.bool b2,.slice A2 n2 c2,I i0],.slice s.A s.n s.c] hp K) (hK:∀h',h.le h'->K (I (chg 0 (L.map sg):J)) h'):aO prog 190 #[.slice A n c,.agg #[.bool b0,.slice A0 n0 c0,.bool b2,.slice A2 n2 c2,I i0]] h K:=by refine(fnk func190 [(3,[5,6,12],[],[I 0,I 0,I 0])] (own:=[3])) ?_;have hl:n=L.length:=by{obtain⟨_,_,e,_⟩:=r;exact e};have Q:(L.map sg).length=n:=by{simp[hl]};refine⟨fun V hp=>∃(k a:J) (b:Z),V=[I (a:Z),I b,I (k:Z)]/\k<=n/\h.le hp/\a+chg b ((L.map sg).drop k)=chg 0 (L.map sg),fun V _=>n-(iAt V 2).toNat,⟨0,0,0,rfl,o,B8 _,gz0⟩,?_⟩;rintro M l H hp ⟨k,a,b,C,G,f,d⟩;obtain⟨rfl,rfl,rfl⟩:=C;refine B9 (fun t=>?_) (fun p=>?_);{have g:k<n:=o;obtain⟨O,s,w,rfl,B,u,wv,hs⟩:=(r.mono f).at g;refine⟨_,rfl,o,o,_,_,_,u,?_⟩;have D:w∈L:=List.mem_of_getElem? B;refine hsg hp s w _ f D wv ?_;intro N j;have m:(L.map sg).drop k=sg w::(L.map sg).drop (k+1):=by{rw[List.drop_eq_getElem_cons o];grind};have R:=hsc w;generalize sg w=sw at *;have F:=Zu (L.map sg) 0;have z:C4 ((k:Z)+1)=((k+1:J):Z):=by{rw[C0]<;>omega};have q:C4 (0-sw)= -sw:=by{rw[C0]<;>omega};have E:C4 ((a:Z)+1)=((a+1:J):Z):=by{rw[C0]<;>omega};have dec:∀x y:Z,n-(iAt [I x,I y,I ((k+1:J):Z)] 2).toNat<n-(iAt [I (a:Z),I l,I (k:Z)] 2).toNat:=fun x y=>by{show n-((k+1:J):Z).toNat<n-(k:Z).toNat;omega};rw[m,chg]at d;refine⟨_,rfl,?_⟩;rw[z,q,E];refine D4 (fun e=>?_) (fun e=>D4 (fun i=>?_) (fun i=>?_));{rw[iP e]at d;exact⟨⟨k+1,a,l,rfl,o,B6 f j,d⟩,dec _ _⟩};{rw[iN e,iP i]at d;exact⟨⟨k+1,a+1,sw,rfl,o,B6 f j,o⟩,dec _ _⟩};·rw[iN e,iN i]at d;exact⟨⟨k+1,a,sw,rfl,o,B6 f j,o⟩,dec _ _⟩};·rw[eE o]at d;simp only[chg,dJ]at d;grind
def Yc{a:QV}{q:Y}{p:J}{L:eF (eF Z)}(r:ChV h A n L)(i:RQ h a q)(hb:ChB M L)(hn:n<=1000)(hq:Sz p q)(hT:446*(M+1)+8*(p+1)<=40000000)(hK:∀h',h.le h'->K (I (chg 0 (Vs L q):J)) h'): aO prog 190 #[.slice A n c,.agg #[.bool a.s,.slice a.A a.n a.c,.bool a.s2,.slice a.A2 a.n2 a.c2,I 0]] h K:=Ja (sg:=fun w=>sgR (pe w q)) r hn (fun w=>J9 (pe w q)) (fun j s w K' d b wv f=>by have e:=hb.len w b;have k:=wv.1;have g:(s.n+2)*(p+1)<=8*(p+1):=aC _ o;exact A6g wv ⟨i.num.mono d,i.den.mono d⟩ o (hb.bits w b) hq o f) hK
def B6c(z:Z):z.sign=1\/z.sign= -1\/z.sign=0:=by grind
def A3k{neg:Bool}{b0 b2:Bool}{A0 A2:Option aI}{n0 c0 n2 c2:J}(r:WV h A n w)(hw:w≠[])(hn:n<=1000)(hK:K (I (sI neg w)) h):
 aO prog 252 #[.agg #[.bool b0,.slice A0 n0 c0,.bool b2,.slice A2 n2 c2,I (if neg then -1 else 1)],.slice A n c] h K:=by
 refine(fnk func252 (own:=[2])) ?_;have a:=r.1;refine D4 (fun e=>by cases neg<;>simp at e) (fun _=>?_);refine Di r hn fun s A' f g d=>⟨_,_,_,_,rfl,Cw d ⟨_,rfl,?_⟩⟩;have b:cf w (n-1)=lc w:=by rw[a];rfl
 rw[b];have i:=B6c (lc w);have j:C4 (0-(lc w).sign)= -(lc w).sign:=by rw[C0]<;>omega
 cases neg with
 |false=>
  assumption
 |true=>
  refine B9 (fun _=>Nx hn ⟨_,rfl,D4 (fun e=>?_) (fun e=>?_)⟩) (fun z=>by simp at z)
  ·have:sI true w= -(lc w).sign:=by
    unfold sI;grind
   grind
  ·have:sI true w=(lc w).sign:=by
    unfold sI;grind
   grind
def Iz{neg:Bool}{b0 b2:Bool}{A0 A2:Option aI}{n0 c0 n2 c2:J}{L:eF (eF Z)}(r:ChV h A n L)(hb:ChB M L)(hn:n<=1000)(hK:∀h',h.le h'->K (I (chg 0 (VI neg L):J)) h'): aO prog 190 #[.slice A n c,.agg #[.bool b0,.slice A0 n0 c0,.bool b2,.slice A2 n2 c2,I (if neg then -1 else 1)]] h K:=Ja (sg:=sI neg) r hn (B6f neg) (fun d s w K' e a wv b=>A3k wv (hb.nz w a).2 (by have:=hb.len w a;have:=wv.1;omega) (b _ (B8 _))) hK
def A0w(gl:Gtz h)(r:WV h A n S)(nS:Nz S)(S0:S≠[])(hn:n<=6)(hc:n<=c)(bS:WB M S)(hM:3600*(M+11)<=40000000) (hK:∀t h',h.le h'->Chn S t->ChB (M+10) (S::t)->(S::t).length<=7->(∀P x,BR P x->abR (pe (Ee S t) x)<=2^(6*A5q M P)*(abR (pe S x)+abR (pd S x)))->K (I ((chg 0 (VI true (S::t)):Z)-chg 0 (VI false (S::t)))) h'):aO prog 114 #[.slice A n c,.agg #[.bool false,.slice none 0 0,.bool false,.slice none 0 0,I (-1)],.agg #[.bool false,.slice none 0 0,.bool false,.slice none 0 0,I 1]] h K:=by refine(fnk func114 (os:=[(4,[0,1,3,4,2,5,6,7])]) (own:=[4,5])) ?_;refine(fnk func188 (own:=[2,3])) ?_;refine D8 (fun _=>⟨_,rfl,?_⟩) (fun e=>absurd e dc);refine Gq ?_;refine Sp gl r nS S0 hn hc bS hM ?_;intro t A1 l c1 s k f p a b j;refine⟨_,_,_,rfl,Iz (neg:=true) f a o ?_⟩;intro q d;refine⟨_,rfl,d,Iz (neg:=false) (f.mono d) a o ?_⟩;intro u g;refine⟨_,rfl,g,?_⟩;have hl:l=(S::t).length:=by{obtain⟨_,_,e,_⟩:=f;exact e};have i:=Zu (VI true (S::t)) 0;have m:=Zu (VI false (S::t)) 0;simp only[VI,bJ]at i m;rw[C0 (by unfold VI;omega) (by unfold VI;omega)];exact hK t _ (B6 k (B6 d g)) b a o j
end
end Go.Proofs.YteppbhimdjmabaaGreatDoor
namespace Go.Proofs.YteppbhimdjmabaaGreatDoor
set_option maxRecDepth 20000
section
variable {S:eF Z} {m p:J} {x y:Y}
def B49:∀(w:eF Z) (k:J),k+w.length<=8->B1b m w->B1b (m+3) (Xv k w):=by
 intro w
 induction w with
 |nil=>intro k _ _ z a;cases a
 |cons c w ih=>
  intro k d h z a;rw[aS]at d;rcases List.mem_cons.1 a with rfl|a
  ·have b:=h c bI;rw[Int.natAbs_mul,Int.natAbs_natCast,Nat.pow_add];have:=aY b (show k<=2^3 from o);exact this
  ·exact ih (k+1) o (fun z a=>h z (bF _ a)) z a
def C7x(h:B1b m S)(h4:S.length<=6):B1b (m+3) (dl S):=by
 cases S with
 |nil=>intro z a;cases a
 |cons c w=>exact B49 w 1 gz0 fun z a=>h z (bF _ a)
def C5g(h4:S.length<=6):(dl S).length<=5:=by
 cases S with
 |nil=>simp[dl]
 |cons c w=>show(Xv 1 w).length<=5;rw[A20];grind
def C14(h:B1b m S)(h4:S.length<=6)(hx:BR p x)(hy:BR p y):abR (pd S x-pd S y)<=2^(m+6*(p+1))*abR (x-y)*8:=by rw[<- Na,<- Na];have c:=B8m (C7x h h4) hx hy;have a:=C5g h4;have b:m+3+(dl S).length*(p+1)<=m+6*(p+1)+3:=by{have:=aC (p+1) a;omega};have h4:=Rc b;rw[Jh (m+6*(p+1)) 3]at h4;have:=aH (show 0<=(2:Y)^(m+6*(p+1))*2^3-2^(m+3+(dl S).length*(p+1))from gz0) (J3 (x-y));grind
def A24(A m p:J):J:=A+(m+6*(p+1))+6
def A68{w:eF Z}{t:eF (eF Z)}(q:Sq w S t)(h:B1b m S)(h4:S.length<=6){A:J}(sep:1<=2^A*(abR (pe S x)+abR (pd S x))) (hx:BR p x) (hy:BR p y) (hxy:x<y) (hs:2^A24 A m p*(y-x)<=1): chg 0 (Vs (S::t) x)<=chg 0 (Vs (S::t) y)+1/\(pe S x=0->chg 0 (Vs (S::t) x)<=chg 0 (Vs (S::t) y)):=by have g:∀z,x<=z->z<=y->BR p z:=fun z b a=>by{obtain⟨k,C⟩:=Qc.1 hx;obtain⟨F,G⟩:=Qc.1 hy;exact Qc.2 ⟨gz0,gz0⟩};unfold A24 at hs;rw[Jh,Jh]at hs;have d:=Ao A;have j:=Ao (m+6*(p+1));have i:∀z,x<=z->z<=y->abR (pe S x-pe S z)<=2^(m+6*(p+1))*(y-x):=fun z b a=>by{have u:=B8m h hx (g z b a);have B:=Rc (show m+S.length*(p+1)<=m+6*(p+1) by have:=aC (p+1) h4;omega);have e:abR (x-z)<=y-x:=by{unfold abR;grind};have r:=V3 (aN (Ao _)) B (J3 (x-z)) e;grind};have c:∀z,x<=z->z<=y->abR (pd S x-pd S z)<=2^(m+6*(p+1))*(y-x)*8:=fun z b a=>by{have u:=C14 h h4 hx (g z b a);have e:abR (x-z)<=y-x:=by{unfold abR;grind};have r:=V3 (aN j) (show(2:Y)^(m+6*(p+1))<=2^(m+6*(p+1))from gz0) (J3 (x-z)) e;grind};generalize (2:Y)^A=E at *;generalize (2:Y)^(m+6*(p+1))=L at *;obtain⟨ω,hω⟩:∃ω,ω=L*(y-x):=⟨_,rfl⟩;have ω0:0<ω:=by{rw[hω];exact cP j gz0};have hEω:64*(E*ω)<=1:=by{rw[hω];grind};by_cases D:abR (pd S x)<=abR (pe S x);{have big:16*ω<abR (pe S x):=by{by_cases f:16*ω<abR (pe S x);{exact f};·have:=aH (aN d) (show 0<=16*ω-abR (pe S x)from gz0);have:=aH (aN d) (show 0<=abR (pe S x)-abR (pd S x)from gz0);grind};have n:Aw x y (pe S):=⟨ω,ω0,fun z b a=>by have k:=Me (pe S x-pe S z) (pe S z);grind⟩;have:=Xc q.self (aN hxy) n;omega};·have big:16*ω<abR (pd S x):=by{by_cases f:16*ω<abR (pd S x);{exact f};·have:=aH (aN d) (show 0<=16*ω-abR (pd S x)from gz0);have:=aH (aN d) (show 0<=abR (pd S x)-abR (pe S x)from gz0);grind};obtain⟨σ,hσ,h0⟩:∃σ:Z,(σ=1\/σ= -1)/\abR (pd S x)=(σ:Y)*pd S x:=by{by_cases H:pd S x<0;{exact⟨-1,.inr rfl,by unfold abR;grind⟩};·exact⟨1,.inl rfl,by unfold abR;grind⟩};have l:∀z,x<=z->z<=y->ω<=(σ:Y)*pd S z:=fun z b a=>by{have:=c z b a;obtain⟨k,C⟩:=Qc.1 this;rcases hσ with rfl|rfl;{grind};grind};have D:=B4k q.self hxy hσ ω0 l;refine⟨gz0,fun z=>?_⟩;have:sgR (pe S x)=0:=U9.2 z;grind
end
section
variable {w S:eF Z} {t:eF (eF Z)} {x y:Y} {P e f k m:J}
def Sq.down(f:SqF w S)(q:Sq w S t)(h:x<=y):Vn (S::t) y<=Vn (S::t) x:=by
 cases t with
 |nil=>
  obtain⟨s,hs⟩:=q.con rfl;have:Vs [S] x=Vs [S] y:=by simp[Vs,hs]
  unfold Vn;grind
 |cons Q t'=>
  obtain⟨k,A,g⟩:=Rk q f.nz f.ne f.cop;obtain⟨η,D,i⟩:=q.cell (a:=x) (b:=y) (Aw.const A g);refine C52 (a:=x) (b:=y) (R:=fun a b=>Vn (S::Q::t') b<=Vn (S::Q::t') a) D (fun _ _ _=>aJ _) (fun u v B m C n=>?_) (fun _ _ _ _ _ _ _ r d=>Nat.le_trans d r) h;unfold Vn;rcases i u v B m C n with⟨_,_,e⟩|⟨e,W,j,E,F,c⟩;·omega
  ·have G:sgR (pe S v)= -e->sgR (pe S u)= -e:=by
    rcases j with rfl|rfl
    ·intro z;have l:=T8.1 z;have p:=R4.1 c;exact T8.2 gz0
    ·intro z;have l:=R4.1 z;have p:=T8.1 c;exact R4.2 gz0
   grind
def mid(a b:Y):Y:=(a+b)*(1/2)
def Dg(P e:J)(x:Y):Prop:=(∃z:Z,x*2^e=(z:Y))/\BR P x
def Dg.up(h:Dg P e x):Dg P (e+1) x:=by obtain⟨⟨z,a⟩,b⟩:=h;refine⟨⟨z*2,?_⟩,b⟩;grind
def Dg.le(h:Dg P e x)(k:e<=f):Dg P f x:=by
 obtain⟨d,rfl⟩:=cR k
 induction d with
 |zero=>exact h
 |succ d ih=>exact(ih o).up
def Dg.half(h:Dg P e x)(k:Dg P e y):Dg P (e+1) (mid x y):=by obtain⟨⟨z,l⟩,b⟩:=h;obtain⟨⟨d,a⟩,c⟩:=k;refine⟨⟨z+d,?_⟩,?_⟩;{unfold mid;grind};·obtain⟨f,i⟩:=Qc.1 b;obtain⟨j,g⟩:=Qc.1 c;unfold mid;exact Qc.2 ⟨gz0,gz0⟩
def Dg.sz(h:Dg P e x):Sz (P+e+1) x:=by obtain⟨⟨z,a⟩,b⟩:=h;have p:=Ao e;have d:x=aK z ((2^e:J):Z):=by{rw[aT,Vu,<- a,cX,bK,dB _ gz0,Rat.mul_one]};obtain⟨g,l⟩:=Qc.1 b;have f:(z:Y)<=(((2^(P+e):J):Z):Y):=by{rw[Vu,Jh,<- a];have:=aH (show 0<=2^P-x from gz0) (aN p);grind};have c:((-((2^(P+e):J):Z):Z):Y)<=(z:Y):=by{rw[cK,Vu,Jh,<- a];have:=aH (show 0<=x+2^P from gz0) (aN p);grind};have k:=Rat.intCast_le_intCast.1 f;have j:=Rat.intCast_le_intCast.1 c;have i:2^e<2^(P+e+1):=Nat.pow_lt_pow_right dc o;have m:0<2^e:=dM dc;rw[d];refine N4 o ?_ ?_;{unfold ZB;omega};assumption
def Dg.pow(h:k<=P):Dg P 0 (2^k)/\Dg P 0 (-2^k):=by have a:=Rc h;have b:=Ao k;refine⟨⟨⟨((2^k:J):Z),?_⟩,?_⟩,⟨⟨-((2^k:J):Z),?_⟩,?_⟩⟩;{grind};{exact Qc.2 ⟨gz0,gz0⟩};{grind};·exact Qc.2 ⟨gz0,gz0⟩
structure LvI (P k e:J) (x y:Y):Prop where
 a:Dg P e x
 b:Dg P e y
 w:(y-x)*2^e=2^(k+1)
def LvI.lt(l:LvI P k e x y):x<y:=by have a:=Ao (k+1);have b:=l.w;by_cases h:x<y;{exact h};·exfalso;have:=aH (show 0<=x-y from gz0) (aN (Ao e));grind
def LvI.left(l:LvI P k e x y):LvI P k (e+1) x (mid x y):=⟨l.a.up,l.a.half l.b,by have:=l.w;unfold mid;grind⟩
def LvI.right(l:LvI P k e x y):LvI P k (e+1) (mid x y) y:=⟨l.a.half l.b,l.b.up,by have:=l.w;unfold mid;grind⟩
def LvI.start(h:k<=P):LvI P k 0 (-2^k) (2^k):=⟨(Dg.pow h).2,(Dg.pow h).1,gz0⟩
def LvI.mids(l:LvI P k e x y):x<mid x y/\mid x y<y:=⟨l.left.lt,l.right.lt⟩
def LvI.small(q:Sq w S t)(hb:B1b m S)(h4:S.length<=6){A:J}(sep:∀x,BR P x->1<=2^A*(abR (pe S x)+abR (pd S x)))(l:LvI P k e x y)(hk:k<=P)(he:A24 A m P+P+1<=e): Vn (S::t) x<=Vn (S::t) y+1/\(pe S x=0->Vn (S::t) x<=Vn (S::t) y):=by refine A68 q hb h4 (sep x l.a.2) l.a.2 l.b.2 l.lt ?_;obtain⟨d,rfl⟩:=cR (show A24 A m P+(k+1)<=e from o);have h:=l.w;rw[Jh,Jh]at h;have c:=Ao (k+1);have n:=A44 d;have f:=Ao (A24 A m P);have lt:=l.lt;generalize (2:Y)^A24 A m P=C at *;generalize (2:Y)^(k+1)=K at *;generalize (2:Y)^d=D at *;have g:0<(y-x)*C:=cP gz0 f;have j:=aH (aN (cP g c)) (show 0<=D-1 from gz0);have i:((y-x)*C)*K<=1*K:=gz0;have:=Rat.le_of_mul_le_mul_right i c;grind
def C4z{α β:Type}(Q:J->α->β->Prop):∃mu:α->β->J,∀L h,(∃e,Q e L h)->Q (mu L h) L h/\∀e,Q e L h->mu L h<=e:=by
 have key:∀p:J->Prop,∃m,(∃e,p e)->p m/\∀e,p e->m<=e:=by
  intro p;by_cases a:∃e,p e
  ·obtain⟨e,b⟩:=a
   induction e using Nat.strongRecOn with
   |ind e ih=>
    grind
  simp_all
 exact⟨fun L h=>Classical.choose (key fun e=>Q e L h),fun L h=>Classical.choose_spec (key fun e=>Q e L h)⟩
def A81{Q:eF Z}{B:J}(f:SqF w S)(q:Sq w S (Q::t))(h:abR (pe (Ee S (Q::t)) x)<=2^B*(abR (pe S x)+abR (pd S x))):1<=2^B*(abR (pe S x)+abR (pd S x)):=by
 obtain⟨k,i,d⟩:=Rk q f.nz f.ne f.cop
 have e:∃z:Z,k=(z:Y):=by
  have:=d 0;generalize Ee S (Q::t)=L at this
  cases L with
  |nil=>exact⟨0,this.symm⟩
  |cons c L=>exact⟨c,by rw[<- this];show(c:Y)+0*pe L 0=c;grind⟩
 obtain⟨z,rfl⟩:=e;have b:z≠0:=fun e=>i (by simp_all)
 have:(1:Y)<=abR (z:Y):=by
  unfold abR;rcases dF b with g|g
  ·have a:=Rat.intCast_le_intCast.2 (show 1 <= -z from o);grind
  ·have a:=Rat.intCast_le_intCast.2 (show 1<=z from o);grind
 grind
inductive Tr (V:Y->J) (R:Y->Prop):J->Y->Y->J->Prop
 | out {d p q}:V p=V q->Tr V R d p q 0
 | one {d p q}:V p=V q+1->(R q\/¬ R p)->Tr V R d p q 1
 | cut {d p q k l}:V q<V p->¬ (V p=V q+1/\(R q\/¬ R p))->Tr V R d p (mid p q) k->Tr V R d (mid p q) q l->Tr V R (d+1) p q (k+l)
def Tr.ex(q:Sq w S t)(f:SqF w S)(hb:B1b m S)(h4:S.length<=6){A E:J}(sep:∀x,BR P x->1<=2^A*(abR (pe S x)+abR (pd S x)))(hk:k<=P)(hE:A24 A m P+P+1<=E):
 ∀(d e:J) (x y:Y),e+d=E->LvI P k e x y->Tr (Vn (S::t)) (fun x=>pe S x=0) d x y (Vn (S::t) x-Vn (S::t) y):=by
 intro d
 induction d with
 |zero=>
  intro e x y a l;obtain⟨n,i⟩:=l.small q hb h4 sep hk o;have g:=q.down f (aN l.lt);rcases(show Vn (S::t) x=Vn (S::t) y\/Vn (S::t) x=Vn (S::t) y+1 from o)with h|h;·rw[h,dX];exact .out h
  ·rw[h,dR];exact .one h (.inr fun z=>gz0)
 |succ d ih=>
  intro e x y a l;have j:=q.down f (aN l.mids.1);have b:=q.down f (aN l.mids.2);rcases(show Vn (S::t) x=Vn (S::t) y\/Vn (S::t) y<Vn (S::t) x from o)with h|h;·rw[h,dX];exact .out h
  ·by_cases c:Vn (S::t) x=Vn (S::t) y+1/\(pe S y=0\/¬pe S x=0);·rw[c.1,dR];exact .one c.1 c.2
   ·have:=Tr.cut h c (ih (e+1) x (mid x y) o l.left) (ih (e+1) (mid x y) y o l.right);grind
end
def RWr(w:J):aF->HV->(J->Y)->Prop:=fun h s f=>s.n=w/\w<=s.c/\bG NQr h s.A w f
def C51(w:J):Mon (RWr w):=fun _ _ _ _ l i=>⟨i.1,i.2.1,i.2.2.mono O6 l⟩
def RowsV.of{h:aF}{A:Option aI}{n w:J}{M:J->J->Y}(r:bG (RWr w) h A n M):RowsV h A n w M:=r
section
variable {h:aF} {K:VP} {A:Option aI} {n cap m w:J} {r c:Z} {ls:J->eF UInt8} {M:J->J->Y}
end
section
variable {α:Type} [E:Enc α]
def OwnSl.app{P:Program}{t e ty:cF}{z:aX}{bytes:J}(st:cZ P t e z E.default.size bytes){h g o:aF}{A:Option aI}{c:J}{xs:eF α}(s:Sep h g o)(w:bH o e A c xs){B:Option aI}{d m n:J}{ys:eF α}(hxn:n=xs.length)(hm:m=ys.length)(hne:ys≠[])(sy:SlF h B ys)(hb:(2*(xs.length+ys.length)+192)*bytes<=281474976710656)(hn:xs.length+ys.length<=9223372036854775807){K:VP}
 (x:∀A' c' h' g' o',g.le g'->Sep h' g' o'->bH o' e A' c' (xs++ys)->(∀k u,o k=some u->A≠some ⟨k,0,none⟩->o' k=some u/\A'≠some ⟨k,0,none⟩)->K (.slice A' (xs.length+m) c') h'):
 wpH P (cL #[t,t] ty #[.slice A n c,.slice B m d]) K h:=by
 subst hxn;obtain⟨gb,p,l⟩:=w.priv s;refine R9 st p hm sy hb hn ?_;intro A' c' h' g' S L;rw[bY,<- hm]
 have j:∀k u,h k=some u->A≠some ⟨k,0,none⟩->g' k=some u:=by
  intro k u a hne;exact S k u (l k u a hne)
 have H:∀k u,g k=some u->A≠some ⟨k,0,none⟩:=by
  intro k u a r;rcases w.2 with⟨_,h0⟩|⟨i,f,b,C,_⟩;·grind
  ·rw[r]at b;simp only[aV,bL,and_true]at b;subst b;rw[s.dis k _ C]at a;cases a
 rcases L.2.2 with⟨Q,_⟩|⟨i,f,b,C,D,X,R⟩
 ·exfalso;have:=L.2.1;simp_all
 ·subst b;let o':aF:=fun k=>if k=i then some (.cells (dK f) e)else if A=some ⟨k,0,none⟩then none else o k;have N:o' i=some (.cells (dK f) e):=gz0;have ok:∀k,k≠i->A≠some ⟨k,0,none⟩->o' k=o k:=fun k O G=>by grind
  let g2:aF:=fun k=>match o' k with|some _=>none|none=>h' k
  have V:∀k u,o' k=some u->g2 k=none:=fun k u a=>by grind
  have W:∀k,o' k=none->g2 k=h' k:=fun k a=>by grind
  have F:∀k u,k≠i->g' k=some u->h' k=some u:=fun k u O a=>by rw[D,C1 _ _ O];exact a
  have M:∀k u,o k=some u->A≠some ⟨k,0,none⟩->k≠i:=by
   rintro k u a G rfl;have:=j k u (s.own k u a) G;grind
  refine x _ c' h' g2 o' (fun k u a=>?_) ⟨fun k u a=>?_,fun k a=>(W k a).symm,V⟩ ⟨L.2.1,.inr ⟨i,f,rfl,N,X,R⟩⟩ (fun k u a G=>?_)
  ·have T:o k=none:=by
    cases ho:o k with
    |none=>rfl
    |some y=>rw[s.dis k y ho]at a;cases a
   have r:=H k u a;have e3:=j k u (s.le k u a) r;grind
  ·by_cases q:k=i
   ·subst q;rw[N]at a;cases a;rw[D,C3]
   ·by_cases r:A=some ⟨k,0,none⟩;·grind
    ·rw[ok k q r]at a;exact F k u q (j k u (s.own k u a) r)
  grind
end
def T1(M:J->J->Y)(w:J):J->eF UInt8:=fun k=>E7 (M (k/w) (k%w))
section
variable {h:aF} {K:VP} {A:Option aI} {n cap m w:J} {M:J->J->Y}
end
abbrev ecE(M:J->J->Y)(n c:J):ES:=Xu n ⟨M,[],1⟩ c
def Dw(M:J->J->Y)(n:J):∀c,(ecE M n c).cs.length<=c/\(ecE M n c).cs.length<=n:=by
 intro c
 induction c with
 |zero=>exact⟨aJ _,cC _⟩
 |succ c ih=>
  show(Iv n c (ecE M n c)).cs.length<=c+1/\(Iv n c (ecE M n c)).cs.length<=n;unfold Iv;grind
abbrev qc(w:QV):eF aX:=[.bool w.s,.slice w.A w.n w.c,.bool w.s2,.slice w.A2 w.n2 w.c2]
def B2d{w:QV}{a b:Bool}{A B:Option aI}{n c n' c':J}{l l':eF aX}(h:(.bool a:aX) :: .slice A n c :: .bool b :: .slice B n' c'::l= .bool w.s :: .slice w.A w.n w.c :: .bool w.s2 :: .slice w.A2 w.n2 w.c2::l'):(⟨a,A,n,c,b,B,n',c'⟩:QV)=w/\l=l':=by simp_all
section
variable {g o h11 h14 h15 hp2:aF} {bo n w r c i B:J} {rb:J->J} {R:J->J->Y} {x:QV} {q:Y} {Invv Invv3:LP} {muv muv3:eF aX->aF->J}
end
section
variable {g o h5 h9 hp2:aF} {bo n w r c B k:J} {rb:J->J} {R:J->J->Y} {q:Y} {Invv:LP} {muv:eF aX->aF->J} {pA:Option aI} {pc:J} {wd wd0:QV} {l:eF J}
end
section
variable {h:aF} {K:VP} {A:Option aI} {n cap m w:J} {M:J->J->Y}
end
section
variable {h:aF} {K:VP} {A B:Option aI} {n m a b:J} {r c r2 c2:Z} {ls ls2:J->eF UInt8}
def SlF.iat{xs:eF Z}(s:SlF h A xs){i:J}(hi:i<xs.length):∃x,A=some x/\h.cell? (aM x (i*1))=some (I xs[i]):=by obtain⟨x,e,a⟩:=SlF.at dc s hi;have:=a 0 _ rfl;rw[Ju]at this;exact⟨x,e,this⟩
structure Small (r c:Z) (n:J) (ls:J->eF UInt8) (k d:Z):Prop where
 hr:r<=k
 hc:c<=k
 hn:(n:Z)<=k*k+2
 hl:∀ i,i<n->((ls i).length:Z)<=d
end
def A8s(ls:eF (eF UInt8)):(ls.flatMap fun l=>[aL (bs l)])=ls.map fun l=>aL (bs l):=by
 induction ls with
 |nil=>rfl
 |cons x l ih=>rw[List.flatMap_cons,ih];rfl
def B25{h:aF}{A:Option aI}{ls:eF (eF UInt8)}(s:SlV h A (ls.map fun l=>aL (bs l))):bG SSr h A ls.length (fun i=>ls.getD i []):=by refine⟨ls,?_,rfl,fun i a=>⟨ls[i],bO a,?_⟩⟩;{show SlV h A (ls.flatMap fun l=>[aL (bs l)]);rw[A8s];exact s};·show ls[i]=ls.getD i [];simp[a]
def aw1:(elE (fun i=>([2,4,1,2]:eF Y).getD i 0) 2 2 2).cs=[0]:=by decide +kernel
def aw2:∀k,k<4->C2f (fun i=>([2,4,1,2]:eF Y).getD i 0) 2 2 k=([1,2,0,0]:eF Y).getD k 0:=by decide +kernel
def A6z(R:J->J->Y)(cs:eF J)(c:J):J->J->Y
 |0=>fun j=>if j=c then 1 else 0
 |k+1=>fun j=>if j=cs.getD k 0 then-R k c else A6z R cs c k j
def Rn(cs:eF J):J->eF J
 |0=>[]
 |c+1=>if c∈cs then Rn cs c else Rn cs c++[c]
def A6u(cs:eF J):J->J
 |0=>0
 |c+1=>if c∈cs then A6u cs c+1 else A6u cs c
def B0l(cs:eF J):∀c,(Rn cs c).length+A6u cs c=c:=by
 intro c
 induction c with
 |zero=>rfl
 |succ c ih=>
  show(if c∈cs then Rn cs c else Rn cs c++[c]).length+(if c∈cs then A6u cs c+1 else A6u cs c)=c+1;split;·omega
  ·rw[bY];simp only[aS,List.length_nil];omega
def A4p(cs:eF J):∀c,∀x∈Rn cs c,x<c/\x∉cs:=by
 intro c
 induction c with
 |zero=>intro x a;exact absurd a (by simp[Rn])
 |succ c ih=>
  intro x a;unfold Rn at a;split at a;·have:=ih x a;exact⟨o,this.2⟩
  ·rename_i b;rcases List.mem_append.1 a with a|a;·have:=ih x a;exact⟨o,this.2⟩
   ·simp only[List.mem_cons,List.not_mem_nil,or_false]at a;subst a;exact⟨o,b⟩
def B7v{cs:eF J}(h:cs.Pairwise (· < ·)):∀c,A6u cs c<=cs.length/\(∀i (hi:i<cs.length),i<A6u cs c->cs[i]<c)/\(∀i (hi:i<cs.length),A6u cs c<=i->c<=cs[i]):=by
 intro c
 induction c with
 |zero=>exact⟨cC _,fun i hi h=>absurd h (Nat.not_lt_zero _),fun _ _ _=>cC _⟩
 |succ c ih=>
  obtain⟨m,d,j⟩:=ih;have pw:=List.pairwise_iff_getElem.1 h;unfold A6u;split
  ·rename_i f;obtain⟨k,b,e⟩:=List.getElem_of_mem f;have:A6u cs c<=k:=Nat.not_lt.1 fun a=>by have:=d k b a;omega
   have n:k=A6u cs c:=Nat.le_antisymm (Nat.not_lt.1 fun a=>by
    have g:A6u cs c<cs.length:=o;have:=pw (A6u cs c) k g b a;have:=j (A6u cs c) g (aJ _);omega) this;refine⟨o,fun i hi a=>?_,fun i hi a=>?_⟩
   ·by_cases l:i=k;·subst l;omega
    ·have:=d i hi o;omega
   ·have:=pw k i b hi o;omega
  ·rename_i f;refine⟨m,fun i hi a=>by have:=d i hi a;omega,fun i hi a=>?_⟩;have:=j i hi a;have:cs[i]≠c:=fun e=>f (e▸cT hi);omega
def B6y{cs:eF J}{c:J}(h:Asc cs c):A6u cs c=cs.length:=by obtain⟨b,e,d⟩:=B7v h.asc c;refine Nat.le_antisymm b (Nat.not_lt.1 fun a=>?_);have:=d _ a (aJ _);have:=h.lt _ (cT a);omega
def B3r{cs:eF J}{c:J}(h:Asc cs c):(Rn cs c).length=c-cs.length:=by have:=B0l cs c;rw[B6y h]at this;omega
def C7p(R:J->J->Y)(cs:eF J)(cols:J):J->J->Y:=fun i=>A6z R cs ((Rn cs cols).getD i 0) cs.length
section
variable {h:aF} {K:VP} {A B:Option aI} {n cap m:J} {r c:Z} {ls:J->eF UInt8}
def B3e{E:J->Y}{rows cols:J}(hs:∀i,i<rows*cols->Sz m (E i)):∀i j,i<rows->j<cols->Sz m (mtx E cols i j):=fun _ _ b a=>hs _ (V5 b a)
def C1o{M:J->J->Y}{n w c nq:J}(hs:∀i j,i<n->j<w->Sz m (M i j))(hm:1<=m)(hc:c<=w)(hnq:(ecE M n c).cs.length<=nq){b:J}(hb:7^nq*m<=b):(∀i j,i<n->j<w->Sz b ((ecE M n c).R i j))/\Sz b (ecE M n c).det:=by have z:SzE n w m ⟨M,[],1⟩:=⟨fun i j d a=>by simpa using hs i j d a,by simpa using (⟨ZB.one hm,ZB.one hm⟩:Sz m 1),cC _⟩;have y:=z.run hm c hc;have e:7^(ecE M n c).cs.length*m<=7^nq*m:=aC _ (Nat.pow_le_pow_right dc hnq);exact⟨fun i j d a=>(y.R i j d a).mono (by show 7^(ecE M n c).cs.length*m<=b;omega),y.det.mono (by show 7^(ecE M n c).cs.length*m<=b;omega)⟩
end
def C1i(cs:eF J){i:J}(hi:i<cs.length):(zs cs)[i]'(by rw[bJ];exact hi)=((cs.getD i 0:J):Z):=by rw[List.getElem_map,cO,bO hi];rfl
def C4o{h:aF}{A:Option aI}{cs:eF J}(s:SlF h A (zs cs)){i:J}(hi:i<cs.length):∃x,A=some x/\h.cell? (aM x (i*1))=some (I ((cs.getD i 0:J):Z)):=by obtain⟨x,e,a⟩:=SlF.iat s (i:=i) (by rw[bJ];exact hi);rw[C1i cs hi]at a;exact⟨x,e,a⟩
def C1j{cs:eF J}{c:J}(h:Asc cs c){i:J}(hi:i<cs.length):cs.getD i 0<c:=by rw[cO,bO hi];exact h.lt _ (cT hi)
section
variable {h:aF} {K:VP} {A:Option aI} {n cap m w:J} {r c:Z} {ls:J->eF UInt8} {M:J->J->Y}
end
section
variable {α β:Type} {R:aF->α->β->Prop} {g:aF}
def Row.app{xs ys:eF α}{f:J->β}{p q:J}(hp:xs.length=p)(r:Row R g xs p f)(r2:Row R g ys q (fun j=>f (p+j))):Row R g (xs++ys) (p+q) f:=fun i b=>by by_cases h:i<p;{obtain⟨w,e,x⟩:=r i h;exact⟨w,by rw[dO o];exact e,x⟩};·obtain⟨w,e,x⟩:=r2 (i-p) o;refine⟨w,by rw[List.getElem?_append_right o,hp];exact e,?_⟩;have a:p+(i-p)=i:=o;show R g w (f i);rw[<- a];exact x
end
section
variable {h:aF} {K:VP} {A:Option aI} {n cap m:J} {r c:Z} {ls:J->eF UInt8}
def Gw{z:Z}(hz: -9223372036854775808<=z/\z<=9223372036854775807)(hK:∀w h',h.le h'->RQ h' w (z:Y)->K w.v h'):aO prog 180 #[I z] h K:=by refine(fnk func180 (own:=[2])) ?_;exact O0 hz.1 hz.2 fun b A1 a c1 h' l i=>⟨_,_,_,_,rfl,hK _ h' l (A0u i)⟩
end
def mn(p q:Y):Y:=if q<p then q else p
def mx(p q:Y):Y:=if q>p then q else p
section
variable {h h':aF} {K:VP} {A B:Option aI} {n c n' c':J} {s s':Bool} {x y z:Z} {m:J}
end
def C69{x:eF UInt8}{k:J}(hl:x.length<=k)(hk:1<=k)(hk2:k<=140737488351232):Tx (4*k) x:=⟨o,C04 hl hk⟩
def Tx.mono{m n:J}{x:eF UInt8}(t:Tx m x)(h:m<=n):Tx n x:=⟨t.len,t.sz.mono h⟩
abbrev ivT(lo hi:eF UInt8):aX:=.agg #[.string (bs lo),.string (bs hi)]
abbrev ivS(p q:Y):aX:=ivT (E7 p) (E7 q)
section
variable {h:aF} {K:VP} {m:J} {lo hi x:eF UInt8} {p q r s:Y}
def C1h:Sz 2 (1/2):=⟨by unfold ZB;decide +kernel,by unfold ZB;decide +kernel⟩
def B32:Sz 1 1:=⟨by unfold ZB;decide +kernel,by unfold ZB;decide +kernel⟩
abbrev ivE:aX:=.agg #[.string (bs []),.string (bs [])]
variable {lo2 hi2:eF UInt8}
end
section
set_option maxRecDepth 100000
variable {h:aF} {K:VP}
def C2x:cZ prog 209 213 (.agg #[.bool false,Sl none 0 0,.bool false,Sl none 0 0,.bool false,Sl none 0 0,.bool false,Sl none 0 0]) 8 128:=⟨by kernel_rfl,by kernel_rfl,rfl,dc⟩
def B61:prog.cellsOf 294=2/\(prog.info? 294).isSome=true:=⟨by kernel_rfl,by kernel_rfl⟩
def B1w:(prog.info? 294).map (fun a=>a.zero)=some (some (.agg #[Sl none 0 0,Sl none 0 0])):=by kernel_rfl
def A67:prog.cellsOf 209=1/\(prog.info? 209).isSome=true:=⟨by kernel_rfl,by kernel_rfl⟩
end
structure I2 where
 a:QV
 b:QV
instance:Enc I2:=⟨⟨fun w=>[.bool w.a.s,.slice w.a.A w.a.n w.a.c,.bool w.a.s2,.slice w.a.A2 w.a.n2 w.a.c2,.bool w.b.s,.slice w.b.A w.b.n w.b.c,.bool w.b.s2,.slice w.b.A2 w.b.n2 w.b.c2],8,fun _=>rfl,fun w v hv=>by simp at hv;rcases hv with rfl|rfl|rfl|rfl|rfl|rfl|rfl|rfl<;>rfl⟩⟩
abbrev Ivl:=eF UInt8×eF UInt8
abbrev spV(a b:QV):aX:=.agg #[.bool a.s,.slice a.A a.n a.c,.bool a.s2,.slice a.A2 a.n2 a.c2,.bool b.s,.slice b.A b.n b.c,.bool b.s2,.slice b.A2 b.n2 b.c2]
def RQ.le{h h':aF}{a:QV}{q:Y}(i:RQ h a q)(l:h.le h'):RQ h' a q:=⟨i.num.mono l,i.den.mono l⟩
def B7a:aK 1 2=1/2:=by decide +kernel
section
variable {h g:aF} {K:VP} {A B:Option aI} {n c M m:J} {w S:eF Z} {a b:QV} {p q:Y} {s:Bool} {x:Z}
def A2m(i:ZI h s A n c x)(hK:ZI h false A n c (x.natAbs:Z)->K (.agg #[.bool false,.slice A n c]) h):aO prog 204 #[.agg #[.bool s,.slice A n c]] h K:=by refine(fnk func204 (own:=[1,2])) ?_;exact hK ⟨i.cap,by exact i.mag,by simp⟩
def A2i(i:ZI h s A n c x)(h0:0<=x)(hx:ZB m x)(hm:m<=1000000)(hK:∀s' A' n' c' h',h.le h'->ZI h' s' A' n' c' (x*2)->K (.agg #[.bool s',.slice A' n' c']) h'):aO prog 199 #[.agg #[.bool s,.slice A n c],U 1] h K:=by refine(fnk func199 (own:=[2,4])) ?_;have hl:=i.lenG (k:=1000000) hx o;refine U7 (s:=1) i.mag i.cap o o ?_;intro A' f c' h' b a M';have hs:s=false:=by{rw[i.sgn];grind};refine⟨_,_,_,rfl,b,?_⟩;refine Q4 (neg:=s) M' a ?_;intro e i1;rw[hs]at i1;have d:((x.natAbs*2:J):Z)=x*2:=o;rw[d]at i1;exact⟨_,_,_,_,rfl,B8 _,hK _ _ _ _ _ b i1⟩
def A0t(gl:Gtz h)(i:RQ h a p)(j:RQ h b q)(hp:Sz m p)(hq:Sz m q)(hm:m<=1000000)(hK:∀w h',h.le h'->RQ h' w ((p+q)*(1/2))->K w.v h'):aO prog 257 #[spV a b] h K:=by refine(fnk func257 (own:=[1,2])) ?_;refine Kn gl i j hp hq o fun z F t i1=>⟨_,_,_,_,_,_,_,_,rfl,?_⟩;refine O0 o o fun C A2 E c2 A g k=>⟨_,_,_,_,rfl,?_⟩;refine O0 o o fun H A3 B c3 G d s=>⟨_,_,_,_,rfl,?_⟩;have c:=B6 t (B6 g d);refine K7 (m:=2) (gl.mono c) (k.mono d) s (by unfold ZB;decide) (by unfold ZB;decide) o fun y D e f=>⟨_,_,_,_,_,_,_,_,rfl,?_⟩;rw[B7a]at f;refine Qu (m:=2*m+2) (gl.mono (B6 c e)) (i1.le (B6 g (B6 d e))) f ((hp.add hq).mono o) (C1h.mono o) o fun u r l n=>⟨_,_,_,_,_,_,_,_,rfl,hK u r (B6 (B6 c e) l) n⟩
def A3h(gl:Gl h)(i:RQ h a p)(j:RQ h b q)(hp:Sz m p)(hq:Sz m q)(hm:m<=40000000)(hK:K (ivS p q) h):aO prog 125 #[spV a b] h K:=by refine(fnk func125 (os:=[(1,[0,1,3,4,2,5,6,7])]) (own:=[1,2])) ?_;refine Z1 gl.p10 i hp hm ⟨_,rfl,B8 _,?_⟩;exact Z1 gl.p10 j hq hm ⟨_,rfl,B8 _,hK⟩
def C98{ad:aI}{c:J}(h:0<c):∃a',X9 (some ad) c 0 2=some a'/\∀i j,aM (aM a' i) j=aM (aM ad i) j:=by refine⟨ad.add (0*2),Gb h,fun i j=>?_⟩;rfl
def B0p{g l:Z}{M:J}(g0:0<=g)(hg:g.natAbs<2^M)(l1:1<=l):aK g l+1<=2^(M+1)/\0<aK g l+1:=by have hl:(0:Y)<(l:Y):=by{have:=Rat.intCast_le_intCast.2 l1;grind};have c:(1:Y)<=(l:Y):=by{have:=Rat.intCast_le_intCast.2 l1;omega};have i:(0:Y)<=(g:Y):=by{have:=Rat.intCast_le_intCast.2 g0;exact this};have a:(g:Y)+1<=2^M:=by{have:=Rat.intCast_le_intCast.2 (show g+1<=((2^M:J):Z)from o);grind};have e:aK g l*(l:Y)=g:=by{rw[aT,dE gz0]};generalize aK g l=d at *;have b:0<=d:=by{by_cases f:0<=d;{exact f};·have:=cP (show 0 < -d from gz0) hl;grind};have j:d<=(g:Y):=by{have:=aH b (show 0<=(l:Y)-1 from gz0);grind};rw[bN];grind
def A91{x y:Z}:0<Gr x y↔y<x:=by unfold Gr;omega
def B3w{w:eF Z}{n:J}{gr:Z}(hl0:cf w (n-1)≠0)(g0:0<=gr)(hn:n=w.length)(h:∀j,j<n-1->((cf w j).natAbs:Z)<=gr):FarB (aK gr ((cf w (n-1)).natAbs:Z)+1) w:=by subst hn;have e:∀z:Z,abR (z:Y)=((z.natAbs:Z):Y):=fun z=>by{unfold abR;rcases Int.lt_or_le z 0 with g|g;{have:=Rat.intCast_lt_intCast.2 g;rw[iP (show(z:Y)<0 from this),<- cK];congr 1;omega};·have:(0:Y)<=(z:Y):=Rat.intCast_le_intCast.2 g;grind};have hl:((((cf w (w.length-1)).natAbs:Z)):Y)≠0:=F5 o;have a:aK gr ((cf w (w.length-1)).natAbs:Z)*(((cf w (w.length-1)).natAbs:Z):Y)=gr:=by{rw[aT,dE hl]};refine⟨?_,fun i b=>?_⟩;{have:=Rat.divInt_nonneg g0 (show(0:Z)<=((cf w (w.length-1)).natAbs:Z)from o);grind};·unfold lc;have:=Rat.intCast_le_intCast.2 (h i o);grind
def A3i(gl:Gtz h)(r:WV h A n w)(hz:Nz w)(h1:1<=n)(hn:n<=6)(hc:n<=c)(hb:WB M w)(hM:M<=1000) (hK:∀v q h',h.le h'->RQ h' v q->FarB q w->q<=2^(M+1)->Sz (M+M+3) q->K v.v h'):aO prog 124 #[.slice A n c] h K:=by refine(fnk func124 [(3,[12],[(3,2)],[I 0,.bool false,.slice none 0 0])] (own:=[2,3,5,6])) ?_;refine Nx o ⟨_,rfl,⟨o,o⟩,?_⟩;have p:=r.1;refine⟨fun L H=>∃(i:J) (g:Z) (u:Bool) (A':Option aI) (y E:J),i<=n-1/\L=[I (i:Z),.bool u,.slice A' y E]/\h.le H/\ZI H u A' y E g/\0<=g/\g.natAbs<2^M/\∀j,j<i->((cf w j).natAbs:Z)<=g,fun L _=>n-1-(iAt L 0).toNat,⟨0,0,false,none,0,0,o,rfl,B8 _,ZI.zero,o,dM o,fun j S=>o⟩,?_⟩;rintro t g0 gA gn gc H ⟨i,g,u,A',y,E,hi,eL,k,F,l,d,R⟩;obtain⟨rfl,rfl,rfl,rfl,rfl⟩:=eL;refine B9 (fun X=>?_) (fun W=>?_);{have O:i<n:=o;obtain⟨ad,z,rfl,D,f0,f1⟩:=(r.mono k).2.zat O;obtain⟨a',ea,f⟩:=C98 (ad:=ad) (show 0<c from o);refine⟨a',ea,o,o,_,_,_,_,by rw[f];exact f0,by rw[f];exact f1,?_⟩;refine A2m D fun V=>⟨_,_,_,_,rfl,?_⟩;have aa:ZB M (cf w i):=hb i;refine Gs (m:=M) V F (by assumption) (by assumption) o ⟨_,rfl,?_⟩;have ew:C4 ((i:Z)+1)=((i+1:J):Z):=by{rw[C0]<;>omega};rw[ew];refine B9 (fun e=>?_) (fun e=>?_);{have e:=A91.1 e;refine⟨⟨i+1,_,_,_,_,_,o,rfl,k,V,o,by assumption,fun j S=>?_⟩,by simp only[U4];omega⟩;grind};·have e:=fun z=>e (A91.2 z);refine⟨⟨i+1,_,_,_,_,_,o,rfl,k,F,l,d,fun j S=>?_⟩,by simp only[U4];omega⟩;grind};·refine Di (r.mono k) o fun s1 A1 n1 c1 i1=>⟨_,_,_,_,rfl,B8 _,?_⟩;refine A2m i1 fun i2=>⟨_,_,_,_,rfl,B8 _,?_⟩;have ac:ZB M (cf w (n-1)):=hb (n-1);have C:cf w (n-1)≠0:=by{have B:w≠[]:=gz0;have:=hz B;grind};refine K7 (m:=M) (gl.mono k) F i2 d (by assumption) o fun w3 h3 N i3=>⟨_,_,_,_,_,_,_,_,rfl,N,?_⟩;refine Gw ⟨o,o⟩ fun w4 h4 s i4=>⟨_,_,_,_,_,_,_,_,rfl,s,?_⟩;have hs:Sz (M+M+1) (aK g ((cf w (n-1)).natAbs:Z)):=(N4 (m:=M) o d (by assumption)).mono o;have Q:Sz (M+M+1) (1:Y):=⟨ZB.one o,ZB.one o⟩;refine Kn (gl.mono (B6 k (B6 N s))) (i3.le s) i4 hs Q o fun w5 h5 T i5=>⟨_,_,_,_,_,_,_,_,rfl,T,?_⟩;obtain⟨b1,b2⟩:=B0p l d (show 1<=((cf w (n-1)).natAbs:Z)from o);have G:Sz (M+M+3) (aK g ((cf w (n-1)).natAbs:Z)+1):=by{have a1:=N4 (m:=M) (a:=g) (b:=((cf w (n-1)).natAbs:Z)) o d (by assumption);exact(a1.add (⟨ZB.one (aJ 1),ZB.one (aJ 1)⟩:Sz 1 (1:Y))).mono o};exact hK w5 _ h5 (B6 k (B6 N (B6 s T))) i5 (B3w C l p fun j S=>R j o) b1 G
end
instance:Enc (HV × HV):=⟨⟨fun s=>[.slice s.1.A s.1.n s.1.c,.slice s.2.A s.2.n s.2.c],2,fun _=>rfl,fun s v hv=>by simp at hv;rcases hv with rfl|rfl<;>rfl⟩⟩
abbrev ptU(a:QV)(v:J)(r:Bool):aX:=.agg #[.bool a.s,.slice a.A a.n a.c,.bool a.s2,.slice a.A2 a.n2 a.c2,I (v:Z),.bool r]
def B84(L:eF (eF Z))(x:Y):Vn L x<=L.length:=by have:=Zu (Vs L x) 0;simpa[Vn,Vs]using this
def Hn.sg{w:eF Z}{q:Y}{z pw:Z}(hh:Hn w q.num (q.den:Z) 0 z pw):Int.sign z=sgR (pe w q):=by have:=hh.sgn (by have:=q.den_pos;omega) (A6y q);rw[A0q]at this;exact this
def Bs(e:J)(pb:J)(Ac:Option aI)(nc cc:J)(gt hp:aF)(m:J):Prop:=∃(g o:aF) (A:Option aI) (c:J) (xs:eF I2),gt.le g/\Sep hp g o/\RowX o pb [(⟨Ac,nc,cc⟩:HV),⟨A,xs.length,c⟩]/\bH o 213 A c xs/\A≠some ⟨pb,0,none⟩/\xs.length=m/\∀x∈xs,∃p q,RQ g x.a p/\RQ g x.b q/\Sz e p/\Sz e q
section
variable {S w:eF Z} {t:eF (eF Z)} {sz P E M pb nc cc m N k:J} {Ac:Option aI} {gt g0 hp h h':aF} {K:VP} {a b:QV} {p q:Y}
def Bs.le(b:Bs sz pb Ac nc cc gt hp m):gt.le hp:=by obtain⟨g,o,A,c,xs,a,s,_⟩:=b;exact B6 a s.le
def Bs.weak(b:Bs sz pb Ac nc cc gt hp m)(l:g0.le gt):Bs sz pb Ac nc cc g0 hp m:=by obtain⟨g,o,A,c,xs,a,r⟩:=b;exact⟨g,o,A,c,xs,B6 l a,r⟩
def Bs.cell(b:Bs sz pb Ac nc cc gt hp m):hp.cell? (aM ⟨pb,0,none⟩ 0)=some (.slice Ac nc cc):=by obtain⟨g,o,A,c,xs,l,s,a,e,f,d,k⟩:=b;exact s.cell (RowB.cell a.rowB (i:=0) (by simp) (j:=0) (v:=.slice Ac nc cc) rfl)
def Bs.after(b:Bs sz pb Ac nc cc gt hp m)(l:hp.le h'):∃g',gt.le g'/\Bs sz pb Ac nc cc g' h' m:=by obtain⟨g,o,A,c,xs,u,s,k,n,r,e,t⟩:=b;obtain⟨g',a,f⟩:=s.after l;exact⟨g',B6 u a,g',o,A,c,xs,B8 _,f,k,n,r,e,fun x d=>by obtain⟨p,q,i1,j,i⟩:=t x d;exact⟨p,q,i1.le a,j.le a,i⟩⟩
def Bs.call{F:FuncId}{args:Array aX}(b:Bs sz pb Ac nc cc gt hp m)(x:∀g,gt.le g->aO prog F args g (fun r g'=>g.le g'/\∀h',hp.le h'->Bs sz pb Ac nc cc g' h' m->K r h')):aO prog F args hp K:=by obtain⟨g,o,A,c,xs,w,s,l,n,t,f,u⟩:=b;refine s.call (FCall.mono (x g w) ?_);rintro v g' ⟨a,k⟩ h' e;exact k h' (s.le_le e a) ⟨g',o,A,c,xs,B8 _,e,l,n,t,f,fun x d=>by obtain⟨p,q,i1,j,i⟩:=u x d;exact⟨p,q,i1.le a,j.le a,i⟩⟩
def Bs.push{x y:QV}(b:Bs sz pb Ac nc cc gt hp m)(ix:RQ gt x p)(iy:RQ gt y q)(gp:Sz sz p)(gq:Sz sz q)(hm:m<=100){K:aF->Prop}(hK:∀h',Bs sz pb Ac nc cc gt h' (m+1)->K h'):∃a,some (⟨pb,0,none⟩:aI)=some a/\∃(A:Option aI) (n:J) (c:J),Heap.cell? hp (aM a 1)=some (.slice A n c)/\wpH prog (cU 209 1 #[(0,.agg #[.bool x.s,.slice x.A x.n x.c,.bool x.s2,.slice x.A2 x.n2 x.c2,.bool y.s,.slice y.A y.n y.c,.bool y.s2,.slice y.A2 y.n2 y.c2])]) (fun v hp1=>∃(B:Option aI) (bn:J) (bc:J),v= .slice B bn bc/\Heap.le hp hp1/\ wpH prog (cL #[209,209] 209 #[.slice A n c,.slice B bn bc]) (fun v1 hp2=>∃(A':Option aI) (n':J) (c':J),v1= .slice A' n' c'/\∃a1,some (⟨pb,0,none⟩:aI)=some a1/\wpH prog (bU 209 (.pointer (some (aM a1 1))) (.slice A' n' c')) (fun _ hp3=>K hp3) hp2) hp1) hp:=by obtain⟨g,o,A,c,xs,r,s,C,W,R,F,hx⟩:=b;refine⟨_,rfl,A,xs.length,c,s.cell (RowB.cell C.rowB (i:=1) (by simp) (j:=0) (v:=.slice A xs.length c) rfl),?_⟩;refine OwnSl.push (ty:=209) C2x s W (y:=(⟨x,y⟩:I2)) rfl dc oo oo (K1:=fun N=>Heap.le hp N) (fun _ l=>l) ?_;intro A' c' h' Q X d E w G;obtain⟨e,M⟩:=C;obtain⟨D,k2⟩:=G pb _ M R;refine⟨_,rfl,?_⟩;have t:RowX X pb [(⟨Ac,nc,cc⟩:HV),⟨A,xs.length,c⟩]:=⟨e,D⟩;refine P7 (α:=HV) A67 (y:=(⟨A',xs.length+1,c'⟩:HV)) rfl E t (i:=1) (by simp) ?_;intro H S x2 T s2 V;refine hK H ⟨Q,S,A',c',xs++[⟨x,y⟩],B6 r d,s2,?_,w.keep (fun b u q O=>?_),k2,gz0,?_⟩;{grind};{rw[T,C1 _ _ gz0];exact O};·intro z f;rcases List.mem_append.1 f with f|f;{obtain⟨p',q',i1,L,k⟩:=hx z f;exact⟨p',q',i1.le d,L.le d,k⟩};·rw[List.mem_singleton.1 f];exact⟨p,q,ix.le (B6 r d),iy.le (B6 r d),gp,gq⟩
def Vb{e:J}(r:ChV h Ac nc (S::t))(cB:ChB M (S::t))(c0:h.cell? (aM ⟨pb,0,none⟩ 0)=some (.slice Ac nc cc))(i:RQ h a q)(hq:Sz e q)(hT:446*(M+1)+8*(e+1)<=40000000)(hnc:nc<=7) (hK:∀h',h.le h'->K (ptU a (Vn (S::t) q) (decide (pe S q=0))) h'):aO prog 201 #[.pointer (some ⟨pb,0,none⟩),a.v] h K:=by refine(fnk func201 (os:=[(1,[0,1,2,3,4,5,6,8,9,10,11,12,13,14,7,15,16,17,18])]) (own:=[3,4])) ?_;have hl:nc=(S::t).length:=by{obtain⟨_,_,e,_⟩:=r;exact e};obtain⟨C,s,b,rfl,y,k,wv,hs⟩:=r.at (i:=0) gz0;obtain rfl:b=S:=gz0;refine⟨_,rfl,_,_,_,c0,_,rfl,_,_,_,c0,_,rfl,o,gz0,_,_,_,k,?_⟩;refine Yc r i cB o hq hT ?_;intro w c;refine⟨_,rfl,c,?_⟩;have B:=cB.len b bI;have m:=wv.1;have d:446*(M+1)+(s.n+2)*(e+1)<=40000000:=by{have:=aC (e+1) (show s.n+2<=8 from o);omega};refine A2u (wv.mono c) (i.le c) o (cB.bits b bI) hq d ?_;intro p A2 A c2 g pw u f l j _;refine⟨_,_,_,_,rfl,f,F6 l ⟨_,rfl,B8 _,?_⟩⟩;have e:decide (g=0)=decide (pe b q=0):=by{have:=j.sg;refine decide_eq_decide.2 ⟨fun z=>?_,fun z=>?_⟩;{rw[z]at this;exact U9.1 this.symm};·rw[z]at this;exact Int.sign_eq_zero_iff_zero.1 this};rw[e];exact hK _ (B6 c f)
def Yb(cB:ChB M (S::t))(hnc:nc<=7)(hPE:P+E+1<=1000000)(hT:446*(M+1)+8*(P+E+2)<=40000000){d l:J}{p q:Y}(tr:Tr (Vn (S::t)) (fun x=>pe S x=0) d p q l):
 ∀(gt hp:aF) (a b:QV) (e N:J) (K:VP),e+d<=E->Gtz gt->ChV gt Ac nc (S::t)->RQ gt a p->RQ gt b q->LvI P k e p q->Bs (P+E+1) pb Ac nc cc gt hp N->N+l<=100->
  (∀h',Bs (P+E+1) pb Ac nc cc gt h' (N+l)->K (.tuple #[]) h')->aO prog 200 #[.pointer (some ⟨pb,0,none⟩),ptU a (Vn (S::t) p) (decide (pe S p=0)),ptU b (Vn (S::t) q) (decide (pe S q=0))] hp K:=by
 induction tr with
 | @out d p q h=>
  intro gt hp a b e N K F gz u C s i bs hN w;refine(fnk func200 (own:=[4,5,7]) (wr:=[200,1000000000])) ?_;rw[show C4 ((Vn (S::t) p:Z)-(Vn (S::t) q:Z))=0 by rw[h,Int.sub_self];rfl];exact B9 (fun _=>w hp bs) (fun z=>absurd (Int.le_refl 0) z)
 | @one d p q h hr=>
  intro gt hp a b e N K F gz u C s i bs hN w;refine(fnk func200 (own:=[4,5,7]) (wr:=[200,1000000000])) ?_;rw[show C4 ((Vn (S::t) p:Z)-(Vn (S::t) q:Z))=1 by rw[show(Vn (S::t) p:Z)-(Vn (S::t) q:Z)=1 from o];rfl];have zp:=(i.a.le (f:=E) o).sz;have zq:=(i.b.le (f:=E) o).sz;refine B9 (fun z=>o) (fun _=>D4 (fun _=>?_) (fun z=>absurd rfl z));refine B9 (fun _=>bs.push s s zq zq o w) (fun z=>D4 (fun _=>?_) (fun z=>absurd rfl z));exact Br.not (B9 (fun y=>absurd y (hr.resolve_left z)) (fun _=>bs.push C s zp zq o w))
 | @cut d p q k1 l1 h hr _ _ ih1 ih2=>
  intro gt hp a b e N K F gz u C s i bs hN w;refine(fnk func200 (own:=[4,5,7]) (wr:=[200,1000000000])) ?_;have hl:nc=(S::t).length:=by obtain⟨_,_,e,_⟩:=u;exact e
  have vp:=B84 (S::t) p;have vq:=B84 (S::t) q;have en:C4 ((Vn (S::t) p:Z)-(Vn (S::t) q:Z))=((Vn (S::t) p-Vn (S::t) q:J):Z):=by rw[C0 o o];omega
  rw[en]
  have D:aO prog 257 #[spV a b] hp (fun r Q=>∃(t190:Bool) (t191A:Option aI) (t191n:J) (t191c:J) (t192:Bool) (t193A:Option aI) (t193n:J) (t193c:J),r= .agg #[.bool t190,.slice t191A t191n t191c,.bool t192,.slice t193A t193n t193c]/\
   aO prog 201 #[.pointer (some ⟨pb,0,none⟩),.agg #[.bool t190,.slice t191A t191n t191c,.bool t192,.slice t193A t193n t193c]] Q (fun r1 V=>∃(t200:Bool) (t201A:Option aI) (t201n:J) (t201c:J) (t202:Bool) (t203A:Option aI) (t203n:J) (t203c:J) (t204:Z) (t205:Bool),r1= .agg #[.bool t200,.slice t201A t201n t201c,.bool t202,.slice t203A t203n t203c,I t204,.bool t205]/\
    aO prog 200 #[.pointer (some ⟨pb,0,none⟩),ptU a (Vn (S::t) p) (decide (pe S p=0)),.agg #[.bool t200,.slice t201A t201n t201c,.bool t202,.slice t203A t203n t203c,I t204,.bool t205]] V (fun r2 L=>r2= .tuple #[]/\
     aO prog 200 #[.pointer (some ⟨pb,0,none⟩),.agg #[.bool t200,.slice t201A t201n t201c,.bool t202,.slice t203A t203n t203c,I t204,.bool t205],ptU b (Vn (S::t) q) (decide (pe S q=0))] L (fun r3 X=>r3= .tuple #[]/\K (.tuple #[]) X)))):=by
   refine bs.call (fun g H=>A0t (m:=P+E+1) (gz.mono H) (C.le H) (s.le H) (i.a.le (f:=E) o).sz (i.b.le (f:=E) o).sz o fun w5 g5 l5 A=>⟨l5,fun h5 _ j=>⟨_,_,_,_,_,_,_,_,rfl,?_⟩⟩);have A:RQ g5 w5 (mid p q):=A;have G:=B6 H l5;have B:=j.le;refine Vb (e:=P+E+1) ((u.mono G).mono B) cB j.cell (A.le B) ((i.a.half i.b).le (f:=E) o).sz o hnc fun h6 l6=>⟨_,_,_,_,_,_,_,_,_,_,rfl,?_⟩;obtain⟨g6,n,O⟩:=j.after l6;have c:=B6 G n;refine ih1 g6 h6 a w5 (e+1) N _ o (gz.mono c) (u.mono c) (C.le c) (A.le n) i.left O o (fun h7 R=>⟨rfl,?_⟩);exact ih2 g6 h7 w5 b (e+1) _ _ o (gz.mono c) (u.mono c) (A.le n) (s.le c) i.right R o (fun h8 W=>⟨rfl,w h8 (by rw[<- cQ];exact W.weak c)⟩)
  refine B9 (fun h0=>o) (fun h0=>D4 (fun T=>?_) (fun T=>D4 (fun z=>absurd z T) (fun _=>D)));refine B9 (fun z=>absurd ⟨o,.inl z⟩ hr) (fun z=>D4 (fun _=>Br.not (B9 (fun _=>D) (fun y=>absurd ⟨o,.inr y⟩ hr))) (fun z=>absurd T z))
end
end Go.Proofs.YteppbhimdjmabaaGreatDoor
namespace Go.Proofs.YteppbhimdjmabaaGreatDoor
set_option maxRecDepth 20000
section
variable {w S:eF Z} {t:eF (eF Z)} {M:J} {k:Z} {b:Y}
def Cop(w:eF Z):Prop:=∀D,Nz D->Dv D w->Dv D (dl w)->D.length<=1
def SqF.same(f:SqF w S)(hw:Nz w)(cop:Cop w):∃k:Z,k≠0/\w=J8 k S:=by
 obtain⟨W,G,c,c0,d,⟨N,e,t,p⟩,m,l,s,_⟩:=f.ex;have r:Dv G w:=⟨1,J8 c S,dc,fun x=>by rw[i1,bC,d,m,F4,bK]⟩
 have dd:Dv G (dl w):=⟨N,J8 c e,t,fun x=>by
  have k:=B2t (u:=w) (v:=W) (a:=1) (b:=(c:Y)) (fun x=>by rw[bC,d]) gz0 x;rw[bC]at k;have i:=p x;rw[Na]at i ⊢;have n:(N:Y)*((c:Y)*pd W x)=c*(N*pd W x):=gz0;rw[k,F4,n,i];grind⟩;have q:=cop G l r dd
 match G,s,q with
 | [g],_,_=>
  have g0:g≠0:=l (by simp);have j:c*g≠0:=fun z=>by rcases Int.mul_eq_zero.1 z with z|z<;>omega
  refine⟨c*g,j,hw.ext (f.nz.scl j) fun x=>?_⟩;have:pe [g] x=(g:Y):=by show(g:Y)+x*0=g;grind
  rw[d,m,F4,this,aW];grind
def B21(k0:k≠0)(h:WB M (J8 k S)):WB M S:=fun i=>by have:=h i;rw[Bh]at this;unfold ZB at *;rw[Int.natAbs_mul]at this;have:=eC (cf S i).natAbs (show 0<k.natAbs from o);omega
def C02(k0:k≠0)(h:FarB b (J8 k S)):FarB b S:=⟨h.1,fun i a=>by have:=h.2 i (by simp[J8];exact a);unfold lc at *;rw[Bh,Bh,aW,aW,O7,O7,show(J8 k S).length=S.length by simp[J8]]at this;have c:=Te (F5 k0);have e:∀u v:Y,u=abR (k:Y)*v->v=u*(abR (k:Y))⁻¹:=fun u v h=>by{rw[h,dV (abR (k:Y)),bK,dB _ gz0,Rat.mul_one]};have:abR (k:Y)*abR (cf S i:Y)<=abR (k:Y)*((b-1)*abR (cf S (S.length-1):Y)):=gz0;exact Rat.le_of_mul_le_mul_left this c⟩
def RtN(w:eF Z)(N:Z):Prop:=∀(S Q:eF Z) (t:eF (eF Z)) (b:Y) (k:Z),k≠0->w=J8 k S->Sq w S (Q::t)->(∃c:Y,c≠0/\∀x,pe (Ee S (Q::t)) x=c)->FarB b w->(Vn (S::Q::t) (-b):Z)-Vn (S::Q::t) b=N
def A9b(f:SqF w S)(c:Chn S t):Sq w S t:=by obtain⟨W,G,k,e,a,b,d,_⟩:=f.ex;exact Sq.of e a b d c.ch c.der c.con
def RtN.of(f:SqF w S)(k0:k≠0)(e:w=J8 k S)(h2:2<=S.length)(c:Chn S t)(cB:ChB M (S::t)):RtN w ((chg 0 (VI true (S::t)):Z)-chg 0 (VI false (S::t))):=by
 cases t with
 |nil=>have:=c.con rfl;omega
 |cons Q t=>
 intro S' Q' D b g l y A ⟨c',c0',hc'⟩ hf;have q:=A9b f c;obtain⟨d,r,p⟩:=Rk q f.nz f.ne f.cop;have n:=F5 k0;have j:=F5 l
 have hl:∀x,pe S' x=((k:Y)*(g:Y)⁻¹)*pe S x:=fun x=>by
  have u:pe w x=(k:Y)*pe S x:=by rw[e,F4]
  have h2:pe w x=(g:Y)*pe S' x:=by rw[y,F4]
  rw[u]at h2;have:(k:Y)*(g:Y)⁻¹*pe S x=(g:Y)⁻¹*((k:Y)*pe S x):=gz0;rw[this,h2,<- bK,dC _ j,bC]
 have s:(k:Y)*(g:Y)⁻¹≠0:=fun z=>by
  rcases Rat.mul_eq_zero.1 z with z|z;·exact n z
  ·have:=dC _ j;rw[z,dH]at this;exact absurd this dc
 have B:=hf.1;have E:=A9g (a:=-b) (b:=b) q A (Aw.const r p) (Aw.const c0' hc') s hl gz0;have C:=B4j f q (fun v m i=>cB.bits v m i) (fun v m=>cB.nz v m) (C02 k0 (e▸hf));unfold Vn;omega
def RtN.nat{z:Z}(rt:RtN w z)(f:SqF w S)(k0:k≠0)(e:w=J8 k S)(h2:2<=S.length)(c:Chn S t)(hb:∀i,(cf w i).natAbs<2^M)(hl:lc w≠0):∃N:J,z=N/\N<=(S::t).length:=by
 cases t with
 |nil=>have:=c.con rfl;omega
 |cons Q t=>
 have q:=A9b f c;obtain⟨d,g,b⟩:=Rk q f.nz f.ne f.cop;have a:=FarB.ex hb hl;have:=rt S Q t _ k k0 e q ⟨d,g,b⟩ a;have l:=a.1;have j:=q.down f (show -((2:Y)^M+1)<=2^M+1 from gz0);have:=Zu (Vs (S::Q::t) (-((2:Y)^M+1))) 0;simp only[Vs,bJ]at this;unfold Vn at *;exact⟨chg 0 (Vs (S::Q::t) (-((2:Y)^M+1)))-chg 0 (Vs (S::Q::t) (2^M+1)),o,by simp only[Vs,bJ];omega⟩
def RtS(M:J)(w:eF Z):Prop:=∃(S:eF Z) (k:Z),k≠0/\w=J8 k S/\SqF w S/\∀P x,BR P x->1<=2^(6*A5q M P)*(abR (pe w x)+abR (pd w x))
def RtS.of(f:SqF w S)(k0:k≠0)(e:w=J8 k S)(h2:2<=S.length)(c:Chn S t)(sp:∀P x,BR P x->abR (pe (Ee S t) x)<=2^(6*A5q M P)*(abR (pe S x)+abR (pd S x))):RtS M w:=by
 cases t with
 |nil=>have:=c.con rfl;omega
 |cons Q t=>
 refine⟨S,k,k0,e,f,fun P x j=>?_⟩;have h:=A81 f (A9b f c) (sp P x j);have d:pe w x=(k:Y)*pe S x:=by rw[e,F4]
 have i:pd w x=(k:Y)*pd S x:=by
  have:=B2t (u:=w) (v:=S) (a:=1) (b:=(k:Y)) (fun x=>by rw[bC,e,F4]) gz0 x;rwa [bC]at this
 have l:(1:Y)<=abR (k:Y):=by
  unfold abR;have d:((1:Z):Y)=1:=rfl;rcases dF k0 with g|g
  ·have a:=Rat.intCast_le_intCast.2 (show 1 <= -k from o);rw[cK]at a;split<;>grind
  ·have a:=Rat.intCast_le_intCast.2 (show 1<=k from o);split<;>grind
 rw[d,i,O7,O7];have m:=J3 (pe S x);have n:=J3 (pd S x);have p:=Ao (6*A5q M P);have a:=aH (show 0<=abR (k:Y)-1 from gz0) (show 0<=abR (pe S x)+abR (pd S x)from gz0);have b:=aH (aN p) a;grind
end
def PwQ(h:aF)(P m:J)(L:eF aX)(hp:aF):Prop:=∃(k:J) (s:Bool) (A:Option aI) (n c:J),L=[.bool s,.slice A n c]/\h.le hp/\ZI hp s A n c ((2^k:J):Z)/\m+k=P
def SpL(e:J)(h:aF)(A:Option aI)(n:J):Prop:=∃xs:eF I2,SlF h A xs/\n=xs.length/\∀x∈xs,∃p q,RQ h x.a p/\RQ h x.b q/\Sz e p/\Sz e q
def C4k{k P:J}(h:k<=P):ZB (P+1) ((2^k:J):Z):=by exact Nat.pow_lt_pow_right dc o
def B6u{k P:J}(h:k<=P):Sz (P+1) (2^k:Y):=by have:=Sz.int (m:=P+1) (C4k h) o;grind
section
variable {h:aF} {K:VP} {A:Option aI} {n c M P E e N:J} {w S:eF Z} {b:QV} {k q:Y}
def Va{kk:Z}(gl:Gtz h)(r:WV h A n S)(f:SqF w S)(k0:kk≠0)(ek:w=J8 kk S)(hn:n<=6)(hc:n<=c)(bS:WB M S)(h2:2<=S.length)(ib:RQ h b q)(zq:Sz e q)(hq:q<=2^P)(hf:FarB q w)(rt:RtN w N)(hN:N<=100)(he:e<=1000)(hP:P<=900)(hE:A24 (6*A5q M P) M P+P+1<=E)(hE2:P+E+1<=1000000)(hM:3600*(M+11)<=40000000)(hT:446*(M+10+1)+8*(P+E+2)<=40000000)
 (hK:∀A' c' h',h.le h'->SpL (P+E+1) h' A' N->K (.slice A' N c') h'):aO prog 123 #[.slice A n c,b.v] h K:=by
 refine(fnk func123 [(2,[],[(5,2)],[.bool false,.slice none 0 0])] (os:=[(2,[0,2,1,3,4]),(5,[0,4,1,2,3,5,6,7])]) (own:=[3,5]) (wr:=[200])) ?_;refine O0 oo oo fun s1 A1 n1 c1 h1 l1 i1=>⟨_,_,_,_,rfl,?_⟩;obtain⟨mu,ax⟩:=C4z (PwQ h P);refine⟨fun L hp=>∃m,PwQ h P m L hp,mu,⟨P,0,s1,A1,n1,c1,rfl,l1,i1,rfl⟩,?_⟩;intro i0 i2 i3 i4 hp aw;obtain⟨m1,em,k,s,A2,n2,c2,eL,lp,iz,hm⟩:∃m,mu _ hp=m/\PwQ h P m _ hp:=⟨_,rfl,(ax _ _ aw).1⟩;obtain⟨rfl,rfl,rfl,rfl⟩:=eL;have a:k<=P:=oo;refine Ql iz fun w2 iw=>⟨_,_,_,_,_,_,_,_,rfl,B8 _,?_⟩;rw[Vu]at iw;refine A16 (m:=P+e+1) iw (ib.le lp) ((B6u a).mono oo) (zq.mono oo) oo ⟨_,rfl,B8 _,?_⟩;refine B9 (fun aj=>?_) (fun ar=>?_)
 ·have lt:(2:Y)^k<q:=B4p.1 aj
  have hk:k<P:=by
   grind
  refine A2i iz (Int.natCast_nonneg _) (C4k a) oo fun s3 A3 n3 c3 h3 l3 i3=>⟨_,_,_,_,rfl,?_⟩
  have Q:PwQ h P (m1-1) [.bool s3,.slice A3 n3 c3] h3:=⟨k+1,s3,A3,n3,c3,rfl,B6 lp l3,by
   assumption,oo⟩;grind
 refine Sp (gl.mono lp) (r.mono lp) f.nz f.ne oo hc bS hM ?_;intro t A4 n4 c4 h4 l4 ch H cB cn sp;refine⟨_,_,_,rfl,?_⟩;have q0:=A9b f cn;have ae:=B6 lp l4;refine An B1w ?_;intro pb ag;refine⟨_,rfl,?_⟩;have s5:Sep (h4.put pb (.cells ([((⟨none,0,0⟩,⟨none,0,0⟩):HV×HV)].flatMap enc).toArray 294)) h4 (Ag.put pb (.cells ([((⟨none,0,0⟩,⟨none,0,0⟩):HV×HV)].flatMap enc).toArray 294)):=S3 ag;refine P7 (α:=HV×HV) B61 (y:=((⟨A4,n4,c4⟩,⟨none,0,0⟩):HV×HV)) rfl s5 (RowX.mk (e:=294)) (i:=0) dc ?_;intro h6 o6 x6 e6 s6 ak;have rx:RowX o6 pb [(⟨A4,n4,c4⟩:HV),⟨none,([]:eF I2).length,0⟩]:=ak;have bs:Bs (P+E+1) pb A4 n4 c4 h4 h6 0:=⟨h4,o6,none,0,[],B8 _,s6,rx,OwnSl.nil,(fun z=>by cases z),rfl,(fun x O=>by cases O)⟩;have ad:=iz.mono l4;have e1:=r.1;refine bs.call (fun g7 T=>Z8 (ad.mono T) fun s7 i7=>⟨B8 _,fun h7 l7 ao=>⟨_,_,_,_,rfl,l7,?_⟩⟩);refine ao.call (fun g8 R=>Ql (i7.mono R) fun w8 i8=>⟨B8 _,fun h8 l8 C=>⟨_,_,_,_,_,_,_,_,rfl,l8,?_⟩⟩);rw[cK,Vu]at i8;have X:=B6 T R;refine Vb (e:=P+2) (ch.mono (B6 X C.le)) cB C.cell (i8.le C.le) ((B6u a).neg.mono oo) oo H fun h9 l9=>⟨_,_,_,_,_,_,_,_,_,_,rfl,l9,?_⟩;obtain⟨g9,aa,am⟩:=C.after l9;have af:=B6 X aa;refine am.call (fun a0 B=>Ql (ad.mono (B6 af B)) fun aq G=>⟨B8 _,fun az ah d=>⟨_,_,_,_,_,_,_,_,rfl,ah,?_⟩⟩);rw[Vu]at G;have F:=B6 af B;refine Vb (e:=P+2) (ch.mono (B6 F d.le)) cB d.cell (G.le d.le) ((B6u a).mono oo) oo H fun av ac=>⟨_,_,_,_,_,_,_,_,_,_,rfl,ac,?_⟩;obtain⟨ai,u,V⟩:=d.after ac;have l:=B6 F u
 obtain⟨Q,t',rfl⟩:∃Q t',t=Q::t':=by
  cases t with
  |nil=>have:=cn.con rfl;omega
  |cons Q t'=>grind
 have au:∀x,BR P x->1<=2^(6*A5q M P)*(abR (pe S x)+abR (pd S x)):=fun x O=>A81 f q0 (sp P x O);have tr:=Tr.ex (k:=k) q0 f bS.allB oo au a hE E 0 _ _ oo (LvI.start a);obtain⟨dd,d0,hd⟩:=Rk q0 f.nz f.ne f.cop;have eN:=rt S Q t' (2^k) kk k0 ek q0 ⟨dd,d0,hd⟩ (hf.mono (Rat.not_lt.1 fun z=>ar (B4p.2 z)));refine Yb cB H hE2 hT tr ai av w8 aq 0 0 _ oo ((gl.mono ae).mono l) (ch.mono l) (i8.le (B6 aa (B6 B u))) (G.le u) (LvI.start a) V oo fun ap W=>⟨rfl,?_⟩;obtain⟨g,o,A',c',xs,lg,s,al,ow,hA,ay,O⟩:=W;refine⟨_,_,_,s.cell (RowB.cell al.rowB (i:=1) (by simp) (j:=0) (v:=.slice A' xs.length c') rfl),?_⟩;have D:xs.length=N:=oo;rw[D]
 exact hK _ _ ap (B6 ae (B6 l (B6 lg s.le))) ⟨xs,ow.slF s.ole,D.symm,fun x an=>by
  obtain⟨p,q,ip,iq,gd⟩:=O x an;exact⟨p,q,ip.le s.le,iq.le s.le,gd⟩⟩
def B4u:A24 (6*A5q 337 338) 337 338+338+1<=949000:=dc
instance:Enc Ivl:=⟨⟨fun x=>[.string (bs x.1),.string (bs x.2)],2,fun _=>rfl,fun x v hv=>by simp at hv;rcases hv with rfl|rfl<;>rfl⟩⟩
def IvL(h:aF)(A:Option aI)(n:J):Prop:=∃xs:eF Ivl,SlF h A xs/\n=xs.length
def Ya{ls:J->eF UInt8}(gl:Gl h)(r:bG SSr h A n ls)(h2:2<=n)(hn:n<=6)(hl:∀i,i<n->(ls i).length<=140737488351232)(u:Uok n ls)(hs:∀i,i<n->Sz 48 (rv (ls i))) (cop:∀w D,UvR (fun i=>rv (ls i)) n w D->Cop w) (rt:∀w D,UvR (fun i=>rv (ls i)) n w D->RtN w N) (hN:N<=100) (hK:∀A' c' h',h.le h'->IvL h' A' N->K (.tuple #[.slice A' N c',I 0]) h'):aO prog 58 #[.slice A n c] h K:=by refine(fnk func58 [(6,[7,25],[],[.slice none 0 0,I 0])] (own:=[5,9])) ?_;refine Vf (m:=48) gl r oo oo hl u hs oo ?_;intro w D z A1 n1 c1 h1 l1 wv hc iz uv bw _;refine⟨_,_,_,_,_,_,_,_,rfl,D8 (fun e=>absurd rfl e) (fun _=>?_)⟩;have e1:=wv.1;have e2:=uv.len;have w0:w≠[]:=gz0;have f:WB 337 w:=bw.mono oo;refine Au (gl.mono l1).tz wv uv.nz w0 oo hc f oo ?_;intro S A2 n2 c2 ae l2 w2 R sf bS;have t:=B6 l1 l2;refine⟨_,_,_,rfl,?_⟩;refine A3i (M:=337) (gl.mono t).tz (wv.mono l2) uv.nz oo oo hc f oo fun v q h3 l3 iq q0 hq sq=>⟨_,_,_,_,_,_,_,_,rfl,?_⟩;have l:=B6 t l3;obtain⟨k,X,H⟩:=sf.same uv.nz (cop w D uv);have s2:S.length=w.length:=by{rw[H];simp[J8]};have e4:=w2.1;refine Va (M:=337) (P:=338) (E:=949000) (gl.mono l).tz (w2.mono l3) sf X H oo R (B21 X (H▸f)) oo iq sq hq q0 (rt w D uv) hN oo oo B4u oo oo oo ?_;intro A4 c4 W l4 sl;refine⟨_,_,_,rfl,?_⟩;obtain⟨xs,sx,ac,hx⟩:=sl;have C:=B6 l l4;refine⟨fun L O=>∃(i:J) (A':Option aI) (c':J) (F:eF Ivl) (g o:aF),L=[.slice A' i c',I (i:Z)]/\i<=N/\F.length=i/\W.le g/\Sep O g o/\bH o 64 A' c' F,fun L _=>N-(iAt L 1).toNat,⟨0,none,0,[],W,Ag,rfl,oo,rfl,B8 _,Sep.refl _,OwnSl.nil⟩,?_⟩;rintro rA d rc ti O ⟨i,A',c',F,g,o,eL,hi,G,V,s,ow⟩;obtain⟨⟨rfl,rfl,rfl⟩,rfl⟩:=eL;have B:=B6 V s.le;refine B9 (fun ad=>?_) (fun aa=>?_);{have j:d<xs.length:=oo;obtain⟨a,ea,b⟩:=SlF.at dc (sx.mono B) j;obtain⟨p,q,ip,T,zp,zq⟩:=hx xs[d] (cT j);refine⟨a,ea,oo,oo,_,_,_,_,_,_,_,_,_,_,_,_,_,_,_,_,b 0 _ rfl,b 1 _ rfl,b 2 _ rfl,b 3 _ rfl,b 4 _ rfl,b 5 _ rfl,b 6 _ rfl,b 7 _ rfl,?_⟩;refine A3h ((gl.mono C).mono B) (ip.le B) (T.le B) zp zq oo ⟨_,_,rfl,?_⟩;refine V8 (ty:=123) C8s s ow G.symm (y:=((E7 p,E7 q):Ivl)) rfl dc oo oo ?_;intro A5 c5 h5 g5 o5 l5 s5 Q _;rw[G,wiS d oo];refine⟨⟨d+1,A5,c5,F++[(E7 p,E7 q)],g5,o5,rfl,oo,by simp[G],B6 V l5,s5,Q⟩,?_⟩;show N-((d+1:J):Z).toNat<N-((d:J):Z).toNat;omega};·obtain rfl:d=N:=oo;exact hK _ _ O (B6 C B) ⟨F,ow.slF s.ole,G.symm⟩
end
end Go.Proofs.YteppbhimdjmabaaGreatDoor
namespace Go.Proofs.YteppbhimdjmabaaGreatDoor
set_option maxRecDepth 20000
section
variable {w v u G A:eF Z} {c d:J->Y} {n:J} {D D' D2:Z}
def Pr(v u:eF Z):Prop:=∃a b:Z,a≠0/\b≠0/\∀x,(a:Y)*pe v x=(b:Y)*pe u x
def Dv.pr(p:Pr v u)(h:Dv G v):Dv G u:=by obtain⟨a,b,i,b0,c⟩:=p;obtain⟨N,e,j,d⟩:=h;refine⟨N*b,J8 a e,fun z=>by rcases Int.mul_eq_zero.1 z with z|z<;>contradiction,fun x=>?_⟩;have g:=c x;have f:=d x;rw[F4,aW];have:(N:Y)*(b:Y)*pe u x=(N:Y)*((b:Y)*pe u x):=gz0;rw[this,<- g];have:(N:Y)*((a:Y)*pe v x)=(a:Y)*((N:Y)*pe v x):=gz0;rw[this,f];grind
def Cb.pr(p:Pr v u)(h:Cb A v G):Cb A u G:=by obtain⟨a,b,g,b0,c⟩:=p;obtain⟨N,α,β,i,d⟩:=h;refine⟨N*a,J8 a α,J8 b β,fun z=>by rcases Int.mul_eq_zero.1 z with z|z<;>contradiction,fun x=>?_⟩;have f:=c x;have e:=d x;rw[F4,F4,aW];have:(N:Y)*(a:Y)*pe G x=(a:Y)*((N:Y)*pe G x):=gz0;rw[this,e];have:(a:Y)*(pe α x*pe A x+pe β x*pe v x)=a*pe α x*pe A x+pe β x*((a:Y)*pe v x):=gz0;rw[this,f];grind
def B4l(nG:Nz G)(G0:G≠[])(dw:Dv G w)(dd:Dv G (dl w))(cb:Cb w (dl w) G):G.length=1↔Cop w:=by refine⟨fun h D i d a=>?_,fun k=>by have:=k G nG dw dd;have:=List.length_pos_iff.2 G0;omega⟩;obtain⟨N,α,β,f,g⟩:=cb;have j:Dv D G:=Dv.step (q:=α) (r:=Lh β (dl w)) (r':=Lh β (dl w)) (c:=1) f (fun x=>by rw[g,Q5]) (fun x=>by rw[i1,bC]) d (a.trans ⟨1,β,dc,fun x=>by rw[i1,bC,Q5]⟩);by_cases z:D=[];{rw[z];simp};·obtain⟨_,e,_,_,b,_,l⟩:=j.trim nG G0 i z;have:=List.length_pos_iff.2 b;omega
def UvR.uniq(u:UvR c n w D)(k:UvR c n v D'):w=v/\D=D':=⟨Nz.ext u.nz k.nz fun x=>by rw[u.val,k.val];exact A1d fun i a=>Rat.intCast_inj.1 (by rw[u.eq i a,k.eq i a,u.lc,k.lc]),by rw[u.lc,k.lc]⟩
def N7{z D:Z}(h:D≠0):aK z D*(D:Y)=(z:Y):=by rw[aT,dE (F5 h)]
def UvR.dl(u:UvR c n w D)(d:UvR (fun i=>aK (cf (dl w) i) D) (n-1) v D2):Pr v (dl w):=by have k:=u.pos;have l:=d.pos;refine⟨D,D2,o,o,fun x=>?_⟩;have f:pe (Go.Proofs.YteppbhimdjmabaaGreatDoor.dl w) x=ps (cf (Go.Proofs.YteppbhimdjmabaaGreatDoor.dl w)) x (n-1):=by{rw[<- Vr,Jp,u.len]};rw[d.val,f];have a:ps (fun i=>D*cf v i) x (n-1)=(D:Y)*ps (cf v) x (n-1)+((0:Z):Y)*ps (cf v) x (n-1):=Ou fun i _=>by{omega};have g:ps (fun i=>D*cf v i) x (n-1)=(D2:Y)*ps (cf (Go.Proofs.YteppbhimdjmabaaGreatDoor.dl w)) x (n-1)+((0:Z):Y)*ps (cf v) x (n-1):=Ou fun i j=>by{have:=d.eq i j;have e:((D*cf v i:Z):Y)=((D2*cf (Go.Proofs.YteppbhimdjmabaaGreatDoor.dl w) i:Z):Y):=by{rw[aW,aW,this,<- N7 (z:=cf (Go.Proofs.YteppbhimdjmabaaGreatDoor.dl w) i) (D:=D) o];grind};have:=Rat.intCast_inj.1 e;omega};rw[g]at a;have b:((0:Z):Y)=0:=rfl;rw[b]at a;grind
end
section
set_option maxRecDepth 100000
variable {h:aF} {K:VP}
end
section
set_option maxRecDepth 100000
variable {h:aF} {K:VP}
end
section
set_option maxRecDepth 100000
variable {h:aF} {K:VP}
def Yx:cZ prog 80 38 (N0) 1 24:=⟨by kernel_rfl,by kernel_rfl,rfl,dc⟩
def C89:cZ prog 82 87 (.agg #[.bool false,Sl none 0 0,.bool false,Sl none 0 0,Sl none 0 0]) 5 88:=⟨by kernel_rfl,by kernel_rfl,rfl,dc⟩
def C2y:cZ prog 98 92 (Mv (0:Z) (0:Z) none 0 0) 3 40:=⟨by kernel_rfl,by kernel_rfl,rfl,dc⟩
def Yr:∀(args:Array aX) (W:World),(callFunc 172 args).run prog W= .ok (.enter 172 args) W:=call172
end
section
set_option maxRecDepth 100000
variable {h:aF} {K:VP}
end
section
set_option maxRecDepth 100000
variable {h:aF} {K:VP}
def C8b:cZ prog 32 70 (.agg #[N0,.string ({data:=#[] }:ByteArray),.string ({data:=#[] }:ByteArray),N0]) 4 80:=⟨by kernel_rfl,by kernel_rfl,rfl,dc⟩
def C8a:cZ prog 147 151 (.agg #[.bool false,Sl none 0 0,.bool false,Sl none 0 0,.bool false,Sl none 0 0,.bool false,Sl none 0 0]) 8 128:=⟨by kernel_rfl,by kernel_rfl,rfl,dc⟩
end
section
variable {h:aF} {K:VP} {A B:Option aI} {n c k d m M nd cd:J} {S w:eF Z} {ls lt:J->eF UInt8} {s:Bool} {D:Z}
def A0c(gl:Gl h)(r:WV h A n w)(iD:ZI h s B nd cd D)(hn:n<=1000)(bw:WB m w)(bD:ZB m D)(hm:m<=40000000) (hK:∀b h',Own RQr h h' b n (fun i=>aK (cf w i) D)->K (.slice (some ⟨b,0,none⟩) n n) h'):aO prog 62 #[.slice A n c,.agg #[.bool s,.slice B nd cd]] h K:=by refine(fnk func62 [(3,[13],[],[I 0])] (own:=[3,7])) ?_;refine G7 A0k (zx:=U1) rfl oo oo oo oo ?_;intro b G;refine⟨_,_,_,rfl,fun L p=>∃k:J,k<=n/\L=[I k]/\OwnK RQr h p b n k (fun i=>aK (cf w i) D),fun L _=>n-(iAt L 0).toNat,⟨0,oo,rfl,OwnK.zero G⟩,?_⟩;rintro t p ⟨k,V,W,g,o,xs,f,j,u,e,q⟩;obtain rfl:t=(k:Z):=gz0;refine B9 (fun E=>?_) (fun C=>?_);{have d:k<n:=oo;obtain⟨a,z,rfl,N,H,M⟩:=(r.mono f).2.zat d;refine⟨a,rfl,oo,oo,_,_,_,_,C2 j.le H,C2 j.le M,?_⟩;refine j.call (K7 (m:=m) (gl.mono f).tz N (iD.mono f) (bw k) bD oo ?_);intro R T Q F S l;refine⟨_,_,_,_,_,_,_,_,rfl,_,rfl,oo,oo,?_⟩;refine OwnK.store H2 A36 (y:=R) f Q l u e q d rfl F ?_;intro X O;rw[wiS k oo];exact⟨⟨k+1,oo,rfl,O⟩,by simp only[U4];omega⟩};·obtain rfl:k=n:=oo;exact hK b p ⟨g,o,xs,f,j,u,e,q⟩
def Lm(gl:Gl h)(r:WV h A n w)(iD:ZI h s B nd cd D)(hn:n<=1000)(bw:WB m w)(bD:ZB m D)(hm:m<=10000000)(D0:D≠0) (hK:∀b h',Own SSr h h' b n (fun i=>E7 (aK (cf w i) D))->K (.slice (some ⟨b,0,none⟩) n n) h'):aO prog 66 #[.slice A n c,.agg #[.bool s,.slice B nd cd]] h K:=by refine(fnk func66 (own:=[3])) ?_;refine A0c gl r iD hn bw bD o fun b g d=>⟨_,_,_,rfl,?_⟩;refine U8 (m:=m) (gl.mono d.le) (d.vis H2) o (fun i _=>N4 D0 (bw i) bD) o fun f e a=>⟨_,_,_,rfl,hK f e (a.weak d.le)⟩
def mQ(w:eF Z)(i:J):Y:=aK (cf w i) (lc w)
def Sk(gl:Gl h)(r:WV h A n w)(hz:Nz w)(w0:w≠[])(hn:n<=1000)(bw:WB m w)(hm:m<=10000000) (hK:∀b h',Own SSr h h' b n (fun i=>E7 (mQ w i))->K (.slice (some ⟨b,0,none⟩) n n) h'):aO prog 57 #[.slice A n c] h K:=by refine(fnk func57) ?_;refine Di r hn fun s A' j k d=>⟨_,_,_,_,rfl,?_⟩;have e:cf w (n-1)=lc w:=by{rw[r.1];rfl};rw[e]at d;have a:=hz w0;rw[Jk w0]at a;exact Lm gl r d hn bw (bw _) hm a fun b f g=>⟨_,_,_,rfl,hK b f g⟩
def Co(gl:Gl h)(r:bG SSr h A n ls)(hn:n<=65)(hl:∀i,i<n->(ls i).length<=140737488351232) (hK1:Uok n ls->∀h',h.le h'->K (I ((n:Z)-1)) h') (hK0:¬Uok n ls->∀h',h.le h'->K (I (-1)) h'):aO prog 50 #[.slice A n c] h K:=by refine(fnk func50) ?_;refine Bq gl r hn hl (fun u a b=>⟨_,rfl,Gq ?_⟩) (fun u a b=>⟨_,rfl,hK0 u a b⟩);rw[C0 o o];grind
def A0f(gl:Gl h)(r:bG SSr h A n ls)(h2:2<=n)(hn:n<=6)(hl:∀i,i<n->(ls i).length<=140737488351232)(u:Uok n ls)(hs:∀i,i<n->Sz 48 (rv (ls i))) (hK:∀w D b h',UvR (fun i=>rv (ls i)) n w D->WB 337 w->ZB 289 D->Own SSr h h' b (n-1) (fun i=>E7 (aK (cf (dl w) i) D))->K (.tuple #[.slice (some ⟨b,0,none⟩) (n-1) (n-1),I 0]) h'):aO prog 52 #[.slice A n c] h K:=by refine(fnk func52 (os:=[(4,[0,2,1,3,4,5])]) (own:=[5])) ?_;refine Dj (m:=48) gl r o hl u hs o ?_;intro w D z A1 C c1 E g wv F y uv d e;refine⟨_,_,_,_,_,_,_,_,rfl,Gq ?_⟩;have B:=wv.1;have G:=uv.len;have d:WB 337 w:=d.mono o;have e:ZB 289 D:=e.mono o;refine Gv wv o d o o fun A2 t c2 k f a q=>⟨_,_,_,rfl,f,?_⟩;have l:=a.1;rw[Jp]at l;obtain rfl:t=n-1:=o;have p:=uv.pos;refine Lm (m:=347) ((gl.mono g).mono f) a (y.mono f) o (d.dl o) (e.mono o) o o fun b s j=>⟨_,_,_,rfl,j.le,hK w D b s uv d e (j.weak (B6 g f))⟩
def B1m{f:J->Y}(h:0<n->f (n-1)≠0):Uok n fun i=>E7 (f i):=⟨fun i _=>⟨_,rfl⟩,fun a e=>h a (A0h (e.trans B5s.symm))⟩
def Wj(hw:Nz w)(w0:w≠[]):lc w≠0:=by have:=hw w0;rwa [Jk w0]at this
def Rs{z D:Z}(h:z≠0)(hD:D≠0):aK z D≠0:=fun e=>by have:=N7 (z:=z) hD;rw[e,dH]at this;exact F5 h this.symm
def C1b(hw:Nz w)(w0:w≠[]):mQ w (w.length-1)≠0:=Rs (Wj hw w0) (Wj hw w0)
def A9f(gl:Gl h)(r:bG SSr h A n ls)(r2:bG SSr h B (n-1) (fun i=>E7 (aK (cf (dl w) i) D)))(h2:2<=n)(hn:n<=6)(hl:∀i,i<n->(ls i).length<=140737488351232)(u:Uok n ls)(hs:∀i,i<n->Sz 48 (rv (ls i))) (uv:UvR (fun i=>rv (ls i)) n w D) (bw:WB 337 w) (bD:ZB 289 D) (hK:∀(G:eF Z) b h',Own SSr h h' b G.length (fun i=>E7 (mQ G i))->Nz G->G≠[]->G.length<=6->WB 930000 G->(G.length=1↔Cop w)->K (.tuple #[.slice (some ⟨b,0,none⟩) G.length G.length,I 0]) h'):aO prog 53 #[.slice A n c,.slice B (n-1) d] h K:=by refine(fnk func53 (own:=[7,10])) ?_;refine Dj (m:=48) gl r o hl u hs o ?_;intro g D' z A1 n1 c1 h1 k wv hc iz t _ _;obtain⟨rfl,rfl⟩:=t.uniq uv;have p:=uv.pos;have e1:=wv.1;have R:=uv.len;have q:=uv.nz;have F:g≠[]:=gz0;have sz:∀i,Sz 347 (aK (cf (dl g) i) D'):=fun i=>N4 o (bw.dl o i) (bD.mono o);have N:∀i,rv (E7 (aK (cf (dl g) i) D'))=aK (cf (dl g) i) D':=fun i=>F3 _;have L:Uok (n-1) (fun i=>E7 (aK (cf (dl g) i) D')):=B1m fun h0=>Rs (by have S:dl g≠[]:=by{intro e;have:=Jp g;grind};have:=Wj (A45 q) S;unfold lc at this;rw[Jp,<- R]at this;exact this) o;refine⟨_,_,_,_,_,_,_,_,rfl,Dj (m:=347) (gl.mono k) (r2.mono F1 k) o (fun i _=>by have:=Oa (sz i);omega) L (fun i _=>gz0) o ?_⟩;intro v D2 z2 A2 n2 c2 X l j s T f bv _;refine⟨_,_,_,_,_,_,_,_,rfl,Gq (Gq ?_)⟩;have pr:Pr v (dl g):=uv.dl (by have:=f;simp only[N]at this;exact this);have e3:=j.1;have e4:=f.len;refine Yu (M:=2083) ((gl.mono k).mono l).tz (wv.mono l) j q f.nz F o o hc s (bw.mono o) (bv.mono o) o ?_;intro W V cw cv G A3 O c3 h3 E C aa pw pv a y lG;have H:=C.1;have lp:=List.length_pos_iff.2 a.ne;refine⟨_,_,_,rfl,D4 (fun e=>o) (fun _=>?_)⟩;refine Sk (((gl.mono k).mono l).mono E) C a.nz a.ne o y o fun b Q ow=>⟨_,_,_,rfl,?_⟩;obtain rfl:O=G.length:=H;have a1:=pw.pos q F;have a2:=pv.pos f.nz gz0;refine hK G b Q (ow.weak (B6 k (B6 l E))) a.nz a.ne lG (y.mono o) (B4l a.nz a.ne (a.da.scale pw.val) (Dv.pr pr (a.db.scale pv.val)) (Cb.pr pr (a.cb.scale o pw.val pv.val fun z=>o)))
def Zc{i:Z}(hK:K (.tuple #[.agg #[.bool false,.slice none 0 0,.bool false,.slice none 0 0,I i],.bool true]) h):aO prog 113 #[.string (bs []),I i] h K:=by refine(fnk func113 (own:=[4,6])) ?_;rw[W6];exact B9 (fun _=>hK) (fun e=>absurd rfl e)
def A3j(gl:Gl h)(r:bG SSr h A n ls)(h2:2<=n)(hn:n<=6)(hl:∀i,i<n->(ls i).length<=140737488351232)(u:Uok n ls)(hs:∀i,i<n->Sz 48 (rv (ls i)))(cop:∀w D,UvR (fun i=>rv (ls i)) n w D->Cop w) (hK:∀N h',h.le h'->(∀w D,UvR (fun i=>rv (ls i)) n w D->RtN w (N:J))->(∀w D,UvR (fun i=>rv (ls i)) n w D->RtS 337 w)->N<=100->K (.tuple #[I (N:Z),I 0]) h'):aO prog 20 #[.slice A n c] h K:=by refine(fnk func20) ?_;refine(fnk func54 (os:=[(8,[0,2,3,1,4,5,6])]) (own:=[9,11,13])) ?_;refine Vf (m:=48) gl r o o hl u hs o ?_;intro w D z A1 n1 c1 R p wv O V uv G _;refine⟨_,_,_,_,_,_,_,_,rfl,Zc ⟨_,_,_,_,_,_,_,_,_,_,rfl,Zc ⟨_,_,_,_,_,_,_,_,_,_,rfl,D4 (fun e=>o) (fun _=>Gq (Gq (D8 (fun e=>absurd rfl e) (fun _=>?_))))⟩⟩⟩;have X:=wv.1;have T:=uv.len;have y:w≠[]:=gz0;have a:WB 337 w:=G.mono o;refine Au (gl.mono p).tz wv uv.nz y o O a o ?_;intro S A2 n2 c2 H q B l d bS;obtain⟨k,g,f⟩:=d.same uv.nz (cop w D uv);have Q:S.length=w.length:=by{rw[f];simp[J8]};have e4:=B.1;refine⟨_,_,_,rfl,q,A0w (M:=337) (gl.mono (B6 p q)).tz B d.nz d.ne o l (B21 g (f▸a)) o ?_⟩;intro t L s j cB W C;have rt:=RtN.of d g f o j cB;obtain⟨N,F,hN⟩:=rt.nat d g f o j (fun i=>a i) (Wj uv.nz y);rw[F]at rt ⊢;exact⟨_,rfl,s,_,_,rfl,hK N L (B6 p (B6 q s)) (fun E D' b=>by rw[(b.uniq uv).1];exact rt) (fun E D' b=>by rw[(b.uniq uv).1];exact RtS.of d g f o j C) o⟩
end
def C5l{P:Program}{t e' ty:cF}{z:aX}{bytes:J}(s:cZ P t e' z 1 bytes){h g o:aF}{b:J}{arr:eF aX}{e:cF}(sp:Sep h g o)(ho:o b=some (.cells arr.toArray e)){d n c m cc:J}(hd:d+n<=arr.length){B:Option aI}{ys:eF aX}(sy:SlV h B ys)(hm:min m n=ys.length)(h1:∀v∈ys,Qj v=true){K:VP} (x:∀h',Sep h' g (o.put b (.cells (J0 arr d ys).toArray e))->K (I ys.length) h'):wpH P (dP #[t,t] ty #[.slice (some ⟨b,d,none⟩) n c,.slice B m cc]) K h:=by obtain⟨i,p,q,j,k⟩:=s.parts;have l:ys.length<=n:=oo;unfold dP;simp only[List.getElem?_toArray,List.getElem?_cons_zero,List.getElem?_cons_succ,C8,F2 s.und,K4 p,I5,Builtin.lenOf,j];have a:Nat.min m n=ys.length:=hm;rw[a];refine Lw (s:=1) (cs:=ys) (by simp) sy ?_;simp only[C8];have f:h.put b (.cells arr.toArray e)=h:=Qi (sp.own b _ ho);rw[<- f];refine H8 ys d 0 arr oo h1 ?_;exact x _ (sp.upd ho _)
section
variable {h:aF} {K:VP} {A:Option aI} {n ac N cap:J} {r c:Z} {la:J->eF UInt8}
def A0z(x:eF UInt8)(n:J):(aE n x).flatMap enc=aE n (aL (bs x)):=by have a:(aE n x).flatMap enc=(aE n x).flatMap fun l=>[aL (bs l)]:=rfl;rw[a,A8s,List.map_replicate]
def Su{v:ByteArray}(s:SlV h A [.string v])(hN:1<=N)(hl:N<=1000000) (hK:∀b h' o',Sep h' h o'->o' b=some (.cells (aE N (aL v)).toArray 9)->K (.slice (some ⟨b,0,none⟩) N N) h'):aO prog 102 #[.slice A 1 ac,I (N:Z)] h K:=by refine(fnk func102 [(8,[8],[],[I 0])]) ?_;refine B9 (fun f=>oo) (fun _=>?_);rw[C5 (n:=((1:J):Z)) oo oo,C5 (n:=(N:Z)) oo oo];refine B4w oo oo ⟨_,_,rfl,?_⟩;have H:((1:J):Z)*(N:Z)/18446744073709551616=0:=oo;have F:((1:J):Z)*(N:Z)%18446744073709551616=N:=oo;rw[H,F];refine B9 (fun f=>oo) (fun _=>?_);refine B9 (fun f=>oo) (fun _=>?_);rw[C0 (n:=(N:Z)) oo oo];refine G7 G2 (zx:=([]:eF UInt8)) rfl oo oo oo oo ?_;intro b p;simp only[aU];refine⟨_,_,_,rfl,?_⟩;have q:=(Sep.refl h).new p (.cells ((aE N ([]:eF UInt8)).flatMap enc).toArray 9);have r:h.le (h.put b (.cells ((aE N ([]:eF UInt8)).flatMap enc).toArray 9)):=Heap.le_put _ p;rw[A0z]at q r;show wpH _ (dP _ _ _) _ (h.put b (.cells ((aE N ([]:eF UInt8)).flatMap enc).toArray 9));rw[A0z];refine C5l G2 q (C3 _ _ _) (d:=0) (by simp) (s.mono r) (by simp;omega) (fun w G=>by rw[List.mem_singleton.1 G];rfl) ?_;intro f t;refine⟨_,rfl,?_⟩;have cut:J0 (aE N (aL (bs []))) 0 [aL v]=aE 1 (aL v)++aE (N-1) (aL (bs [])):=by{unfold J0;simp};rw[cut]at t;refine⟨fun l c=>∃(k:J) (o:aF),l=[I (k:Z)]/\0<k/\k<=N/\Sep c h o/\o b=some (.cells (aE k (aL v)++aE (N-k) (aL (bs []))).toArray 9),fun l _=>N-(iAt l 0).toNat,⟨1,_,rfl,oo,hN,t,C3 _ _ _⟩,?_⟩;rintro i c ⟨k,o,m,E,z,w,e⟩;obtain rfl:=sI1 m;refine B9 (fun C=>?_) (fun C=>?_);{refine⟨⟨oo,oo⟩,⟨oo,oo⟩,?_⟩;simp only[aU,I7,Nat.sub_zero];rw[Gb oo,D9,aQ,Nat.mul_one];have j:(aE k (aL v)++aE (N-k) (aL (bs []))).length=N:=by{simp;omega};have D:SlV c (some ⟨b,0,none⟩) (aE (min k (N-k)) (aL v)):=by{right;refine⟨_,rfl,fun i u a=>?_⟩;have g:i<min k (N-k):=by{by_cases g:i<min k (N-k);{exact g};·rw[List.getElem?_eq_none (by rw[aP];omega)]at a;cases a};rw[dT,iP g]at a;rw[D9,aQ];unfold Heap.cell?;simp only[w.own b _ e,Option.isSome_none,Bool.false_eq_true,if_false,List.getElem?_toArray];rw[dO (by rw[aP];omega),dT,iP oo];exact a};refine C5l G2 w e (d:=k) (by rw[j];omega) D (by rw[aP]) (fun u a=>by rw[List.eq_of_mem_replicate a];rfl) ?_;intro M y;rw[aP];have L:C4 ((k:Z)+(min k (N-k):J))=((k+min k (N-k):J):Z):=by{rw[C0 oo oo];omega};have B:J0 (aE k (aL v)++aE (N-k) (aL (bs []))) k (aE (min k (N-k)) (aL v))=aE (k+min k (N-k)) (aL v)++aE (N-(k+min k (N-k))) (aL (bs [])):=by{unfold J0;rw[List.take_left' (by simp),aP,List.drop_append,eE (by rw[aP];omega),List.nil_append,aP,List.drop_replicate,List.replicate_append_replicate];congr 2;omega};rw[B]at y;refine⟨_,rfl,?_⟩;rw[L];exact⟨⟨k+min k (N-k),_,rfl,oo,oo,y,C3 _ _ _⟩,by simp only[U4];omega⟩};·have:k=N:=oo;subst this;rw[dX,List.replicate_zero,List.append_nil]at e;exact hK b c o w e
end
section
variable {h:aF} {K:VP} {A:Option aI} {n cap m w:J} {r c:Z} {ls:J->eF UInt8} {R:J->J->Y}
def Sa{α:Type}[E:Enc α]{o:aF}{b:J}{e:cF}{c:J}{zx:α}:bH (o.put b (.cells ((aE c zx).flatMap enc).toArray e)) e (some ⟨b,0,none⟩) c ([]:eF α):=⟨cC _,.inr ⟨b,_,rfl,C3 _ _ _,by rw[N3,aP],by simp⟩⟩
end
def Br.nt{X yq9:Prop}(y:yq9):Br (!true) X yq9:=y
def Lk{X yq9:Prop}(x:X):Br (!false) X yq9:=x
structure MOut where
 r:Z
 c:Z
 n:J
 f:J->eF UInt8
 e:Z
def noM(e:Z):MOut:=⟨0,0,0,fun _=>[],e⟩
section
variable {h:aF} {K:VP} {A B:Option aI} {n n2 cap cap2 m w:J} {r c r2 c2:Z} {la lb:J->eF UInt8}
end
structure VV where
 A:Option aI
 n:J
 c:J
 s:Bool
 B:Option aI
 bn:J
 bc:J
abbrev VV.v(w:VV):aX:=.agg #[.slice w.A w.n w.c,.bool w.s,.slice w.B w.bn w.bc]
instance:Enc VV:=⟨⟨fun w=>[.slice w.A w.n w.c,.bool w.s,.slice w.B w.bn w.bc],3,fun _=>rfl,fun w v hv=>by
 simp only [List.mem_cons,List.not_mem_nil,or_false] at hv
 rcases hv with rfl|rfl|rfl<;>rfl⟩⟩
def VQr(w:J):aF->VV->(J->Y)->Prop:=fun h v f=>v.n=w/\ZI h v.s v.B v.bn v.bc (Ai f w:Z)/\bG ZIr h v.A w (fun j=>scl (f j) (Ai f w:Z))
def B07(w:J):Mon (VQr w):=fun _ _ _ _ l i=>⟨i.1,i.2.1.mono l,i.2.2.mono Q8 l⟩
section
variable {h:aF} {K:VP} {A B:Option aI} {n cap m w:J} {f f2:J->Y}
def A70(gl:Gl h)(r:bG RQr h A n f)(hn:n<=10000)(hs:∀i,i<n->Sz m (f i))(hm:1+n*m+m<=6400000000) (hK:∀v h',h.le h'->VQr n h' v f->K v.v h'):aO prog 312 #[.slice A n cap] h K:=by refine(fnk func312 [(3,[14],[],[I 0])] (os:=[(1,[0,1,3,6,2,4,5,7])]) (al:=[(1,[(2,[4])])]) (own:=[2,3,5])) ?_;have hd:=Hj (f:=f) n hs;refine⟨?_,?_⟩;{refine G7 tZs (zx:=(⟨false,none,0,0⟩:IV)) rfl oo oo oo oo ?_;intro b O;have V:=(Sep.refl h).new O (.cells ((aE n (⟨false,none,0,0⟩:IV)).flatMap enc).toArray 118);refine⟨_,_,_,rfl,V.le,V.call (Bo gl r oo hs hm ?_)⟩;intro M Bd Q X B t id h1 D;refine⟨_,_,_,_,rfl,V.le_le D t,?_⟩;refine⟨fun L p=>∃(k:J) (g o:aF) (l:eF IV),k<=n/\L=[I (k:Z)]/\B.le g/\Sep p g o/\RowX o b l/\l.length=n/\Row ZIr g l k (fun j=>scl (f j) (Ai f n:Z)),fun L _=>n-(iAt L 0).toNat,⟨0,B,_,aE n ⟨false,none,0,0⟩,oo,rfl,B8 _,D,RowX.mk,aP,Row.nil⟩,?_⟩;rintro z p ⟨k,g,o,l,hk,eL,e,s,E,hy,C⟩;obtain rfl:z=(k:Z):=gz0;refine B9 (fun H=>?_) (fun F=>?_);{have c:k<n:=oo;obtain⟨a,w,ea,G,c0,c1,c2,c3⟩:=(r.mono H2 (B6 t e)).qat c;refine⟨a,ea,oo,oo,_,_,_,_,_,_,_,_,C2 s.le c0,C2 s.le c1,C2 s.le c2,C2 s.le c3,?_⟩;refine s.call (Hb (m:=1+n*m+m) G (id.mono e) ((hs k c).mono oo) (hd.mono oo) hm ?_);intro T A2 n2 c2 R u N h2 d;refine⟨_,_,_,_,rfl,s.le_le d u,_,rfl,oo,oo,?_⟩;refine P7 Uo (y:=(⟨T,A2,n2,c2⟩:IV)) rfl d E (i:=k) oo ?_;intro h7 W x7 eo S q;rw[wiS k oo];exact⟨⟨k+1,R,W,_,oo,rfl,B6 e u,S,q,gz0,(C.mono Q8 u).set oo N⟩,by simp only[U4];omega⟩};·have:k=n:=oo;subst this;exact hK ⟨some ⟨b,0,none⟩,k,k,M,Bd,Q,X⟩ p (B6 t (B6 e s.le)) ⟨rfl,id.mono (B6 e s.le),l,E.rowB.slF s.ole,hy,C.mono Q8 s.le⟩};·refine Bo gl r oo hs hm ?_;intro M Bd Q X B t id;refine⟨_,_,_,_,rfl,t,G7 tZs (zx:=(⟨false,none,0,0⟩:IV)) rfl oo oo oo oo ?_⟩;intro b O;have D:=(Sep.refl B).new O (.cells ((aE n (⟨false,none,0,0⟩:IV)).flatMap enc).toArray 118);refine⟨_,_,_,rfl,D.le,?_⟩;refine⟨fun L p=>∃(k:J) (g o:aF) (l:eF IV),k<=n/\L=[I (k:Z)]/\B.le g/\Sep p g o/\RowX o b l/\l.length=n/\Row ZIr g l k (fun j=>scl (f j) (Ai f n:Z)),fun L _=>n-(iAt L 0).toNat,⟨0,B,_,aE n ⟨false,none,0,0⟩,oo,rfl,B8 _,D,RowX.mk,aP,Row.nil⟩,?_⟩;rintro z p ⟨k,g,o,l,hk,eL,e,s,E,hy,C⟩;obtain rfl:z=(k:Z):=gz0;refine B9 (fun H=>?_) (fun F=>?_);{have c:k<n:=oo;obtain⟨a,w,ea,G,c0,c1,c2,c3⟩:=(r.mono H2 (B6 t e)).qat c;refine⟨a,ea,oo,oo,_,_,_,_,_,_,_,_,C2 s.le c0,C2 s.le c1,C2 s.le c2,C2 s.le c3,?_⟩;refine s.call (Hb (m:=1+n*m+m) G (id.mono e) ((hs k c).mono oo) (hd.mono oo) hm ?_);intro T A2 n2 c2 R u N h2 d;refine⟨_,_,_,_,rfl,s.le_le d u,_,rfl,oo,oo,?_⟩;refine P7 Uo (y:=(⟨T,A2,n2,c2⟩:IV)) rfl d E (i:=k) oo ?_;intro h7 W x7 eo S q;rw[wiS k oo];exact⟨⟨k+1,R,W,_,oo,rfl,B6 e u,S,q,gz0,(C.mono Q8 u).set oo N⟩,by simp only[U4];omega⟩};·have:k=n:=oo;subst this;exact hK ⟨some ⟨b,0,none⟩,k,k,M,Bd,Q,X⟩ p (B6 t (B6 e s.le)) ⟨rfl,id.mono (B6 e s.le),l,E.rowB.slF s.ole,hy,C.mono Q8 s.le⟩
def smZ(x y:J->Z):J->Z
 |0=>0
 |k+1=>smZ x y k+x k*y k
def smA(x y:J->Z):J->Z
 |0=>0
 |k+1=>smA x y k+(x k*y k).natAbs
def B8c{x y:J->Z}{m w:J}(hx:∀j,j<w->ZB m (x j))(hy:∀j,j<w->ZB m (y j)):∀k,k<=w->smA x y k<=k*2^(2*m):=by
 intro k
 induction k with
 |zero=>intro _;simp[smA]
 |succ k ih=>
  intro b;have a:=Ms (hx k o) (hy k o);have c:((k+1:J):Z)*2^(2*m)=(k:Z)*2^(2*m)+2^(2*m):=gz0;show smA x y k+((x k*y k).natAbs:Z)<=_;omega
def B9y(x y:J->Z):∀k,((smZ x y k).natAbs:Z)<=smA x y k:=by
 intro k
 induction k with
 |zero=>exact Int.le_refl _
 |succ k ih=>
  show((smZ x y k+x k*y k).natAbs:Z)<=smA x y k+((x k*y k).natAbs:Z);omega
def C33{x y:J->Z}{m w:J}(hx:∀j,j<w->ZB m (x j))(hy:∀j,j<w->ZB m (y j))(hw:w<=10000):ZB (2*m+14) (smZ x y w):=by have a:=B8c hx hy w (aJ _);have b:=B9y x y w;have e:(2:Z)^(2*m)=((2^(2*m):J):Z):=by{simp};rw[e,<- bX]at a;have f:w*2^(2*m)<=10000*2^(2*m):=aC _ hw;have c:2^(2*m+14)=2^(2*m)*16384:=by{rw[Nat.pow_add]};have d:0<2^(2*m):=dM dc;unfold ZB;omega
def C34{p q:J->Y}{x y:J->Z}{d e:Z}{w:J}(hx:∀j,j<w->(x j:Y)=p j*d)(hy:∀j,j<w->(y j:Y)=q j*e):∀k,k<=w->(smZ x y k:Y)=sm k (fun j=>p j*q j)*((d*e:Z):Y):=by
 intro k
 induction k with
 |zero=>intro _;show((0:Z):Y)=0*_;grind
 |succ k ih=>
  intro a;show((smZ x y k+x k*y k:Z):Y)=(sm k (fun j=>p j*q j)+p k*q k)*((d*e:Z):Y);grind
def A9j{v u:VV}(gl:Gl h)(iv:VQr w h v f)(iu:VQr w h u f2)(hw:w<=10000)(hs:∀i,i<w->Sz m (f i))(hs2:∀i,i<w->Sz m (f2 i))(hm1:1<=m)(hm:2*(1+w*m+m)+14<=100000000) (hK:∀q h',h.le h'->RQ h' q (sm w (fun j=>f j*f2 j))->K q.v h'):aO prog 289 #[v.v,u.v] h K:=by refine(fnk func289 [(3,[11],[],[I 0])] (os:=[(7,[1,2,3,4,0,5,6,7])]) (own:=[2,3,4,7]) (wr:=[127])) ?_;obtain⟨ad,E,G⟩:=iv;obtain⟨aa,C,B⟩:=iu;have e:=Hj (f:=f) w hs;have d:=Hj (f:=f2) w hs2;have F:∀j,j<w->ZB (1+w*m+m) (scl (f j) (Ai f w:Z)):=fun j l=>(A3d (hs j l) e).mono o;have D:∀j,j<w->ZB (1+w*m+m) (scl (f2 j) (Ai f2 w:Z)):=fun j l=>(A3d (hs2 j l) d).mono o;refine An Tw ?_;intro bs t;have Z0:SumS (h.put bs (.cells #[.slice none 0 0,.slice none 0 0] 217)) h bs 217 200000001 0 0:=SumS.zero t;refine⟨_,rfl,fun L O=>∃(k:J) (g:aF),k<=w/\L=[I (k:Z)]/\h.le g/\SumS O g bs 217 200000001 (smA (fun j=>scl (f j) (Ai f w:Z)) (fun j=>scl (f2 j) (Ai f2 w:Z)) k) (smZ (fun j=>scl (f j) (Ai f w:Z)) (fun j=>scl (f2 j) (Ai f2 w:Z)) k),fun L _=>w-(iAt L 0).toNat,⟨0,h,o,rfl,B8 _,Z0⟩,?_⟩;rintro z O ⟨k,g,hk,eL,s,b⟩;obtain rfl:z=(k:Z):=gz0;refine B9 (fun W=>?_) (fun T=>?_);{have c:k<w:=o;obtain⟨a,x1,ea,Q,c0,c1⟩:=(G.mono Q8 s).zat c;obtain⟨a2,y1,y,N,d0,d1⟩:=(B.mono Q8 s).zat c;refine⟨a,ea,o,o,_,_,_,_,C2 b.le c0,C2 b.le c1,a2,y,o,o,_,_,_,_,C2 b.le d0,C2 b.le d1,?_⟩;have lx:x1.n<=100000000:=ZI.len Q (F k c) o;have ly:y1.n<=100000000:=ZI.len N (D k c) o;have hA:=B8c F D (k+1) c;have S:=A1f (m:=1+w*m+m) (k:=k+1) o o;refine O9 b Q N o o (N1:=1+w*m+m) (by show smA _ _ (k+1)<_;omega) o ?_;intro h3 g3 l3 Z3;rw[wiS k o];exact⟨rfl,⟨k+1,g3,o,rfl,B6 s l3,Z3⟩,by simp only[U4];omega⟩};·have:k=w:=o;subst this;refine Cp b o ?_;intro sv Av nv cv h5 M X;have p:=B6 s (B6 b.le M);refine⟨_,_,_,_,rfl,M,?_⟩;refine I6 (m:=1+k*m+m) (E.mono p) (C.mono p) (e.mono o) (d.mono o) o ?_;intro s6 A6 n6 c6 h6 H z6;refine⟨_,_,_,_,rfl,H,?_⟩;have r:=B6 p H;have e1:∀j,j<k->(scl (f j) (Ai f k:Z):Y)=f j*((Ai f k:Z):Y):=fun j l=>A3e (Int.natCast_dvd_natCast.2 (Ph f k j l));have e2:∀j,j<k->(scl (f2 j) (Ai f2 k:Z):Y)=f2 j*((Ai f2 k:Z):Y):=fun j l=>A3e (Int.natCast_dvd_natCast.2 (Ph f2 k j l));have es:=C34 e1 e2 k (aJ _);have V:=Pg f k;have ac:=Pg f2 k;have A:((Ai f k:Z)*(Ai f2 k:Z))≠0:=Int.mul_ne_zero o o;have zb:ZB (2*(1+k*m+m)+14) (smZ (fun j=>scl (f j) (Ai f k:Z)) (fun j=>scl (f2 j) (Ai f2 k:Z)) k):=C33 F D o;refine K7 (m:=2*(1+k*m+m)+14) (gl.mono r).tz (X.mono H) z6 zb ((e.mul d).mono o) o ?_;intro q h7 R i7;refine⟨_,_,_,_,_,_,_,_,rfl,R,hK q h7 (B6 r R) ?_⟩;have:aK (smZ (fun j=>scl (f j) (Ai f k:Z)) (fun j=>scl (f2 j) (Ai f2 k:Z)) k) ((Ai f k:Z)*(Ai f2 k:Z))=sm k (fun j=>f j*f2 j):=by{rw[aT,es];exact Rat.mul_div_cancel (T3 A)};grind
end
def B67:prog.cellsOf 387=1/\(prog.info? 387).isSome=true:=by constructor<;>kernel_rfl
section
variable {h:aF} {K:VP} {A:Option aI} {cap m rows cols:J} {E:J->Y}
def Si(gl:Gl h)(r:bG RQr h A (rows*cols) E)(hcap:rows*cols<=cap)(hr2:rows<=10000)(hc:1<=cols)(hc2:cols<=10000)(hs:∀i,i<rows*cols->Sz m (E i))(hm:1+cols*m+m<=6400000000) (hK:∀A' c' h',h.le h'->bG (VQr cols) h' A' rows (A6f E cols)->K (.slice A' rows c') h'):aO prog 288 #[.slice A (rows*cols) cap,I (cols:Z)] h K:=by refine(fnk func288 (rs:=[(4,[.slice none 0 0])]) (wr:=[1000000000])) ?_;have ac:rows*cols<=100000000:=by{have:rows*cols<=10000*10000:=aY hr2 hc2;omega};refine An (z:=.slice none 0 0) (by kernel_rfl) ?_;intro q N;refine⟨_,rfl,?_⟩;have s0:=(Sep.refl h).new N (.cells #[.slice none 0 0] 387);refine s0.call (Zt hc ?_);intro v g0 S ic ae s3;have bound:∀k,k<rows->∀j,j<cols->Sz m (E (k*cols+j)):=fun k hk j hj=>hs _ (V5 hk hj);refine⟨_,rfl,Vi ic hc o hcap (fun k R=>∃(t s:aF) (n:eF VV) (A1:Option aI) (c1:J),g0.le t/\Sep R t s/\(∃e,s q=some (.cells #[.slice A1 k c1] e))/\bH s 390 A1 c1 n/\A1≠some ⟨q,0,none⟩/\n.length=k/\Row (VQr cols) t n k (A6f E cols)) ?_ ?_ ?_ ?_⟩;{exact⟨g0,_,[],none,0,B8 _,s3,⟨_,C3 _ _ _⟩,OwnSl.nil,by simp,rfl,Row.nil⟩};{rintro k R ⟨t,s,n,A1,c1,lg,s1,_⟩;exact B6 lg s1.le};{rintro k d u ⟨t,s,n,A1,c1,f,g,⟨e,a⟩,L,V,p,H⟩;have bk:=bound k u;have ad:(k+1)*cols<=rows*cols:=aC _ u;have aa:(k+1)*cols=k*cols+cols:=by{rw[cD,cY]};have C:=B6 S f;have B:bG RQr h A ((k+1)*cols) E:=by{have:=r.cut (c:=cap) (l:=0) (k:=(k+1)*cols) o hcap;rw[I7]at this;exact this.congr fun i _=>by rw[aQ]};have D:bG RQr h (X9 A ((k+1)*cols) (k*cols) 4) cols (A6f E cols k):=B.cut (c:=(k+1)*cols) (l:=k*cols) (k:=cols) o (aJ _);have cp:d.cell? ⟨q,0,none⟩=some (.slice A1 k c1):=g.cell (by unfold Heap.cell?;simp only[a];rfl);refine⟨_,_,_,rfl,_,_,_,cp,g.call (A70 (gl.mono C) (D.mono H2 C) o bk hm ?_)⟩;intro w g2 O iw F W;refine⟨_,_,_,_,_,_,_,rfl,g.le_le W O,?_⟩;subst p;refine OwnSl.push (ty:=387) C6e W L (y:=w) (v:=w.v) rfl dc o o (K1:=fun hq=>F.le hq) (fun _ l=>l) ?_;intro A3 c3 h6 X o6 Q s6 G kp;have M:=kp q _ a V;show wpH _ (bU _ (.pointer (some (aM ⟨q,0,none⟩ 0))) _) _ _;refine A2b B67 rfl rfl s6 M.1 (by simp) ?_;intro h7 o7 s7 T;exact⟨X,o7,n++[w],A3,c3,B6 f (B6 O Q),s7,⟨e,by rw[T,C3];simp⟩,G.keep fun b y hb he=>by rw[T,C1 _ _ (fun e=>M.2 (by rw[<- e];exact hb))];exact he,M.2,by simp,by have:=(Row.push (H.mono (B07 cols) (B6 O Q)) (B07 cols _ _ _ _ Q iw));simpa using this⟩};·rintro d ⟨t,s,n,A1,c1,f,g,⟨e,a⟩,L,V,p,H⟩;have cp:d.cell? ⟨q,0,none⟩=some (.slice A1 rows c1):=g.cell (by unfold Heap.cell?;simp only[a];rfl);exact⟨_,_,_,cp,hK A1 c1 d (B6 S (B6 f g.le)) ⟨n,L.slF g.ole,p,H.mono (B07 cols) g.le⟩⟩
end
section
variable {h:aF} {K:VP} {A B:Option aI} {n n2 cap cap2 m:J} {r c r2 c2:Z} {la lb:J->eF UInt8} {w:QV} {q:Y}
end
section
variable {h:aF} {K:VP} {A B:Option aI} {n w cap cap2 m:J} {f f2:J->Y} {R:J->J->Y}
def B9w(hs:∀i,i<w->Sz m (f i))(hs2:∀i,i<w->Sz m (f2 i)):∀k,k<=w->Sz (1+k*(2*m+1)) (sm k (fun j=>f j*f2 j)):=by
 intro k
 induction k with
 |zero=>intro _;exact Sz.zero o
 |succ k ih=>
  intro c;have b:=ih o;have a:=(hs k o).mul (hs2 k o);have e:1+(k+1)*(2*m+1)=1+k*(2*m+1)+(m+m)+1:=by rw[cD];omega
  rw[e];exact b.add a
end
structure VOut where
 n:J
 f:J->eF UInt8
 e:Z
def noV(e:Z):VOut:=⟨0,fun _=>[],e⟩
section
variable {h:aF} {K:VP} {A B:Option aI} {n n2 cap cap2 m:J} {r c:Z} {la lx:J->eF UInt8}
end
section
variable {h:aF} {K:VP} {A B:Option aI} {n n2 cap cap2 m:J} {r c:Z} {la lx:J->eF UInt8}
def RowV.vat{w n:J}{f:J->J->Y}(r:bG (VQr w) h A n f){i:J}(hi:i<n):∃a v,A=some a/\VQr w h v (f i)/\h.cell? (aM (aM a (i*3)) 0)=some (.slice v.A v.n v.c)/\h.cell? (aM (aM a (i*3)) 1)=some (.bool v.s)/\h.cell? (aM (aM a (i*3)) 2)=some (.slice v.B v.bn v.bc):=by obtain⟨a,v,e,q,b⟩:=RowV.at dc r hi;exact⟨a,v,e,q,b 0 _ rfl,b 1 _ rfl,b 2 _ rfl⟩
end
def C9h(r c:Z)(n:J)(la:J->eF UInt8)(r2 c2:Z)(n2:J)(lb:J->eF UInt8)(o:MOut):Prop:=(¬(Mx r c n la/\Mx r2 c2 n2 lb)/\o=noM 1)\/(Mx r c n la/\Mx r2 c2 n2 lb/\c≠r2/\o=noM 4)\/(∃rows mid cols,MOk r c n la rows mid/\MOk r2 c2 n2 lb mid cols/\o=⟨r,c2,rows*cols,fun k=>E7 (sm mid (fun j=>mtx (rvs la) mid (k/cols) j*mtx (rvs lb) cols j (k%cols))),0⟩)
def B0g{f f':J->Y}:∀n,(∀i,i<n->f i=f' i)->Ai f n=Ai f' n:=by
 intro n
 induction n with
 |zero=>intro _;rfl
 |succ n ih=>
  intro e;show Nat.lcm (Ai f n) (f n).den=Nat.lcm (Ai f' n) (f' n).den;grind
def VQr.congr{h:aF}{w:J}{v:VV}{f f':J->Y}(x:VQr w h v f)(e:∀i,i<w->f i=f' i):VQr w h v f':=by have d:Ai f w=Ai f' w:=B0g w e;obtain⟨a,b,c⟩:=x;rw[d]at b c;exact⟨a,b,c.congr fun j g=>gz0⟩
section
variable {h:aF} {K:VP} {A B:Option aI} {n n2 cap cap2 m:J} {r c r2 c2:Z} {la lb:J->eF UInt8} {E:J->Y}
def Pa{rows cols:J}(rv':bG RQr h A (rows*cols) E)(hr:rows<=10000)(hc:cols<=10000) (hK:∀A' c' h' g' o' xs,h.le g'->Sep h' g' o'->bH o' 143 A' c' xs->xs.length=rows*cols->Row RQr g' xs (rows*cols) (fun k=>E (k%rows*cols+k/rows))->K (.slice A' (rows*cols) c') h'):aO prog 179 #[.slice A (rows*cols) cap,I (rows:Z),I (cols:Z)] h K:=by refine(fnk func179 [(3,[7,14],[],[.slice none 0 0,I 0]),(6,[7,18],[],[.slice none 0 0,I 0])]) ?_;have W:rows*cols<=10000*10000:=aY hr hc;refine G7 A0k (zx:=U1) rfl oo oo oo oo ?_;intro b X;refine⟨_,_,_,rfl,fun L u=>∃(j:J) (g o:aF) (xs:eF QV) (A':Option aI) (c':J),j<=cols/\L=[.slice A' (j*rows) c',I (j:Z)]/\h.le g/\Sep u g o/\bH o 143 A' c' xs/\xs.length=j*rows/\Row RQr g xs (j*rows) (fun k=>E (k%rows*cols+k/rows)),fun L _=>cols-(iAt L 1).toNat,⟨0,h,Ag.put b _,[],some ⟨b,0,none⟩,rows*cols,oo,gz0,B8 _,S3 X,Sa,by simp,by rw[dI];exact Row.nil⟩,?_⟩;rintro rA rn rc z u ⟨j,g,o,xs,A',c',hj,H,lg,s,ow,C,rr⟩;obtain⟨⟨rfl,rfl,rfl⟩,rfl⟩:=H;refine B9 (fun V=>?_) (fun S=>?_);{have t:j<cols:=oo;have p:(j+1)*rows=j*rows+rows:=gz0;have M:(j+1)*rows<=cols*rows:=aC _ t;rw[dY cols rows]at M;refine⟨fun L u=>∃(i:J) (g o:aF) (xs:eF QV) (A':Option aI) (c':J),i<=rows/\L=[.slice A' (j*rows+i) c',I (i:Z)]/\h.le g/\Sep u g o/\bH o 143 A' c' xs/\xs.length=j*rows+i/\Row RQr g xs (j*rows+i) (fun k=>E (k%rows*cols+k/rows)),fun L _=>rows-(iAt L 1).toNat,⟨0,g,o,xs,rA,rc,oo,rfl,lg,s,ow,C,rr⟩,?_⟩;rintro qA qn qc z aa ⟨i,g2,o2,B,A2,c2,hi,H,d,m,r,c,e⟩;obtain⟨⟨rfl,rfl,rfl⟩,rfl⟩:=H;refine B9 (fun Q=>?_) (fun O=>?_);{have l:i<rows:=oo;have q:=V5 l t;have ew:C4 (C4 ((i:Z)*(cols:Z))+(j:Z))=((i*cols+j:J):Z):=by{rw[<- bX,O5 oo];exact O5 (n:=i*cols+j) oo};rw[ew];obtain⟨a,w,ea,T,c0,c1,D,c3⟩:=(rv'.mono H2 d).qat q;refine⟨a,ea,oo,oo,_,_,_,_,_,_,_,_,C2 m.le c0,C2 m.le c1,C2 m.le D,C2 m.le c3,?_⟩;refine V8 (ty:=128) A0k m r c.symm (y:=w) rfl dc oo oo ?_;intro A3 c3 h3 N o3 G s3 F _;rw[c,wiS i oo];refine⟨⟨i+1,N,o3,_,A3,c3,oo,by rw[cQ],B6 d G,s3,F,gz0,?_⟩,?_⟩;{have rB:=Row.push (R:=RQr) (g:=N) (xs:=B) (f:=fun k=>E (k%rows*cols+k/rows)) (by rw[c];exact e.mono H2 G) (w:=w) (by show RQ N w (E (B.length%rows*cols+B.length/rows));rw[c,cM (j*rows) i,aZ,cH l,bM _ _ oo,cI l,aQ];exact H2 _ _ _ _ G T);grind};·show rows-((i+1:J):Z).toNat<rows-(i:Z).toNat;omega};·have:i=rows:=oo;subst this;rw[wiS j oo,<- p];rw[<- p]at c e;refine⟨⟨j+1,g2,o2,B,qA,qc,oo,rfl,d,m,r,c,e⟩,?_⟩;show cols-((j+1:J):Z).toNat<cols-(j:Z).toNat;omega};grind
def A49{rows cols:J}(rv':bG RQr h A (rows*cols) E)(hr:rows<=10000)(hc:cols<=10000) (hK:∀A' c' h',h.le h'->rows*cols<=c'->bG RQr h' A' (rows*cols) (fun k=>E (k%rows*cols+k/rows))->K (.slice A' (rows*cols) c') h'):aO prog 179 #[.slice A (rows*cols) cap,I (rows:Z),I (cols:Z)] h K:=Pa rv' hr hc fun A' c' h' _ _ xs c s b a d=>hK A' c' h' (B6 c s.le) (by have:=b.1;omega) ⟨xs,b.slF s.ole,a,d.mono H2 s.le⟩
def B0b{d:J}(gl:Gl h)(ra:bG SSr h A n la)(rb:bG SSr h B n2 lb)(hn:n<=1000000)(hn2:n2<=1000000)(hl:∀i,i<n->(la i).length<=140737488351232)(hl2:∀i,i<n2->(lb i).length<=140737488351232)(hs:∀i,i<n->Sz m (rv (la i)))(hs2:∀i,i<n2->Sz m (rv (lb i)))(hm1:1<=m)(hd:∀rows mid,MOk r c n la rows mid->mid<=d)(hm:2*(1+d*(2*m+1)+2*m)+14<=40000000) (hK:∀o,C9h r c n la r2 c2 n2 lb o->∀A' cap' h',h.le h'->bG SSr h' A' o.n o.f->K (.tuple #[Lj o.r o.c A' o.n cap',I o.e]) h'):aO prog 241 #[Lj r c A n cap,Lj r2 c2 B n2 cap2] h K:=by refine(fnk func241 [(11,[12,61],[],[.slice none 0 0,I 0]),(14,[12,67],[],[.slice none 0 0,I 0])] (os:=[(8,[0,1,2,3,4,6,7,5,8,9])]) (own:=[2,3,4,14,16])) ?_;have W:¬(Mx r c n la/\Mx r2 c2 n2 lb)->∀h',h.le h'->K (.tuple #[Lj 0 0 none 0 0,I 1]) h':=fun hx h' l=>hK (noM 1) (.inl ⟨hx,rfl⟩) none 0 h' l RowV.nil;refine Z7 gl ra hn hl (fun rows mid mk b1 h1 own=>?_) (fun H h1 N=>⟨_,_,_,_,rfl,?_⟩);{have N:=own.le;refine⟨_,_,_,_,rfl,Z7 (gl.mono N) (rb.mono F1 N) hn2 hl2 (fun C p F b2 V D=>⟨_,_,_,_,rfl,Br.nt (Br.nt ?_)⟩) (fun H V l2=>⟨_,_,_,_,rfl,Br.nt (Lk (W (fun x=>H x.2) V (B6 N l2)))⟩)⟩;have l2:=D.le;have T:=B6 N l2;refine D8 (fun e=>hK (noM 4) (.inr (.inl ⟨⟨_,_,mk⟩,⟨_,_,F⟩,e,rfl⟩)) none 0 V T RowV.nil) (fun e=>?_);obtain rfl:C=mid:=by{have:=mk.ec;have:=F.er;omega};have ad:=hK _ (.inr (.inr ⟨rows,C,p,mk,F,rfl⟩));obtain⟨rfl,rfl,_,_,_,_,rfl,_⟩:=id mk;obtain⟨rfl,rfl,_,_,_,_,rfl,_⟩:=id F;have ms:=B3e hs;have ag:=B3e hs2;have aj:=hd _ _ mk;have a3:C*(2*m+1)<=d*(2*m+1):=aC _ aj;have ax:C*m<=d*m:=aC _ aj;have az:d*(2*m+1)=2*(d*m)+d:=gz0;have a4:rows*p<=64*64:=aY oo oo;refine Si (m:=m) (gl.mono T) ((own.vis H2).mono H2 l2) (aJ _) oo oo oo hs oo ?_;intro A3 c3 h3 l3 av;refine⟨_,_,_,rfl,?_⟩;refine A49 ((D.vis H2).mono H2 l3) oo oo ?_;intro A4 c4 h4 l4 ai aa;refine⟨_,_,_,rfl,l4,?_⟩;have af:=B6 T (B6 l3 l4);rw[dY C p]at aa ai ⊢;refine Si (m:=m) (gl.mono af) aa ai oo oo oo (fun i hi=>?_) oo ?_;{have an:i/C<p:=aR gz0;exact hs2 _ (V5 (cN i (show 0<C from oo)) an)};intro A5 c5 h5 l5 al;have aw:bG (VQr C) h5 A5 p (fun j i=>mtx (rvs lb) p i j):=by{obtain⟨vs,sv,el,rr⟩:=al;refine⟨vs,sv,el,fun j hj=>?_⟩;obtain⟨w,e1,hw⟩:=rr j hj;refine⟨w,e1,?_⟩;have:=VQr.congr (f':=fun i=>mtx (rvs lb) p i j) hw fun i hi=>?_;{exact this};·show rvs lb ((j*C+i)%C*p+(j*C+i)/C)=rvs lb (i*p+j);rw[cM (j*C) i,aZ,cH hi,bM _ _ oo,cI hi,aQ]};refine⟨_,_,_,rfl,l5,?_⟩;have am:=B6 af l5;have aq:=B6 l4 l5;have ao:C4 ((rows:Z)*(p:Z))=((rows*p:J):Z):=by{exact O5 oo};rw[ao];refine G7 A0k (zx:=U1) rfl oo oo oo oo ?_;intro b hb;have sz:∀i j,i<rows->j<p->Sz (1+d*(2*m+1)) (sm C (fun t=>mtx (rvs la) C i t*mtx (rvs lb) p t j)):=fun i j hi hj=>(B9w (f:=fun t=>mtx (rvs la) C i t) (f2:=fun t=>mtx (rvs lb) p t j) (fun t O=>ms i t hi O) (fun t O=>ag t j O hj) C (aJ _)).mono oo;refine⟨_,_,_,rfl,fun L hp=>∃(k:J) (g o:aF) (xs:eF QV) (A':Option aI) (c':J),k<=rows/\L=[.slice A' (k*p) c',I (k:Z)]/\h5.le g/\Sep hp g o/\bH o 143 A' c' xs/\xs.length=k*p/\Row RQr g xs (k*p) (fun k=>sm C (fun j=>mtx (rvs la) C (k/p) j*mtx (rvs lb) p j (k%p))),fun L _=>rows-(iAt L 1).toNat,⟨0,h5,Ag.put b _,[],some ⟨b,0,none⟩,rows*p,oo,gz0,B8 _,S3 hb,Sa,by simp,by rw[dI];exact Row.nil⟩,?_⟩;rintro rA rn rc z hp ⟨k,g,o,xs,A',c',hk,eL,lg,s,ow,ac,rr⟩;obtain⟨⟨rfl,rfl,rfl⟩,rfl⟩:=eL;refine B9 (fun a2=>?_) (fun a7=>?_);{have S:k<rows:=oo;have ae:(k+1)*p=k*p+p:=gz0;have a1:(k+1)*p<=rows*p:=aC _ S;obtain⟨a,v,ea,iv,c0,c1,ap⟩:=(av.mono (B07 C) (B6 aq lg)).vat S;refine⟨a,ea,oo,oo,_,_,_,_,_,_,_,C2 s.le c0,C2 s.le c1,C2 s.le ap,?_⟩;refine⟨fun L hp=>∃(j:J) (g' o:aF) (xs:eF QV) (A':Option aI) (c':J),j<=p/\L=[.slice A' (k*p+j) c',I (j:Z)]/\g.le g'/\Sep hp g' o/\bH o 143 A' c' xs/\xs.length=k*p+j/\Row RQr g' xs (k*p+j) (fun k=>sm C (fun j=>mtx (rvs la) C (k/p) j*mtx (rvs lb) p j (k%p))),fun L _=>p-(iAt L 1).toNat,⟨0,g,o,xs,rA,rc,oo,rfl,B8 _,s,ow,ac,rr⟩,?_⟩;rintro qA qn qc z a5 ⟨j,g2,o2,ys,A2,c2,hj,eL,G,s2,ak,E,X⟩;obtain⟨⟨rfl,rfl,rfl⟩,rfl⟩:=eL;refine B9 (fun a0=>?_) (fun ay=>?_);{have M:j<p:=oo;obtain⟨a6,u,ar,iu,d0,d1,d2⟩:=(aw.mono (B07 C) (B6 lg G)).vat M;refine⟨a6,ar,oo,oo,_,_,_,_,_,_,_,C2 s2.le d0,C2 s2.le d1,C2 s2.le d2,?_⟩;refine s2.call (A9j (m:=m) (v:=v) (u:=u) (gl.mono (B6 am (B6 lg G))) (B07 C _ _ _ _ G iv) iu oo (fun t O=>ms k t S O) (fun t O=>ag t j O M) hm1 oo ?_);intro q g7 l7 iq h7 s7;refine⟨_,_,_,_,_,_,_,_,rfl,?_⟩;refine V8 (ty:=128) A0k s7 ak E.symm (y:=q) rfl dc oo oo ?_;intro A8 c8 h8 g8 o8 l8 s8 au _;rw[E,wiS j oo];refine⟨⟨j+1,g8,o8,_,A8,c8,oo,by rw[cQ],B6 G (B6 l7 l8),s8,au,gz0,?_⟩,?_⟩;{have rB:=Row.push (R:=RQr) (g:=g8) (xs:=ys) (f:=fun k=>sm C (fun j=>mtx (rvs la) C (k/p) j*mtx (rvs lb) p j (k%p))) (by rw[E];exact X.mono H2 (B6 l7 l8)) (w:=q) (by show RQ g8 q (sm C (fun t=>mtx (rvs la) C (ys.length/p) t*mtx (rvs lb) p t (ys.length%p)));rw[E,cM (k*p) j,aZ,cH M,bM _ _ oo,cI M,aQ];exact H2 _ _ _ _ l8 iq);grind};·show p-((j+1:J):Z).toNat<p-(j:Z).toNat;omega};·have:j=p:=oo;subst this;rw[wiS k oo,<- ae];rw[<- ae]at E X;refine⟨⟨k+1,g2,o2,ys,qA,qc,oo,rfl,B6 lg G,s2,ak,E,X⟩,?_⟩;show rows-((k+1:J):Z).toNat<rows-(k:Z).toNat;omega};·have:k=rows:=oo;subst this;have ah:=B6 am (B6 lg s.le);have rq:bG RQr hp rA (k*p) (fun t=>sm C (fun j=>mtx (rvs la) C (t/p) j*mtx (rvs lb) p j (t%p))):=⟨xs,ow.slF s.ole,ac,rr.mono H2 s.le⟩;refine Nf (m:=1+d*(2*m+1)) (gl.mono ah) rq oo (fun t O=>?_) oo ?_;{exact sz _ _ (aR gz0) (cN t (show 0<p from oo))};intro b9 h9 Q;exact⟨_,_,_,_,_,rfl,ad _ _ h9 (B6 ah Q.le) (Q.vis F1)⟩};·refine Z7 (gl.mono N) (rb.mono F1 N) hn2 hl2 (fun C p F b2 V D=>⟨_,_,_,_,rfl,Lk (W (fun x=>H x.1) V (B6 N D.le))⟩) (fun _ V l2=>⟨_,_,_,_,rfl,Lk (W (fun x=>H x.1) V (B6 N l2))⟩)
end
def Cn(E:J->Y)(n:J):J->Y:=fun k=>if k%(n+n)<n then E (k/(n+n)*n+k%(n+n))else if k%(n+n)=n+k/(n+n)then 1 else 0
def A0b(E:J->Y){n i j:J}(hj:j<n+n):Cn E n (i*(n+n)+j)=if j<n then E (i*n+j)else if j=n+i then 1 else 0:=by have b:(i*(n+n)+j)/(n+n)=i:=by{rw[cM,bM _ _ o,cI hj,aQ]};have a:(i*(n+n)+j)%(n+n)=j:=by{rw[cM,aZ,cH hj]};unfold Cn;grind
def B5o{E:J->Y}{n m:J}(hm:1<=m)(hs:∀i,i<n*n->Sz m (E i)):∀i,i<n*(n+n)->Sz m (Cn E n i):=by intro i b;have a:i/(n+n)<n:=aR gz0;unfold Cn;split;{rename_i h;exact hs _ (V5 a h)};·split;{exact⟨ZB.one hm,ZB.one hm⟩};·exact Sz.zero hm
def A5l(E:J->Y)(n:J):Prop:=(elE (Cn E n) n (n+n) n).cs.length=n
def B3n(E:J->Y)(n:J):J->J->Y:=fun i j=>(elE (Cn E n) n (n+n) n).R i (n+j)
def InvO(r c:Z)(n:J)(la:J->eF UInt8)(o:MOut):Prop:=(¬Mx r c n la/\o=noM 1)\/(Mx r c n la/\r≠c/\o=noM 4)\/(∃q,MOk r c n la q q/\((A5l (rvs la) q/\o=⟨r,r,q*q,T1 (B3n (rvs la) q) q,0⟩)\/(¬A5l (rvs la) q/\o=noM 7)))
def InvO.eq{r c:Z}{n:J}{la:J->eF UInt8}{o p:MOut}(x:InvO r c n la o)(y:InvO r c n la p):o=p:=by rcases x with⟨h1,rfl⟩|⟨h1,h2,rfl⟩|⟨q1,h1,h4⟩<;>rcases y with⟨g1,rfl⟩|⟨g1,g2,rfl⟩|⟨q2,g1,g4⟩;{rfl};{grind};{exact absurd ⟨_,_,g1⟩ h1};{grind};{rfl};{exact absurd (by rw[g1.er,g1.ec]) h2};{exact absurd ⟨_,_,h1⟩ g1};{exact absurd (by rw[h1.er,h1.ec]) g2};·obtain rfl:q2=q1:=by{have:=h1.er;have:=g1.er;omega};grind
section
variable {h:aF} {K:VP} {A:Option aI} {n cap m:J} {r c:Z} {la:J->eF UInt8}
def A1o(gl:Gl h)(ra:bG SSr h A n la)(hn:n<=1000000)(hl:∀i,i<n->(la i).length<=140737488351232)(hs:∀i,i<n->Sz m (rv (la i)))(hm1:1<=m)(hb:∀q,MOk r c n la q q->2*(3^q*bnd (q+q) m)+1<=40000000)
 (hK:∀o,InvO r c n la o->∀A' cap' h',h.le h'->bG SSr h' A' o.n o.f->K (.tuple #[Lj o.r o.c A' o.n cap',I o.e]) h'):aO prog 171 #[Lj r c A n cap] h K:=by
 refine(fnk func171 [(9,[7,35],[],[.slice none 0 0,I 0]),(22,[14,80],[],[.slice none 0 0,I 0]),(25,[14,89],[],[.slice none 0 0,I 0])] (own:=[1,2,12,17]) (wr:=[177])) ?_;refine Z7 gl ra hn hl (fun rows cols mk b1 p own=>?_) (fun a7 p l1=>⟨_,_,_,_,rfl,Lk (hK (noM 1) (.inl ⟨a7,rfl⟩) none 0 p l1 RowV.nil)⟩);have l1:=own.le;refine⟨_,_,_,_,rfl,Br.nt (D8 (fun e=>hK (noM 4) (.inr (.inl ⟨⟨_,_,mk⟩,e,rfl⟩)) none 0 p l1 RowV.nil) (fun e=>?_))⟩;obtain rfl:rows=cols:=by have:=mk.er;have:=mk.ec;omega
 have ar:=fun x=>hK ⟨r,r,rows*rows,T1 (B3n (rvs la) rows) rows,0⟩ (.inr (.inr ⟨rows,mk,.inl ⟨x,rfl⟩⟩));have bn:=fun x=>hK (noM 7) (.inr (.inr ⟨rows,mk,.inr ⟨x,rfl⟩⟩));have bz:=hb rows mk;have:=mk.r1;have:=mk.r2;obtain⟨rfl,rfl,_,_,_,_,rfl,_⟩:=id mk;clear e;have ba:=own.vis H2;have b2:rows*rows<=64*64:=aY oo oo;have bw:rows*(rows+rows)<=64*128:=aY oo oo
 refine⟨fun L hp=>∃(k:J) (g o:aF) (xs:eF QV) (A':Option aI) (F:J),k<=rows/\L=[.slice A' (k*(rows+rows)) F,I (k:Z)]/\p.le g/\Sep hp g o/\bH o 143 A' F xs/\xs.length=k*(rows+rows)/\Row RQr g xs (k*(rows+rows)) (Cn (rvs la) rows),fun L _=>rows-(iAt L 1).toNat,
  ⟨0,p,Ag,[],none,0,oo,gz0,B8 _,Sep.refl p,OwnSl.nil,by simp,by rw[dI];exact Row.nil⟩,?_⟩;rintro wA wn wc z hp ⟨k,g,o,xs,A',F,hk,eL,lg,s,ow,D,rr⟩;obtain⟨⟨rfl,rfl,rfl⟩,rfl⟩:=sI2 eL;refine B9 (fun aq=>?_) (fun bk=>?_)
 ·have C:k<rows:=oo;have h2:(k+1)*rows<=rows*rows:=aC _ C;have W:(k+1)*rows=k*rows+rows:=gz0;have h4:(k+1)*(rows+rows)=k*(rows+rows)+rows+rows:=gz0;have h5:(k+1)*(rows+rows)<=rows*(rows+rows):=aC _ C;have e0:C4 ((k:Z)+1)=((k+1:J):Z):=C0 oo oo;have e1:C4 ((k:Z)*(rows:Z))=((k*rows:J):Z):=by rw[<- bX];exact O5 oo
  have e2:C4 (C4 ((k:Z)+1)*(rows:Z))=(((k+1)*rows:J):Z):=by rw[e0,<- bX];exact O5 oo
  rw[e1,e2,e0];refine⟨⟨oo,oo⟩,⟨oo,oo⟩,?_⟩;simp only[aU];have e5:(k+1)*rows-k*rows=rows:=oo;rw[e5];have row:bG RQr p (X9 (some ⟨b1,0,none⟩) (rows*rows) (k*rows) 4) rows (fun j=>rvs la (k*rows+j)):=ba.cut (c:=rows*rows) (l:=k*rows) (k:=rows) oo (aJ _);obtain⟨ys,sy,a,qy⟩:=row;refine OwnSl.app (ty:=128) A0k s ow D.symm a.symm gz0 (sy.mono (B6 lg s.le)) oo oo ?_;intro A2 c2 b6 g2 o2 l2 s2 bf _;have an:=B6 lg l2;have ae:(xs++ys).length=k*(rows+rows)+rows:=gz0
  have r1:Row RQr g2 (xs++ys) (k*(rows+rows)+rows) (Cn (rvs la) rows):=by
   refine Row.app D (rr.mono H2 l2) ((qy.mono H2 an).congr fun j hj=>?_);rw[A0b (rvs la) oo,iP hj]
  refine⟨_,_,_,rfl,?_⟩;rw[D];refine G7 A0k (zx:=U1) rfl oo oo oo oo ?_;intro Q ac;simp only[aU]
  have ob:∀q x,o2 q=some x->q≠Q:=by
   rintro q x e rfl;rw[s2.own q x e]at ac;cases ac
  refine⟨_,_,_,rfl,Sep.call (s2.new ac _) (Gw ⟨oo,oo⟩ ?_)⟩;intro wd g4 l4 a3 b7 s4;have one:((1:Z):Y)=1:=rfl;rw[one]at a3;refine⟨_,_,_,_,_,_,_,_,rfl,_,rfl,oo,oo,?_⟩;refine P7 Gy (y:=wd) rfl s4 RowX.mk (i:=k) gz0 ?_;intro b5 o5 x5 a9 s5 bo;have a8:∀k,k≠Q->o5 k=o2 k:=fun k hk=>by rw[a9,C1 _ _ hk,C1 _ _ hk]
  have r0:Row RQr g4 (aE rows U1) rows (fun _=>0):=fun i hi=>⟨U1,gz0,RQ.zero⟩;have ru:Row RQr g4 ((aE rows U1).set k wd) rows (fun i=>if i=k then 1 else 0):=r0.upd gz0 a3;obtain⟨g8,l8,s8⟩:=s5.give (o2:=o2) (fun k x e=>gz0)
  have be:o2 Q=none:=by
   cases hx:o2 Q with
   |none=>rfl
   |some y=>grind
  have bh:RowX g8 Q ((aE rows U1).set k wd):=bo.keep fun x e=>by rw[<- s8.rest Q be];exact s5.own Q x e
  have bm:((aE rows U1).set k wd).length=rows:=gz0;generalize (aE rows U1).set k wd=us at *;refine OwnSl.app (ty:=128) A0k s8 bf ae.symm bm.symm gz0 ((bh.rowB.slF (B8 _)).mono s8.le) oo oo ?_;intro A9 c9 h9 g9 o9 l9 s9 bc _;rw[ae];have aw:=B6 l4 (B6 l8 l9);refine⟨_,_,_,rfl,⟨k+1,g9,o9,_,A9,c9,oo,by rw[h4],B6 an aw,s9,bc,gz0,?_⟩,?_⟩
  ·rw[h4];refine Row.app ae (r1.mono H2 aw) ((ru.mono H2 (B6 l8 l9)).congr fun j hj=>?_);have ej:k*(rows+rows)+rows+j=k*(rows+rows)+(rows+j):=oo;rw[ej,A0b (rvs la) (i:=k) (j:=rows+j) oo,iN (show ¬rows+j<rows from oo)];grind
  ·show rows-((k+1:J):Z).toNat<rows-(k:Z).toNat;omega
 have C:k=rows:=oo;subst C;have ew:C4 (2*(k:Z))=((k+k:J):Z):=by rw[C0]<;>omega
 rw[ew];have a4:=B6 l1 (B6 lg s.le);have rq:bG RQr hp wA (k*(k+k)) (Cn (rvs la) k):=⟨xs,ow.slF s.ole,D,rr.mono H2 s.le⟩;have ay:=B5o hm1 hs;refine Mm (E:=Cn (rvs la) k) (cc:=k) (m:=m) (gl.mono a4) rq (by have:=ow.1;omega) oo oo oo oo oo ay oo ?_;intro T h2 N l2 e1 e2;refine⟨_,rfl,FCall.mono N ?_⟩;rintro r3 W ⟨g3,o3,A3,br,w,l3,t3,bg,bi,az,rfl⟩;refine⟨_,_,_,_,_,_,_,_,rfl,?_⟩;have X:=A8u (E:=Cn (rvs la) k) (rows:=k) (cols:=k+k) (c:=k) ay oo;have a6:=A8x (Cn (rvs la) k) k (k+k) k (bnd (k+k) m);have ah:=B41 (Cn (rvs la) k) k (k+k) k;have O:(elE (Cn (rvs la) k) k (k+k) k).cs.length=k->∀i j,i<k->j<k->aK ((elP (Cn (rvs la) k) k (k+k) k).M i (k+j)) (elP (Cn (rvs la) k) k (k+k) k).last=B3n (rvs la) k i j:=fun al i j hi hj=>B42 (Cn (rvs la) k) oo hi oo (.inl oo);have al:(elE (Cn (rvs la) k) k (k+k) k).cs.length<=k/\(elE (Cn (rvs la) k) k (k+k) k).cs.length<=k:=Dw _ k k;rw[A7a _ oo];have ad:h.le W:=B6 a4 (B6 l3 t3.sep.le);refine B9 (fun aq=>bn (fun hx=>by unfold A5l at hx;omega) none 0 W ad RowV.nil) (fun bk=>?_);have B:(elE (Cn (rvs la) k) k (k+k) k).cs.length=k:=oo;have ax:=O B;have af:=ar B;clear O;generalize elP (Cn (rvs la) k) k (k+k) k=st at *;have ai:=X.M;have V:=X.last;clear X;generalize 3^st.cs.length*bnd (k+k) m=bb at ai V a6;have iw:ZIr W w st.last:=Q8 _ _ _ _ t3.sep.le az
 have u:∀g',W.le g'->∃gT,Tab g' gT o3 T st.M st.S:=fun g' l=>by
  obtain⟨gT,l',s'⟩:=t3.sep.after l;exact⟨gT,t3.next s' l'⟩
 clear t3 bg bi az N;have a5:C4 ((k:Z)*(k:Z))=((k*k:J):Z):=by rw[<- bX];exact O5 oo
 rw[a5];refine G7 A0k (zx:=U1) rfl oo oo oo oo ?_;intro b4 bp;simp only[aU]
 refine⟨_,_,_,rfl,fun L hp=>∃(i:J) (g o:aF) (xs:eF QV) (A':Option aI) (F:J),i<=k/\L=[.slice A' (i*k) F,I (i:Z)]/\W.le g/\Sep hp g o/\bH o 143 A' F xs/\xs.length=i*k/\Row RQr g xs (i*k) (fun t=>B3n (rvs la) k (t/k) (t%k)),fun L _=>k-(iAt L 1).toNat,
  ⟨0,W,Ag.put b4 _,[],some ⟨b4,0,none⟩,k*k,oo,gz0,B8 _,S3 bp,Sa,by simp,by rw[dI];exact Row.nil⟩,?_⟩;rintro vA vn vc z bl ⟨i,g5,o5,am,A5,c5,hi,eL,b,s5,ao,H,a1⟩;obtain⟨⟨rfl,rfl,rfl⟩,rfl⟩:=sI2 eL;refine B9 (fun aq=>?_) (fun a0=>?_)
 ·have a2:i<k:=oo;have ap:(i+1)*k=i*k+k:=gz0;have bv:(i+1)*k<=k*k:=aC _ a2;obtain⟨gT,tT⟩:=u g5 b;refine s5.call (Ae tT (i:=i) oo ?_);intro h6 s6;have b8:=B6 b s6.le;rw[e2];refine⟨_,_,_,rfl,⟨oo,oo⟩,?_⟩;simp only[aU,Nat.add_sub_cancel]
  refine⟨fun L hp=>∃(j:J) (g o:aF) (xs:eF QV) (A':Option aI) (F:J),j<=k/\L=[.slice A' (i*k+j) F,I (j:Z)]/\g5.le g/\Sep hp g o/\bH o 143 A' F xs/\xs.length=i*k+j/\Row RQr g xs (i*k+j) (fun t=>B3n (rvs la) k (t/k) (t%k)),fun L _=>k-(iAt L 1).toNat,
   ⟨0,g5,o5,am,_,_,oo,rfl,B8 _,s6,ao,H,a1⟩,?_⟩;rintro qA qn qc z bx ⟨j,g7,o7,ys,A7,c7,hj,eL,d,s7,av,a,aj⟩;obtain⟨⟨rfl,rfl,rfl⟩,rfl⟩:=sI2 eL;refine B9 (fun bt=>?_) (fun a0=>?_)
  ·have aa:j<k:=oo;obtain⟨bu,ag⟩:=u g7 (B6 b d);obtain⟨wv,zv,c0,c1⟩:=ag.at (i:=i) (j:=k+j) oo oo;rw[D9,D9,e2]at c0 c1
   have bd:k<T.cE-i*(k+k):=by
    have p:=ag.cE;rw[e1,e2]at p;grind
   rw[Gb bd];have ak:∀x,aM (aM (aM ⟨T.bE,i*(k+k)*2,none⟩ (k*2)) (j*2)) x=⟨T.bE,i*(k+k)*2+(k+j)*2+x,none⟩:=fun x=>by rw[D9,D9,D9];grind
   refine⟨_,rfl,oo,oo,_,_,_,_,by simp only[aU];rw[ak];exact C2 s7.le c0,by simp only[aU];rw[ak];exact C2 s7.le c1,?_⟩;refine s7.call (K7 (gl.mono (B6 ad (B6 b d))).tz (Q8 _ _ _ _ ag.sep.le zv) (Q8 _ _ _ _ (B6 b d) iw) (ai _ _ oo oo) V oo ?_);intro w9 g9 l9 i9 h9 s9;rw[ax i j a2 aa]at i9;refine⟨_,_,_,_,_,_,_,_,rfl,?_⟩;refine V8 (ty:=128) A0k s9 av a.symm (y:=w9) rfl dc oo oo ?_;intro A8 c8 h8 g8 o8 l8 s8 bj _;rw[a,wiS j oo];refine⟨⟨j+1,g8,o8,_,A8,c8,oo,by rw[cQ],B6 d (B6 l9 l8),s8,bj,gz0,?_⟩,?_⟩
   ·have rB:=Row.push (R:=RQr) (g:=g8) (xs:=ys) (f:=fun t=>B3n (rvs la) k (t/k) (t%k)) (by rw[a];exact aj.mono H2 (B6 l9 l8)) (w:=w9) (by
     show RQ g8 w9 (B3n (rvs la) k (ys.length/k) (ys.length%k));rw[a,cM (i*k) j,aZ,cH aa,bM _ _ oo,cI aa,aQ];exact H2 _ _ _ _ l8 i9);grind
   ·show k-((j+1:J):Z).toNat<k-(j:Z).toNat;omega
  ·have:j=k:=oo;subst this;rw[wiS i oo,<- ap];rw[<- ap]at a aj;refine⟨⟨i+1,g7,o7,ys,qA,qc,oo,rfl,B6 b d,s7,av,a,aj⟩,?_⟩;show j-((i+1:J):Z).toNat<j-(i:Z).toNat;omega
 ·have:i=k:=oo;subst this;have au:=B6 ad (B6 b s5.le);have bq:bG RQr bl vA (i*i) (fun t=>B3n (rvs la) i (t/i) (t%i)):=⟨am,ao.slF s5.ole,H,a1.mono H2 s5.le⟩;refine Nf (m:=bb) (gl.mono au) bq oo (fun t ht=>?_) oo ?_
  ·have p:t/i<i:=aR ht;have h2:=cN t (show 0<i from oo);rw[<- ax _ _ p h2];exact N4 ah (ai _ _ oo oo) V
  intro b9 h9 G;exact⟨_,_,_,_,_,rfl,af _ _ h9 (B6 au G.le) (G.vis F1)⟩
end
section
variable {h g o:aF} {wA B:Option aI} {wc be m d:J} {hd:eF HV} {xs ys:eF QV}
def OwnSl.ne_fresh{α:Type}[E:Enc α]{e:cF}{A:Option aI}{c:J}{zs:eF α}(s:Sep h g o)(w:bH o e A c zs)(hb:h be=none):A≠some ⟨be,0,none⟩:=by rcases w.2 with⟨_,i⟩|⟨b,f,d,a,_⟩;{grind};·rw[d];intro e;simp only[aV,bL,and_true]at e;subst e;rw[s.own _ _ a]at hb;cases hb
end
section
variable {h:aF} {K:VP} {A B:Option aI} {n cap m:J} {r c:Z} {la:J->eF UInt8} {E:J->Y}
end
section
variable {h:aF} {K:VP} {A B:Option aI} {n n2 cap cap2 m:J} {r c r2 c2:Z} {la lb:J->eF UInt8}
end
section
variable {r c r2 c2:Z} {n n2 m rows mid mid2 cols:J} {la lb:J->eF UInt8} {o:MOut}
end
