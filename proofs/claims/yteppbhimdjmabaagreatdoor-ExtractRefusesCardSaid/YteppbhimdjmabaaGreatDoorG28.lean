/- A part. -/
import Derived.Test.YteppbhimdjmabaaGreatDoorG27
import Derived.Deep.Strs
open Go.Proofs.Tryz
set_option linter.all false
open _root_.Go.Addr renaming add->aP
open _root_.Go.Builtin renaming append_->cM
open _root_.Go.Instr renaming buildSlice->bL
open Int renaming mul_ne_zero->aL,toNat_natCast->aW,lt_or_gt_of_ne->bZ,mul_one->cI
open List renaming range->aE,replicate->aJ,getD_eq_getElem?_getD->aO,getElem?_eq_getElem->aT,eq_nil_of_length_eq_zero->aU,getElem?_cons_zero->aV,getElem?_cons_succ->bC,length_singleton->bG,getElem?_map->bI,length_append->bY,length_range->cF,length->cH,length_map->cL,mem_range->cO,getElem_replicate->cW
open List.cons renaming injEq->aH
open Nat renaming le_refl->aF,mul_le_mul_right->aI,mul_le_mul_left->aZ,mul_le_mul->bU,zero_mul->cC,zero_add->cD,min_eq_left->cK,add_assoc->cQ,sub_self->cR,le_mul_of_pos_left->cT,add_zero->cU
open Rat renaming divInt->aC,one_mul->aX,mul_one->bH,pow_zero->bM,pow_succ->bN,intCast_mul->bO,mul_assoc->bX,zero_divInt->cJ,mul_nonneg->cN
open _root_.Go.Value.bool renaming injEq->bK
open _root_.Go.Value.int renaming injEq->aK
open _root_.Go.Value.slice renaming injEq->aM
open _root_ renaming Nat->J,Int->Z,Rat->Y,List->cX
open _root_.Go renaming Addr->aQ,Value->aY,TypeId->bF,Program->bJ
open _root_.Go.Proofs.YteppbhimdjmabaaGreatDoor renaming FCall->aN,Heap->aR,RowV->aS,memOf->cP,Lst2->cV
namespace Go.Proofs.YteppbhimdjmabaaGreatDoor
set_option maxRecDepth 20000
open Go
def psT(P:J->Y)(deg:J)(S:J->Y)(k:J):J->Y
 |0=>0
 |i+1=>psT P deg S k i-P (deg-(i+1))*(if i+1=k then(k:Y)else S (k-(i+1)))
def psF(P:J->Y)(deg:J):J->J->Y
 |0=>fun _=>(deg:Y)
 |k+1=>fun j=>if j<=k then psF P deg k j else psT P deg (psF P deg k) (k+1) (min (k+1) deg)
def pws(P:J->Y)(deg k:J):Y:=psF P deg k k
def C4n(P:J->Y)(deg:J):∀k j,j<=k->psF P deg k j=pws P deg j:=by
 intro k
 induction k with
 |zero=>intro j a;obtain rfl:j=0:=o;rfl
 |succ k ih=>
  intro j a;by_cases h:j<=k;·unfold psF;grind
  ·obtain rfl:j=k+1:=o;rfl
def B2q{P:J->Y}{deg k:J}{S S':J->Y}(h:∀j,j<k->S j=S' j):∀i,i<=k->psT P deg S k i=psT P deg S' k i:=by
 intro i
 induction i with
 |zero=>intro _;rfl
 |succ i ih=>
  intro a;unfold psT;grind
def B2p(P:J->Y)(deg k:J):pws P deg (k+1)=psT P deg (pws P deg) (k+1) (min (k+1) deg):=by show(if k+1<=k then _ else _)=_;rw[iN o];exact B2q (fun j a=>C4n P deg k j o) _ (Nat.min_le_left _ _)
section
variable {h:aR} {K:VP} {A PA:Option aQ} {c pc m n deg:J} {P:J->Y}
def Gx{z:Z}(gl:Gl h)(h1: -9223372036854775808<=z)(h2:z<9223372036854775808)(hK:K (.string (bs (E7 (z:Y)))) h):aN prog 67 #[I z] h K:=by refine(fnk func67) ?_;refine Fe gl.p10 h1 h2 ⟨_,rfl,?_⟩;rw[A0g (by simp)]at hK;assumption
def Hy(gl:Gl h)(x:aS SSr h PA (deg+1) (fun i=>E7 (P i)))(hd1:1<=deg)(hd:deg<=64)(hn1:1<=n)(hn:n<=1000)(sP:∀i,i<=deg->Sz m (P i))(sS:∀k,k<n->Sz m (pws P deg k))(sT:∀k i,k<n->i<=k->i<=deg->Sz m (psT P deg (pws P deg) k i))(hm1:10<=m)(hm:m<=5000000) (hK:∀A' c' h',h.le h'->n<=c'->aS SSr h' A' n (fun k=>E7 (pws P deg k))->K (.slice A' n c') h'):aN prog 27 #[.slice PA (deg+1) pc,I (n:Z)] h K:=by refine(fnk func27 [(4,[6,7],[],[.slice none 0 0,I 0]),(8,[8,9],[],[.string ⟨#[]⟩,I 0])]) ?_;rw[show C4 (((deg+1:J):Z)-1)=(deg:Z) by rw[C0]<;>omega];refine Gx gl o o ⟨_,rfl,?_⟩;refine Qh (R:=SSr) (f:=fun k=>E7 (pws P deg k)) G2 (y:=E7 (deg:Y)) (by rfl) dc rfl fun b M S L=>⟨_,_,_,rfl,?_⟩;refine⟨fun L q=>∃(k:J) (A':Option aQ) (c':J),1<=k/\k<=n/\L=[.slice A' k c',I (k:Z)]/\Lst SSr 9 h q A' c' k (fun k=>E7 (pws P deg k)),fun L _=>n-(iAt L 1).toNat,⟨1,_,_,aF _,hn1,rfl,L⟩,?_⟩;rintro N k T z q ⟨H,A',c',C,G,p,L⟩;obtain⟨⟨rfl,rfl,rfl⟩,rfl⟩:=p;refine B9 (fun B=>?_) (fun A=>?_);{have j:k<n:=o;have c:=gl.mono L.le;obtain⟨k,rfl⟩:∃k',k=k'+1:=⟨k-1,o⟩;have row:=L.row F1;refine⟨fun L t=>∃i:J,i<=min (k+1) deg/\L=[.string (bs (E7 (psT P deg (pws P deg) (k+1) i))),I ((i+1:J):Z)]/\t=q,fun L _=>min (k+1) deg+1-(iAt L 1).toNat,⟨0,o,by rfl,rfl⟩,?_⟩;rintro E z t ⟨i,Q,p,rfl⟩;obtain⟨rfl,rfl⟩:=p;refine B9 (fun u=>?_) (fun r=>?_);{rw[show C4 (((k+1:J):Z)-((i+1:J):Z))=((k-i:J):Z) by rw[C0]<;>omega,show C4 ((deg:Z)-((i+1:J):Z))=((deg-(i+1):J):Z) by rw[C0]<;>omega,show C4 (((i+1:J):Z)+1)=((i+1+1:J):Z) by rw[C0]<;>omega];obtain⟨a,e,c0⟩:=row.sat (show k-i<k+1 from o);obtain⟨w,s,c2⟩:=(x.mono F1 L.le).sat (show deg-(i+1)<deg+1 from o);refine⟨a,e,o,o,_,by exact c0,?_⟩;have g:=sP (deg-(i+1)) o;have st:=sT (k+1) i j o o;refine D4 (fun D=>?_) (fun D=>?_);{have F:(((k+1:J):Z):Y)=((k+1:J):Y):=Rat.intCast_natCast _;have d:=(Uq (k:=k+1) o).mono (show 10<=m from o);refine Gx c o o ⟨_,rfl,w,s,o,o,_,by exact c2,?_⟩;refine Dl (m:=m) c (Tx.of g o) (Tx.of d o) o ⟨_,rfl,?_⟩;rw[F3,F3];refine A2y (m:=2*m) c (Tx.of (st.mono o) o) (Tx.of ((g.mul d).mono o) o) o ⟨_,rfl,?_⟩;rw[F3,F3];have l:psT P deg (pws P deg) (k+1) (i+1)=psT P deg (pws P deg) (k+1) i-P (deg-(i+1))*(((k+1:J):Z):Y):=by{(conv=>lhs;unfold psT);grind};rw[<- l];exact⟨⟨i+1,o,rfl,rfl⟩,by simp only[iAt,bC,aV];omega⟩};·have d:=sS (k-i) o;refine⟨w,s,o,o,_,by exact c2,?_⟩;refine Dl (m:=m) c (Tx.of g o) (Tx.of d o) o ⟨_,rfl,?_⟩;rw[F3,F3];refine A2y (m:=2*m) c (Tx.of (st.mono o) o) (Tx.of ((g.mul d).mono o) o) o ⟨_,rfl,?_⟩;rw[F3,F3];have l:psT P deg (pws P deg) (k+1) (i+1)=psT P deg (pws P deg) (k+1) i-P (deg-(i+1))*pws P deg (k-i):=by{(conv=>lhs;unfold psT);grind};rw[<- l];exact⟨⟨i+1,o,rfl,rfl⟩,by simp only[iAt,bC,aV];omega⟩};·obtain rfl:i=min (k+1) deg:=o;refine L.push F1 G2 rfl (y:=E7 (pws P deg (k+1))) (by rw[<- B2p];rfl) rfl dc o fun A5 c5 O L5=>?_;rw[show C4 (((k+1:J):Z)+1)=((k+1+1:J):Z) by rw[C0]<;>omega];exact⟨⟨k+1+1,_,_,o,o,rfl,L5⟩,by simp only[iAt,bC,aV];omega⟩};·obtain rfl:k=n:=o;exact hK _ _ _ L.le L.cap (L.row F1)
end
section
variable {P:J->Y} {deg k m:J}
def C0y(hk:k<=1000)(hP:∀i,i<=deg->Sz 48 (P i))(hS:∀j,j<k->Sz m (pws P deg j))(hm:10<=m):∀i,i<=k->i<=deg->Sz (1+i*(49+m)) (psT P deg (pws P deg) k i):=by
 intro i
 induction i with
 |zero=>intro _ _;exact Sz.zero o
 |succ i ih=>
  intro a b;have e:(i+1)*(49+m)=i*(49+m)+(49+m):=gz0
  have s:Sz m (if i+1=k then(k:Y)else pws P deg (k-(i+1))):=by
   split;·exact(Uq o).mono hm
   grind
  exact((ih o o).sub ((hP (deg-(i+1)) o).mul s)).mono o
def C0u(hP:∀i,i<=deg->Sz 48 (P i))(hd:deg<=5):(∀j,j<6->Sz 223376 (pws P deg j))/\∀j i,j<6->i<=j->i<=deg->Sz 1200000 (psT P deg (pws P deg) j i):=by have up:∀k m,k<=6->10<=m->(∀j,j<k->Sz m (pws P deg j))->∀i,i<=k->i<=deg->Sz (5*m+246) (psT P deg (pws P deg) k i):=fun k m g c h i b a=>by{have:=aI (49+m) (show i<=5 from o);exact(C0y o hP h c i b a).mono o};have st:∀k m,k<=5->10<=m->(∀j,j<k+1->Sz m (pws P deg j))->∀j,j<k+2->Sz (5*m+246) (pws P deg j):=fun k m g c h j d=>by{by_cases e:j=k+1;{subst e;rw[B2p];grind};·exact(h j o).mono o};have n:∀j,j<1->Sz 10 (pws P deg j):=fun j d=>by{obtain rfl:j=0:=o;exact Uq o};have f:=st 4 _ o o (st 3 _ o o (st 2 _ o o (st 1 _ o o (st 0 10 o o n))));exact⟨f,fun j i d b a=>(up j _ o o (fun l hl=>f l o) i b a).mono o⟩
end
section
variable {h h':aR} {K:VP} {A0 A1 A2 A3 E:Option aQ} {n0 c0 n c1 m c2 k c3 ec:J} {ls ws:J->cX UInt8} {wl:J->J} {cs:J->J->cX UInt8}
def Xy(z:SlF h E (aJ m (0:Z)))(hm:m<=100)(hK:K (.bool false) h):aN prog 23 #[.slice E m ec,.func (.func 24) #[] #[]] h K:=by refine(fnk func23) ?_;refine(fnk func59 [(2,[8],[],[I 0])]) ?_;refine⟨fun L b=>∃i:J,i<=m/\L=[I (i:Z)]/\b=h,fun L _=>m-(iAt L 0).toNat,⟨0,o,rfl,rfl⟩,?_⟩;rintro t b ⟨i,j,k,rfl⟩;obtain rfl:t=(i:Z):=gz0;refine B9 (fun d=>?_) (fun c=>⟨_,rfl,hK⟩);obtain⟨a,f,g⟩:=SlF.at dc z (i:=i) gz0;have c0:=g 0 (I 0) (by rw[cW];rfl);refine⟨a,f,o,o,_,c0,?_⟩;refine(fnk func24) ?_;refine⟨_,rfl,B9 (fun e=>absurd e dc) (fun _=>?_)⟩;rw[wiS i o];exact⟨⟨i+1,o,rfl,rfl⟩,by simp only[U4];omega⟩
def A1e(gl:Gl h)(r:aS SSr h A1 n ls)(h2:2<=n)(hn:n<=6)(hs:∀i,i<n->Sz 48 (rv (ls i)))(u:Uok n ls)(hk:k<=5) (hK:∀(q:J->Y) (l:J) A c h',h.le h'->(∀i,i<k->Sz 223376 (q i))->k<=l->aS SSr h' A l (fun i=>E7 (q i))->l<=6->K (.slice A l c) h'):aN prog 27 #[.slice A1 n c1,I (k:Z)] h K:=by have a:=C0u (P:=fun i=>rv (ls (min i (n-1)))) (deg:=n-1) (fun i e=>hs _ o) o;by_cases D:k=0;{subst D;refine(fnk func27 [(4,[6,7],[],[.slice none 0 0,I 0]),(8,[8,9],[],[.string ⟨#[]⟩,I 0])]) ?_;rw[show C4 ((n:Z)-1)=((n-1:J):Z) by rw[C0]<;>omega];refine Gx gl o o ⟨_,rfl,?_⟩;refine Qh (R:=SSr) (f:=fun k=>E7 (((n-1:J):Z):Y)) G2 (y:=E7 (((n-1:J):Z):Y)) (by rfl) dc rfl fun b g B L=>⟨_,_,_,rfl,?_⟩;refine⟨fun V p=>V=[.slice (some ⟨b,0,none⟩) 1 1,I 1]/\p=g,fun _ _=>0,⟨rfl,rfl⟩,?_⟩;rintro M F G z p ⟨E,rfl⟩;obtain⟨⟨rfl,rfl,rfl⟩,rfl⟩:=E;exact B9 (fun z=>absurd z dc) (fun _=>hK _ 1 _ _ _ B (fun i e=>o) o (L.row F1) o)};·obtain⟨d,rfl⟩:∃d,n=d+1:=⟨n-1,o⟩;refine Hy (P:=fun i=>rv (ls (min i d))) (m:=1200000) gl (r.congr fun i e=>?_) o o o o (fun i e=>(hs _ o).mono o) (fun j w=>(a.1 j o).mono o) (fun j i w g h2=>a.2 j i o g h2) o o fun A' H h' C _ t=>hK _ k _ _ _ C (fun i e=>a.1 i o) (aF _) t o;obtain⟨q,s⟩:=u.1 i e;rw[show min i d=i from o,s,F3]
def Pq(gl:Gl h)(x:XtS h A1 n ls A2 m wl cs A3 k ws)(z:SlF h E (aJ m (0:Z)))(hK0:¬Vok n ls m wl cs k ws->∀h',h.le h'->K (.tuple #[.string (bs []),I 1]) h')
 (hK1:Vok n ls m wl cs k ws->∀s h',h.le h'->K (.tuple #[.string s,I 0]) h'):
 aN prog 8 #[.agg #[.slice A0 n0 c0,.slice A1 n c1,.slice A2 m c2,.slice A3 k c3],.slice E m ec] h K:=by
 refine(fnk func8 [(7,[6,32],[],[I 0,I 0]),(17,[9,49],[],[.slice none 0 0,I 0]),(20,[9,55],[],[.slice none 0 0,I 0]),(31,[14,89],[],[.string ⟨#[]⟩,I 0])] (own:=[2])) ?_;refine Tc gl x fun b S d Q=>⟨_,rfl,?_⟩
 cases b with
 |false=>exact hK0 (fun v=>absurd (Q.2 v) dc) _ d
 |true=>
 have v:=Q.1 rfl;have hn:=x.n1;have hm:=x.n2;have R:=z.mono d
 have r:∀i,i<m->∃a,E=some a/\S.cell? (aP a (i*1))=some (I 0):=fun i X=>by
  obtain⟨a,y,A⟩:=SlF.at dc R (i:=i) gz0;exact⟨a,y,A 0 (I 0) (by rw[cW];rfl)⟩
 refine Gq (D8 (fun e=>absurd rfl e) (fun _=>?_));refine Xy R o ⟨_,rfl,?_⟩;refine Br.of (fun e=>absurd e dc) (fun _=>?_);refine⟨fun L G=>∃i:J,i<=m/\L=[I 0,I (i:Z)]/\G=S,fun L _=>m-(iAt L 1).toNat,⟨0,o,rfl,rfl⟩,?_⟩;rintro dg t G ⟨i,X,c,rfl⟩;simp only[aH,aK,true_and,and_true]at c;obtain⟨rfl,rfl⟩:=c;refine B9 (fun p=>?_) (fun f=>?_)
 ·obtain⟨a,y,A⟩:=r i o;refine⟨a,y,o,o,_,A,B9 (fun e=>absurd e dc) (fun _=>?_)⟩;rw[wiS i o];refine⟨⟨i+1,o,rfl,rfl⟩,?_⟩;show m-((i+1:J):Z).toNat<m-((i:J):Z).toNat;omega
 refine B9 (fun e=>absurd e dc) (fun _=>?_);refine⟨fun L D=>∃i:J,i<=m/\L=[.slice A3 k c3,I (i:Z)]/\D=G,fun L _=>m-(iAt L 1).toNat,⟨0,o,rfl,rfl⟩,?_⟩;rintro eA C H t D ⟨j,hj,c,rfl⟩;obtain⟨⟨rfl,rfl,rfl⟩,rfl⟩:=sI2 c;refine B9 (fun p=>?_) (fun f=>?_)
 ·obtain⟨a,y,A⟩:=r j o;refine⟨a,y,o,o,_,A,?_⟩;refine⟨fun L W=>L=[.slice eA C H,I 0]/\W=D,fun _ _=>0,⟨rfl,rfl⟩,?_⟩;rintro fA fn fc t W ⟨c,rfl⟩;obtain⟨⟨rfl,rfl,rfl⟩,rfl⟩:=sI2 c;refine B9 (fun e=>absurd e dc) (fun _=>?_);rw[wiS j o];refine⟨⟨j+1,o,rfl,rfl⟩,?_⟩;show m-((j+1:J):Z).toNat<m-((j:J):Z).toNat;omega
 have k5:C<=5:=by have:=v.2.2.2;omega
 refine A1e (gl.mono d) (x.mono d).r1 v.1.two hn x.hs v.1.u k5 fun q l A4 c4 h4 B sq hl r4 aa=>⟨_,_,_,rfl,?_⟩;refine⟨fun L hx=>∃(i:J) (s:Y),i<=l/\L=[.string (bs (E7 s)),I (i:Z)]/\hx=h4/\Sz (1+min i C*223500) s,fun L _=>l-(iAt L 1).toNat,⟨0,0,o,rfl,rfl,by rw[cK o];exact Sz.zero o⟩,?_⟩;rintro sm t hx ⟨i,s,X,c,rfl,zs⟩;simp only[aH,aK,Value.string.injEq,true_and,and_true]at c;obtain⟨rfl,rfl⟩:=c;have ei:C4 ((i:Z)+1)=((i+1:J):Z):=by rw[C0]<;>omega
 refine B9 (fun p=>?_) (fun f=>hK1 v _ _ (B6 d B));obtain⟨a3,e3,O⟩:=r4.sat (i:=i) o;refine⟨a3,e3,o,o,_,O,?_⟩;rw[ei];have mu:l-((i+1:J):Z).toNat<l-((i:J):Z).toNat:=o;refine B9 (fun ac=>?_) (fun f=>?_)
 ·have g:i<C:=o;obtain⟨a4,e4,M⟩:=(x.mono (B6 d B)).r3.sat (i:=i) o;obtain⟨w,T⟩:=v.2.2.1.1 i g;have N:Sz 48 w:=by have:=C04 (k:=12) (x.l3 i g) o;rwa [T,F3]at this
  refine⟨a4,e4,o,o,_,M,?_⟩;rw[T];rw[cK o]at zs;have F:=sq i g;have V:i*223500<=5*223500:=aI _ o;have t1:Tx 223376 (E7 w):=Tx.of (N.mono o) o;have t2:Tx 223376 (E7 (q i)):=Tx.of F o;refine Dl (gl.mono (B6 d B)) t1 t2 dc ⟨_,rfl,?_⟩;rw[F3,F3];have t3:Tx 1500000 (E7 s):=Tx.of (zs.mono o) o;have t4:Tx 1500000 (E7 (w*q i)):=Tx.of ((N.mul F).mono o) o;refine Is (gl.mono (B6 d B)) t3 t4 dc ⟨_,rfl,?_⟩;rw[F3,F3];exact⟨⟨i+1,_,o,rfl,rfl,by rw[cK o];exact(zs.add (N.mul F)).mono o⟩,mu⟩
 ·exact⟨⟨i+1,s,o,rfl,rfl,zs.mono o⟩,mu⟩
end
def gM(s:J)(u:J->Y)(W:J->J->Y):J->J->Y:=fun i j=>sm s fun l=>u l*(W l i*W l j)
section
variable {s n:J} {u:J->Y} {W:J->J->Y}
end
structure Ptw (s n:J) (u:J->Y) (W:J->J->Y):Prop where
 pos:∀ l,l<s->0<u l
 ex:∃ q:J->J->Y,∀ l k,l<s->k<s->sm n (fun i=>W l i*q k i)=if l=k then 1 else 0
section
variable {s n:J} {u:J->Y} {W:J->J->Y}
end
def C8j(v D:J):Bool:=(aE (mo v D).length).all fun k=>decide (B4g (mon v D k)<=D)&&W9 (mon v D k)&&Jg (mon v D k) (aJ v 0)&&decide (opL (fun x y=>x+y) (mon v D k) (aJ v 0)=mon v D k)&&(mon v D k).all fun x=>decide (0<=x/\x<=1048576)
def B74:∀v:Fin 3,∀D:Fin 7,1<=v.val->C8j v D=true:=by decide +kernel
structure Mz (v D k:J):Prop where
 deg:B4g (mon v D k)<=D
 val:W9 (mon v D k)=true
 pair:Jg (mon v D k) (aJ v 0)=true
 eq:opL (fun x y=>x+y) (mon v D k) (aJ v 0)=mon v D k
 bnd:∀ x∈mon v D k,0<=x/\x<=1048576
def mz{v D k:J}(h1:1<=v)(h2:v<=2)(hD:D<=6)(hk:k<(mo v D).length):Mz v D k:=by have:=B74 ⟨v,o⟩ ⟨D,o⟩ h1;simp only[C8j,Bool.and_eq_true,decide_eq_true_eq,List.all_eq_true,cO]at this;obtain⟨⟨⟨⟨a,b⟩,c⟩,d⟩,e⟩:=this k hk;exact⟨a,b,c,d,e⟩
section
variable {h:aR} {K:VP} {A T PA ZA:Option aQ} {c tc pc zc m v D k:J} {V:J->Y}
def A73{a:aQ}{B:Option aQ}{bc:J}(gl:Gl h)(f:FnV h A v D m V)(s:MoSl h T (mo v D))(hk:k<(mo v D).length)(eP:PA=some a)(c0:h.cell? (aP (aP a (0*2)) 0)=some (.string (bs (E7 1))))(c1:h.cell? (aP (aP a (0*2)) 1)=some (.slice B (mon v D k).length bc))(sB:SlI .i64 h B (mon v D k))(sZ:SlI .i64 h ZA (aJ v 0)){p0:Z} (hK:K (.string (bs (E7 (V k)))) h):aN prog 184 #[.agg #[.slice T (mo v D).length tc,.slice A (mo v D).length c],.agg #[I p0,.slice PA 1 pc],.slice ZA v zc] h K:=by have C:=f.sm;refine FCall.pure ((fnk func184 [(3,[7,15],[],[.string ⟨#[]⟩,I 0])] (own:=[3,4,9])) ?_);have d:=mz f.v1 f.v2 f.d6 hk;refine⟨fun L g=>∃j:J,j<=1/\L=[.string (bs (E7 (if j=0 then 0 else V k))),I (j:Z)]/\h.le g,fun L _=>1-(iAt L 1).toNat,⟨0,o,by rfl,B8 _⟩,?_⟩;rintro u z g ⟨j,E,y,e⟩;obtain⟨rfl,rfl⟩:=y;refine B9 (fun r=>?_) (fun n=>?_);{obtain rfl:j=0:=o;refine⟨a,eP,o,o,_,_,_,_,C2 e c0,C2 e c1,?_⟩;have sz:=sZ.mono e;have l:=f.sz k hk;have key:∀K':VP,(∀B' i,g.le i->SlI .i64 i B' (mon v D k)->K' (.tuple #[.slice B' (mon v D k).length (mon v D k).length,.bool true]) i)->aN prog 232 #[.slice B (mon v D k).length bc,.slice ZA v zc] g K':=fun K' p=>by{have:=Zm (K:=K') (ac:=bc) (bc:=zc) (sB.mono e) sz (fun no=>by rw[d.eq,d.pair,d.val]at no;cases no) (fun _ B' i F q=>by rw[d.eq]at q ⊢;grind);grind};refine key _ fun B' G t w=>⟨_,_,_,_,rfl,?_⟩;have b:=B6 e t;refine A4f (f.mono b) (s.mono b) hk w ⟨_,rfl,B8 _,?_⟩;refine Dl (m:=m+1) (gl.mono b) (Tx.of (m:=m+1) ⟨ZB.one o,ZB.one o⟩ o) (Tx.of (l.mono o) o) o ⟨_,rfl,B8 _,?_⟩;rw[F3,F3,aX,iP rfl];refine Is (m:=m+1) (gl.mono b) (Tx.of (Sz.zero o) o) (Tx.of (l.mono o) o) o ⟨_,rfl,B8 _,?_⟩;rw[F3,F3,Rat.zero_add];exact⟨⟨1,o,rfl,b⟩,by show 1-(C4 (((0:J):Z)+1)).toNat<1-(((0:J):Z)).toNat;decide⟩};grind
def A1n{a:aQ}{B:Option aQ}{bc:J}(gl:Gl h)(f:FnV h A v D m V)(hk:k<(mo v D).length)(eP:PA=some a)(c0:h.cell? (aP (aP a (0*2)) 0)=some (.string (bs (E7 1))))(c1:h.cell? (aP (aP a (0*2)) 1)=some (.slice B (mon v D k).length bc))(sB:SlI .i64 h B (mon v D k)) (hK:K (.tuple #[.string (bs (E7 (V k))),I 0]) h):aN prog 101 #[.agg #[I (v:Z),I (D:Z),.slice A (mo v D).length c],.agg #[I ((mon v D k).length:Z),.slice PA 1 pc]] h K:=by have y:=f.v1;have z:=f.v2;have C:=f.d6;have n:=mz y z C hk;have hl:(mon v D k).length=v:=((Bl y z C).val k hk).2.1;have G:PolyAt h PA [(E7 1,mon v D k)]:=fun i L=>by{grind};have w:B5b ((mon v D k).length:Z) [(E7 1,mon v D k)]:=by{refine⟨⟨o,o,fun j M=>?_⟩,fun _=>n.val⟩;obtain rfl:j=0:=gz0;exact⟨⟨⟨1,rfl,dc⟩,rfl,n.bnd⟩,fun h=>absurd h o⟩};refine FCall.pure ((fnk func101 (os:=[(5,[0,2,3,1,4]),(7,[0,2,3,4,1,5,6,7,8])]) (al:=[(7,[(1,[5])])]) (own:=[2,3])) ?_);refine Eo gl f ⟨_,rfl,Br.nt ?_⟩;have val:∀K':VP,K' (.bool true) h->aN prog 181 #[.agg #[I ((mon v D k).length:Z),.slice PA 1 pc]] h K':=fun K' t=>A3y (ts:=[(E7 1,mon v D k)]) gl.tz G (by simp) (fun i L=>by obtain rfl:i=0:=gz0;exact(Tx.of (m:=1) (q:=1) ⟨ZB.one o,ZB.one o⟩ o).len) (fun _=>t) (fun no=>absurd w no);refine val _ ⟨_,rfl,Br.nt (D8 (fun e=>absurd (by rw[hl]) e) (fun _=>?_))⟩;refine(fnk func182 (own:=[1])) ?_;refine D4 (fun e=>o) (fun _=>val _ ⟨_,rfl,Br.nt ⟨a,eP,o,o,_,_,_,c1,Pd sB ⟨_,rfl,_,rfl,B8 _,B9 (fun e=>absurd n.deg o) (fun _=>?_)⟩⟩⟩);have p:∀{hp:aR} {K':VP},h.le hp->(∀b h',hp.le h'->SlI .i64 h' (some ⟨b,0,none⟩) (aJ v 0)->K' (.slice (some ⟨b,0,none⟩) v v) h')->wpH prog (Instr.makeSlice 38 (I (v:Z)) (I (v:Z))) K' hp:=fun {hp K'} l kk=>by{refine Wi Oe o o o o fun b H=>?_;refine kk b _ (Heap.le_put _ H) ?_;rw[show(Value.int .i64 0).cells=#[.int .i64 0]from rfl,Eh,<- List.map_replicate];exact SlI.new _ _ _ _ _};have fin:∀{hp:aR} {T ZA:Option aQ} {r zc:J} {K':VP},h.le hp->MoSl hp T (mo v D)->SlI .i64 hp ZA (aJ v 0)->K' (.string (bs (E7 (V k)))) hp->aN prog 184 #[.agg #[.slice T (mo v D).length r,.slice A (mo v D).length c],.agg #[I ((mon v D k).length:Z),.slice PA 1 pc],.slice ZA v zc] hp K':=fun {hp T ZA r zc K'} l s sz kk=>A73 (gl.mono l) (f.mono l) s hk eP (C2 l c0) (C2 l c1) (sB.mono l) sz kk;refine⟨?_,?_⟩;{refine Dt f fun T r F d u=>⟨_,_,_,_,_,_,rfl,d,?_⟩;refine p d fun b E g sz=>⟨_,_,_,rfl,g,?_⟩;exact fin (B6 d g) (u.mono g) sz ⟨_,rfl,B8 _,B6 d g,hK⟩};·refine p (B8 _) fun b E g sz=>⟨_,_,_,rfl,g,?_⟩;refine Dt (f.mono g) fun T r F d u=>⟨_,_,_,_,_,_,rfl,d,?_⟩;exact fin (B6 g d) u (sz.mono d) ⟨_,rfl,B8 _,B6 g d,hK⟩
end
section
variable {α β α2 β2:Type} [E:Enc α] [E2:Enc α2] {R:aR->α->β->Prop} {e e2:bF} {h0 hp:aR} {A A2:Option aQ} {c n c2 n2:J} {f:J->β} {R2:aR->α2->β2->Prop} {f2:J->β2}
def Lst2.row2(m:Mon R2)(l:cV R e R2 e2 h0 hp A c n f A2 c2 n2 f2):aS R2 hp A2 n2 f2:=l.swap.row m
def Lst2.set(m2:Mon R2){P:bJ}{t:bF}(one:P.cellsOf t=E2.default.size/\(P.info? t).isSome=true)(l:cV R e R2 e2 h0 hp A c n f A2 c2 n2 f2){b k:J}(hA:A2=some ⟨b,0,none⟩)(hk:k<n2){v:aY}{y:α2}(hv:v.cells=(enc y).toArray){z:β2}(hR:R2 h0 y z){K:Unit->aR->Prop} (x:∀h',cV R e R2 e2 h0 h' A c n f A2 c2 n2 (fun i=>if i=k then z else f2 i)->K () h'):wpH P (Instr.storeAt t (.pointer (some (aP ⟨b,0,none⟩ (k*E2.default.size)))) v) K hp:=by obtain⟨g,o,xs,G,a,s,w,p,B,E,C,r,d⟩:=l;refine OwnSl.store one hv s p oo hA fun h' D j m F=>x h' ⟨g,D,xs,_,a,j,w.keep fun L u q H=>?_,m,B,E,gz0,r,d.upd oo (m2 _ _ _ _ a hR)⟩;grind
def Lst2.app(m:Mon R)(m2:Mon R2){P:bJ}{t ty:bF}{z:aY}{bytes k j:J}(st:SliceT P t e z E.default.size bytes)(l:cV R e R2 e2 h0 hp A c n f A2 c2 n2 f2)(hk:k=n){B:Option aQ}{d:J}{g:J->β}(row:aS R h0 B j g)(hj:1<=j)(hg:∀i,i<j->f (n+i)=g i)(hsz:bytes<=1000)(hb:n+j<=1000000){K:VP} (x:∀A' c' h',cV R e R2 e2 h0 h' A' c' (n+j) f A2 c2 n2 f2->K (.slice A' (n+j) c') h'): wpH P (cM #[t,t] ty #[.slice A k c,.slice B j d]) K hp:=by subst hk;obtain⟨gg,o,xs,ys,C,s,w,L,ap,F,D,r,r2⟩:=l;obtain⟨us,O,G,ru⟩:=row;refine OwnSl.app (ty:=ty) st s w F.symm G.symm (fun q=>gz0) (O.mono (B6 C s.le)) (by rw[F,G];exact Nat.le_trans (bU (show 2*(k+j)+192<=3000000 from oo) hsz) dc) oo ?_;intro A' c' h' V W a M Q N;rw[F];have H:∀b,A2=some ⟨b,0,none⟩->∃x,o b=some x:=fun b q=>by{rcases L.2 with⟨_,y⟩|⟨b',X,y,q3,_⟩;{grind};grind};refine x A' c' h' ⟨V,W,_,ys,B6 C a,M,Q,L.keep fun b x q T=>(N b x T fun y=>ap b y q).1,fun b q y=>?_,gz0,D,fun i hi=>?_,r2.mono m2 a⟩;{grind};·by_cases S:i<k;{obtain⟨u,e1,p⟩:=r i S;exact⟨u,gz0,m _ _ _ _ a p⟩};·obtain⟨i,rfl⟩:∃j0,i=k+j0:=⟨i-k,oo⟩;obtain⟨u,e1,p⟩:=ru i oo;exact⟨u,gz0,by rw[hg i oo];exact m _ _ _ _ (B6 C a) p⟩
end
def OwnK.vis{α β:Type}[E:Enc α]{R:aR->α->β->Prop}(m:Mon R){h hp:aR}{b n k b2:J}{f:J->β}(w:OwnK R h hp b n k f)(hb:hp b2=none)(x:Obj):OwnK R h (hp.put b2 x) b n k f:=by
 obtain⟨g,o,xs,i,s,d,e,c⟩:=w
 have a:g b2=none:=by
  cases q:g b2 with
  |none=>rfl
  |some u=>rw[s.le _ _ q]at hb;cases hb
 exact⟨_,o,xs,B6 i (Heap.le_put _ a),s.vis hb x,d,e,c.mono m (Heap.le_put _ a)⟩
def A9w{h:aR}{N:J}{K:VP}{b0:J}(hb0:h b0=none)(hN:1<=N)(hl:N<=1000000)(hK:∀b h',Lst SSr 9 h h' (some ⟨b,0,none⟩) N N (fun _=>E7 0)->K (.slice (some ⟨b,0,none⟩) N N) h'): aN prog 102 #[.slice (some ⟨b0,0,none⟩) 1 1,I (N:Z)] (h.put b0 (.cells #[.string ({data:=#[48] }:ByteArray)] 9)) K:=by refine Su (SlV.new _ _ _ _ _ _ (fun i v a=>by simpa using a)) hN hl fun b h' c s d=>hK b h' ⟨_,c,aJ N (E7 0),Heap.le_put _ hb0,s,⟨by simp,.inr ⟨b,_,rfl,d,by rw[List.length_replicate];exact(Nat.mul_one _).symm,?_⟩⟩,by simp,fun i e=>⟨_,gz0,rfl⟩⟩;rw[List.length_replicate,A0z,<- t0];exact List.take_of_length_le (by simp;exact Nat.le_of_eq (Nat.mul_one _).symm)
def rgS(V:J->Y)(v d:J)(M:J->J->Y)(i n:J):Y:=sm n fun j=>V ((pvL V v d).getD j 0)*kpw M (rkM V v d) i j
def rgt(V:J->Y)(v d:J)(M:J->J->Y)(i:J):Y:=rgS V v d M i (rkM V v d)
def hkl(P:J->Y)(deg:J):J->J->Y:=fun i k=>pws P deg (i+k)
def wgX(V:J->Y)(v d:J)(M:J->J->Y)(P:J->Y)(deg:J):J->Y:=A9o (fl (hkl P deg) (rkM V v d)) (rgt V v d M) (rkM V v d) (rkM V v d)
section
variable {h:aR} {K:VP} {A BA IA KA PA:Option aQ} {c bc ic kc pc m mq v d D deg:J} {V P:J->Y} {M:J->J->Y}
def A8g{i:J}(q:Quo h A BA IA v D m d V)(hi:i<nM v d):mon v d i=mon v D i/\i<(mo v D).length:=by have e:=Kr q.fn.v1 q.fn.v2 (show d<=3 by have:=q.d2;omega) q.fn.d6 (show 2*d<=D by have:=q.dD;omega) hi hi;refine⟨e.same,?_⟩;have:nM v d<=(mo v D).length:=by{have a:d<=D:=by{have:=q.dD;omega};have b:∀v:Fin 3,∀d:Fin 3,∀D:Fin 7,d.val<=D.val->nM v d<=(mo v D).length:=by{decide +kernel};exact b ⟨v,by have:=q.fn.v2;omega⟩ ⟨d,by have:=q.d2;omega⟩ ⟨D,by have:=q.fn.d6;omega⟩ a};omega
def A1v(gl:Gl h)(q:Quo h A BA IA v D m d V)(hq1:1<=mq)(hq:mq<=1000000)(hmq:15<=mq) (x:aS (MVr (rkM V v d)) h KA (rkM V v d+1) (kpw M (rkM V v d))) (hs:∀k,k<=rkM V v d->∀i,i<rkM V v d->Sz mq (kpw M (rkM V v d) k i)) (sb:SB (rkM V v d) mq) (xp:aS SSr h PA (deg+1) (fun i=>E7 (P i))) (hd1:1<=deg) (hd:deg<=64) (sP:∀i,i<=deg->Sz mq (P i)) (sS:∀k,k<2*rkM V v d-1->Sz mq (pws P deg k)) (sT:∀k i,k<2*rkM V v d-1->i<=k->i<=deg->Sz mq (psT P deg (pws P deg) k i)) (sR:∀i n,i<rkM V v d->n<=rkM V v d->Sz mq (rgS V v d M i n)) (ok:Kc (fl (hkl P deg) (rkM V v d)) (rgt V v d M) (rkM V v d) (rkM V v d)) (hx:∀i,i<rkM V v d->Sz 10000000 (wgX V v d M P deg i)) (hK:∀A' c' h',h.le h'->aS SSr h' A' (trN (wgX V v d M P deg) (rkM V v d)) (fun i=>E7 (wgX V v d M P deg i))->K (.tuple #[.slice A' (trN (wgX V v d M P deg) (rkM V v d)) c',I 0]) h'): aN prog 42 #[C2g A BA IA c bc ic v D (rkM V v d),.agg #[.slice KA (rkM V v d+1) kc],.slice PA (deg+1) pc] h K:=by have r1:=q.r1;have r6:=q.r6;have an:rkM V v d*rkM V v d<=6*6:=bU r6 r6;refine(fnk func42 [(4,[31],[],[I 0]),(16,[68],[(15,3)],[I 0,I 0,I 0,.slice none 0 0]),(20,[83],[],[I 0])] (own:=[3,4,13,15]) (wr:=[1000000000])) ?_;refine G7 G2 (zx:=([]:cX UInt8)) rfl oo oo oo oo fun b hb=>⟨_,_,_,rfl,?_⟩;refine⟨fun L F=>∃k:J,k<=rkM V v d/\L=[I k]/\OwnK SSr h F b (rkM V v d) k (fun i=>E7 (V ((pvL V v d).getD i 0))),fun L _=>rkM V v d-(iAt L 0).toNat,⟨0,oo,rfl,OwnK.zero hb⟩,?_⟩;rintro z F ⟨k,hk,eL,w⟩;obtain rfl:z=(k:Z):=gz0;refine B9 (fun ae=>?_) (fun ag=>?_);{have C:k<rkM V v d:=oo;obtain⟨ab,B,b2,e,c0,s0⟩:=q.bd.mi C;have ah:=Sr V v d C;obtain⟨m1,m2⟩:=A8g q ah;have eb:bdr V v d k=mon v D ((pvL V v d).getD k 0):=m1;rw[eb]at c0 s0;refine⟨ab,e,oo,oo,_,_,_,by exact C2 w.le c0,?_⟩;refine Ah C2w (vs:=[.agg #[.string ({data:=#[49] }:ByteArray),.slice B (mon v D ((pvL V v d).getD k 0)).length b2]]) (fun u hu=>by rw[List.mem_singleton.1 hu];rfl) rfl (by simp) rfl fun b4 ai=>⟨_,_,_,rfl,?_⟩;have w4:=w.vis F1 ai (.cells (([.agg #[.string ({data:=#[49] }:ByteArray),.slice B (mon v D ((pvL V v d).getD k 0)).length b2]]:cX aY).flatMap fun v=>v.cells.toList).toArray 185);have l4:=w4.le;refine A1n (bc:=b2) (gl.mono l4) (q.fn.mono l4) m2 rfl ?_ ?_ (s0.mono l4) ⟨_,_,rfl,_,rfl,oo,oo,?_⟩;{rw[cC,D9,D9,E6,t1];rfl};{rw[cC,D9,D9,E6];rfl};refine w4.fill F1 N9 (y:=E7 (V ((pvL V v d).getD k 0))) C (by rfl) rfl fun h5 w5=>D8 (fun e=>absurd rfl e) (fun _=>?_);rw[wiS k oo];exact⟨⟨k+1,oo,rfl,w5⟩,by simp only[U4];omega⟩};·obtain rfl:k=rkM V v d:=oo;have lw:=w.le;have rowV:=w.own.vis F1;rw[show C4 (C4 (2*(rkM V v d:Z))-1)=((2*rkM V v d-1:J):Z) by rw[C0 (n:=2*(rkM V v d:Z)) oo oo,C0]<;>omega];refine Hy (gl.mono lw) (xp.mono F1 lw) hd1 hd oo oo sP sS sT oo oo fun SA sc r l2 ac H=>⟨_,_,_,rfl,?_⟩;refine T6 G2 rfl fun b0 af=>⟨_,_,_,rfl,?_⟩;refine A9w af r1 oo fun br h3 L0=>⟨_,_,_,rfl,?_⟩;generalize hG:T1 (hkl P deg) (rkM V v d)=G;have S:∀i k,k<rkM V v d->G (i*rkM V v d+k)=E7 (hkl P deg i k):=fun i k hk=>by{obtain⟨a1,a2⟩:=dm1 (i:=i) hk;rw[<- hG];unfold T1;grind};refine⟨fun L F=>∃(i:J) (A':Option aQ) (c':J),i<=rkM V v d/\L=[I (i:Z),I (rkM V v d:Z),I (rkM V v d:Z),.slice A' (i*rkM V v d) c']/\cV SSr 9 SSr 9 r F A' c' (i*rkM V v d) G (some ⟨br,0,none⟩) (rkM V v d) (rkM V v d) (fun t=>E7 (if t<i then rgt V v d M t else 0)),fun L _=>rkM V v d-(iAt L 0).toNat,⟨0,none,0,oo,gz0,by rw[cC];exact Lst2.of L0⟩,?_⟩;rintro z m0 m1 mA mn mc F ⟨i,A',c',hi,eL,L⟩;obtain⟨rfl,rfl,rfl,rfl,rfl,rfl⟩:=eL;have T:=B6 lw l2;refine B9 (fun ae=>?_) (fun ag=>?_);{have p:i<rkM V v d:=oo;have ad:(i+1)*rkM V v d=i*rkM V v d+rkM V v d:=gz0;have al:(i+1)*rkM V v d<=rkM V v d*rkM V v d:=aI _ p;rw[show C4 ((i:Z)+(rkM V v d:Z))=((i+rkM V v d:J):Z) by rw[C0]<;>omega];refine⟨⟨oo,oo⟩,⟨oo,oo⟩,?_⟩;simp only[aW];rw[show i+rkM V v d-i=rkM V v d from oo];refine Lst2.app F1 F1 G2 L rfl (H.cut (l:=i) (k:=rkM V v d) oo ac) r1 (fun t ht=>?_) dc oo fun A5 c5 h5 L5=>⟨_,_,_,rfl,?_⟩;{rw[S i t ht];rfl};refine⟨fun L hx=>∃(j:J),j<=rkM V v d/\L=[I (j:Z)]/\cV SSr 9 SSr 9 r hx A5 c5 (i*rkM V v d+rkM V v d) G (some ⟨br,0,none⟩) (rkM V v d) (rkM V v d) (fun t=>E7 (if t<i then rgt V v d M t else if t=i then rgS V v d M i j else 0)),fun L _=>rkM V v d-(iAt L 0).toNat,⟨0,oo,rfl,?_⟩,?_⟩;{obtain⟨g,o,xs,ys,R,s,w1,w2,ap,hn,a,Q,W⟩:=L5;refine⟨g,o,xs,ys,R,s,w1,w2,ap,hn,a,Q,W.congr fun t _=>?_⟩;by_cases h1:t<i;{grind};·by_cases r:t=i;{rw[iP r];rfl};grind};rintro z hx ⟨j,hj,eL,L6⟩;obtain rfl:z=(j:Z):=gz0;refine B9 (fun ak=>?_) (fun aj=>?_);{have f:j<rkM V v d:=oo;have O:=L6.le;have E:=B6 T O;obtain⟨a1,e1,c1⟩:=(rowV.mono F1 (B6 l2 O)).sat f;obtain⟨a2,e2,c2⟩:=(L6.row2 F1).sat p;obtain⟨a3,B3,am,e3,_,_,c3,aa⟩:=(x.mono (Wc _) E).mv (show i<rkM V v d+1 from oo);obtain⟨a4,e4,c4⟩:=aa.sat f;rw[iN (Nat.lt_irrefl i),iP rfl]at c2;refine⟨a1,e1,oo,oo,_,by exact c1,a2,e2,oo,oo,_,c2,a3,e3,oo,oo,_,_,_,c3,a4,e4,oo,oo,_,by exact c4,?_⟩;have sv:=(q.fn.sz _ (A8g q (Sr V v d f)).2).mono (show m<=mq by have:=q.m15;omega);have sk:=hs i oo j f;refine Dl (m:=mq) (gl.mono E) (Tx.of sv oo) (Tx.of sk oo) oo ⟨_,rfl,B8 _,?_⟩;rw[F3,F3];refine Is (m:=2*mq) (gl.mono E) (Tx.of ((sR i j p oo).mono oo) oo) (Tx.of ((sv.mul sk).mono oo) oo) oo ⟨_,rfl,B8 _,_,rfl,oo,oo,?_⟩;rw[F3,F3];refine L6.set F1 N9 rfl p (y:=E7 (rgS V v d M i (j+1))) (by rfl) rfl fun h7 L7=>?_;rw[wiS j oo];refine⟨⟨j+1,oo,rfl,?_⟩,by simp only[U4];omega⟩;obtain⟨g,o,xs,ys,R,s,w1,w2,ap,hn,a,Q,W⟩:=L7;refine⟨g,o,xs,ys,R,s,w1,w2,ap,hn,a,Q,W.congr fun t _=>?_⟩;by_cases h1:t<i;{rw[iN oo,iP h1,iP h1]};·by_cases r:t=i;{grind};grind};·obtain rfl:j=rkM V v d:=oo;rw[wiS i oo];rw[<- ad]at L6 ⊢;refine⟨⟨i+1,_,_,oo,rfl,?_⟩,by simp only[U4];omega⟩;obtain⟨g,o,xs,ys,R,s,w1,w2,ap,hn,a,Q,W⟩:=L6;refine⟨g,o,xs,ys,R,s,w1,w2,ap,hn,a,Q,W.congr fun t _=>?_⟩;by_cases h1:t<i;{grind};·rw[iN h1];by_cases r:t=i;{rw[iP r,iP oo,r];rfl};grind};·obtain rfl:i=rkM V v d:=oo;have N:=B6 T L.le;have y:FM F mA (rkM V v d) (rkM V v d) mq (hkl P deg):=⟨r1,oo,r1,oo,by rw[hG];exact L.row F1,fun i j hi hj=>sS (i+j) oo⟩;have rr:aS SSr F (some ⟨br,0,none⟩) (rkM V v d) (fun t=>E7 (rgt V v d M t)):=(L.row2 F1).congr fun t ht=>by{grind};refine Jj (gl.mono N) y rr (fun i hi=>sR i _ hi (aF _)) ok hq1 ⟨(sb _ (aF _)).1,(sb _ (aF _)).1,(sb _ (aF _)).2,(sb _ (aF _)).2⟩ fun A5 c5 B5 n5 d5 h5 l5 q5=>⟨_,_,_,_,_,_,_,rfl,D8 (fun e=>absurd rfl e) (fun _=>?_)⟩;have X:=B6 N l5;exact Uh (m:=10000000) (gl.mono X) q5 oo hx oo fun A6 c6 h6 l6 r6=>⟨_,_,_,_,rfl,hK _ _ _ (B6 X l6) r6⟩
end
structure XOk (V:J->Y) (v d N mq:J):Prop where
 n9:N<=999
 q1:15<=mq
 q2:mq<=1000000
 sb:SB (rkM V v d) mq
 kb:∀ k,k<=N->KB V (frm k) v d mq
 ku:∀ j,j<v->∀ i k,i<rkM V v d->k<rkM V v d->Sz mq (B17 V (uni j) v d i k)/\Sz mq (fmM V (uni j) v d i 0)
 no:∀ k,k<N->Nq (fmM V (frm k) v d) (rkM V v d)≠rkM V v d
 yes:Nq (fmM V (frm N) v d) (rkM V v d)=rkM V v d
 min:Kc (fl (A2f (kpw (fmM V (frm N) v d) (rkM V v d))) (rkM V v d)) (kpw (fmM V (frm N) v d) (rkM V v d) (rkM V v d)) (rkM V v d) (rkM V v d)
 minS:∀ i,i<rkM V v d->Sz 10000000 (C2m (fmM V (frm N) v d) (rkM V v d) i)
 coo:∀ j,j<v->Kc (fl (A2f (kpw (fmM V (frm N) v d) (rkM V v d))) (rkM V v d)) (fun i=>fmM V (uni j) v d i 0) (rkM V v d) (rkM V v d)
 cooS:∀ j,j<v->∀ i,i<rkM V v d->Sz 10000000 (B0w V v d (fmM V (frm N) v d) j i)
 sP:∀ i,i<=rkM V v d->Sz mq (Li (fmM V (frm N) v d) (rkM V v d) i)
 sS:∀ k,k<2*rkM V v d-1->Sz mq (pws (Li (fmM V (frm N) v d) (rkM V v d)) (rkM V v d) k)
 sT:∀ k i,k<2*rkM V v d-1->i<=k->i<=rkM V v d->Sz mq (psT (Li (fmM V (frm N) v d) (rkM V v d)) (rkM V v d) (pws (Li (fmM V (frm N) v d) (rkM V v d)) (rkM V v d)) k i)
 sR:∀ i n,i<rkM V v d->n<=rkM V v d->Sz mq (rgS V v d (fmM V (frm N) v d) i n)
 wok:Kc (fl (hkl (Li (fmM V (frm N) v d) (rkM V v d)) (rkM V v d)) (rkM V v d)) (rgt V v d (fmM V (frm N) v d)) (rkM V v d) (rkM V v d)
 wS:∀ i,i<rkM V v d->Sz 10000000 (wgX V v d (fmM V (frm N) v d) (Li (fmM V (frm N) v d) (rkM V v d)) (rkM V v d) i)
def TXr:aR->HV->J×(J->Y)->Prop:=fun h w x=>w.n=x.1/\aS SSr h w.A x.1 (fun i=>E7 (x.2 i))
def B3f:Mon TXr:=fun _ _ _ _ l i=>⟨i.1,i.2.mono F1 l⟩
def C80(V:J->Y)(v d N:J)(j:J):J×(J->Y):=(trN (B0w V v d (fmM V (frm N) v d) j) (rkM V v d),B0w V v d (fmM V (frm N) v d) j)
structure XtV (h:aR) (V:J->Y) (v d N:J) (FA MA CA WA:Option aQ):Prop where
 form:aS SSr h FA v (fun i=>E7 (frm N i))
 min:aS SSr h MA (rkM V v d+1) (fun i=>E7 (Li (fmM V (frm N) v d) (rkM V v d) i))
 coo:aS TXr h CA v (C80 V v d N)
 wgt:aS SSr h WA (trN (wgX V v d (fmM V (frm N) v d) (Li (fmM V (frm N) v d) (rkM V v d)) (rkM V v d)) (rkM V v d)) (fun i=>E7 (wgX V v d (fmM V (frm N) v d) (Li (fmM V (frm N) v d) (rkM V v d)) (rkM V v d) i))
def xt0:aY:=.agg #[.slice none 0 0,.slice none 0 0,.slice none 0 0,.slice none 0 0]
section
variable {h:aR} {K:VP} {A:Option aQ} {c m mq v d D N:J} {V:J->Y}
def Yj(gl:Gl h)(f:FnV h A v D m V)(hm1:1<=m)(hm:m<=15)(hd3:d<=3) (h3:d<1\/D<2*d->∀h',h.le h'->K (.tuple #[xt0,I 3]) h') (h11:1<=d->2*d<=D->¬(rkM V v d=rkM V v (d-1)/\1<=rkM V v d/\psd V v d)->∀h',h.le h'->K (.tuple #[xt0,I 11]) h') (hok:∀d',d=d'+1->2*d<=D->rkM V v d=rkM V v d'->1<=rkM V v d'->psd V v d->∃N mq,XOk V v d' N mq/\∀FA fc MA mc CA cc WA wc h',h.le h'->XtV h' V v d' N FA MA CA WA->K (.tuple #[.agg #[.slice FA v fc,.slice MA (rkM V v d'+1) mc,.slice CA v cc,.slice WA (trN (wgX V v d' (fmM V (frm N) v d') (Li (fmM V (frm N) v d') (rkM V v d')) (rkM V v d')) (rkM V v d')) wc],I 0]) h'): aN prog 12 #[.agg #[I (v:Z),I (D:Z),.slice A (mo v D).length c],I (d:Z)] h K:=by have v2:=f.v2;refine(fnk func12 [(12,[50],[(4,4),(10,4)],[I 0,.slice none 0 0,.slice none 0 0,.slice none 0 0,.slice none 0 0,.slice none 0 0,.slice none 0 0,.slice none 0 0,.slice none 0 0])] (os:=[(1,[0,1,2,8,3,4,5,6,7,9,10])]) (own:=[2,4,6,9,10])) ?_;refine Yk o fun b h1 own=>⟨_,_,_,rfl,own.le,?_⟩;have B:=own.le;refine Yh (F:=fun _=>0) (m2:=1) (gl.mono B) (f.mono B) hm1 hm hd3 (own.vis F1) (fun _ _=>Sz.zero o) o (fun e=>⟨_,_,_,_,_,_,_,_,_,_,_,_,_,_,rfl,B8 _,D8 (fun _=>h3 o _ B) (fun e=>o)⟩) (fun e1 e2 _ no=>⟨_,_,_,_,_,_,_,_,_,_,_,_,_,_,rfl,B8 _,D8 (fun _=>h11 e1 e2 (fun x=>no ⟨x.1,x.2.1,fun _=>x.2.2⟩) _ B) (fun e=>o)⟩) ?_;intro d' ed hD _ r a Q BA bc IA ic h2 l2 rb ri;obtain⟨N,mq,X,kk⟩:=hok d' ed hD r a (Q rfl);refine⟨_,_,_,_,_,_,_,_,_,_,_,_,_,_,rfl,l2,D8 (fun e=>absurd rfl e) (fun _=>?_)⟩;have p:=B6 B l2;have q:Quo h2 A BA IA v D m d' V:=⟨f.mono p,o,o,a,hm1,hm,rb,ri⟩;have n:=gl.mono p;have r6:=q.r6;have ag:=X.q1;refine Ro n q X.n9 X.kb o X.q2 X.sb X.no X.yes fun FA fc KA kc h3 W rf rk=>⟨_,_,_,_,_,_,_,rfl,D8 (fun e=>absurd rfl e) (fun _=>?_)⟩;have pw:=(X.kb N (aF _)).pw;have key:∀K':VP,(∀A' c' h',h3.le h'->aS SSr h' A' (rkM V v d'+1) (fun i=>E7 (Li (fmM V (frm N) v d') (rkM V v d') i))->K' (.tuple #[.slice A' (rkM V v d'+1) c',I 0]) h')->aN prog 40 #[.agg #[.slice KA (rkM V v d'+1) kc]] h3 K':=fun K' G=>by{have:=Yi (K:=K') (kc:=kc) (n.mono W) rk a r6 pw o X.q2 X.sb;rw[X.yes]at this;exact this a X.min X.minS G};refine key _ fun MA mc h4 O rm=>⟨_,_,_,_,rfl,D8 (fun e=>absurd rfl e) (fun _=>?_)⟩;have u:=B6 W O;have t:=rk.mono (Wc _) O;have R:=rf.mono F1 O;refine⟨fun L hp=>∃(j:J) (CA:Option aQ) (cc:J),j<=v/\L=[I (j:Z),.slice none 0 0,.slice none 0 0,.slice none 0 0,.slice none 0 0,.slice FA v fc,.slice MA (rkM V v d'+1) mc,.slice CA j cc,.slice none 0 0]/\Lst TXr 22 h4 hp CA cc j (C80 V v d' N),fun L _=>v-(iAt L 0).toNat,⟨0,none,0,o,rfl,Lst.nil⟩,?_⟩;rintro z aA an ac bA bn af cA cn ai dA dn dc eA v ec gA gn gc CA j cc iA iN ah hp ⟨j0,CA0,ae,hj,eL,L⟩;obtain⟨rfl,⟨rfl,rfl,rfl⟩,⟨rfl,rfl,rfl⟩,⟨rfl,rfl,rfl⟩,⟨rfl,rfl,rfl⟩,⟨rfl,rfl,rfl⟩,⟨rfl,rfl,rfl⟩,⟨rfl,rfl,rfl⟩,rfl,rfl,rfl⟩:=eL;refine B9 (fun ad=>?_) (fun aa=>?_);{have l:j<v:=o;refine L.call B3f fun g E=>?_;have s:=B6 u E;refine Rp (mq:=mq) (n.mono s) (q.mono s) l (fun i k w T=>⟨(X.kb N (aF _)).iv i k w T,(X.ku j l i k w T).1⟩) o X.q2 (t.mono (Wc _) E) pw (fun i w=>(X.ku j l i i w w).2) X.sb (X.coo j l) (X.cooS j l) fun A5 c5 g5 S r5=>⟨S,fun h5 _ L5=>⟨_,_,_,_,rfl,D8 (fun e=>absurd rfl e) (fun _=>?_)⟩⟩;refine L5.push B3f B1u rfl (y:=(⟨A5,_,c5⟩:HV)) (by rfl) ⟨rfl,r5⟩ (by decide) o fun A6 c6 h6 L6=>?_;rw[wiS j o];exact⟨⟨j+1,_,_,o,rfl,L6.weak (B6 E S)⟩,by simp only[U4];omega⟩};·obtain rfl:j=v:=o;have M:=B6 u L.le;refine A1v (mq:=mq) (n.mono M) (q.mono M) o X.q2 X.q1 (t.mono (Wc _) L.le) pw X.sb (rm.mono F1 L.le) a o X.sP X.sS X.sT X.sR X.wok X.wS fun WA wc h7 C H=>⟨_,_,_,_,rfl,D8 (fun e=>absurd rfl e) (fun _=>?_)⟩;exact kk _ _ _ _ _ _ _ _ _ (B6 p (B6 M C)) ⟨R.mono F1 (B6 L.le C),rm.mono F1 (B6 L.le C),(L.row B3f).mono B3f C,H⟩
end
structure Blk (s:J) (u:J->Y) (B:J->J->Y):Prop where
 pos:∀ l,l<s->0<u l
 inv:A5l (fl (gM s u B) s) s
def phM(s:J)(u φ:J->Y)(B:J->J->Y):J->J->Y:=C67 s (B3n (fl (gM s u B) s) s) (fun i j=>sm s fun l=>u l*φ l*(B l i*B l j))
section
variable {s:J} {u φ:J->Y} {B:J->J->Y}
end
def Dis(s:J)(φ:J->Y):Prop:=∀k l,k<s->l<s->k≠l->φ k≠φ l
def pvl(x:J->Y)(n:J)(t:Y):Y:=sm n fun j=>t^j*x j
section
variable {s:J} {u φ:J->Y} {B:J->J->Y}
end
def A6m(q:Y)(a b:J):q^(a+b)=q^a*q^b:=by
 induction b with
 |zero=>rw[cU,bM,bH]
 |succ b ih=>rw[<- cQ,bN,bN,ih,bX]
section
variable {h:aR} {K:VP} {w:QV} {p:Y} {m:J}
def B0k{n:J}(i:NQ h w p)(hp:Sz m p)(hm1:1<=m)(hn:n<=1000)(hm:m*n+1<=1000000)(hK:∀ w h',h.le h'->NQ h' w (p^n)->K w.v h'):aN prog 85 #[w.v,I (n:Z)] h K:=by
 refine (fnk func85 [(2,[1],[(2,4),(5,4)],[I 0,.bool false,.slice none 0 0,.bool false,.slice none 0 0,.bool false,.slice none 0 0,.bool false,.slice none 0 0])] (own:=[2,4,5])) ?_
 refine Ei o ?_
 intro w0 B E i0
 refine ⟨_,_,_,_,_,_,_,_,rfl,?_⟩
 refine ⟨fun L hp=>h.le hp/\∃ (a e f:J) (v u:QV),(a<=n/\f+e*a=n)/\NQ hp v (p^e)/\NQ hp u (p^f)/\L=I (a:Z)::(qc v++qc u),fun L _=>(iAt L 0).toNat,⟨E,n,1,0,w,w0,⟨aF _,o⟩,by rw [Rat.pow_one];exact i.mono E,by rw [bM];exact i0,rfl⟩,?_⟩
 rintro t a0 R ad af a2 Q M aa o0 S ac ae o2 O V W k ⟨y,a,e,f,v,u,⟨F,hs⟩,j,q,C⟩
 simp only [qc,List.cons_append,List.nil_append,aH,aK,bK,aM,true_and,and_true] at C
 obtain ⟨rfl,rfl,⟨rfl,rfl,rfl⟩,rfl,⟨rfl,rfl,rfl⟩,rfl,⟨rfl,rfl,rfl⟩,rfl,rfl,rfl,rfl⟩:=C
 refine B9 (fun g=>?_) (fun g=>?_)
 ·have l:1<=a:=o
  have he:e<=n:=by
   have:e*1<=e*a:=aZ e l
   omega
  have X:f<=n:=o
  have N:Int.tmod (a:Z) 2=((a%2:J):Z):=by rw [Int.tmod_eq_emod_of_nonneg o];omega
  have H:C4 (Int.tdiv (a:Z) 2)=((a/2:J):Z):=by rw [Int.tdiv_eq_ediv_of_nonneg o,C0 o o];omega
  have z:m*e+1<=m*n+1:=by have:=aZ m he;omega
  have r:m*f+1<=m*n+1:=by have:=aZ m X;omega
  have d:=(hp.pow hm1 e).mono z
  have zf:=(hp.pow hm1 f).mono r
  have D:e*a=(e+e)*(a/2)+e*(a%2):=by
   have:=Nat.div_add_mod a 2
   calc e*a=e*(2*(a/2)+a%2):=by rw [this]
    _=(e+e)*(a/2)+e*(a%2):=by rw [Nat.mul_add,<- Nat.mul_assoc,Nat.mul_comm e 2,Nat.two_mul]
  rw [N,H]
  refine D4 (fun g1=>?_) (fun g1=>?_)
  ·refine Y4 q j zf d o ?_
   intro T h2 A G
   refine ⟨_,_,_,_,_,_,_,_,rfl,Y4 (j.mono A) (j.mono A) d d o ?_⟩
   intro s h3 c b
   rw [<- A6m] at G b
   refine ⟨_,_,_,_,_,_,_,_,rfl,⟨B6 y (B6 A c),a/2,e+e,f+e,s,T,?_,b,G.mono c,rfl⟩,?_⟩
   ·have:a%2=1:=o
    rw [this,Nat.mul_one] at D;exact ⟨o,o⟩
   ·simp [iAt];omega
  ·refine Y4 j j d d o ?_
   intro s h3 c b
   rw [<- A6m] at b
   refine ⟨_,_,_,_,_,_,_,_,rfl,⟨B6 y c,a/2,e+e,f,s,u,?_,b,q.mono c,rfl⟩,?_⟩
   ·have:a%2=0:=o
    rw [this,Nat.mul_zero] at D;exact ⟨o,o⟩
   ·simp [iAt];omega
 ·have B:a=0:=o
  subst B
  rw [Nat.mul_zero,cU] at hs
  subst hs
  exact hK u k y q
end
def mvl(x:J->Y):cX Z->J->Y
 | [],_=>1
 |e::es,i=>x i^e.toNat*mvl x es (i+1)
def ptV(s:J)(u:J->Y)(y:J->J->Y)(v D:J):J->Y:=fun i=>sm s fun l=>u l*mvl (y l) (mon v D i) 0
def wV(y:J->J->Y)(v d:J):J->J->Y:=fun l i=>mvl (y l) (mon v d i) 0
section
variable {s:J} {u:J->Y} {y:J->J->Y} {v d D:J}
def C19(h1:1<=v)(h2:v<=2)(hD:D<=6){k:J}(hk:k<(mo v D).length):(mon v D k).length=v/\∀z∈mon v D k,0<=z:=⟨((Bl h1 h2 hD).val k hk).2.1,fun z a=>((mz h1 h2 hD hk).bnd z a).1⟩
end
def PtD(s v:J)(y:J->J->Y):Prop:=∀k l,k<s->l<s->k≠l->∃i,i<v/\y k i≠y l i
section
variable {s v d:J} {y:J->J->Y}
end
structure Pts (s v:J) (u:J->Y) (y:J->J->Y):Prop where
 s1:1<=s
 s3:s<=3
 v1:1<=v
 v2:v<=2
 dif:PtD s v y
 pos:∀ l,l<s->0<u l
def bB(V:J->Y)(y:J->J->Y)(v d:J):J->J->Y:=fun l t=>wV y v d l ((pvL V v d).getD t 0)
section
variable {s v d D:J} {u:J->Y} {y:J->J->Y}
def phi(F:J->Y)(y:J->J->Y)(v:J):J->Y:=fun l=>sm v fun j=>F j*y l j
end
section
variable {s v d D:J} {u:J->Y} {y:J->J->Y}
end
section
variable {s v d D:J} {u φ:J->Y} {y:J->J->Y}
structure Res (s v d D N:J) (u:J->Y) (y:J->J->Y):Prop where
 dis:Dis s (phi (frm N) y v)
 deg:Nq (fmM (ptV s u y v D) (frm N) v d) s=s
 min:∀ l,l<s->pvl (C2m (fmM (ptV s u y v D) (frm N) v d) s) s (phi (frm N) y v l)=phi (frm N) y v l^s
 coo:∀ j,j<v->∀ l,l<s->pvl (B0w (ptV s u y v D) v d (fmM (ptV s u y v D) (frm N) v d) j) s (phi (frm N) y v l)=y l j
 wgt:∀ l,l<s->pvl (wgX (ptV s u y v D) v d (fmM (ptV s u y v D) (frm N) v d) (Li (fmM (ptV s u y v D) (frm N) v d) s) s) s (phi (frm N) y v l)=u l
 szP:∀ i,i<=s->Sz 300 (Li (fmM (ptV s u y v D) (frm N) v d) s i)
 szM:∀ F:J->Y,(∀ j,j<v->Sz 11 (F j))->∀ k,k<=3->∀ i j,i<s->j<s->Sz 12004 (phM s u (fun l=>phi F y v l^k) (bB (ptV s u y v D) y v d) i j)
 kb:∀ F:J->Y,(∀ j,j<v->Sz 11 (F j))->KB (ptV s u y v D) F v d 20000
end
def pmv(x:J->Y)(e:cX Z):J->Y
 |0=>1
 |k+1=>pmv x e k*x k^(e.getD k 0).toNat
def B2s(x:J->Y){e:cX Z}{v:J}(h1:1<=v)(h2:v<=2)(hl:e.length=v):pmv x e v=mvl x e 0:=by
 rcases(show v=1\/v=2 from o)with rfl|rfl
 ·obtain⟨a,rfl⟩:=List.length_eq_one_iff.1 hl;simp[pmv,mvl]
 ·obtain⟨a,a1,rfl⟩:∃a a1,e=[a,a1]:=by
   match e,hl with
   | [a,a1],_=>grind
  simp[pmv,mvl]
structure TRm where
 w:QV
 B:Option aQ
 n:J
 c:J
instance:Enc TRm:=⟨⟨fun x=>[.bool x.w.s,.slice x.w.A x.w.n x.w.c,.bool x.w.s2,.slice x.w.A2 x.w.n2 x.w.c2,.slice x.B x.n x.c],5,fun _=>rfl,fun x v hv=>by simp at hv;rcases hv with rfl|rfl|rfl|rfl|rfl<;>rfl⟩⟩
abbrev RTr:aR->TRm->In->Prop:=fun h w t=>NQ h w.w (rv t.1)/\w.n=t.2.length/\SlI .i64 h w.B t.2
def B08:Mon RTr:=fun _ _ _ _ l i=>⟨NQ.mono l i.1,i.2.1,i.2.2.mono l⟩
section
variable {h:aR} {K:VP} {A B XA WA:Option aQ} {c cc n m v D:J} {f:J->Y} {tt:J->In}
def RowV.rt(r:aS RTr h A n tt){i:J}(hi:i<n):∃a w,A=some a/\RTr h w (tt i)/\h.cell? (aP (aP (aP a (i*5)) 0) 0)=some (.bool w.w.s)/\h.cell? (aP (aP (aP a (i*5)) 0) 1)=some (.slice w.w.A w.w.n w.w.c)/\h.cell? (aP (aP (aP a (i*5)) 0) 2)=some (.bool w.w.s2)/\h.cell? (aP (aP (aP a (i*5)) 0) 3)=some (.slice w.w.A2 w.w.n2 w.w.c2)/\h.cell? (aP (aP a (i*5)) 4)=some (.slice w.B w.n w.c):=by obtain⟨a,w,e,d,b⟩:=r.at dc hi;refine⟨a,w,e,d,?_,?_,?_,?_,b 4 _ rfl⟩;{exact b 0 _ rfl};{exact b 1 _ rfl};{exact b 2 _ rfl};·exact b 3 _ rfl
def A6d(r:aS RTr h A 1 tt)(hq:rv (tt 0).1≠0)(hc:1<=c)(hK:∀A' c' h',h.le h'->aS RTr h' A' 1 tt->K (.agg #[I (v:Z),.slice A' 1 c']) h'):aN prog 32 #[I (v:Z),.slice A 1 c] h K:=by refine(fnk func32 [(4,[7],[(6,2)],[I 0,I 0,.slice none 0 0]),(7,[9],[(8,4)],[I 0,.bool false,.slice none 0 0,.bool false,.slice none 0 0])] (own:=[4,6,8]) (wr:=[1000000000])) ?_;refine(fnk func79 [(6,[5,6,7],[],[.slice none 0 0,I 0,I 0])] (os:=[(3,[0,1,2,3,4,6,7,8,9,10,5,11,12,13])])) ?_;refine B9 (fun _=>?_) (fun no=>o);refine⟨_,_,_,rfl,?_⟩;refine⟨fun L C=>∃(i:J) (A':Option aQ) (c':J),i<=1/\L=[I (i:Z),I (v:Z),.slice A' i c']/\Lst RTr 87 h C A' c' i tt,fun L _=>1-(iAt L 0).toNat,⟨0,_,_,o,rfl,Lst.nil⟩,?_⟩;rintro z X S E V C ⟨i,A',c',W,p,L⟩;simp only[aH,aK,aM,true_and,and_true]at p;obtain⟨rfl,rfl,rfl,rfl,rfl⟩:=p;refine B9 (fun H=>?_) (fun G=>?_);{obtain rfl:E=0:=o;obtain⟨a,w,e,D,c0,c1,c2,c3,c4⟩:=r.rt (show 0<1 from o);have t:=fun {x:aQ} {u:aY} (q:h.cell? x=some u)=>C2 L.le q;refine⟨a,e,o,o,_,_,_,_,_,_,_,_,t c0,t c1,t c2,t c3,?_⟩;refine⟨fun L F=>L=I 1::qc w.w/\F=C,fun _ _=>0,⟨rfl,rfl⟩,?_⟩;rintro k j m d l B b g f F ⟨p,rfl⟩;simp only[aH,aK,true_and]at p;obtain⟨rfl,p⟩:=p;obtain⟨O,_⟩:=B2d (w:=w.w) (by grind:(.bool j:aY) :: .slice m d l :: .bool B :: .slice b g f::[]= .bool w.w.s :: .slice w.w.A w.w.n w.w.c :: .bool w.w.s2 :: .slice w.w.A2 w.w.n2 w.w.c2::[]);obtain⟨R,N,Q,M⟩:=w;dsimp only at *;subst O;refine B9 (fun no=>o) (fun _=>?_);refine V9 (w:=⟨j,m,d,l,B,b,g,f⟩) (NQ.mono L.le D.1) ⟨_,rfl,D8 (fun _=>?_) (fun q=>absurd (Rat.num_eq_zero.1 (Int.sign_eq_zero_iff_zero.1 q)) hq)⟩;refine⟨a,e,o,o,_,_,_,t c4,?_⟩;refine L.pushG B08 C89 rfl (y:=(⟨⟨j,m,d,l,B,b,g,f⟩,N,Q,M⟩:TRm)) (by rfl) D dc o fun A5 c5 T L5=>?_;exact⟨⟨1,_,_,o,rfl,L5⟩,by simp only[U4];omega⟩};·obtain rfl:E=1:=o;exact hK _ _ _ L.le (L.row B08)
def B8l{e:cX Z}(hm:1<=m)(hf:∀k,k<v->Sz m (f k))(he:∀k,(e.getD k 0).toNat<=6):∀k,k<=v->Sz (1+k*(m*6+1)) (pmv f e k):=by
 intro k
 induction k with
 |zero=>exact fun _=>B32.mono o
 |succ k ih=>
  intro c;have a:=ih o;have b:=((hf k o).pow hm (e.getD k 0).toNat).mono (show m*(e.getD k 0).toNat+1<=m*6+1 by have:=aZ m (he k);omega);exact(a.mul b).mono gz0
def A9r(r:aS RTr h A 1 tt)(hq:rv (tt 0).1=1)(v1:1<=v)(v2:v<=2)(hl:(tt 0).2.length=v)(he0:∀z∈(tt 0).2,0<=z/\z<=6)(x:aS NQr h XA v f)(hm1:1<=m)(hm:m<=1000)(hf:∀k,k<v->Sz m (f k))(hK:∀w h',h.le h'->NQ h' w (mvl f (tt 0).2 0)->K w.v h'):aN prog 35 #[.agg #[I (v:Z),.slice A 1 c],.slice XA v cc] h K:=by refine(fnk func35 [(3,[6],[(5,4)],[I 0,.bool false,.slice none 0 0,.bool false,.slice none 0 0]),(7,[8],[(7,4)],[I 0,.bool false,.slice none 0 0,.bool false,.slice none 0 0])] (own:=[2,4,5,7])) ?_;have he:∀k,(((tt 0).2.getD k 0).toNat<=6):=fun k=>by{by_cases hk:k<(tt 0).2.length;{simp_all};grind};refine⟨fun L Q=>∃(i:J) (s:QV),i<=1/\L=I (i:Z)::qc s/\h.le Q/\NQ Q s (if i=0 then 0 else mvl f (tt 0).2 0),fun L _=>1-(iAt L 0).toNat,⟨0,U1,o,rfl,B8 _,NQ.zero⟩,?_⟩;rintro z d0 S G R d2 F N H Q ⟨i,s,hi,D,l,is⟩;simp only[aH,aK,true_and]at D;obtain⟨rfl,D⟩:=D;obtain⟨es,_⟩:=B2d (w:=s) (by grind:(.bool d0:aY) :: .slice S G R :: .bool d2 :: .slice F N H::[]= .bool s.s :: .slice s.A s.n s.c :: .bool s.s2 :: .slice s.A2 s.n2 s.c2::[]);subst es;refine B9 (fun ag=>?_) (fun af=>?_);{obtain rfl:i=0:=o;obtain⟨a,w,e,O,c0,c1,c2,c3,c4⟩:=(r.mono B08 l).rt (show 0<1 from o);refine⟨a,e,o,o,_,_,_,_,_,_,_,_,c0,c1,c2,c3,?_⟩;refine⟨fun L W=>∃(k:J) (t:QV),k<=v/\L=I (k:Z)::qc t/\Q.le W/\NQ W t (pmv f (tt 0).2 k),fun L _=>v-(iAt L 0).toNat,⟨0,w.w,o,rfl,B8 _,by have:=O.1;rw[hq]at this;exact this⟩,?_⟩;rintro z g0 y p d T B g j W ⟨k,t,hk,D,C,it⟩;simp only[aH,aK,true_and]at D;obtain⟨rfl,D⟩:=D;obtain⟨et,_⟩:=B2d (w:=t) (by grind:(.bool g0:aY) :: .slice y p d :: .bool T :: .slice B g j::[]= .bool t.s :: .slice t.A t.n t.c :: .bool t.s2 :: .slice t.A2 t.n2 t.c2::[]);subst et;have sp:=B8l (e:=(tt 0).2) hm1 hf he;refine B9 (fun ae=>?_) (fun ad=>?_);{have E:k<v:=o;have cl:=fun {x:aQ} {u:aY} (q:Q.cell? x=some u)=>C2 C q;refine⟨a,e,o,o,_,_,_,cl c4,?_⟩;refine(O.2.2.mono C).load O.2.1 o o ?_;rw[aW];have next:C4 ((k:Z)+1)=((k+1:J):Z):=by{rw[C0]<;>omega};refine B9 (fun ac=>?_) (fun hz=>?_);{obtain⟨a6,w6,e6,n6,q0,q1,q2,q3⟩:=(x.mono O6 (B6 l C)).qat E;refine⟨a6,e6,o,o,_,_,_,_,_,_,_,_,q0,q1,q2,q3,a,e,o,o,_,_,_,cl c4,?_⟩;refine(O.2.2.mono C).load O.2.1 o o ?_;rw[aW];have M:(tt 0).2.getD k 0=(((tt 0).2.getD k 0).toNat:Z):=o;rw[M];have aa:=he k;have ah:m*((tt 0).2.getD k 0).toNat<=m*6:=aZ m aa;refine B0k (w:=w6) (m:=m) n6 (hf k E) hm1 o o fun w7 h7 l7 i7=>⟨_,_,_,_,_,_,_,_,rfl,l7,?_⟩;refine Y4 (a:=⟨g0,y,p,d,T,B,g,j⟩) (b:=w7) (m:=100000) (NQ.mono l7 it) i7 ((sp k o).mono gz0) (((hf k E).pow hm1 _).mono o) o fun w8 h8 V X=>⟨_,_,_,_,_,_,_,_,rfl,V,?_⟩;rw[next];exact⟨⟨k+1,w8,o,rfl,B6 C (B6 l7 V),X⟩,by simp only[U4];omega⟩};·rw[next];have ez:((tt 0).2.getD k 0).toNat=0:=o;refine⟨⟨k+1,⟨g0,y,p,d,T,B,g,j⟩,o,rfl,C,?_⟩,by simp only[U4];omega⟩;show NQ W _ (pmv f (tt 0).2 k*f k^((tt 0).2.getD k 0).toNat);rw[ez,bM,bH];exact it};·obtain rfl:k=v:=o;have e9:=B2s f v1 v2 hl;rw[e9]at it;have s9:=sp k o;rw[e9]at s9;rw[iP rfl]at is;refine Dr (a:=⟨d0,S,G,R,d2,F,N,H⟩) (b:=⟨g0,y,p,d,T,B,g,j⟩) (m:=100000) (NQ.mono C is) it (Sz.zero o) (s9.mono gz0) o fun w8 h8 V X=>⟨_,_,_,_,_,_,_,_,rfl,?_⟩;rw[Rat.zero_add]at X;exact⟨⟨1,w8,o,rfl,B6 l (B6 C V),by assumption⟩,by show 1-(C4 (((0:J):Z)+1)).toNat<1-(((0:J):Z)).toNat;decide⟩};grind
end
section
variable {α β α2 β2:Type} [E:Enc α] [E2:Enc α2] {R:aR->α->β->Prop} {e:bF} {h0 hp:aR} {A:Option aQ} {c n:J} {f:J->β} {R2:aR->α2->β2->Prop}
def Lst.litR(m:Mon R)(m2:Mon R2){P:bJ}{t e2:bF}{z:aY}{bytes:J}(st:SliceT P t e2 z E2.default.size bytes)(l:Lst R e h0 hp A c n f){v:aY}{y:α2}(hv:v.cells=(enc y).toArray)(hsz:E2.default.size<=1000){q:β2}(hR:R2 h0 y q){K:VP}
 (x:∀b h' g,h0.le g->hp.le h'->Lst R e g h' A c n f->aS R2 g (some ⟨b,0,none⟩) 1 (fun _=>q)->K (.slice (some ⟨b,0,none⟩) 1 1) h'):wpH P (bL t 1 #[(0,v)]) K hp:=by
 obtain⟨g,o,xs,j,s,w,B,r⟩:=l;have C:(enc y).length=E2.default.size:=E2.default.len y;refine Ah st (vs:=[v]) (fun u k=>gz0) rfl gz0 rfl fun b a=>?_
 have p:g b=none:=by
  cases q:g b with
  |none=>rfl
  |some u=>rw[s.le _ _ q]at a;cases a
 have d:=Heap.le_put (.cells ([v].flatMap fun v=>v.cells.toList).toArray e2) p;refine x b _ _ (B6 j d) (Heap.le_put _ a) ⟨_,o,xs,B8 _,s.vis a _,w,B,r.mono m d⟩ ⟨[y],SlV.new _ _ _ _ _ _ (fun i u k=>gz0),rfl,fun i D=>⟨y,?_,m2 _ _ _ _ (B6 j d) hR⟩⟩;grind
end
def ofS(w:J->Y)(X:J->J->Y)(e:cX Z)(k:J):Y:=sm k fun l=>w l*mvl (X l) e 0
def B7f:∀v:Fin 3,∀D:Fin 7,1<=v.val->∀i:Fin 28,i.val<(mo v D).length->(mon v D i).all (fun z=>decide (0<=z/\z<=6))=true:=by decide +kernel
section
variable {h:aR} {K:VP} {A B XA WA:Option aQ} {c cc n m v D:J} {w f:J->Y} {X:J->J->Y}
def C8x(h1:1<=v)(h2:v<=2)(hD:D<=6){i:J}(hi:i<(mo v D).length):∀z∈mon v D i,0<=z/\z<=6:=by have a:=(Bl h1 h2 hD).len;have:=B7f ⟨v,o⟩ ⟨D,o⟩ h1 ⟨i,o⟩ hi;grind
def C4u{e:cX Z}(hl:e.length=v)(h1:1<=v)(h2:v<=2)(he:∀z∈e,0<=z/\z<=6)(hX:∀l j,l<n->j<v->Sz 2 (X l j))(hw:∀l,l<n->Sz 30 (w l)):(∀l,l<n->Sz 30 (mvl (X l) e 0))/\∀k,k<=n->Sz (1+k*(2*30+1)) (ofS w X e k):=by have c:∀l,l<n->Sz 30 (mvl (X l) e 0):=fun l b=>by{rw[<- B2s (X l) h1 h2 hl];refine(B8l (m:=2) (v:=v) o (fun k a=>hX l k b a) (fun k=>?_) v (aF _)).mono ?_;{by_cases a:k<e.length;{simp_all};grind};omega};exact⟨c,fun k a=>B9w (w:=n) hw c k a⟩
def A9u(xs:RowsV h XA n v X)(ws:aS NQr h WA n w)(n1:1<=n)(n3:n<=3)(v1:1<=v)(v2:v<=2)(hD:D<=6)(hX:∀l j,l<n->j<v->Sz 2 (X l j))(hw:∀l,l<n->Sz 30 (w l)) (hK:∀A' c' h',Lst NQr 48 h h' A' c' (mo v D).length (fun i=>ofS w X (mon v D i) n)->K (.agg #[I (v:Z),I (D:Z),.slice A' (mo v D).length c']) h'):aN prog 10 #[.slice XA n c,.slice WA n cc,I (D:Z)] h K:=by refine(fnk func10 [(3,[24],[(7,3)],[I 0,I 0,I 0,.slice none 0 0]),(8,[37],[(10,4)],[I 0,.bool false,.slice none 0 0,.bool false,.slice none 0 0])] (os:=[(6,[0,1,3,7,2,4,5,6,8])]) (own:=[6,7,10,11])) ?_;obtain⟨a0,s0,e0,q1,_,q3,_⟩:=xs.at (i:=0) o;rw[q1]at q3;refine⟨a0,e0,o,o,_,_,_,q3,?_⟩;have ay:=(Bl v1 v2 hD).len;refine B04 (n:=v) (d:=D) o o fun A1 c1 h1 l1 s1=>⟨_,_,_,rfl,?_⟩;change MoSl h1 A1 (mo v D)at s1;change ∃Inv mu,_;refine⟨fun L hp=>∃(i:J) (A':Option aQ) (c':J),i<=(mo v D).length/\L=[I (i:Z),I (v:Z),I (D:Z),.slice A' i c']/\Lst NQr 48 h1 hp A' c' i (fun i=>ofS w X (mon v D i) n),fun L _=>(mo v D).length-(iAt L 0).toNat,⟨0,_,_,o,rfl,Lst.nil⟩,?_⟩;rintro z p0 p1 pA i pc hp ⟨i0,A',c',hi,O,L⟩;simp only[aH,aK,aM,true_and,and_true]at O;obtain⟨rfl,rfl,rfl,rfl,rfl,rfl⟩:=O;refine B9 (fun au=>?_) (fun az=>?_);{have N:i<(mo v D).length:=by{have:((mo v D).length:Z)=((Zf v (D+1)).length:Z):=rfl;omega};obtain⟨a,B1,bc,e,c0,s2⟩:=s1.mon N;refine⟨a,e,o,o,_,_,_,by rw[aW];exact C2 L.le c0,?_⟩;have hl:(mon v D i).length=v:=(C19 v1 v2 hD N).1;have he:=C8x v1 v2 hD N;obtain⟨W,am⟩:=C4u (w:=w) hl v1 v2 he hX hw;have aw:=B6 l1 L.le;refine L.call O6 fun g lg=>Ei o fun w0 h3 l3 i3=>⟨l3,fun h4 l4 L4=>⟨_,_,_,_,_,_,_,_,rfl,l4,?_⟩⟩;have b3:=B6 lg l3;refine L4.litR O6 (R2:=RTr) B08 C89 (y:=(⟨w0,B1,(mon v D i).length,bc⟩:TRm)) (q:=(E7 1,mon v D i)) (by rfl) dc ⟨by show NQ h3 w0 (rv (E7 1));rw[F3];exact i3,rfl,s2.mono b3⟩ fun b h5 g5 ae l5 L5 T=>⟨_,_,_,rfl,l5,?_⟩;refine L5.call O6 fun g6 S=>A6d (T.mono B08 S) (by show rv (E7 1)≠0;rw[F3];decide) (aF _) fun A7 c7 h7 l7 V=>⟨l7,fun h8 l8 L8=>⟨_,_,_,_,rfl,l8,?_⟩⟩;have b7:=B6 b3 (B6 ae (B6 S l7));refine⟨fun L hx=>∃(l:J) (s:QV) (g:aR),l<=n/\L=I (l:Z)::qc s/\h7.le g/\Lst NQr 48 g hx pA pc i (fun i=>ofS w X (mon v D i) n)/\NQ g s (ofS w X (mon v D i) l),fun L _=>n-(iAt L 0).toNat,⟨0,U1,h7,o,rfl,B8 _,L8,NQ.zero⟩,?_⟩;rintro z d0 H E B d2 C M F hx ⟨l,s,gx,ag,O,t,Lx,is⟩;simp only[aH,aK,true_and]at O;obtain⟨rfl,O⟩:=O;obtain⟨es,_⟩:=B2d (w:=s) (by grind:(.bool d0:aY) :: .slice H E B :: .bool d2 :: .slice C M F::[]= .bool s.s :: .slice s.A s.n s.c :: .bool s.s2 :: .slice s.A2 s.n2 s.c2::[]);subst es;have bx:=B6 l1 (B6 b7 t);refine B9 (fun ao=>?_) (fun an=>?_);{have f:l<n:=o;have p:=fun {x:aQ} {u:aY} (q:h.cell? x=some u)=>C2 (B6 bx Lx.le) q;obtain⟨a5,w5,e5,n5,c0,c1,c2,c3⟩:=ws.qat f;obtain⟨a6,s6,e6,t1,t2,t3,t4⟩:=xs.at f;rw[t1]at t3;refine⟨a5,e5,o,o,_,_,_,_,_,_,_,_,p c0,p c1,p c2,p c3,a6,e6,o,o,_,_,_,p t3,?_⟩;refine Lx.call O6 fun g9 G=>A9r (m:=2) (V.mono B08 (B6 t G)) (F3 1) v1 v2 hl he (t4.mono O6 (B6 bx G)) o o (fun j hj=>hX l j f hj) fun w9 h9 l9 i9=>⟨l9,fun av ad L10=>⟨_,_,_,_,_,_,_,_,rfl,ad,?_⟩⟩;have b9:=B6 G l9;refine L10.call O6 fun aq k=>Y4 (a:=w5) (b:=w9) (m:=30) (NQ.mono (B6 bx (B6 b9 k)) n5) (NQ.mono k i9) (hw l f) (W l f) o fun ai a1 aa ah=>⟨aa,fun ax al L12=>⟨_,_,_,_,_,_,_,_,rfl,al,?_⟩⟩;have Q:=B6 b9 (B6 k aa);have kb:l*(2*30+1)<=3*61:=aI _ o;refine L12.call O6 fun a3 r=>Dr (a:=⟨d0,H,E,B,d2,C,M,F⟩) (b:=ai) (m:=1000) (NQ.mono (B6 Q r) is) (NQ.mono r ah) ((am l ag).mono o) (((hw l f).mul (W l f)).mono o) o fun ak ac R aj=>⟨R,fun ap af L14=>⟨_,_,_,_,_,_,_,_,rfl,af,?_⟩⟩;rw[wiS l o];exact⟨⟨l+1,ak,ac,o,rfl,B6 t (B6 Q (B6 r R)),L14,aj⟩,by simp only[U4];omega⟩};·obtain rfl:l=n:=o;refine Lx.push O6 Tg rfl (y:=(⟨d0,H,E,B,d2,C,M,F⟩:QV)) (by rfl) is dc o fun A15 a2 ar L15=>?_;rw[wiS i o];exact⟨⟨i+1,_,_,o,rfl,L15.weak (B6 b7 t)⟩,by simp only[U4];omega⟩};·obtain rfl:i=(mo v D).length:=by{have:((mo v D).length:Z)=((Zf v (D+1)).length:Z):=rfl;omega};exact hK _ _ _ (L.weak l1)
def B26(xs:RowsV h XA n v X)(ws:aS NQr h WA n w)(n1:1<=n)(n3:n<=3)(v1:1<=v)(v2:v<=2)(hD:D<=6)(hX:∀l j,l<n->j<v->Sz 2 (X l j))(hw:∀l,l<n->Sz 30 (w l)) (hK:∀A' c' h',h.le h'->aS NQr h' A' (mo v D).length (fun i=>ofS w X (mon v D i) n)->K (.agg #[I (v:Z),I (D:Z),.slice A' (mo v D).length c']) h'):aN prog 10 #[.slice XA n c,.slice WA n cc,I (D:Z)] h K:=A9u xs ws n1 n3 v1 v2 hD hX hw fun _ _ _ L=>hK _ _ _ L.le (L.row O6)
end
def A8n(f:J->Y)(t:Y)(i k:J):sm (k+1) (fun j=>t^j*f (i+j))=sm k (fun j=>t^j*f (i+1+j))*t+f i:=by rw[Nat.add_comm k 1,C32];have e:sm 1 (fun j=>t^j*f (i+j))=f i:=by{simp[sm];grind};rw[e,<- Ux,Rat.add_comm];refine congrArg (· + f i) (E8 fun j _=>?_);rw[A6m,show i+(1+j)=i+1+j from o];have:t^1=t:=by{rw[Rat.pow_one]};rw[this];grind
section
variable {h:aR} {K:VP} {A:Option aQ} {c n m:J} {f:J->Y}
def A3l{v D:Z}(r:aS NQr h A n f)(hn:n<=1000000)(hs:∀i,i<n->Sz m (f i))(hm:m<=1000000)(hK:∀A' c' h',h.le h'->aS SSr h' A' n (fun i=>E7 (f i))->K (.agg #[I v,I D,.slice A' n c']) h'):aN prog 13 #[.agg #[I v,I D,.slice A n c]] h K:=by refine(fnk func13 (own:=[1,2])) ?_;exact Yv r hn hs oo fun b a o=>⟨_,_,_,rfl,o.le,hK _ _ _ o.le (o.vis F1)⟩
def B24{w:QV}{t:Y}(x:aS NQr h A n f)(it:NQ h w t)(hn:n<=6)(hs:∀i,i<n->Sz m (f i))(ht:Sz m t)(hm:m<=10000000)(hK:∀u h',h.le h'->NQ h' u (pvl f n t)->K u.v h'):aN prog 225 #[.slice A n c,w.v] h K:=by
 refine(fnk func225 [(3,[6],[(5,4)],[I 0,.bool false,.slice none 0 0,.bool false,.slice none 0 0])] (os:=[(5,[0,1,3,4,5,6,2,7,8])]) (own:=[3,4,5])) ?_
 have G:∀k i,i+k<=n->Sz (1+k*(2*m+1)) (sm k fun j=>t^j*f (i+j)):=by
  intro k
  induction k with
  |zero=>intro i _;exact Sz.zero o
  |succ k ih=>
   intro i hi;rw[A8n];exact(((ih (i+1) o).mul ht).add (hs i o)).mono (by rw[Nat.add_mul,Nat.one_mul];omega)
 refine⟨fun L C=>∃(k:J) (s:QV),k<=n/\L=I ((k:Z)-1)::qc s/\h.le C/\NQ C s (sm (n-k) fun j=>t^j*f (k+j)),fun L _=>(iAt L 0+1).toNat,⟨n,U1,o,by rw[show C4 ((n:Z)-1)=(n:Z)-1 by rw[C0]<;>omega];rfl,B8 _,by rw[cR];exact NQ.zero⟩,?_⟩;rintro z E y g r D d q p C ⟨k,s,hk,B,l,is⟩;simp only[aH,aK,true_and]at B;obtain⟨rfl,B⟩:=B;obtain⟨X,_⟩:=B2d (w:=s) (by simpa only[aH,bK,aM,and_true]using B:(.bool E:aY) :: .slice y g r :: .bool D :: .slice d q p::[]= .bool s.s :: .slice s.A s.n s.c :: .bool s.s2 :: .slice s.A2 s.n2 s.c2::[]);subst X;refine B9 (fun O=>?_) (fun R=>?_)
 ·obtain⟨k,rfl⟩:∃k',k=k'+1:=⟨k-1,o⟩;rw[show((k+1:J):Z)-1=(k:Z)from o];obtain⟨W,w5,Q,S,c0,c1,c2,c3⟩:=(x.mono O6 l).qat (show k<n from o);refine⟨W,Q,o,o,_,_,_,_,_,_,_,_,c0,c1,c2,c3,?_⟩;have kb:(n-(k+1))*(2*m+1)<=6*(2*m+1):=aI _ o;have H:=(G (n-(k+1)) (k+1) o).mono (show _<=130000000 from o);refine Y4 (a:=⟨E,y,g,r,D,d,q,p⟩) (b:=w) (m:=130000000) is (NQ.mono l it) H (ht.mono o) o fun T h7 F V=>⟨_,_,_,_,_,_,_,_,rfl,F,?_⟩;refine Dr (a:=T) (b:=w5) (m:=250000000) V (NQ.mono F S) ((H.mul ht).mono o) ((hs k o).mono o) o fun w8 h8 N M=>⟨_,_,_,_,_,_,_,_,rfl,N,?_⟩;rw[<- A8n,show n-(k+1)+1=n-k from o]at M;rw[show C4 ((k:Z)-1)=(k:Z)-1 by rw[C0]<;>omega];exact⟨⟨k,w8,o,rfl,B6 l (B6 F N),M⟩,by simp only[U4];omega⟩
 ·obtain rfl:k=0:=o;refine hK ⟨E,y,g,r,D,d,q,p⟩ C l ?_;have e:(fun j=>t^j*f (0+j))=fun j=>t^j*f j:=funext fun j=>by rw[cD]
  rw[Nat.sub_zero,e]at is;exact is
end
section
variable {α:Type} [E:Enc α]
def C7z{P:bJ}{t e ty:bF}{z:aY}{bytes n c d b:J}(s:SliceT P t e z E.default.size bytes){h:aR}{zs:cX α}{K:VP}(x:K (I 0) (A59 e h b zs)):wpH P (Builtin.copy_ #[t,t] ty #[.slice (some ⟨b,0,none⟩) n c,.slice none 0 d]) K (A59 e h b zs):=by obtain⟨i,j,k,a,f⟩:=s.parts;unfold Builtin.copy_;simp only[List.getElem?_toArray,aV,bC,C8,F2 s.und,K4 j,I5,Builtin.lenOf,a];refine N6 (s:=E.default.size) (cs:=[]) (by simp) SlV.nil ?_;refine H8 [] 0 0 (zs.flatMap enc) (by simp) (fun v g=>by cases g) ?_;assumption
end
section
variable {α β α2 β2:Type} [E:Enc α] [E2:Enc α2] {R:aR->α->β->Prop} {e e2:bF} {h0 hp:aR} {A:Option aQ} {c n:J} {f:J->β} {R2:aR->α2->β2->Prop}
def Lst.make(m2:Mon R2){P:bJ}{t:bF}{z:aY}{bytes:J}(st:SliceT P t e2 z E2.default.size bytes)(l:Lst R e h0 hp A c n f){zx:α2}(hz:z.cells=(enc zx).toArray){z0:β2}(hR:R2 h0 zx z0){k:J}(hb:bytes<=1000)(hk:k<=1000000){K:VP} (x:∀b h',cV R e R2 e2 h0 h' A c n f (some ⟨b,0,none⟩) k k (fun _=>z0)->K (.slice (some ⟨b,0,none⟩) k k) h'):wpH P (Instr.makeSlice t (I (k:Z)) (I (k:Z))) K hp:=by obtain⟨g,o,xs,j,s,w,m,r⟩:=l;have q:=bU hk hb;refine G7 st hz oo oo oo oo ?_;intro b hb;refine x b _ ⟨g,_,xs,aJ k zx,j,s.new hb _,w.keep fun a u q d=>?_,by have:=Sb (o:=o) (b:=b) (e:=e2) (xs:=aJ k zx);grind,fun a q p=>?_,m,by simp,r,fun i y=>⟨zx,gz0,m2 _ _ _ _ j hR⟩⟩;{have:a≠b:=fun q=>by{subst q;rw[s.own _ _ d]at hb;cases hb};rw[C1 _ _ this];exact d};·have:b=a:=gz0;subst this;exact w.ne_fresh s hb q
def Lst.setR(m:Mon R){P:bJ}{t:bF}(one:P.cellsOf t=E.default.size/\(P.info? t).isSome=true)(l:Lst R e h0 hp A c n f){b k:J}(hA:A=some ⟨b,0,none⟩)(hk:k<n){v:aY}{y:α}(hv:v.cells=(enc y).toArray){z:β}(hR:R h0 y z){K:Unit->aR->Prop} (x:∀h',Lst R e h0 h' A c n (fun i=>if i=k then z else f i)->K () h'):wpH P (Instr.storeAt t (.pointer (some (aP ⟨b,0,none⟩ (k*E.default.size)))) v) K hp:=by obtain⟨g,o,xs,a,s,w,u,r⟩:=l;refine OwnSl.store one hv s w oo hA fun h' p d j q=>x h' ⟨g,p,_,a,d,j,gz0,r.upd oo (m _ _ _ _ a hR)⟩
def C2d{b:J}(hb:h0 b=none){zx:α}{z0:β}(hR:R h0 zx z0):Lst R e h0 (A59 e h0 b (aJ n zx)) (some ⟨b,0,none⟩) n n (fun _=>z0):=⟨h0,_,aJ n zx,B8 _,S3 hb,by have:=Sb (o:=Ag) (b:=b) (e:=e) (xs:=aJ n zx);grind,by simp,fun i a=>⟨zx,gz0,hR⟩⟩
end
section
variable {h:aR} {K:VP} {A B:Option aQ} {n c m:J} {f:J->Y}
def C7g{k:J}(rs:aS NQr h A n f)(hn:n<=1000000)(hc:n<=c)(hk:k<=n)(hK:∀A' c' h',h.le h'->k<=c'->aS NQr h' A' k f->K (.slice A' k c') h'):wpH prog (bL 28 0 #[]) (fun v hp=>∃(t19A:Option aQ) (t19n:J) (t19c:J),v= .slice t19A t19n t19c/\(0<=(k:Z)/\(k:Z)<=((c:J):Z))/\wpH prog (cM #[28,28] 28 #[.slice t19A t19n t19c,.slice (X9 A c 0 4) ((((k:Z)).toNat)-0) (c-0)]) (fun v1 hp3=>∃(t23A:Option aQ) (t23n:J) (t23c:J),v1= .slice t23A t23n t23c/\K (.slice t23A t23n t23c) hp3) hp) h:=by obtain⟨xs,j,a,g⟩:=(rs.cut (c:=c) (l:=0) (k:=k) o hc).congr (f':=f) fun i _=>by{rw[cD]};refine Fd Tg fun m b=>⟨_,_,_,rfl,⟨o,o⟩,?_⟩;have d:=Heap.le_put (h:=h) (.cells #[] 48) b;refine R9 Tg (PrivF.nil _ 48 (some ⟨m,0,none⟩)) (ys:=xs) a.symm (j.mono d) gz0 gz0 ?_;intro A' c' h' r e p;rw[List.nil_append]at p ⊢;have q:=p.2.1;rw[a]at q ⊢;have l:=B6 (B6 d e) p.le;exact⟨_,_,_,rfl,hK A' c' h' l q ⟨xs,p.sl,a,g.mono O6 l⟩⟩
def Ds(rs:aS NQr h A n f)(hn:n<=1000)(hc:n<=c)(hK:∀A' c' h',h.le h'->trN f n<=c'->aS NQr h' A' (trN f n) f->K (.slice A' (trN f n) c') h'):aN prog 49 #[.slice A n c] h K:=by refine(fnk func49 [(2,[3],[],[I 0])]) ?_;refine⟨fun L d=>∃k:J,k<=n/\L=[I (k:Z)]/\d=h/\trN f k=trN f n,fun L _=>(iAt L 0).toNat,⟨n,o,rfl,rfl,rfl⟩,?_⟩;rintro z d ⟨k,l,s,rfl,r⟩;obtain rfl:z=(k:Z):=gz0;have fin:trN f k=k->_:=fun g=>C7g (K:=K) rs o hc l gz0;refine B9 (fun p=>?_) (fun j=>?_);{have g:C4 ((k:Z)-1)=((k-1:J):Z):=by{rw[C0]<;>omega};rw[g];obtain⟨a,w,e,m,c0,c1,c2,c3⟩:=rs.qat (i:=k-1) o;refine⟨a,e,o,o,_,_,_,_,_,_,_,_,c0,c1,c2,c3,?_⟩;refine V9 m ?_;obtain⟨q,rfl⟩:∃q,k=q+1:=⟨k-1,o⟩;refine⟨_,rfl,D4 (fun b=>?_) (fun b=>fin ?_)⟩;{have:f q=0:=Rat.num_eq_zero.1 (Int.sign_eq_zero_iff_zero.1 b);refine⟨⟨q,o,rfl,rfl,?_⟩,by simp only[U4];omega⟩;rw[<- r];show _=if f q=0 then trN f q else q+1;grind};·have:f q≠0:=fun q=>b (by simp_all);show(if f q=0 then trN f q else q+1)=_;grind};·obtain rfl:k=0:=o;exact fin rfl
def Vo{w:QV}{t:Y}(r:aS NQr h B n f)(it:NQ h w t)(hn:n<=1000)(hs:∀i,i<n->Sz m (f i))(ht:Sz m t)(hm1:1<=m)(hm:m<=100000000) (hK:∀A' c' h',h.le h'->trN (fun i=>t*f i) n<=c'->aS NQr h' A' (trN (fun i=>t*f i) n) (fun i=>t*f i)->K (.slice A' (trN (fun i=>t*f i) n) c') h'):aN prog 108 #[.slice none 0 0,w.v,.slice B n c] h K:=by refine(fnk func108 [(4,[8],[],[I 0])] (own:=[4])) ?_;rw[show(if(n:Z)>((0:J):Z)then(n:Z)else((0:J):Z))=(n:Z)from o];refine G7 Tg (zx:=U1) rfl o o o o ?_;intro b V;refine⟨_,_,_,rfl,C7z Tg ⟨_,rfl,?_⟩⟩;refine⟨fun L F=>∃k:J,k<=n/\L=[I k]/\Lst NQr 48 h F (some ⟨b,0,none⟩) n n (fun i=>if i<k then t*f i else 0),fun L _=>n-(iAt L 0).toNat,⟨0,o,rfl,C2d V NQ.zero⟩,?_⟩;rintro z F ⟨k,hk,eL,L⟩;obtain rfl:z=(k:Z):=gz0;refine B9 (fun R=>?_) (fun M=>?_);{have d:k<n:=o;obtain⟨g,u,L1,q⟩:=L.base dc;obtain⟨a,w0,ea,C,l⟩:=q k d;obtain⟨a2,w2,X,E,d0,W,O,Q⟩:=r.qat d;have p:=L.le;refine⟨a,ea,o,o,_,_,_,_,_,_,_,_,l 0 _ rfl,l 1 _ rfl,l 2 _ rfl,l 3 _ rfl,a2,X,o,o,_,_,_,_,_,_,_,_,C2 p d0,C2 p W,C2 p O,C2 p Q,?_⟩;refine L1.call O6 fun g1 e=>Y4 (a:=w) (b:=w2) (NQ.mono (B6 u e) it) (NQ.mono (B6 u e) E) ht (hs k d) o fun T g2 D i3=>⟨D,fun h2 A L2=>⟨_,_,_,_,_,_,_,_,rfl,A,?_⟩⟩;refine L2.call O6 fun g3 j=>Dr (a:=w0) (b:=T) (m:=m+m) (NQ.mono (B6 e (B6 D j)) C) (NQ.mono j i3) (by rw[iN o];exact Sz.zero o) (ht.mul (hs k d)) o fun N g4 G i4=>⟨G,fun h4 s L4=>⟨_,_,_,_,_,_,_,_,rfl,s,_,rfl,o,o,?_⟩⟩;refine L4.setR O6 Kl rfl d (y:=N) rfl i4 fun h5 L5=>?_;rw[wiS k o];refine⟨⟨k+1,o,rfl,(L5.weak (B6 u (B6 e (B6 D (B6 j G))))).congr fun i H=>?_⟩,by simp only[U4];omega⟩;grind};·obtain rfl:k=n:=o;refine Ds ((L.row O6).congr fun i H=>iP H) o (aF _) fun A' c' h' l' l S=>⟨_,_,_,rfl,hK A' c' h' (B6 L.le l') l S⟩
end
def B1p{c:Z}(hc:c≠0):∀w:cX Z,trZ (w++[c])=w++[c]:=by
 intro w
 induction w with
 |nil=>simp[trZ,hc]
 |cons d w ih=>simp only[List.cons_append,trZ,ih];simp
def B99(w:cX Z)(i:J):cf (trZ w) i=cf w i:=Zh (fun x=>Cj w x) i
def B4b{z D:Z}(h:D≠0):aC z D=0↔z=0:=⟨fun e=>by by_cases a:z=0;{exact a};·exact absurd e (Rs a h),fun e=>by simp_all⟩
def B9k{z:J->Z}{D:Z}{f:J->Y}(hD:D≠0):∀n,(∀i,i<n->f i=aC (z i) D)->trN f n=(trZ ((aE n).map z)).length:=by
 intro n
 induction n with
 |zero=>intro _;rfl
 |succ n ih=>
  intro h;have e:=h n o;rw[List.range_succ,List.map_append,List.map_singleton];show(if f n=0 then trN f n else n+1)=_;by_cases c:z n=0
  ·rw[iP (by simp_all),c,A7w];grind
  ·rw[iN (fun q=>c ((B4b hD).1 (e▸q))),B1p c];simp
def A0v{w:cX Z}{n:J}{k:Z}(h:n=w.length):(aE n).map (fun i=>k*cf w i)=J8 k w:=by subst h;apply List.ext_getElem (by simp[J8]);intro i a b;have:i<w.length:=gz0;simp[J8,cf,aO,aT this]
structure QLv (m:J) (h:aR) (A:Option aQ) (n:J) (w:cX Z) (D:Z):Prop where
 len:n=w.length
 nz:Nz w
 pos:0<D
 bw:WB m w
 bD:ZB m D
 row:aS NQr h A n (fun i=>aC (cf w i) D)
section
variable {h h':aR} {K:VP} {A B:Option aQ} {n c m k:J} {w:cX Z} {D:Z} {f:J->Y} {z:J->Z}
def QLv.mono(q:QLv m h A n w D)(l:h.le h'):QLv m h' A n w D:=⟨q.len,q.nz,q.pos,q.bw,q.bD,q.row.mono O6 l⟩
def QLv.sz(q:QLv m h A n w D)(i:J):Sz m (aC (cf w i) D):=N4 (by have:=q.pos;omega) (q.bw i) q.bD
def QLv.up(q:QLv m h A n w D)(l:m<=k):QLv k h A n w D:=⟨q.len,q.nz,q.pos,q.bw.mono l,q.bD.mono l,q.row⟩
def QLv.of(hD:0<D)(hf:∀i,i<n->f i=aC (z i) D)(hz:∀i,i<n->ZB m (z i))(bD:ZB m D)(r:aS NQr h A (trN f n) f):QLv m h A (trN f n) (trZ ((aE n).map z)) D:=by have e:=B9k o n hf;refine⟨e,Hs _,hD,(WB.row hz).trZ,bD,r.congr fun i a=>?_⟩;have:=C2v f n;rw[B99,Zw _ o];grind
def Jc(q:QLv m h A n w D)(hn:n<=100)(hm1:1<=m)(hm:m<=50000000) (hK:∀σ D' A' c' h',h.le h'->(σ=1\/σ= -1)->n<=c'->QLv m h' A' n (J8 σ w) D'->(w≠[]->D'=lc (J8 σ w))->K (.slice A' n c') h'):aN prog 48 #[.slice A n c] h K:=by refine(fnk func48 (os:=[(3,[1,2,3,4,5,6,8,0,7,9,10])])) ?_;have k:=q.len;refine D4 (fun e=>?_) (fun e=>?_);{obtain rfl:n=0:=o;obtain rfl:w=[]:=aU k.symm;exact hK 1 1 none 0 h (B8 _) (.inl rfl) (aF _) ⟨rfl,fun z=>absurd rfl z,dc,fun i=>zb0,ZB.one hm1,RowV.nil⟩ (fun z=>absurd rfl z)};have H:w≠[]:=gz0;have p:=Wj q.nz H;have T:=q.pos;obtain⟨a,B,O,i1,c0,c1,c2,c3⟩:=q.row.qat (i:=n-1) o;have r:=q.sz (n-1);rw[show C4 ((n:Z)-1)=((n-1:J):Z) by rw[C0]<;>omega];refine⟨a,O,o,o,_,_,_,_,_,_,_,_,c0,c1,c2,c3,?_⟩;refine Ei o fun R S f E=>⟨_,_,_,_,_,_,_,_,rfl,f,?_⟩;have one:Sz 1 (1:Y):=⟨ZB.one (aF 1),ZB.one (aF 1)⟩;refine Ol (a:=R) (b:=B) (m:=m) E (NQ.mono f i1) (one.mono hm1) r o fun C W l y=>⟨_,_,_,_,_,_,_,_,rfl,l,?_⟩;have s:cf w (n-1)=lc w:=by{rw[k];rfl};rw[s]at y r;have key:∀i,1/aC (lc w) D*aC (cf w i) D=aC (cf w i) (lc w):=fun i=>by{have a:=N7 (z:=lc w) (D:=D) o;have b:=N7 (z:=cf w i) (D:=D) o;have c:=N7 (z:=cf w i) p;have V:=F5 (N:=D) o;have g0:=Rs p (D:=D) o;grind};refine Vo (w:=C) (t:=1/aC (lc w) D) (m:=m+m) (q.row.mono O6 (B6 f l)) y o (fun i _=>(q.sz i).mono o) ((one.mono hm1).div r hm1) o o fun A' c' G u d F=>⟨_,_,_,rfl,u,?_⟩;obtain⟨σ,hσ,hp⟩:∃σ:Z,(σ=1\/σ= -1)/\0<σ*lc w:=by{rcases bZ p with g|g;{simp_all};simp_all};have zb:∀x,ZB m x->ZB m (σ*x):=fun x M=>by{rcases hσ with rfl|rfl;{grind};·rw[show -1*x= -x from o];exact M.neg};have row:(aE n).map (fun i=>σ*cf w i)=J8 σ w:=A0v k;have j:Nz (J8 σ w):=q.nz.scl o;have Q:=QLv.of (z:=fun i=>σ*cf w i) hp (fun i _=>by rw[key,<- Rat.divInt_mul_left (a:=σ) o]) (fun i _=>zb _ (q.bw i)) (zb _ (q.bw (w.length-1))) F;rw[row,Sm j]at Q;have L:trN (fun i=>1/aC (lc w) D*aC (cf w i) D) n=n:=by{rw[Q.len];grind};rw[L]at Q d ⊢;exact hK σ _ A' c' G (B6 f (B6 l u)) hσ d Q (fun _=>by unfold lc;grind)
def Fa(q:QLv m h A n w D)(hn:n<=100)(hm1:10<=m)(hm:m<=50000000) (hK:∀A' c' h',h.le h'->n-1<=c'->QLv (m+10) h' A' (n-1) (dl w) D->K (.slice A' (n-1) c') h'):aN prog 18 #[.slice A n c] h K:=by refine(fnk func18 [(3,[3,4],[],[.slice none 0 0,I 0])] (wr:=[1000000000])) ?_;have el:=q.len;have O:=q.pos;have val:∀i,aC (cf w (i+1)) D*(((i+1:J):Z):Y)=aC (cf (dl w) i) D:=fun i=>by{have a:=N7 (z:=cf w (i+1)) (D:=D) o;have b:=N7 (z:=cf (dl w) i) (D:=D) o;have T:=F5 (N:=D) o;rw[B7t,bO,<- a,show(((1+i:J):Z):Y)=(((i+1:J):Z):Y) by rw[Nat.add_comm]]at b;have:=congrArg (fun q=>q*(D:Y)⁻¹) b;simp only[bX,Rat.mul_inv_cancel _ T,bH]at this;rw[B7t,this];grind};refine⟨fun L s=>∃(k:J) (A':Option aQ) (c':J),k<=n-1/\L=[.slice A' k c',I ((k+1:J):Z)]/\Lst NQr 48 h s A' c' k (fun i=>aC (cf (dl w) i) D),fun L _=>n-(iAt L 1).toNat,⟨0,_,_,o,rfl,Lst.nil⟩,?_⟩;rintro oA on oc z s ⟨k,A',c',hk,S,L⟩;obtain⟨⟨rfl,rfl,rfl⟩,rfl⟩:=S;refine B9 (fun F=>?_) (fun C=>?_);{have j:on+1<n:=o;obtain⟨a,E,W,i1,c0,c1,c2,c3⟩:=q.row.qat j;have g:=L.le;refine⟨a,W,o,o,_,_,_,_,_,_,_,_,C2 g c0,C2 g c1,C2 g c2,C2 g c3,?_⟩;refine L.call O6 fun g1 e=>Ei o fun w2 g2 r M=>⟨r,fun h2 p L2=>⟨_,_,_,_,_,_,_,_,rfl,p,?_⟩⟩;have R:Sz 10 (((on+1:J):Z):Y):=by{have:=Uq (k:=on+1) o;omega};refine L2.call O6 fun g3 d=>Y4 (a:=E) (b:=w2) (m:=m) (NQ.mono (B6 e (B6 r d)) i1) (NQ.mono d M) (q.sz _) (R.mono hm1) o fun H g4 t u=>⟨t,fun h4 l L4=>⟨_,_,_,_,_,_,_,_,rfl,l,?_⟩⟩;rw[val]at u;refine Lst.pushG O6 Tg L4 rfl (y:=H) rfl u dc o fun A5 c5 h5 L5=>?_;rw[show C4 (((on+1:J):Z)+1)=((on+1+1:J):Z) by rw[C0]<;>omega];refine⟨⟨on+1,_,_,o,rfl,L5.weak (B6 e (B6 r (B6 d t)))⟩,?_⟩;show n-((on+1+1:J):Z).toNat<n-((on+1:J):Z).toNat;omega};·obtain rfl:on=n-1:=o;have row:=(L.row O6);refine Ds row o L.cap fun A' c' h' X B G=>⟨_,_,_,rfl,?_⟩;have Q:=QLv.of (m:=m+10) (z:=cf (dl w)) O (fun i _=>rfl) (fun i _=>q.bw.dl o i) (q.bD.mono o) G;have f:(aE (n-1)).map (cf (dl w))=dl w:=by{have:=A0v (k:=1) (w:=dl w) (n:=n-1) (by rw[Jp];omega);simp only[Int.one_mul]at this;rw[show J8 1 (dl w)=dl w by simp[J8]]at this;exact this};rw[f,Sm (A45 q.nz)]at Q;have V:trN (fun i=>aC (cf (dl w) i) D) (n-1)=n-1:=by{rw[Q.len,Jp];omega};rw[V]at Q B ⊢;exact hK _ _ _ (B6 L.le X) B Q
end
def Wy{x:Y}{a b:Z}(hb:b≠0)(h:x*(b:Y)=(a:Y)):x=aC a b:=by have e:=N7 (z:=a) hb;have b0:=F5 hb;grind
section
variable {D E m lead top a b:Z}
def B97(hD:D≠0)(hE:E≠0)(hm:m≠0)(hl:lead≠0):aC top (D*m)/aC lead E=aC (top*E) (D*(m*lead)):=by have a:D*m≠0:=aL hD hm;refine Wy (aL hD (aL hm hl)) ?_;have c:=N7 (z:=top) a;have b:=N7 (z:=lead) hE;have g0:=Rs hl hE;grind
def C5h(hD:D≠0)(hE:E≠0)(hm:m≠0)(hl:lead≠0):aC a (D*m)-aC (top*E) (D*(m*lead))*aC b E=aC (a*lead-top*b) (D*(m*lead)):=by have d:D*m≠0:=aL hD hm;have c:=aL hD (aL hm hl);refine Wy c ?_;have e:=N7 (z:=a) d;have g:=N7 (z:=b) hE;have f:=N7 (z:=top*E) c;grind
def A8z(hD:D≠0)(hm:m≠0)(hl:lead≠0):aC a (D*m)=aC (a*lead) (D*(m*lead)):=by refine Wy (aL hD (aL hm hl)) ?_;have b:=N7 (z:=a) (aL hD hm);grind
end
section
variable {h h':aR} {K:VP} {A B:Option aQ} {n c d mw mv k:J} {w v:cX Z} {D E:Z}
def He(qa:QLv mw h A n w D)(qb:QLv mv h B k v E)(hn:n<=100)(hk1:1<=k)(hk:k<=100)(hm1:1<=mw)(hT:mw+(n+1)*(mv+1)<=20000000) (hK:∀(Q R:cX Z) (M:Z) A1 c1 A2 c2 h',h.le h'->0<M->(∀x,(M:Y)*pe w x=pe Q x*pe v x+pe R x)->R.length<v.length->Nz Q->QLv (mw+(n+1-k)*(mv+1)+mv) h' A1 Q.length (J8 E Q) (D*M)->Q.length<=c1->QLv (mw+(n+1-k)*(mv+1)) h' A2 R.length R (D*M)->R.length<=c2->K (.tuple #[.slice A1 Q.length c1,.slice A2 R.length c2]) h'): aN prog 47 #[.slice A n c,.slice B k d] h K:=by refine(fnk func47 [(7,[9],[],[I 0]),(12,[11],[],[I 0])] (os:=[(9,[0,1,2,3,4,5,6,7,8,9,10,11,13,12,14])]) (own:=[10])) ?_;have la:=qa.len;have lb:=qb.len;have hD:=qa.pos;have hE:=qb.pos;have short:n<k->∀{A' c' W},h.le W->aS NQr W A' n (fun i=>aC (cf w i) D)->n<=c'->aN prog 49 #[.slice A' n c'] W (fun r a7=>∃(t22A:Option aQ) (t22n:J) (t22c:J),r= .slice t22A t22n t22c/\K (.tuple #[.slice none 0 0,.slice t22A t22n t22c]) a7):=fun aj {A' c' W} l1 r hc=>by{refine Ds r o hc fun A2 c2 h2 l2 al r2=>⟨_,_,_,rfl,?_⟩;have Q:=QLv.of (z:=cf w) hD (fun i _=>rfl) (fun i _=>qa.bw i) qa.bD r2;have ap:(aE n).map (cf w)=w:=by{have:=A0v (k:=1) la;simp only[Int.one_mul]at this;rw[show J8 1 w=w by simp[J8]]at this;exact this};rw[ap,Sm qa.nz]at Q;have en:=Q.len;rw[en]at al Q ⊢;have z:n+1-k=0:=o;rw[z,cC]at hK;have e1:((1:Z):Y)=1:=rfl;exact hK [] w 1 none 0 A2 c2 h2 (B6 l1 l2) dc (fun x=>by rw[e1];simp only[pe];grind) o (fun z=>absurd rfl z) ⟨rfl,fun z=>absurd rfl z,o,fun i=>zb0,by rw[cI];exact qa.bD.mono o,RowV.nil⟩ (aF _) gz0 al};refine C5m O6 Tg qa.row dc o (fun e0 A' c' W l1=>B9 (fun _=>?_) (fun z=>o)) (fun e1 br cr W ax L=>B9 (fun lt=>short o L.le (L.row O6) ax) (fun ge=>?_));{subst e0;exact short o l1 RowV.nil o};obtain⟨nv,rfl⟩:∃nv,k=nv+1:=⟨k-1,o⟩;obtain⟨nq,hnq⟩:∃nq,nq=n-nv:=⟨_,rfl⟩;have au:nv+nq=n:=o;rw[show n+1-(nv+1)=nq from o]at hK;have ei:C4 ((n:Z)-((nv+1:J):Z))=(nq:Z)-1:=by{rw[C0]<;>omega};rw[ei,show C4 ((nq:Z)-1+1)=(nq:Z) by rw[C0]<;>omega];refine Lst.make O6 Tg L (zx:=U1) rfl NQ.zero dc o fun bq h2 L2=>⟨_,_,_,rfl,?_⟩;have v0:v≠[]:=gz0;have e:=Wj qb.nz v0;obtain⟨lead,hlead⟩:∃z,z=lc v:=⟨_,rfl⟩;rw[<- hlead]at e;have p:lead=cf v nv:=by{rw[hlead];unfold lc;grind};have ai:v.length=nv+1:=lb.symm;have bl:ZB mv lead:=by{rw[p];exact qb.bw nv};have hβ:∀j,j<=nq->mw+j*(mv+1)<=20000000:=fun j hj=>by{have:=aI (mv+1) (show j<=n+1 from o);omega};have bu:mv<=20000000:=by{grind};have hμ:∀j,1+j*mv+mw<=mw+j*(mv+1)+1:=fun j=>by{grind};refine⟨fun V hp=>∃(j:J) (q r:J->Z) (m:Z),j<=nq/\V=[I ((j:Z)-1)]/\PQ (pe w) (fun x=>ps (cf v) x (nv+1)) nv nq j m q r/\(∀t,nv+j<=t->r t=0)/\(∀t,t<j->q t=0)/\(∀i,i<nq->ZB (mw+(nq-j)*(mv+1)) (q i))/\(∀i,ZB (mw+(nq-j)*(mv+1)) (r i))/\ZB (1+(nq-j)*mv) m/\cV NQr 48 NQr 48 h hp (some ⟨br,0,none⟩) cr n (fun t=>aC (r t) (D*m)) (some ⟨bq,0,none⟩) nq nq (fun t=>aC (q t*E) (D*m)),fun V _=>(iAt V 0+1).toNat,⟨nq,fun _=>0,cf w,1,aF _,rfl,PQ.start (fun _ _=>rfl) (fun x=>by rw[au,la];exact(Vr w x).symm),fun t ht=>Zx o,fun _ _=>rfl,fun _ _=>zb0,fun i=>(qa.bw i).mono o,by rw[cR];exact ZB.one o,?_⟩,?_⟩;{rw[cI];exact(L2.swap.congr (f':=fun t=>aC (0*E) D) fun i _=>by rw[Int.zero_mul,cJ]).swap};rintro z hp ⟨j,q,r,m,hj,eV,pq,r0,q0,ac,F,bm,L3⟩;obtain rfl:z=(j:Z)-1:=gz0;have O:=pq.1;have T:D≠0:=o;have e0:E≠0:=o;have av:ZB (mw+(nq-j)*(mv+1)+1) (D*m):=(qa.bD.mul bm).mono gz0;have b1:=hβ (nq-j) o;have aa:∀i,Sz 20000001 (aC (r i) (D*m)):=fun i=>(N4 (aL T O) ((F i).mono o) av).mono o;refine B9 (fun bp=>?_) (fun aj=>?_);{obtain⟨j,rfl⟩:∃i,j=i+1:=⟨j-1,o⟩;rw[show((j+1:J):Z)-1=(j:Z)from o];have et:C4 (C4 ((j:Z)+((nv+1:J):Z))-1)=((nv+j:J):Z):=by{rw[C0 (n:=(j:Z)+((nv+1:J):Z)) o o,C0]<;>omega};rw[et,show C4 (((nv+1:J):Z)-1)=(nv:Z) by rw[C0]<;>omega];obtain⟨g3,X,L4,az⟩:=L3.base dc;obtain⟨a,wt,ea,it,s⟩:=az (nv+j) o;obtain⟨a2,w2,e2,i2,c0,c1,c2,c3⟩:=qb.row.qat (i:=nv) o;have lh:=L3.le;refine⟨a,ea,o,o,_,_,_,_,_,_,_,_,s 0 _ rfl,s 1 _ rfl,s 2 _ rfl,s 3 _ rfl,a2,e2,o,o,_,_,_,_,_,_,_,_,C2 lh c0,C2 lh c1,C2 lh c2,C2 lh c3,?_⟩;refine L4.call O6 O6 fun g5 G=>Ol (a:=wt) (b:=w2) (m:=20000001) (NQ.mono G it) (NQ.mono (B6 X G) i2) (aa _) ((qb.sz nv).mono o) o fun wf g6 l6 i6=>⟨l6,fun h6 a3 L6=>⟨_,_,_,_,_,_,_,_,rfl,a3,_,rfl,o,o,?_⟩⟩;rw[<- p,B97 T e0 O e]at i6;obtain⟨top,htop⟩:∃z,z=r (nv+j):=⟨_,rfl⟩;rw[<- htop]at i6;have szF:Sz 50000000 (aC (top*E) (D*(m*lead))):=by{have a:=(aa (nv+j)).div ((qb.sz nv).mono (show mv<=20000001 from o)) o;rw[<- p,B97 T e0 O e,<- htop]at a;exact a.mono o};refine L6.set O6 Kl rfl (show j<nq from o) (y:=wf) rfl i6 fun h7 L7=>?_;obtain⟨r',hr'⟩:∃r':J->Z,r'=fun t=>if t<nv+j then r t*lead-(if j<=t then top*cf v (t-j)else 0)else 0:=⟨_,rfl⟩;have bk:nq-j=(nq-(j+1))+1:=o;have hβ1:mw+(nq-j)*(mv+1)=mw+(nq-(j+1))*(mv+1)+(mv+1):=gz0;have hμ1:1+(nq-j)*mv=1+(nq-(j+1))*mv+mv:=gz0;have S:ZB (mw+(nq-(j+1))*(mv+1)) top:=gz0;have bo:=L7.le;refine⟨fun V hp=>∃f:J,f<=nv+1/\V=[I (f:Z)]/\cV NQr 48 NQr 48 g6 hp (some ⟨br,0,none⟩) cr n (fun t=>if j<=t/\t<j+f then aC (r' t) (D*(m*lead))else aC (r t) (D*m)) (some ⟨bq,0,none⟩) nq nq (fun t=>if t=j then aC (top*E) (D*(m*lead))else aC (q t*E) (D*m)),fun V _=>nv+1-(iAt V 0).toNat,⟨0,o,rfl,L7.congr fun t ht=>gz0⟩,?_⟩;rintro z bt ⟨f,bg,eV,L8⟩;obtain rfl:z=(f:Z):=gz0;refine B9 (fun aj=>?_) (fun bd=>?_);{have be:f<nv+1:=o;have ek:C4 ((j:Z)+(f:Z))=((j+f:J):Z):=by{rw[C0]<;>omega};rw[ek];obtain⟨g9,ae,L9,a1⟩:=L8.base dc;obtain⟨a9,w9,e9,i9,N⟩:=a1 (j+f) o;rw[iN o]at i9;obtain⟨a0,ba,a6,a5,f0,f1,f2,f3⟩:=qb.row.qat (i:=f) o;have am:=B6 X (B6 G l6);have H:=B6 am L8.le;refine⟨a9,e9,o,o,_,_,_,_,_,_,_,_,N 0 _ rfl,N 1 _ rfl,N 2 _ rfl,N 3 _ rfl,a0,a6,o,o,_,_,_,_,_,_,_,_,C2 H f0,C2 H f1,C2 H f2,C2 H f3,?_⟩;refine L9.call O6 O6 fun bh u=>Y4 (a:=wf) (b:=ba) (m:=50000000) (NQ.mono (B6 ae u) i6) (NQ.mono (B6 am (B6 ae u)) a5) szF ((qb.sz f).mono o) o fun bb bz ag bc=>⟨ag,fun bn ak L12=>⟨_,_,_,_,_,_,_,_,rfl,ak,?_⟩⟩;refine L12.call O6 O6 fun bx C=>A3g (a:=w9) (b:=bb) (m:=100000000) (NQ.mono (B6 u (B6 ag C)) i9) (NQ.mono C bc) ((aa _).mono o) ((szF.mul (qb.sz f)).mono o) o fun a8 bj ah ad=>⟨ah,fun bf an L14=>⟨_,_,_,_,_,_,_,_,rfl,an,_,rfl,o,o,?_⟩⟩;rw[C5h T e0 O e]at ad;have er:r (j+f)*lead-top*cf v f=r' (j+f):=by{rw[hr'];by_cases c:f<nv;{simp only[iP (show j+f<nv+j from o),iP (show j<=j+f from o),Nat.add_sub_cancel_left]};·obtain rfl:f=nv:=o;grind};rw[er]at ad;refine L14.swap.set O6 Kl rfl (show j+f<n from o) (y:=a8) rfl ad fun bi L15=>?_;rw[wiS f o];refine⟨⟨f+1,o,rfl,(L15.swap.weak (B6 ae (B6 u (B6 ag (B6 C ah))))).congr fun t ht=>?_⟩,by simp only[U4];omega⟩;by_cases c:t=j+f;{subst c;grind};·rw[iN c];by_cases c2:j<=t/\t<j+f;{grind};·rw[iN c2,iN o]};·obtain rfl:f=nv+1:=o;rw[show C4 ((j:Z)-1)=(j:Z)-1 by rw[C0]<;>omega];refine⟨⟨j,fun t=>lead*q t+(if t=j then top else 0),r',m*lead,o,rfl,pq.step o p e htop rfl (fun _ _=>rfl) (fun i hi=>gz0),fun t ht=>gz0,fun t ht=>gz0,fun i hi=>?_,fun i=>?_,by rw[hμ1];exact bm.mul bl,?_⟩,?_⟩;{have a:=bl.mul (ac i hi);have b:ZB (mv+(mw+(nq-(j+1))*(mv+1))) (if i=j then top else 0):=by{split;{exact S.mono o};·exact zb0};exact(a.add b).mono o};{rw[hr'];simp only;split;{have a:=(F i).mul bl;have b:ZB (mw+(nq-(j+1))*(mv+1)+mv) (if j<=i then top*cf v (i-j)else 0):=by{split;{exact S.mul (qb.bw _)};·exact zb0};exact(a.sub b).mono o};·exact zb0};{refine(((L8.congr (f':=fun t=>aC (r' t) (D*(m*lead))) fun t ht=>?_).swap.congr (f':=fun t=>aC ((lead*q t+if t=j then top else 0)*E) (D*(m*lead))) fun t ht=>?_).swap).weak (B6 X (B6 G l6));{by_cases c:j<=t/\t<j+(nv+1);{grind};·rw[iN c,hr'];by_cases c2:t<j;{simp only[iP (show t<nv+j from o),iN (show ¬j<=t from o),Int.sub_zero];exact A8z T O e};·simp only[iN (show ¬t<nv+j from o)];rw[r0 t o,cJ,cJ]};·by_cases c:t=j;{grind};·rw[iN c,iN c,Int.add_zero,A8z T O e];grind};·show((j:Z)-1+1).toNat<((j:Z)+1).toNat;omega};·obtain rfl:j=0:=o;obtain⟨σ,hσ,hp⟩:∃σ:Z,(σ=1\/σ= -1)/\0<m*σ:=by{rcases bZ O with g|g;{exact⟨-1,.inr rfl,o⟩};·exact⟨1,.inl rfl,o⟩};have s0:σ≠0:=o;rw[Nat.sub_zero]at ac F bm av;have zb:∀{l x},ZB l x->ZB l (x*σ):=fun {l x} hx=>by{rcases hσ with rfl|rfl;{grind};·rw[show x * -1= -x from o];exact hx.neg};have aw:0<D*(m*σ):=Int.mul_pos hD hp;have ao:ZB (mw+nq*(mv+1)) (D*(m*σ)):=by{have:=qa.bD.mul (zb bm);refine this.mono ?_;grind};refine Ds (L3.swap.row O6) o (aF _) fun A1 c1 h4 l4 s r4=>⟨_,_,_,rfl,?_⟩;refine Ds ((L3.row O6).mono O6 l4) o ax fun A2 c2 h5 l5 aq r5=>⟨_,_,_,rfl,?_⟩;have Q1:=QLv.of (m:=mw+nq*(mv+1)+mv) (z:=fun t=>q t*σ*E) aw (fun i hi=>by rw[A8z T O s0];grind) (fun i hi=>(zb (ac i hi)).mul (qb.bD)) (ao.mono o) (r4.mono O6 l5);have R1:=QLv.of (m:=mw+nq*(mv+1)) (z:=fun t=>r t*σ) aw (fun i hi=>A8z T O s0) (fun i _=>zb (F i)) ao r5;obtain⟨Qz,hQ⟩:∃l,l=trZ ((aE nq).map fun t=>q t*σ):=⟨_,rfl⟩;have nQ:Nz Qz:=by{rw[hQ];exact Hs _};have eQ:trZ ((aE nq).map fun t=>q t*σ*E)=J8 E Qz:=(Hs _).ext (nQ.scl e0) fun x=>by{have:(aE nq).map (fun t=>q t*σ*E)=J8 E ((aE nq).map fun t=>q t*σ):=by{unfold J8;rw[List.map_map];refine List.map_congr_left fun t _=>?_;grind};rw[Cj,this,F4,F4,hQ,Cj]};rw[eQ]at Q1;have lQ:=Q1.len;rw[show(J8 E Qz).length=Qz.length by simp[J8]]at lQ;obtain⟨Rz,hR⟩:∃l,l=trZ ((aE n).map fun t=>r t*σ):=⟨_,rfl⟩;rw[<- hR]at R1;have lR:=R1.len;rw[lQ]at Q1 s ⊢;rw[lR]at R1 aq ⊢;have ar:∀x,((m*σ:Z):Y)*pe w x=pe Qz x*pe v x+pe Rz x:=fun x=>by{have W:=pq.2 x;have h2:pe v x=ps (cf v) x (nv+1):=by{rw[<- ai,Vr]};have h3:pe Qz x=(σ:Y)*ps q x nq+((0:Z):Y)*ps q x nq:=by{rw[hQ,Cj,A40];exact Ou fun i _=>by grind};have h4:pe Rz x=(σ:Y)*ps r x n+((0:Z):Y)*ps r x n:=by{rw[hR,Cj,A40];exact Ou fun i _=>by grind};have h5:ps r x (nv+(n-nv))=ps r x nv:=Tz fun i W h2=>r0 i o;grind};have af:Rz.length<v.length:=by{by_cases c:Rz.length<=nv;{omega};·exfalso;have ay:Rz≠[]:=gz0;have l1:=Wj R1.nz ay;have l2:=A61 ((aE n).map fun t=>r t*σ);rw[<- hR,cL,cF]at l2;unfold lc at l1;apply l1;rw[hR,B99,<- hR,Zw _ o,r0 _ o,Int.zero_mul]};exact hK Qz Rz (m*σ) A1 c1 A2 c2 h5 (B6 L3.le (B6 l4 l5)) hp ar af nQ Q1 s R1 aq
end
def B22{σ:Z}(h:σ=1\/σ= -1)(w:cX Z)(x:Y):pe w x=(σ:Y)*pe (J8 σ w) x:=by have b:((1:Z):Y)=1:=rfl;have a:((-1:Z):Y)= -1:=rfl;rw[F4];rcases h with rfl|rfl;{rw[b];grind};·rw[a];grind
def C54{M μ ν n l l':J}(hM:3600*(M+1)<=20000000)(hn:n<=6)(ha:μ+1<=clB l*(M+1))(hb:ν+1<=clB l'*(M+1)):μ+(n+1)*(ν+1)<=20000000:=by have c:=aI (M+1) (Ea l).2;have b:=aI (M+1) (Ea l').2;have a:(n+1)*(ν+1)<=7*(ν+1):=aI _ o;omega
def A92{M μ l:J}(ha:μ+1<=clB l*(M+1)):μ<=446*(M+1):=by have a:=aI (M+1) (Ea l).2;omega
section
variable {h:aR} {K:VP} {A B:Option aQ} {n c d M:J} {w:cX Z} {D:Z}
def Ot(qa:QLv M h A n w D)(qb:QLv M h B (n-1) (dl w) D)(hn2:2<=n)(hn:n<=6)(hm1:1<=M)(hM:3600*(M+1)<=20000000) (hK:∀G D' A' c' h',h.le h'->QLv (446*(M+1)) h' A' G.length G D'->G≠[]->D'=lc G->G.length<=6->(G.length=1↔Cop w)->K (.slice A' G.length c') h'):aN prog 17 #[.slice A n c,.slice B (n-1) d] h K:=by refine(fnk func17 [(1,[0,1],[],[.slice none 0 0,.slice none 0 0])]) ?_;have la:=qa.len;have lb:=qb.len;have w0:w≠[]:=by{rintro rfl;simp at la;omega};have c1:∀l,M+1<=clB l*(M+1):=fun l=>cT _ (Ea l).1;refine⟨fun V p=>∃(A1:Option aQ) (L c1:J) (A2:Option aQ) (N c2:J) (a b:cX Z) (Da Db:Z) (μ ν:J),V=[.slice A1 L c1,.slice A2 N c2]/\h.le p/\QLv μ p A1 L a Da/\QLv ν p A2 N b Db/\μ+1<=clB a.length*(M+1)/\ν+1<=clB b.length*(M+1)/\Lb a b/\a≠[]/\1<=μ/\1<=ν/\(∀d,Dv d a->Dv d b->Dv d w/\Dv d (dl w))/\Cb w (dl w) a/\Cb w (dl w) b,fun V _=>C7o V,⟨A,n,c,B,n-1,d,w,dl w,D,D,M,M,rfl,B8 _,qa,qb,c1 _,c1 _,⟨o,o,o⟩,w0,hm1,hm1,fun _ x y=>⟨x,y⟩,Cb.left _ _,Cb.right _ _⟩,?_⟩;rintro aa i ac s e E p ⟨A1,L,c1,A2,N,c2,a,b,Da,Db,μ,ν,eV,lp,k,O,hμ,hν,g,C,m1,v1,t,ca,cb⟩;simp only[aH,aM,and_true]at eV;obtain⟨⟨rfl,rfl,rfl⟩,rfl,rfl,rfl⟩:=eV;have H:=k.len;have l2:=O.len;have l6:=g.1;have ad:=g.2.1;refine B9 (fun W=>?_) (fun hz=>?_);{refine He k O o o o m1 (C54 hM o hμ hν) fun Q R m A3 c3 A4 c4 h3 l3 hm he q nQ _ _ T _=>⟨_,_,_,_,_,_,rfl,?_⟩;have st:=Bdd.step (M:=M) g q hμ hν;rw[<- H,<- l2]at st;have e9:i+1-e=i-e+1:=o;rw[e9]at T;refine Jc T o o (by have:=A92 (μ:=μ+(i-e+1)*(ν+1)) (by omega:_+1<=clB R.length*(M+1));omega) fun σ D' A5 c5 h5 j hσ _ u _=>⟨_,_,_,rfl,?_⟩;have f:(J8 σ R).length=R.length:=by{simp[J8]};have b0:b≠[]:=by{rintro rfl;simp at l2;omega};refine⟨⟨s,e,E,A5,R.length,c5,b,J8 σ R,Db,D',ν,_,rfl,B6 lp (B6 l3 j),O.mono (B6 l3 j),u,hν,by rw[f];omega,⟨o,o,fun z=>o⟩,b0,v1,o,fun d X d2=>t d (Dv.step o he (fun x=>B22 hσ R x) X d2) X,cb,Cb.step o he (fun x=>B22 hσ R x) ca cb⟩,?_⟩;show R.length<e;omega};·have b0:b=[]:=aU o;subst b0;have iff:=B4l k.nz C (t a (Dv.refl a) (Dv.nil a)).1 (t a (Dv.refl a) (Dv.nil a)).2 ca;have up:=A92 hμ;refine Jc k o m1 o fun σ D' A5 c5 h5 j hσ _ u hD=>⟨_,_,_,rfl,?_⟩;have f:(J8 σ a).length=a.length:=by{simp[J8]};have:=hK (J8 σ a) D' A5 c5 h5 (B6 lp j) (by rw[f,<- H];exact u.up up) (fun z=>C (by rw[z]at f;exact aU f.symm)) (hD C) o (by rw[f];exact iff);rwa [f,<- H]at this
end
def QCr(M:J)(h:aR)(s:HV)(w:cX Z):Prop:=∃(D:Z) (μ:J),QLv μ h s.A s.n w D/\μ+1<=clB w.length*(M+1)/\1<=μ/\w.length<=6
def Wb{M:J}:Mon (QCr M):=fun _ _ _ _ l q=>by obtain⟨D,μ,a,b,c⟩:=q;exact⟨D,μ,a.mono l,b,c⟩
def A8p{L:cX (cX Z)}{q:cX Z}{i:J}(h:i<L.length):(L++[q]).getD i []=L.getD i []:=by rw[aO,List.getElem?_append_left h,aO]
section
variable {h:aR} {K:VP} {A B:Option aQ} {n c d M:J} {w:cX Z} {D:Z}
def A3v(qa:QLv M h A n w D)(hn2:2<=n)(hn:n<=6)(hm1:10<=M)(hM:3600*(M+11)<=20000000)
 (hK:∀t A' c' h',h.le h'->PCh (w::dl w::t)->aS (QCr (M+10)) h' A' (w::dl w::t).length (fun i=>(w::dl w::t).getD i [])->(w::dl w::t).length<=6->K (.slice A' (w::dl w::t).length c') h'):aN prog 153 #[.slice A n c] h K:=by
 refine(fnk func153 [(3,[3,4],[],[.slice none 0 0,.slice none 0 0])]) ?_;have la:=qa.len;have w0:w≠[]:=by rintro rfl;simp at la;omega
 have ld:=Jp w;have d0:dl w≠[]:=by intro e;rw[e]at ld;simp at ld;omega
 have c1:∀l,M+10+1<=clB l*(M+10+1):=fun l=>cT _ (Ea l).1;refine Qh (R:=QCr (M+10)) (f:=fun i=>[w].getD i []) C62 (y:=(⟨A,n,c⟩:HV)) (by rfl) dc ⟨D,M+10,qa.up o,c1 _,o,by show w.length<=6;omega⟩ fun b h1 l1 L1=>⟨_,_,_,rfl,?_⟩;refine L1.call Wb fun g2 X=>Fa (qa.mono X) o hm1 o fun A2 c2 g3 l3 _ q2=>⟨l3,fun h3 aq L3=>⟨_,_,_,rfl,?_⟩⟩
 refine⟨fun V hp=>∃(L:cX (cX Z)) (p q:cX Z) (A1:Option aQ) (c1:J) (A2:Option aQ) (c2:J) (g:aR),V=[.slice A1 L.length c1,.slice A2 q.length c2]/\h.le g/\Lst (QCr (M+10)) 28 g hp A1 c1 L.length (fun i=>L.getD i [])/\QCr (M+10) g ⟨A2,q.length,c2⟩ q/\(q≠[]->Hist L p q/\Lb p q)/\(q=[]->PCh L)/\1<=L.length/\L.getD (L.length-1) []=p/\((L=[w]/\q=dl w)\/∃u,L=w::dl w::u)/\L.length+q.length<=6,fun V _=>C7o V,
  ⟨[w],w,dl w,_,1,A2,c2,g3,by rw[ld,<- la];rfl,B6 X l3,L3,⟨D,M+10,by rw[ld,<- la];exact q2,c1 _,o,o⟩,fun _=>⟨Hist.start _ _,⟨o,o,o⟩⟩,fun z=>absurd z d0,by simp,rfl,.inl ⟨rfl,rfl⟩,by rw[bG];omega⟩,?_⟩;rintro oA on oc nA nn nc hp ⟨L,p,q,A1,aw,A2',ap,g,eV,lg,L4,⟨Dq,ν,qq,hν,v1,v6⟩,hh,ah,hL,E,N,h6⟩;simp only[aH,aM,and_true]at eV;obtain⟨⟨rfl,rfl,rfl⟩,rfl,rfl,rfl⟩:=eV;refine B9 (fun S=>?_) (fun hz=>?_)
 ·have q0:q≠[]:=by rintro rfl;simp at S
  obtain⟨hi,F⟩:=hh q0;have L5:Lst (QCr (M+10)) 28 g hp oA oc L.length (fun i=>(L++[q]).getD i []):=L4.congr fun i hi=>(A8p hi).symm
  refine Lst.push Wb C62 L5 rfl (y:=(⟨nA,q.length,nc⟩:HV)) rfl (by
   show QCr (M+10) g _ ((L++[q]).getD L.length []);rw[aO,List.getElem?_append_right (aF _)];simp only[cR,aV,Option.getD_some];exact⟨Dq,ν,qq,hν,v1,v6⟩) dc o fun A6 c6 ax L6=>?_;obtain⟨g7,T,L7,ag⟩:=L6.base dc;obtain⟨a,s,ea,⟨Dp,μ,qp,hμ,m1,_⟩,hc⟩:=ag (L.length-1) o;rw[A8p o,E]at qp hμ;have ei:C4 (((L.length+1:J):Z)-2)=((L.length-1:J):Z):=by rw[C0]<;>omega
  rw[ei];refine⟨a,ea,o,o,_,_,_,hc 0 (.slice s.A s.n s.c) rfl,?_⟩;have lp:=qp.len;have au:=F.1;have av:=F.2.1;refine L7.call Wb fun g8 k=>He (qp.mono k) (qq.mono (B6 T k)) o o o m1 (C54 (M:=M+10) o o hμ hν) fun Q R m A9 c9 A10 ao g9 l9 hm he ad nQ _ _ C _=>⟨l9,fun h9 a0 L9=>⟨_,_,_,_,_,_,rfl,?_⟩⟩;have st:=Bdd.step (M:=M+10) F ad hμ hν;rw[<- lp]at st;have e9:s.n+1-q.length=s.n-q.length+1:=o;rw[e9]at C;have cl:=A92 (μ:=μ+(s.n-q.length+1)*(ν+1)) (by omega:_+1<=clB R.length*(M+10+1));refine L9.call Wb fun an j=>Ei o fun ae az B aj=>⟨B,fun ar ak L12=>⟨_,_,_,_,_,_,_,_,rfl,?_⟩⟩;have em:((-1:Z):Y)= -1:=rfl;have af:=C.pos;have O:∀i,(((-1:Z):Y))*aC (cf R i) (Dp*m)=aC (-1*cf R i) (Dp*m):=fun i=>Wy o (by rw[bX,N7 o,bO]);refine L12.call Wb fun ay d=>Vo (w:=ae) (m:=μ+(s.n-q.length+1)*(ν+1)) ((C.row).mono O6 (B6 j (B6 B d))) (NQ.mono d aj) o (fun i _=>C.sz i) (⟨(by show ZB _ (-1);exact(ZB.one o).neg),ZB.one o⟩) o o fun A14 aa ac G _ ai=>⟨G,fun am al L14=>⟨_,_,_,rfl,?_⟩⟩;have Qn:=QLv.of (z:=fun i=>-1*cf R i) af (fun i _=>O i) (fun i _=>by rw[show -1*cf R i= -cf R i from o];exact(C.bw i).neg) C.bD ai;have nR:Nz (J8 (-1) R):=C.nz.scl dc;rw[A0v rfl,Sm nR]at Qn;have eS:(J8 (-1) R).length=R.length:=by simp[J8]
  have en:=Qn.len;rw[en]at Qn ⊢;have W:((1:Z):Y)=1:=rfl;have H:=hi.step (by omega:m≠0) he (c:=1) (r:=R) dc (fun x=>by rw[W,aX]);rw[iP hm]at H;refine⟨⟨L++[q],q,J8 (-1) R,A6,c6,A14,aa,ac,by rw[bY,bG],B6 lg (B6 T (B6 k (B6 l9 (B6 j (B6 B (B6 d G)))))),by rw[bY,bG];exact L14,⟨_,_,Qn,by rw[eS];omega,o,by rw[eS];omega⟩,fun _=>⟨H,⟨o,o,fun z=>o⟩⟩,fun z=>?_,by simp,by simp[aO],?_,by rw[eS,bY,bG];omega⟩,?_⟩
  ·have R0:R=[]:=by cases R with
    |nil=>rfl
    |cons x R=>simp[J8]at z
   subst R0;exact hi.done (m:=m) (u:=Q) o (fun x=>by rw[he x];simp only[pe];grind)
  ·refine .inr ?_;rcases N with⟨rfl,rfl⟩|⟨u,rfl⟩;·exact⟨[],rfl⟩
   ·exact⟨u++[q],rfl⟩
  ·show(J8 (-1) R).length<q.length;omega
 ·have q0:q=[]:=aU o;subst q0;rcases N with⟨rfl,e⟩|⟨u,rfl⟩;·exact absurd e.symm d0
  ·exact hK u _ _ _ (B6 lg L4.le) (ah rfl) (L4.row Wb) o
end
section
variable {h:aR} {K:VP} {A B:Option aQ} {n c d M:J} {w:cX Z} {D:Z}
def Oq(qa:QLv M h A n w D)(hn2:2<=n)(hn:n<=6)(hm1:10<=M)(hM:3600*(M+11)<=20000000)(hl:D=lc w)(cop:Cop w)
 (hK:∀A' c' h',h.le h'->QLv M h' A' n w D->K (.slice A' n c') h'):aN prog 75 #[.slice A n c] h K:=by
 refine(fnk func75) ?_;have p:=qa.len;have H:w≠[]:=by rintro rfl;simp at p;omega
 refine Fa qa o hm1 o fun A2 c2 W r _ V=>⟨_,_,_,rfl,?_⟩;refine Ot (M:=M+10) ((qa.mono r).up o) V hn2 hn o o fun G g A3 c3 h3 C d G0 b lG iff=>⟨_,_,_,rfl,?_⟩;have G1:=iff.2 cop;have gp:=d.pos;have a:=B6 r C;rw[G1]at d ⊢;have X:(n+1)*(446*(M+10+1)+1)<=7*(446*(M+10+1)+1):=aI _ o;have e6:(n+1-1)*(446*(M+10+1)+1)<=6*(446*(M+10+1)+1):=aI _ o;refine He (qa.mono a) d o o o o o fun Q R m A4 c4 A5 c5 h4 E hm S s L l _ _ _=>⟨_,_,_,_,_,_,rfl,?_⟩;obtain rfl:R=[]:=aU o
 match G,G1,b with
 | [y],_,b=>
 have F:y=g:=b.symm;subst F
 have j:J8 m w=J8 y Q:=(qa.nz.scl o).ext (L.scl o) fun x=>by
  have:=S x;have O:pe [y] x=(y:Y):=by show(y:Y)+x*0=y;grind
  rw[O]at this;rw[F4,F4,this];simp only[pe];grind
 have u:Q.length=n:=by have:=congrArg cH j;simp[J8]at this;omega
 rw[u]at l ⊢;refine Jc l o o o fun σ D' A6 c6 N T hσ _ q f=>⟨_,_,_,rfl,?_⟩;have B:σ≠0:=o;rw[<- j]at q f
 have t:=f (by
  intro z;have:=congrArg cH z;simp[J8]at this;exact H this);have k:∀i,cf (J8 σ (J8 m w)) i=σ*m*cf w i:=fun i=>by rw[Bh,Bh,Int.mul_assoc]
 have e:D'=σ*m*D:=by rw[t,hl];unfold lc;rw[k];simp[J8]
 refine hK A6 c6 N (B6 a (B6 E T)) ⟨p,qa.nz,qa.pos,qa.bw,qa.bD,q.row.congr fun i _=>?_⟩;rw[k,e,Rat.divInt_mul_left (aL B o)]
end
def C0t(t:Y):∀n,pwx t n=t^n:=by
 intro n
 induction n with
 |zero=>rw[bM];rfl
 |succ n ih=>rw[bN,<- ih];show t*pwx t n=_;grind
def C4l{z:J->Z}{D:Z}{t:Y}(hD:D≠0):∀n,pvl (fun i=>aC (z i) D) n t*(D:Y)=ps z t n:=by
 intro n
 induction n with
 |zero=>show(0:Y)*D=0;grind
 |succ n ih=>
  have e:=N7 (z:=z n) hD;show(pvl (fun i=>aC (z i) D) n t+t^n*aC (z n) D)*(D:Y)=ps z t n+(z n:Y)*pwx t n;rw[C0t,<- ih,<- e];grind
def A46(q:Y):q.num.sign=sgR q:=by have h:(0:Y)<((q.den:Z):Y):=K8 (by have:=q.den_pos;omega);rw[<- A0q,A6y,Ix,R4.2 h,cI]
section
variable {h:aR} {K:VP} {A B:Option aQ} {n c d M e:J} {w:cX Z} {D:Z} {tq:QV} {t:Y}
def QLv.at{m:J}(q:QLv m h A n w D)(it:NQ h tq t)(hn:n<=6)(hm:m<=10000000)(ht:Sz e t)(he:e<=10000000)(hK:∀u v h',h.le h'->NQ h' u v->v.num.sign=sgR (pe w t)->K u.v h'):aN prog 225 #[.slice A n c,tq.v] h K:=B24 (m:=10000000) q.row it hn (fun i _=>(q.sz i).mono hm) (ht.mono he) (aF _) fun u h' l i=>hK u _ h' l i (by have b:=q.pos;have d:=C4l (z:=cf w) (t:=t) (show D≠0 from o) n;have a:pe w t=ps (cf w) t n:=by{rw[q.len,Vr]};rw[A46,a,<- d,Ix,R4.2 (K8 b),cI])
def Fu{L:cX (cX Z)}{below:Bool}(r:aS (QCr M) h A L.length (fun i=>L.getD i []))(it:NQ h tq t)(hL:L.length<=100)(h6:∀v∈L,v.length<=6)(ht:Sz e t)(he:e<=10000000)(hM:446*(M+1)<=10000000)(hK:∀h',h.le h'->K (I (chg 0 (Vs L t):J)) h'): aN prog 223 #[.slice A L.length c,.agg #[.bool false,.bool tq.s,.slice tq.A tq.n tq.c,.bool tq.s2,.slice tq.A2 tq.n2 tq.c2],.bool below] h K:=by refine(fnk func223 [(3,[7,8,9],[],[I 0,I 0,I 0])] (own:=[4])) ?_;have X:=Zu (Vs L t) 0;have vl:(Vs L t).length=L.length:=by{simp[Vs]};refine⟨fun V E=>∃(k d:J) (b:Z),V=[I b,I (d:Z),I (k:Z)]/\k<=L.length/\h.le E/\(b=1\/b= -1\/b=0)/\d+chg b ((Vs L t).drop k)=chg 0 (Vs L t),fun V _=>L.length-(iAt V 2).toNat,⟨0,0,0,rfl,o,B8 _,.inr (.inr rfl),by rw[List.drop_zero,cD]⟩,?_⟩;rintro B cz kz E ⟨k,d,b,C,hk,l,Q,f⟩;simp only[aH,aK,true_and,and_true]at C;obtain⟨rfl,rfl,rfl⟩:=C;refine B9 (fun N=>Br.of (fun z=>by cases z) (fun _=>?_)) (fun H=>?_);{have j:k<L.length:=o;obtain⟨a,s,ea,⟨D,μ,q,hμ,_⟩,hc⟩:=(r.mono Wb l).at dc j;have w:L[k]? = some (L.getD k []):=by{rw[aO,aT j];rfl};have l6:=h6 _ (List.mem_of_getElem? w);refine⟨a,ea,o,o,_,_,_,hc 0 (.slice s.A s.n s.c) rfl,?_⟩;refine q.at (NQ.mono l it) (by have:=q.len;omega) (by have:=A92 hμ;omega) ht he fun u v h1 F T hs=>⟨_,_,_,_,_,_,_,_,rfl,F,?_⟩;refine V9 T ⟨_,rfl,B8 _,?_⟩;rw[hs];have G:(Vs L t).drop k=sgR (pe (L.getD k []) t)::(Vs L t).drop (k+1):=by{rw[List.drop_eq_getElem_cons o];have:(Vs L t)[k]? = some (sgR (pe (L.getD k []) t)):=by{unfold Vs;rw[bI,w];rfl};rw[aT o]at this;rw[Option.some.inj this]};have p:=J9 (pe (L.getD k []) t);generalize sgR (pe (L.getD k []) t)=sw at *;have S:C4 ((k:Z)+1)=((k+1:J):Z):=by{rw[C0]<;>omega};have W:C4 ((d:Z)+1)=((d+1:J):Z):=by{rw[C0]<;>omega};have dec:∀x y:Z,L.length-(iAt [I x,I y,I ((k+1:J):Z)] 2).toNat<L.length-(iAt [I B,I (d:Z),I (k:Z)] 2).toNat:=fun x y=>by{show L.length-((k+1:J):Z).toNat<L.length-(k:Z).toNat;omega};have g:=B6 l F;rw[G,chg]at f;rw[S,W];refine D8 (fun m=>?_) (fun m=>?_);{rw[iN m]at f;refine D8 (fun b0=>D8 (fun R=>?_) (fun R=>?_)) (fun b0=>?_);{rw[iP o]at f;exact⟨⟨k+1,d+1,sw,rfl,o,g,p,o⟩,dec _ _⟩};{rw[iN o]at f;exact⟨⟨k+1,d,sw,rfl,o,g,p,o⟩,dec _ _⟩};·rw[iN o]at f;exact⟨⟨k+1,d,sw,rfl,o,g,p,o⟩,dec _ _⟩};·rw[iP m]at f;exact⟨⟨k+1,d,B,rfl,o,g,Q,f⟩,dec _ _⟩};·obtain rfl:k=L.length:=o;rw[List.drop_of_length_le o]at f;simp only[chg,cU]at f;rw[f];exact hK _ l
def A19{a b:QV}{p q:Y}{m:J}(i:NQ h a p)(j:NQ h b q)(hp:Sz m p)(hq:Sz m q)(hm1:2<=m)(hm:m<=100000000)(hK:∀w h',h.le h'->NQ h' w (mid p q)->K w.v h'):aN prog 226 #[a.v,b.v] h K:=by refine(fnk func226 (own:=[2,3,4])) ?_;refine Dr (a:=a) (b:=b) (m:=m) i j hp hq o fun d u g i1=>⟨_,_,_,_,_,_,_,_,rfl,?_⟩;refine Ei o fun n t c l=>⟨_,_,_,_,_,_,_,_,rfl,?_⟩;refine Ol (a:=d) (b:=n) (m:=m+m+1) (NQ.mono c i1) l (hp.add hq) ((Sz.int (m:=2) (z:=2) (by unfold ZB;decide) o).mono o) o fun k r s f=>⟨_,_,_,_,_,_,_,_,rfl,hK k r (B6 g (B6 c s)) (by have e:(p+q)/((2:Z):Y)=mid p q:=by{have:((2:Z):Y)=2:=rfl;rw[this,Rat.div_def];unfold mid;rw[show(2:Y)⁻¹=1/2 by decide +kernel]};rw[<- e];exact f)⟩
end
section
variable {h:aR} {K:VP} {A B:Option aQ} {n c m:J} {w:cX Z} {D:Z}
structure LmQ (w:cX Z) (m i:J) (b:Y):Prop where
 nn:0<=b
 up:b<=2^m
 sz:Sz (m+m) b
 le:∀ j,j<i->abR (cf w j:Y)<=b*abR (lc w:Y)
def A3w(qa:QLv m h A n w D)(h1:1<=n)(hn:n<=100)(hm1:1<=m)(hm:m<=1000) (hK:∀v q h',h.le h'->NQ h' v q->FarB q w->q<=2^(m+1)->Sz (m+m+2) q->K v.v h'):aN prog 151 #[.slice A n c] h K:=by refine(fnk func151 [(3,[4],[(3,4)],[I 0,.bool false,.slice none 0 0,.bool false,.slice none 0 0])] (os:=[(5,[0,1,2,3,4,5,6,7,8,9,11,10,12])]) (own:=[2,3,5])) ?_;have la:=qa.len;have hD:=qa.pos;have w0:w≠[]:=by{rintro rfl;simp at la;omega};have l0:=Wj qa.nz w0;have el:C4 ((n:Z)-1)=((n-1:J):Z):=by{rw[C0]<;>omega};rw[el];refine⟨fun V Q=>∃(i:J) (b:QV) (q:Y),i<=n-1/\V=[I (i:Z),.bool b.s,.slice b.A b.n b.c,.bool b.s2,.slice b.A2 b.n2 b.c2]/\h.le Q/\NQ Q b q/\LmQ w m i q,fun V _=>n-1-(iAt V 0).toNat,⟨0,U1,0,o,rfl,B8 _,NQ.zero,⟨Rat.le_refl,Rat.le_of_lt (Ao m),Sz.zero o,fun j S=>o⟩⟩,?_⟩;rintro t b0 ag ae aj b2 af ah ak Q ⟨i,b,q,hi,eL,d,C,f⟩;simp only[aH,aK,bK,aM,true_and,and_true]at eL;obtain⟨rfl,rfl,⟨rfl,rfl,rfl⟩,rfl,rfl,rfl,rfl⟩:=eL;refine B9 (fun ad=>?_) (fun ac=>?_);{have ai:i<n-1:=o;obtain⟨a,w1,M,i1,c0,c1,c2,c3⟩:=qa.row.qat (i:=i) o;obtain⟨W,X,e2,r,d0,d1,d2,d3⟩:=qa.row.qat (i:=n-1) o;have e3:cf w (n-1)=lc w:=by{rw[la];rfl};rw[e3]at r;refine⟨a,M,o,o,_,_,_,_,_,_,_,_,C2 d c0,C2 d c1,C2 d c2,C2 d c3,W,e2,o,o,_,_,_,_,_,_,_,_,C2 d d0,C2 d d1,C2 d d2,C2 d d3,?_⟩;have O:=qa.sz (n-1);rw[e3]at O;obtain⟨x,hx⟩:∃x,x=aC (cf w i) D/aC (lc w) D:=⟨_,rfl⟩;have F:Sz (m+m) x:=by{rw[hx];exact(qa.sz i).div O hm1};have xl:x*(lc w:Y)=(cf w i:Y):=by{have g0:=Rs l0 (show D≠0 from o);have a1:=N7 (z:=cf w i) (show D≠0 from o);have W:=N7 (z:=lc w) (show D≠0 from o);rw[hx,Rat.div_def,<- a1,<- W];have c:=Rat.inv_mul_cancel _ g0;generalize aC (lc w) D=G at *;have:aC (cf w i) D*G⁻¹*(G*(D:Y))=aC (cf w i) D*(G⁻¹*G)*D:=gz0;rw[this,c,bH]};have xa:abR (cf w i:Y)=abR x*abR (lc w:Y):=by{rw[<- xl,O7]};have l1:(1:Y)<=abR (lc w:Y):=by{unfold abR;have M:((1:Z):Y)=1:=rfl;rcases bZ l0 with g|g;{have a:=Rat.intCast_le_intCast.2 (show 1 <= -lc w from o);rw[Rat.intCast_neg]at a;split<;>grind};·have a:=Rat.intCast_le_intCast.2 (show 1<=lc w from o);split<;>grind};have xu:abR x<=2^m:=by{have a:BR m (cf w i:Y):=BR.int (Nat.le_of_lt (qa.bw i));unfold BR at a;have:=cN (J3 x) (show 0<=abR (lc w:Y)-1 from gz0);grind};have yes:q<abR x->LmQ w m (i+1) (abR x):=fun g=>by{refine⟨J3 x,xu,?_,fun j S=>?_⟩;{unfold abR;split;{exact F.neg};·exact F};·by_cases e:j=i;{subst e;rw[xa];exact Rat.le_refl};·have:=f.le j o;have:=cN (show 0<=abR x-q from gz0) (show 0<=abR (lc w:Y)from gz0);grind};have no:¬q<abR x->LmQ w m (i+1) q:=fun g=>⟨f.nn,f.up,f.sz,fun j S=>by by_cases e:j=i;{subst e;rw[xa];have:=cN (show 0<=q-abR x from gz0) (show 0<=abR (lc w:Y)from gz0);grind};·exact f.le j o⟩;have ei:C4 ((i:Z)+1)=((i+1:J):Z):=by{rw[C0]<;>omega};rw[ei];have H:∀y:Y,0<(y-q).num.sign↔q<y:=fun y=>by{rw[A46];refine⟨fun z=>?_,fun z=>?_⟩;{have:=J9 (y-q);have:=R4.1 (show sgR (y-q)=1 from o);grind};·rw[R4.2 (show 0<y-q from gz0)];decide};have L:n-1-((i+1:J):Z).toNat<n-1-((i:J):Z).toNat:=o;refine Ol (a:=w1) (b:=X) (m:=m) (NQ.mono d i1) (NQ.mono d r) (qa.sz i) O o fun E h3 l p=>⟨_,_,_,_,_,_,_,_,rfl,l,?_⟩;rw[<- hx]at p;have k:=B6 d l;refine V9 p ⟨_,rfl,?_⟩;rw[A46];refine B9 (fun aa=>?_) (fun u=>?_);{have N:x<0:=T8.1 (by have:=J9 x;omega);have B: -x=abR x:=by{unfold abR;rw[iP N]};refine Vg p fun w4 R=>⟨_,_,_,_,_,_,_,_,rfl,?_⟩;rw[B]at R;refine Om (a:=w4) (m:=m+m) R (NQ.mono l C) (by rw[<- B];exact F.neg) f.sz o ⟨_,rfl,B9 (fun g=>?_) (fun g=>?_)⟩;{exact⟨⟨i+1,w4,_,o,rfl,k,R,yes ((H _).1 g)⟩,L⟩};·exact⟨⟨i+1,_,_,o,rfl,k,NQ.mono l C,no fun z=>g ((H _).2 z)⟩,L⟩};·have N:¬x<0:=fun z=>u (by rw[T8.2 z];decide);have B:x=abR x:=by{unfold abR;rw[iN N]};rw[B]at p;refine Om (a:=E) (m:=m+m) p (NQ.mono l C) (by rw[<- B];exact F) f.sz o ⟨_,rfl,B9 (fun g=>?_) (fun g=>?_)⟩;{exact⟨⟨i+1,E,_,o,rfl,k,p,yes ((H _).1 g)⟩,L⟩};·exact⟨⟨i+1,_,_,o,rfl,k,NQ.mono l C,no fun z=>g ((H _).2 z)⟩,L⟩};·obtain rfl:i=n-1:=o;refine Ei o fun X h2 T r=>⟨_,_,_,_,_,_,_,_,rfl,T,?_⟩;have M:((1:Z):Y)=1:=rfl;rw[M]at r;have s1:Sz (m+m) (1:Y):=⟨ZB.one o,ZB.one o⟩;refine Dr (a:=b) (b:=X) (m:=m+m) (NQ.mono T C) r f.sz s1 o fun E h3 l p=>⟨_,_,_,_,_,_,_,_,rfl,l,?_⟩;refine hK E _ h3 (B6 d (B6 T l)) p ⟨by have:=f.nn;grind,fun j S=>by have:=f.le j o;grind⟩ ?_ ((f.sz.add (⟨ZB.one (aF 1),ZB.one (aF 1)⟩:Sz 1 (1:Y))).mono o);have:=f.up;have:=A44 m;rw[bN];grind
end
def IvR(e:J)(h:aR)(s:I2)(_:Unit):Prop:=∃p q,NQ h s.a p/\NQ h s.b q/\Sz e p/\Sz e q
def Lp{e:J}:Mon (IvR e):=fun _ _ _ _ l i=>by obtain⟨p,q,a,b,c⟩:=i;exact⟨p,q,NQ.mono l a,NQ.mono l b,c⟩
abbrev IvQ(e:J)(g hp:aR)(A:Option aQ)(c n:J):Prop:=Lst (IvR e) 151 g hp A c n (fun _=>())
section
variable {w:cX Z} {L:cX (cX Z)} {D:Z} {P E M m k pn pc lc':J} {PA LA:Option aQ}
def Ye(hL:L.length<=7)(h6:∀v∈L,v.length<=6)(hn:pn<=6)(hM:446*(M+1)<=10000000)(hm:m<=10000000)(hPE:P+E+1<=1000000)(hE:1<=E):
 ∀(d:J) (l:J) (p q:Y),Tr (Vn L) (fun x=>pe w x=0) d p q l->∀(gt hp:aR) (a b:QV) (e N:J) (A:Option aQ) (c:J) (K:VP),e+d<=E->QLv m gt PA pn w D->aS (QCr M) gt LA L.length (fun i=>L.getD i [])->NQ gt a p->NQ gt b q->LvI P k e p q->IvQ (P+E+1) gt hp A c N->N+l<=100->
  (∀A' c' g' hp',gt.le g'->IvQ (P+E+1) g' hp' A' c' (N+l)->K (.slice A' (N+l) c') hp')->aN prog 152 #[.slice PA pn pc,.slice LA L.length lc',a.v,b.v,.slice A N c] hp K:=by
 intro d
 induction d using Nat.strongRecOn with
 |ind d ih=>
 intro l p q tr gt hp a b e N A c K ap qw rl ia S lv L0 hN hK;have za:=(lv.a.le (f:=E) o).sz;have zb:=(lv.b.le (f:=E) o).sz;refine(fnk func152 (os:=[(1,[0,1,4,5,2,3,6,7,8,9])]) (own:=[7,8,13]) (wr:=[152,1000000000])) ?_;refine(fnk func224 (own:=[1,2])) ?_;refine⟨_,_,_,_,_,_,_,_,_,rfl,B8 _,?_⟩;refine L0.call Lp fun g1 O=>Fu (rl.mono Wb O) (NQ.mono O ia) o h6 za o hM fun g2 l2=>⟨l2,fun h2 ah L2=>⟨_,rfl,ah,?_⟩⟩;refine(fnk func224 (own:=[1,2])) ?_;refine⟨_,_,_,_,_,_,_,_,_,rfl,B8 _,?_⟩;have Q:=B6 O l2;refine L2.call Lp fun g3 H=>Fu (rl.mono Wb (B6 Q H)) (NQ.mono (B6 Q H) S) o h6 zb o hM fun g4 l4=>⟨l4,fun h4 aj L4=>⟨_,rfl,aj,?_⟩⟩;have C:=B6 Q (B6 H l4);have vp:=B84 L p;have vq:=B84 L q;have en:C4 (((chg 0 (Vs L p):J):Z)-((chg 0 (Vs L q):J):Z))=(Vn L p:Z)-(Vn L q:Z):=by unfold Vn at *;rw[C0 o o]
 rw[en];refine D4 (fun h0=>?_) (fun h0=>?_)
 ·cases tr with
  |out h=>exact hK _ _ g4 _ C L4
  |one h _=>omega
  |cut h _ _ _=>omega
 refine L4.call Lp fun g5 G=>(qw.mono (B6 C G)).at (NQ.mono (B6 C G) S) hn hm zb o fun u5 v5 g6 l6 i6 s6=>⟨l6,fun au ar L6=>⟨_,_,_,_,_,_,_,_,rfl,?_⟩⟩;refine L6.call Lp fun g7 ac=>V9 (NQ.mono ac i6) ⟨B8 _,fun h8 aq L8=>⟨_,rfl,?_⟩⟩;rw[s6];have n:=B6 C (B6 G (B6 l6 ac))
 have D:Vn L q<Vn L p->¬(Vn L p=Vn L q+1/\(pe w q=0\/¬pe w p=0))->∀gx hx,gt.le gx->IvQ (P+E+1) gx hx A c N->aN prog 226 #[a.v,b.v] hx (fun r ad=>∃(t590:Bool) (t591A:Option aQ) (t591n:J) (t591c:J) (t592:Bool) (t593A:Option aQ) (t593n:J) (t593c:J),r= .agg #[.bool t590,.slice t591A t591n t591c,.bool t592,.slice t593A t593n t593c]/\aN prog 152 #[.slice PA pn pc,.slice LA L.length lc',a.v,.agg #[.bool t590,.slice t591A t591n t591c,.bool t592,.slice t593A t593n t593c],.slice A N c] ad (fun r9 V=>∃(t69A:Option aQ) (t69n:J) (t69c:J),r9= .slice t69A t69n t69c/\aN prog 152 #[.slice PA pn pc,.slice LA L.length lc',.agg #[.bool t590,.slice t591A t591n t591c,.bool t592,.slice t593A t593n t593c],b.v,.slice t69A t69n t69c] V (fun al W=>∃(t70A:Option aQ) (t70n:J) (t70c:J),al= .slice t70A t70n t70c/\K (.slice t70A t70n t70c) W))):=by
  intro n0 nl gx hx F Lx
  cases tr with
  |out h=>omega
  |one h r=>exact absurd ⟨h,r⟩ nl
  | @cut d' _ _ k1 l1 h r t1 t2=>
   refine Lx.call Lp fun g9 j=>A19 (m:=P+E+1) (NQ.mono (B6 F j) ia) (NQ.mono (B6 F j) S) za zb o o fun wm aa s im=>⟨s,fun ag af L11=>⟨_,_,_,_,_,_,_,_,rfl,?_⟩⟩;have u:=B6 F (B6 j s);refine ih d' o k1 p _ t1 aa ag a wm (e+1) N A c _ o (qw.mono u) (rl.mono Wb u) (NQ.mono u ia) im lv.left L11 o fun A5 c5 R ak g L12=>⟨_,_,_,rfl,?_⟩;have B:=B6 u g
   exact ih d' o l1 _ q t2 R ak wm b (e+1) (N+k1) A5 c5 _ o (qw.mono B) (rl.mono Wb B) (NQ.mono g im) (NQ.mono B S) lv.right L12 o fun A6 c6 an T ae L13=>⟨_,_,_,rfl,by
    have:=hK A6 c6 an T (B6 B ae) (by rw[<- cQ];exact L13);rwa [<- cQ]at this⟩
 have lt:Vn L q<Vn L p:=by
  cases tr with
  |out h=>omega
  |one h _=>omega
  |cut h _ _ _=>exact h
 have one:Vn L p=Vn L q+1->(pe w q=0\/¬pe w p=0)->l=1:=fun h r=>by
  cases tr with
  |out h'=>omega
  |one _ _=>rfl
  |cut _ r' _ _=>exact absurd ⟨h,r⟩ r'
 refine D4 (fun h1=>D4 (fun z=>?_) (fun z=>D4 (fun _=>?_) (fun e=>absurd h1 e))) (fun h1=>D4 (fun e=>absurd e h1) (fun _=>D lt (fun y=>h1 o) _ _ n L8))
 ·obtain rfl:=one o (.inl (U9.1 z));have X:=NQ.mono n S;exact Lst.push Lp C8a L8 rfl (y:=(⟨b,b⟩:I2)) rfl ⟨q,q,X,X,zb,zb⟩ dc o fun A' c' h' L'=>hK A' c' g7 h' n L'
 ·refine L8.call Lp fun g9 j=>(qw.mono (B6 n j)).at (NQ.mono (B6 n j) ia) hn hm za o fun u9 v9 aa s am ai=>⟨s,fun ag af L11=>⟨_,_,_,_,_,_,_,_,rfl,?_⟩⟩;refine L11.call Lp fun R g=>V9 (NQ.mono g am) ⟨B8 _,fun T ao L13=>⟨_,rfl,?_⟩⟩;rw[ai];have t:=B6 n (B6 j (B6 s g));refine D8 (fun nz=>?_) (fun z2=>D lt (fun y=>y.2.elim (fun y=>z (U9.2 y)) (fun y=>y (U9.1 z2))) _ _ t L13);obtain rfl:=one o (.inr fun y=>nz (U9.2 y));exact Lst.push Lp C8a L13 rfl (y:=(⟨a,b⟩:I2)) rfl ⟨p,q,NQ.mono t ia,NQ.mono t S,za,zb⟩ dc o fun A' c' h' L'=>hK A' c' R h' t L'
end
def SqF.self{w S:cX Z}(f:SqF w S)(hw:Nz w)(w0:w≠[])(cop:Cop w):SqF w w:=by
 obtain⟨W,G,c,c0,d,⟨N,e,y,n⟩,s,j,r,⟨N',α,β,i,t⟩⟩:=f.ex;have q:Dv G w:=⟨1,J8 c S,dc,fun x=>by rw[i1,aX,d,s,F4,bX]⟩
 have l:∀x,pe (dl w) x=(c:Y)*pe (dl W) x:=fun x=>by
  have k:=B2t (u:=w) (v:=W) (a:=1) (b:=(c:Y)) (fun x=>by rw[aX,d]) gz0 x;rw[aX]at k;rw[Na,Na,k]
 have dd:Dv G (dl w):=Dv.scale ⟨N,e,y,n⟩ l;have p:=cop G j q dd
 match G,r,p with
 | [g],_,_=>
  have g0:g≠0:=j (by simp);refine⟨hw,w0,aF _,w,[1],1,dc,fun x=>by rw[i1,aX],Dv.one _,fun x=>by rw[Z6,bH],fun _=>by simp,by simp,N'*g*c,α,β,aL (aL i g0) o,fun x=>?_⟩;have:=t x;have m:pe [g] x=(g:Y):=by show(g:Y)+x*0=g;grind
  rw[m]at this;rw[Z6,d,l,bO,bO,this];grind
def PwR(h:aR)(P m:J)(L:cX aY)(hp:aR):Prop:=∃(k:J) (b:QV),L=[.bool b.s,.slice b.A b.n b.c,.bool b.s2,.slice b.A2 b.n2 b.c2]/\h.le hp/\NQ hp b (2^k)/\m+k=P
section
variable {h:aR} {K:VP} {A:Option aQ} {n c N:J} {w:cX Z} {D:Z}
def Ti(qa:QLv 337 h A n w D)(hn2:2<=n)(hn:n<=6)(hl:D=lc w)(cop:Cop w)(rs:RtS 337 w)(rt:RtN w (N:J))(hN:N<=100) (hK:∀A' c' h',h.le h'->aS (IvR 949339) h' A' N (fun _=>())->K (.slice A' N c') h'):aN prog 76 #[.slice A n c] h K:=by refine(fnk func76 [(2,[],[(3,4)],[.bool false,.slice none 0 0,.bool false,.slice none 0 0])] (os:=[(4,[0,1,4,6,2,3,5,7,8])]) (own:=[3,4]) (wr:=[152])) ?_;have la:=qa.len;have w0:w≠[]:=by{rintro rfl;simp at la;omega};refine Ei o fun w1 h1 l1 i1=>⟨_,_,_,_,_,_,_,_,rfl,?_⟩;refine A3w (qa.mono l1) o o o o fun w2 f F l2 i2 aa fu fz=>⟨_,_,_,_,_,_,_,_,rfl,?_⟩;have ad:=B6 l1 l2;obtain⟨mu,y⟩:=C4z (PwR F 338);refine⟨fun L O=>∃m,PwR F 338 m L O,mu,⟨338,0,w1,rfl,B8 _,by have:((1:Z):Y)=2^0:=by{rw[bM];rfl};rw[<- this];exact NQ.mono l2 i1,rfl⟩,?_⟩;intro b0 ai ag ak b2 ah aj al O ae;obtain⟨m1,em,k,b,eL,lp,ib,hm⟩:∃m,mu _ O=m/\PwR F 338 m _ O:=⟨_,rfl,(y _ _ ae).1⟩;simp only[aH,bK,aM,and_true]at eL;obtain⟨rfl,⟨rfl,rfl,rfl⟩,rfl,rfl,rfl,rfl⟩:=eL;have d:k<=338:=o;have zk:Sz 700 (2^k:Y):=(B6u d).mono o;refine Om (a:=b) (b:=w2) (m:=700) ib (NQ.mono lp i2) zk (fz.mono o) o ⟨_,rfl,?_⟩;rw[A46];refine B9 (fun af=>?_) (fun T=>?_);{have lt:(2:Y)^k<f:=by{have:=T8.1 (show sgR (2^k-f)= -1 by have:=J9 (2^k-f);omega);grind};have hk:k<338:=by{by_cases hk:k<338;{exact hk};·exfalso;obtain rfl:k=338:=o;grind};refine Ei o fun w3 h3 l i3=>⟨_,_,_,_,_,_,_,_,rfl,l,?_⟩;refine Y4 (a:=b) (b:=w3) (m:=700) (NQ.mono l ib) i3 zk ((Sz.int (m:=2) (z:=2) (by unfold ZB;decide) o).mono o) o fun g H r i4=>⟨_,_,_,_,_,_,_,_,rfl,r,?_⟩;have Q:PwR F 338 (m1-1) [.bool g.s,.slice g.A g.n g.c,.bool g.s2,.slice g.A2 g.n2 g.c2] H:=⟨k+1,g,rfl,B6 lp (B6 l r),by rw[bN];exact i4,o⟩;exact⟨⟨_,Q⟩,by rw[em];exact Nat.lt_of_le_of_lt ((y _ _ ⟨_,Q⟩).2 _ Q) o⟩};have hf:f<=2^k:=by{by_cases c:(2:Y)^k<f;{exact absurd (by rw[T8.2 (show 2^k-f<0 from gz0)];decide) T};·exact Rat.not_lt.1 c};have u:=B6 ad lp;refine Oq (qa.mono u) hn2 hn o o hl cop fun A3 c3 h3 l q3=>⟨_,_,_,rfl,l,?_⟩;refine A3v q3 hn2 hn o o fun t A4 c4 H r ch r4 l6=>⟨_,_,_,rfl,r,?_⟩;have j:=B6 l r;refine Vg (NQ.mono j ib) fun w5 i5=>⟨_,_,_,_,_,_,_,_,rfl,B8 _,?_⟩;obtain⟨S,kk,k0,ek,f0,X⟩:=rs;have B:=f0.self qa.nz w0 cop;have sq:Sq w w (dl w::t):=Sq.of (W:=w) (G:=[1]) (c:=1) dc (fun x=>by rw[Go.Proofs.YteppbhimdjmabaaGreatDoor.i1,aX]) (Dv.one _) (fun x=>by rw[Z6,bH]) ch (fun Q t' e=>⟨1,dc,fun x=>by cases e;rw[Go.Proofs.YteppbhimdjmabaaGreatDoor.i1,aX,Na]⟩) (fun e=>by cases e);have tr:=Tr.ex (k:=k) (E:=949000) sq B qa.bw.allB o (X 338) d B4u 949000 0 _ _ o (LvI.start d);obtain⟨dd,d0,hd⟩:=Rk sq B.nz B.ne B.cop;have eN:=rt w (dl w) t (2^k) 1 dc (by simp[J8]) sq ⟨dd,d0,hd⟩ (aa.mono hf);have dn:=sq.down B (Rat.le_of_lt (LvI.start d).lt);have R:Vn (w::dl w::t) (-2^k)-Vn (w::dl w::t) (2^k)=N:=o;rw[R]at tr;have C:∀v∈w::dl w::t,v.length<=6:=fun v hv=>by{obtain⟨i,hi,rfl⟩:=List.getElem_of_mem hv;obtain⟨a,s,_,⟨D',μ,q,_,_,l6⟩,_⟩:=r4.at dc hi;rwa [aO,aT hi]at l6};have p:=B6 u j;refine Ye (P:=338) (E:=949000) (M:=347) (m:=337) o C hn o o o o 949000 N _ _ tr H H w5 b 0 0 none 0 _ o (qa.mono p) r4 i5 (NQ.mono j ib) (LvI.start d) Lst.nil o fun A' c' g' ac V L'=>?_;rw[cD]at L' ⊢;exact⟨_,_,_,rfl,hK A' c' ac (B6 p (B6 V L'.le)) (L'.row Lp)⟩
end
def UvR.ex{f:J->Y}{n m:J}(hs:∀i,i<n->Sz m (f i))(h0:0<n->f (n-1)≠0):∃w D,UvR f n w D/\WB (m+(1+n*m)) w/\ZB (1+n*m) D:=by have j:ZB (1+n*m) (Ai f n:Z):=Hj n hs;have d:(0:Z)<Ai f n:=by{have:=Pg f n;omega};have c:∀i,i<n->(scl (f i) (Ai f n):Y)=f i*((Ai f n:Z):Y):=fun i a=>A3e (Int.natCast_dvd_natCast.2 (Ph f n i a));refine⟨(aE n).map fun i=>scl (f i) (Ai f n),_,⟨by simp,d,fun i a=>by rw[Zw _ a];exact c i a,fun b=>?_,rfl⟩,WB.row fun i a=>A3d (hs i a) j,j⟩;have g:0<n:=by{rcases Nat.eq_zero_or_pos n with z|z;{subst z;exact absurd rfl b};·exact z};rw[Jk b,cL,cF,Zw _ o];intro e;have:=c (n-1) o;rw[e]at this;rcases Rat.mul_eq_zero.1 this.symm with z|z;{exact h0 g z};·exact F5 (N:=(Ai f n:Z)) o z
section
variable {h h':aR} {K:VP} {A A1 B:Option aQ} {n c c1 m N i:J} {ls:J->cX UInt8} {w:cX Z} {D:Z}
def B9c(uv:UvR (fun i=>rv (ls i)) n w D)(bw:WB m w)(bD:ZB m D)(r:aS NQr h A n (fun i=>rv (ls i))):QLv m h A n w D:=⟨uv.len,uv.nz,uv.pos,bw,bD,r.congr fun i a=>Wy (by have:=uv.pos;omega) (uv.eq i a).symm⟩
def C2s(uv:UvR (fun i=>rv (ls i)) n w D)(h1:1<=n)(e:ls (n-1)=[49]):D=lc w:=by have a:=uv.eq (n-1) o;have b:rv (ls (n-1))=1:=by{rw[e,show([49]:cX UInt8)=E7 1 by decide +kernel,F3]};rw[b,aX,uv.len]at a;exact(Rat.intCast_inj.1 a).symm
def Eg(r:aS SSr h A n ls)(hn:n<=65)(hl:∀i,i<n->(ls i).length<=140737488351232) (hK1:Uok n ls->∀A' c' h',h.le h'->aS NQr h' A' n (fun i=>rv (ls i))->K (.tuple #[.slice A' n c',.bool true]) h') (hK0:¬Uok n ls->∀A' n' c' h',h.le h'->K (.tuple #[.slice A' n' c',.bool false]) h'):aN prog 15 #[.slice A n c] h K:=by refine(fnk func15) ?_;refine B36 r oo hl (fun d b f o=>⟨_,_,_,_,rfl,Br.nt (B9 (fun e=>oo) (fun _=>?_))⟩) (fun no f k=>⟨_,_,_,_,rfl,Lk (hK0 (fun u=>no u.1) _ _ _ _ k)⟩);have row:aS NQr f (some ⟨b,0,none⟩) n (fun i=>rv (ls i)):=o.vis O6;refine B9 (fun g=>?_) (fun m=>hK1 ⟨d,fun l=>oo⟩ _ _ _ o.le row);rw[show C4 ((n:Z)-1)=((n-1:J):Z) by rw[C0]<;>omega];obtain⟨a,w,e,j,c0,c1,c2,c3⟩:=row.qat (show n-1<n from oo);refine⟨a,e,oo,oo,_,_,_,_,_,_,_,_,c0,c1,c2,c3,?_⟩;exact V9 (w:=w) j ⟨_,rfl,D4 (fun q=>hK0 (fun u=>u.lead oo (Rat.num_eq_zero.1 (Int.sign_eq_zero_iff_zero.1 q))) _ _ _ _ o.le) (fun nz=>hK1 ⟨d,fun _ e=>nz (by rw[e,<- B5s,F3];rfl)⟩ _ _ _ o.le row)⟩
def Yd{s:I2}{p q:Y}(ip:NQ h s.a p)(iq:NQ h s.b q)(hp:Sz m p)(hq:Sz m q)(hm:m<=1000000000)(hK:K (.agg #[.string (bs (E7 p)),.string (bs (E7 q))]) h): aN prog 154 #[.agg #[.bool s.a.s,.slice s.a.A s.a.n s.a.c,.bool s.a.s2,.slice s.a.A2 s.a.n2 s.a.c2,.bool s.b.s,.slice s.b.A s.b.n s.b.c,.bool s.b.s2,.slice s.b.A2 s.b.n2 s.b.c2]] h K:=by refine(fnk func154 (os:=[(1,[0,1,3,4,2,5,6,7])]) (own:=[1,2])) ?_;exact Ul ip hp o ⟨_,rfl,B8 _,Ul iq hq o ⟨_,rfl,B8 _,hK⟩⟩
def A3q{f:J->Y}{s:I2}{p q:Y}(r:aS NQr h A n f)(hn:n<=1000)(hs:∀i,i<n->Sz m (f i))(ip:NQ h s.a p)(iq:NQ h s.b q)(hp:Sz m p)(hq:Sz m q)(hm:m<=1000000000)(hK:∀A' n' c' s t h',h.le h'->K (.agg #[.slice A' n' c',.string s,.string t]) h'): aN prog 77 #[.agg #[.slice A n c,.bool s.a.s,.slice s.a.A s.a.n s.a.c,.bool s.a.s2,.slice s.a.A2 s.a.n2 s.a.c2,.bool s.b.s,.slice s.b.A s.b.n s.b.c,.bool s.b.s2,.slice s.b.A2 s.b.n2 s.b.c2]] h K:=by refine(fnk func77 (os:=[(1,[0,1,3,4,2,5,6,7])]) (own:=[1,2])) ?_;refine Yv r oo hs hm fun b e o=>⟨_,_,_,rfl,o.le,?_⟩;have d:=o.le;exact Yd (s:=s) (NQ.mono d ip) (NQ.mono d iq) hp hq hm ⟨_,_,rfl,B8 _,hK _ _ _ _ _ _ d⟩
def A6q(r:aS SSr h A1 n ls)(hn:n<=6)(hl:∀i,i<n->(ls i).length<=140737488351232)(hs:∀i,i<n->Sz 48 (rv (ls i)))(v:Vm n ls)(rt:∀w D,UvR (fun i=>rv (ls i)) n w D->RtN w (N:J))(rs:∀w D,UvR (fun i=>rv (ls i)) n w D->RtS 337 w)(hN:N<=100)(hi:i<=1000000) (hK1:i<N->∀A n c s t h',h.le h'->K (.tuple #[.agg #[.slice A n c,.string s,.string t],I 0]) h') (hK0:N<=i->∀A n c s t e h',h.le h'->e≠0->K (.tuple #[.agg #[.slice A n c,.string s,.string t],I e]) h'):aN prog 30 #[.slice A1 n c1,I (i:Z)] h K:=by refine(fnk func30 (own:=[4])) ?_;have f:=v.two;refine Eg r o hl (fun _ A2 c2 X M L=>⟨_,_,_,_,rfl,?_⟩) (fun G=>absurd v.u G);obtain⟨w,D,uv,C,F⟩:=UvR.ex (n:=n) (m:=48) hs (v.u.lead);have g:=C2s uv o v.one;have S:=B9c uv (m:=337) (C.mono o) (F.mono o) L;refine Gq (D4 (fun e=>o) (fun _=>?_));refine Oq S f hn o o g (v.cop w D uv) fun A3 c3 h3 E j=>⟨_,_,_,rfl,?_⟩;refine Ti j f hn g (v.cop w D uv) (rs w D uv) (rt w D uv) hN fun A4 c4 W k B=>⟨_,_,_,rfl,?_⟩;have d:=B6 M (B6 E k);refine B9 (fun z=>o) (fun _=>B9 (fun z=>hK0 o _ _ _ _ _ _ _ d dc) (fun z=>?_));obtain⟨a,s,R,⟨p,q,Q,H,y,sq⟩,b⟩:=B.at dc (show i<N from o);refine⟨a,R,o,o,_,_,_,_,_,_,_,_,_,_,_,_,_,_,_,_,b 0 _ rfl,b 1 _ rfl,b 2 _ rfl,b 3 _ rfl,b 4 _ rfl,b 5 _ rfl,b 6 _ rfl,b 7 _ rfl,?_⟩;have l:=j.mono k;exact A3q (s:=s) (m:=949339) l.row o (fun i _=>(l.sz i).mono o) Q H y sq o fun A' T V s t h' O=>⟨_,_,_,_,_,rfl,hK1 o _ _ _ _ _ h' (B6 d O)⟩
end
section
variable {h:aR} {K:VP} {A0 A1 A2 A3:Option aQ} {n0 c0 n c1 m c2 k c3:J} {ls ws:J->cX UInt8} {wl:J->J} {cs:J->J->cX UInt8}
def A6p(x:XtS h A1 n ls A2 m wl cs A3 k ws)(hK:∀B0 d0 e0 B1 d1 e1 B2 d2 e2 b h',h.le h'->(b=true↔Vok n ls m wl cs k ws)->K (.tuple #[.slice B0 d0 e0,.slice B1 d1 e1,.slice B2 d2 e2,.bool b]) h'): aN prog 6 #[.agg #[.slice A0 n0 c0,.slice A1 n c1,.slice A2 m c2,.slice A3 k c3]] h K:=by refine(fnk func6 [(9,[10,71],[],[.slice none 0 0,I 0])] (own:=[1])) ?_;have no:∀{h'},h.le h'->¬Vok n ls m wl cs k ws->K (.tuple #[.slice none 0 0,.slice none 0 0,.slice none 0 0,.bool false]) h':=fun {h'} l nv=>hK _ _ _ _ _ _ _ _ _ false h' l ⟨fun e=>absurd e dc,fun v=>absurd v nv⟩;have hn:=x.n1;have hm:=x.n2;refine Eg x.r1 o x.hl (fun u B1 d1 h1 O W=>⟨_,_,_,_,rfl,Gq ?_⟩) (fun E B1 b1 d1 h1 O=>⟨_,_,_,_,rfl,Lk (no O fun v=>E v.1.u)⟩);refine B9 (fun lt=>no O fun v=>by have:=v.1.two;omega) (fun ge=>?_);have H:2<=n:=o;rw[show C4 ((n:Z)-1)=((n-1:J):Z) by rw[C0]<;>omega];refine B9 (fun gt=>o) (fun _=>?_);obtain⟨a,w1,e1,i1,f0,f1,f2,f3⟩:=W.qat (show n-1<n from o);refine⟨a,e1,o,o,_,_,_,_,_,_,_,_,f0,f1,f2,f3,?_⟩;refine Ei o fun w2 h2 N i2=>⟨_,_,_,_,_,_,_,_,rfl,N,?_⟩;have C:=B6 O N;refine Om (a:=w1) (b:=w2) (m:=48) (NQ.mono N i1) i2 (x.hs _ o) (Sz.int (ZB.one o) o) o ⟨_,rfl,B8 _,?_⟩;rw[A46];have F:([49]:cX UInt8)=E7 1:=by{decide +kernel};have eo:((1:Z):Y)=1:=rfl;refine D8 (fun ne=>no C fun v=>ne (by rw[v.1.one,F,F3,eo,Rat.sub_self];rfl)) (fun eq=>?_);have e1:ls (n-1)=[49]:=by{have:=U9.1 eq;obtain⟨q,X⟩:=u.1 (n-1) o;rw[X,F3,eo]at this;rw[X,F,show q=1 from gz0]};obtain⟨w,D,uv,bw,bD⟩:=UvR.ex (n:=n) (m:=48) x.hs u.lead;have qa:=(B9c uv (m:=337) (bw.mono o) (bD.mono o) W).mono N;refine Fa qa o o o fun B3 d3 h3 R _ q3=>⟨_,_,_,rfl,R,?_⟩;refine Ot (M:=347) ((qa.mono R).up o) q3 H hn o o fun G g B4 d4 h4 l4 qG G0 hg lG iff=>⟨_,_,_,rfl,l4,?_⟩;have r:=B6 C (B6 R l4);refine D8 (fun ne=>no r fun v=>ne (by have:=iff.2 (v.1.cop w D uv);omega)) (fun eG=>?_);have vm:Vm n ls:=⟨u,H,e1,fun w' D' V=>by rw[(V.uniq uv).1];exact iff.1 o⟩;have k6:=x.n3;refine Eg (x.mono r).r3 o (fun j z=>by have:=x.l3 j z;omega) (fun uw B5 d5 h5 Q r5=>⟨_,_,_,_,rfl,Gq ?_⟩) (fun E B5 b5 d5 h5 Q=>⟨_,_,_,_,rfl,Lk (no (B6 r Q) fun v=>E v.2.2.1)⟩);have f:=B6 r Q;refine B9 (fun ge=>no f fun v=>by have:=v.2.2.2;omega) (fun ac=>?_);refine⟨fun L S=>∃(i:J) (B:Option aQ) (d:J),i<=m/\L=[.slice B i d,I (i:Z)]/\Lst (Any (α:=HV)) 28 h5 S B d i (fun _=>())/\∀j,j<i->Vcd n (wl j) (cs j),fun L _=>m-(iAt L 1).toNat,⟨0,_,_,o,rfl,Lst.nil,fun j z=>o⟩,?_⟩;rintro oA on oc t S ⟨i,B,d,hi,eL,L,z⟩;simp only[aH,aM,aK,true_and,and_true]at eL;obtain⟨⟨rfl,rfl,rfl⟩,rfl⟩:=eL;refine B9 (fun ae=>?_) (fun ad=>?_);{have c:on<m:=o;obtain⟨a,s,rfl,es,ec,rs⟩:=(x.mono f).r2.at c;have w6:=x.w6 on c;refine⟨a,rfl,o,o,_,_,_,C2 L.le ec,?_⟩;rw[es];refine L.call Em fun g6 p=>Eg (rs.mono F1 p) o (fun j z=>by have:=x.l2 on c j z;omega) (fun ui B7 d7 g7 A r7=>⟨A,fun h7 T L7=>⟨_,_,_,_,rfl,Gq ?_⟩⟩) (fun E B7 b7 d7 g7 A=>⟨A,fun h7 T L7=>⟨_,_,_,_,rfl,Lk (no (B6 f (B6 p (B6 A L7.le))) fun v=>E (v.2.1 on c).1)⟩⟩);refine B9 (fun ge=>no (B6 f (B6 p (B6 A L7.le))) fun v=>by have:=(v.2.1 on c).2;omega) (fun aa=>?_);refine Lst.push Em C62 L7 rfl (y:=(⟨B7,wl on,d7⟩:HV)) rfl trivial dc o fun A9 c9 h9 L9=>?_;rw[wiS on o];refine⟨⟨on+1,_,_,o,rfl,L9.weak (B6 p A),fun j af=>?_⟩,?_⟩;{by_cases e:j=on;{subst e;exact⟨ui,o⟩};·exact z j o};·show m-((on+1:J):Z).toNat<m-((on:J):Z).toNat;omega};·obtain rfl:on=m:=o;exact hK _ _ _ _ _ _ _ _ _ true S (B6 f L.le) ⟨fun _=>⟨vm,z,uw,o⟩,fun _=>rfl⟩
end
section
variable {α β α2 β2:Type} [E:Enc α] [E2:Enc α2] {R:aR->α->β->Prop} {e e2:bF} {h0 hp h':aR} {A A2:Option aQ} {c n c2 n2:J} {f:J->β} {R2:aR->α2->β2->Prop} {f2:J->β2}
def Lst2.up(m:Mon R)(m2:Mon R2)(l:cV R e R2 e2 h0 hp A c n f A2 c2 n2 f2)(x:hp.le h'):cV R e R2 e2 h0 h' A c n f A2 c2 n2 f2:=by obtain⟨g,o,xs,j,u,s,w,k,p,t,b,r,d⟩:=l;obtain⟨q,a,i⟩:=s.after x;exact⟨q,o,xs,j,B6 u a,i,w,k,p,t,b,r.mono m a,d.mono m2 a⟩
end
section
variable {h:aR} {K:VP} {A0 A1 A2 A3 B:Option aQ} {n0 c0 n c1 m c2 k c3 N d:J} {ls ws:J->cX UInt8} {wl:J->J} {cs:J->J->cX UInt8}
def C7y(r:aS SSr h B n ls)(hn:n<=1000000){K:Option aQ->J->J->aR->Prop}(x:∀A' n' c' h',h.le h'->K A' n' c' h'): wpH prog (bL 22 0 #[]) (fun v hp=>∃(A:Option aQ) (k c:J),v= .slice A k c/\Heap.le h hp/\wpH prog (cM #[22,22] 22 #[.slice A k c,.slice B n d]) (fun v1 hp1=>∃(A':Option aQ) (n' c':J),v1= .slice A' n' c'/\K A' n' c' hp1) hp) h:=by obtain⟨xs,i,e,j⟩:=r;subst e;refine Fd G2 ?_;intro b g;have a:=Heap.le_put (h:=h) (.cells #[] 9) g;refine⟨_,_,_,rfl,a,R9 G2 (PrivF.nil _ 9 (some ⟨b,0,none⟩)) (ys:=xs) rfl (i.mono a) (by simp;omega) (by simp;omega) ?_⟩;intro A' c' h' l f p;exact⟨_,_,_,rfl,x _ _ _ _ (B6 (B6 a f) p.le)⟩
def A18(x:XtS h A1 n ls A2 m wl cs A3 k ws)(v:Vm n ls)(rt:∀w D,UvR (fun i=>rv (ls i)) n w D->RtN w (N:J))(rs0:∀w D,UvR (fun i=>rv (ls i)) n w D->RtS 337 w)(hN:N<=100)(hK:∀A c h',h.le h'->K (.slice A N c) h'): aN prog 9 #[.agg #[.slice A0 n0 c0,.slice A1 n c1,.slice A2 m c2,.slice A3 k c3]] h K:=by refine(fnk func9 [(4,[3,4],[],[.slice none 0 0,I 0]),(9,[27],[(7,4)],[I 0,.slice none 0 0,.string ⟨#[]⟩,.string ⟨#[]⟩,.slice none 0 0])] (os:=[(11,[0,1,3,2,4,5,6,7,8])]) (own:=[1,5,7]) (wr:=[1000000000])) ?_;have hn:=x.n1;have hm:=x.n2;refine⟨fun L M=>∃(i:J) (A:Option aQ) (c:J),i<=N/\L=[.slice A i c,I (i:Z)]/\PtL h M A c i,fun L _=>N-(iAt L 1).toNat,⟨0,_,_,o,rfl,Lst.nil⟩,?_⟩;rintro z f Q t M ⟨i,A,c,hi,H,L⟩;simp only[aH,aM,aK,true_and,and_true]at H;obtain⟨⟨rfl,rfl,rfl⟩,rfl⟩:=H;refine L.call Em fun g r=>A6q (N:=N) (x.mono r).r1 hn x.hl x.hs v rt rs0 hN o (fun W Aq C O sq G E b=>⟨b,fun h3 l3 L3=>⟨_,_,_,_,_,_,rfl,D8 (fun e=>absurd rfl e) (fun _=>?_)⟩⟩) (fun S Aq C O sq G ee E b T=>⟨b,fun h3 l3 L3=>⟨_,_,_,_,_,_,rfl,D8 (fun e=>?_) (fun e=>absurd e T)⟩⟩);{have p:=B6 r b;refine⟨fun V u=>∃(j:J) (B:Option aQ) (d:J),j<=m/\V=[I (j:Z),.slice Aq C O,.string sq,.string G,.slice B j d]/\C8p E u B d j z Q f,fun V _=>m-(iAt V 0).toNat,⟨0,_,_,o,rfl,Lst2.of L3⟩,?_⟩;rintro tj q1 q2 q3 q4 q5 q6 l q8 u ⟨j,B,d,hj,eV,L4⟩;simp only[aH,aM,aK,Value.string.injEq,true_and,and_true]at eV;obtain⟨rfl,⟨rfl,rfl,rfl⟩,rfl,rfl,rfl,rfl,rfl⟩:=eV;refine B9 (fun ac=>?_) (fun aa=>?_);{obtain⟨a,s,rfl,es,ec,rs⟩:=(x.mono p).r2.at (show l<m from o);refine⟨a,rfl,o,o,_,_,_,C2 L4.le ec,?_⟩;rw[es];have w6:=x.w6 l o;refine C7y (rs.mono F1 L4.le) o fun A5 n5 c5 h6 l6=>?_;refine Lst2.pushG Em Em B1u (L4.up Em Em l6) rfl (y:=(⟨A5,n5,c5⟩:HV)) rfl trivial dc o fun A7 c7 h7 L7=>?_;rw[wiS l o];exact⟨⟨l+1,_,_,o,rfl,L7⟩,by simp only[U4];omega⟩};·obtain⟨F,o8,xs,R,q,X,w8,w9,_,_,hy,_,_⟩:=L4;have L8:PtL F u z Q f:=⟨F,o8,R,B8 _,X,w9,hy,fun i hi=>⟨R[i]'o,by rw[aT],trivial⟩⟩;refine Lst.push Em C8b L8 rfl (y:=(⟨q1,q2,q3,q4,q5,q6,l,q8⟩:FPv)) rfl trivial dc o fun A9 c9 h9 L9=>?_;rw[wiS f o];refine⟨⟨f+1,_,_,o,rfl,L9.weak (B6 p q)⟩,?_⟩;show N-((f+1:J):Z).toNat<N-((f:J):Z).toNat;omega};·obtain rfl:f=N:=o;exact hK _ _ _ (B6 r (B6 b L3.le))
end
structure CS where
 p':Z
 r':Z
 p:Z
 r:Z
def CS.next(s:CS)(a:Z):CS:=⟨s.p,s.r,s.p'+a*s.p,s.r'+a*s.r⟩
structure CSI (s:CS) (q x:Y):Prop where
 det:s.p*s.r'-s.p'*s.r=1\/s.p*s.r'-s.p'*s.r= -1
 eq:q*(s.r*x+s.r')=s.p*x+s.p'
 r0:0<=s.r/\0<=s.r'/\0<s.r+s.r'
def ab(x:Y):Y:=if x<0 then -x else x
section
variable {h:aR} {K:VP} {m:J} {a b w:QV} {p q:Y}
end
section
variable {h:aR} {K:VP} {x y:cX UInt8}
end
section
variable {h:aR} {K:VP} {A B:Option aQ} {n m a b:J} {ls ls2:J->cX UInt8}
def Vq{k:Z}(r:aS SSr h A n ls)(hn:n<=1000000000)(hK1:(∀i,i<n->((ls i).length:Z)<=k)->K (.bool true) h)(hK0:¬(∀i,i<n->((ls i).length:Z)<=k)->K (.bool false) h):aN prog 4 #[I k,.slice A n a] h K:=by refine(fnk func4 [(2,[9],[],[I 0])]) ?_;refine⟨fun L c=>∃i:J,i<=n/\L=[I (i:Z)]/\c=h/\∀j,j<i->((ls j).length:Z)<=k,fun L _=>n-(iAt L 0).toNat,⟨0,o,rfl,rfl,fun j l=>o⟩,?_⟩;rintro z c ⟨i,t,s,rfl,d⟩;obtain rfl:=sI1 s;refine B9 (fun g=>?_) (fun f=>?_);{have b:i<n:=o;obtain⟨x,rfl,m⟩:=r.sat b;refine⟨x,rfl,o,o,_,m,?_⟩;rw[J2];refine B9 (fun e=>hK0 fun q=>by have:=q i b;omega) (fun e=>?_);rw[wiS i o];refine⟨⟨i+1,o,rfl,rfl,fun j l=>?_⟩,by simp only[U4];omega⟩;by_cases p:j=i;{subst p;omega};·exact d j o};·have:i=n:=o;subst this;exact hK1 d
def Uz(x:aS SSr h A n ls)(y:aS SSr h B m ls2)(hn:n<=1000000000)(hK1:n=m->(∀i,i<n->ls i=ls2 i)->K (.bool true) h)(hK0:¬(n=m/\∀i,i<n->ls i=ls2 i)->K (.bool false) h):aN prog 14 #[.slice A n a,.slice B m b] h K:=by refine(fnk func14 [(4,[13],[],[I 0])]) ?_;refine D8 (fun e=>hK0 fun g=>e o) (fun e=>?_);have e:n=m:=o;subst e;refine⟨fun L d=>∃i:J,i<=n/\L=[I (i:Z)]/\d=h/\∀j,j<i->ls j=ls2 j,fun L _=>n-(iAt L 0).toNat,⟨0,o,rfl,rfl,fun j q=>o⟩,?_⟩;rintro z d ⟨i,w,t,rfl,f⟩;obtain rfl:=sI1 t;refine B9 (fun p=>?_) (fun l=>?_);{have c:i<n:=o;obtain⟨u,rfl,r⟩:=x.sat c;obtain⟨v,rfl,k⟩:=y.sat c;refine⟨u,rfl,o,o,_,r,v,rfl,o,o,_,k,?_⟩;dsimp only;rw[Ib];refine Br.not (B9 (fun e=>?_) (fun e=>hK0 fun g=>e (g.2 i c)));rw[wiS i o];refine⟨⟨i+1,o,rfl,rfl,fun j q=>?_⟩,by simp only[U4];omega⟩;by_cases s:j=i;{subst s;exact e};·exact f j o};·have:i=n:=o;subst this;exact hK1 rfl f
end
def Du{α β:Type}[E:Enc α]{R:aR->α->β->Prop}(m:Mon R){P:bJ}{t e:bF}{z:aY}{bytes:J}(st:SliceT P t e z E.default.size bytes){h:aR}{n:J}{pws:Array (J×aY)}(vs:cX aY)(ys:cX α)(hv:vs.map (fun v=>v.cells.toList)=ys.map enc)(hn:n=ys.length)(hlen:n<=1000)(hsz:E.default.size<=1000)(hp:pws.toList=(List.range' 0 vs.length).zip vs){f:J->β}(hR:∀i,i<n->∃w,ys[i]? = some w/\R h w (f i)){K:VP} (x:∀b h',h.le h'->aS R h' (some ⟨b,0,none⟩) n f->K (.slice (some ⟨b,0,none⟩) n n) h'):wpH P (bL t n pws) K h:=by have hl:vs.length=ys.length:=by{have:=congrArg cH hv;grind};refine Ah st (vs:=vs) (fun v c=>?_) o ?_ hp fun b a=>?_;{have:v.cells.toList∈ys.map enc:=gz0;obtain⟨y,_,g⟩:=List.mem_map.1 this;have:=congrArg cH g;rw[E.default.len]at this;grind};{exact Nat.le_trans (bU hlen hsz) dc};·refine x b _ (Heap.le_put _ a) ⟨ys,SlV.new _ _ _ _ _ _ (fun i v hv=>gz0),hn.symm,fun i k=>?_⟩;obtain⟨w,d,j⟩:=hR i k;exact⟨w,d,m _ _ _ _ (Heap.le_put _ a) j⟩
def exX:J->J->Y:=fun l _=>if l=0 then 1 else -1
def exW:J->Y:=fun _=>1
def B91:(mo 1 4).length=5:=by rfl
def C5c(l j:J):Sz 2 (exX l j):=by unfold exX;split;{exact⟨by show _<_;decide,by show _<_;decide⟩};·exact⟨by show _<_;decide,by show _<_;decide⟩
def eV:J->Y:=fun i=>if i%2=0 then 2 else 0
def szB(m:J)(q:Y):Bool:=decide (q.num.natAbs<2^m/\q.den<2^m)
def C2z{m:J}{q:Y}(h:szB m q=true):Sz m q:=by obtain⟨a,b⟩:=of_decide_eq_true h;exact⟨a,by assumption⟩
def szF{n m:J}{f:J->Y}(h:(aE n).all (fun i=>szB m (f i))=true):∀i,i<n->Sz m (f i):=fun i a=>C2z (List.all_eq_true.1 h i (List.mem_range.2 a))
def B9s{n k m:J}{f:J->J->Y}(h:(aE n).all (fun i=>(aE k).all fun j=>szB m (f i j))=true):∀i j,i<n->j<k->Sz m (f i j):=fun i j b a=>szF (f:=f i) (List.all_eq_true.1 h i (List.mem_range.2 b)) j a
def C94:∀i:Fin 5,ofS exW exX (mon 1 4 i) 2=eV i:=by decide +kernel
def B95:rkM eV 1 1=2:=by rfl
def C5e:rkM eV 1 2=2:=by decide +kernel
def C7w:Nq (fmM eV (frm 0) 1 1) 2=2:=by decide +kernel
def C97:Li (fmM eV (frm 0) 1 1) 2 0= -1:=by decide +kernel
def C96:Li (fmM eV (frm 0) 1 1) 2 1=0:=by decide +kernel
def C95:Li (fmM eV (frm 0) 1 1) 2 2=1:=by decide +kernel
def e_c:∀i:Fin 2,B0w eV 1 1 (fmM eV (frm 0) 1 1) 0 i=if i.val=0 then 0 else 1:=by decide +kernel
def e_w:∀i:Fin 2,wgX eV 1 1 (fmM eV (frm 0) 1 1) (Li (fmM eV (frm 0) 1 1) 2) 2 i=if i.val=0 then 1 else 0:=by decide +kernel
def C93:∀k:Fin 3,0<=ldA (mtx (fl (We eV 1 2) 3) 3) k k k:=by decide +kernel
def C92:∀k i:Fin 3,k.val<i.val->ldA (mtx (fl (We eV 1 2) 3) 3) k k k=0->ldA (mtx (fl (We eV 1 2) 3) 3) k i k=0:=by decide +kernel
def C7v:psd eV 1 2:=by exact fun k a=>⟨C93 ⟨k,a⟩,fun z i c b=>C92 ⟨k,a⟩ ⟨i,b⟩ c z⟩
def C91:∀i:Fin 2,(Km (fl (A2f (kpw (fmM eV (frm 0) 1 1) 2)) 2) (kpw (fmM eV (frm 0) 1 1) 2 2) 2 2).cs.length<=i.val->(Km (fl (A2f (kpw (fmM eV (frm 0) 1 1) 2)) 2) (kpw (fmM eV (frm 0) 1 1) 2 2) 2 2).R i 2=0:=by decide +kernel
def C90:∀i:Fin 2,(Km (fl (A2f (kpw (fmM eV (frm 0) 1 1) 2)) 2) (fun i=>fmM eV (uni 0) 1 1 i 0) 2 2).cs.length<=i.val->(Km (fl (A2f (kpw (fmM eV (frm 0) 1 1) 2)) 2) (fun i=>fmM eV (uni 0) 1 1 i 0) 2 2).R i 2=0:=by decide +kernel
def C8z:∀i:Fin 2,(Km (fl (hkl (Li (fmM eV (frm 0) 1 1) 2) 2) 2) (rgt eV 1 1 (fmM eV (frm 0) 1 1)) 2 2).cs.length<=i.val->(Km (fl (hkl (Li (fmM eV (frm 0) 1 1) 2) 2) 2) (rgt eV 1 1 (fmM eV (frm 0) 1 1)) 2 2).R i 2=0:=by decide +kernel
def e_b:∀n:Fin 3,2*(3^n.val*bnd (n.val+1) 15)+1<=40000000/\7^n.val*15<=40000000:=by decide +kernel
def big{q:Y}(h:Sz 15 q):Sz 10000000 q:=h.mono o
def C7u:XOk eV 1 1 0 15:=by have i0:∀{k:J},k<=0->k=0:=fun h=>by{omega};have d:∀{k:J},k<1->k=0:=fun h=>by{omega};refine⟨o,o,o,fun n m=>?_,fun k b=>?_,fun j c i k a b=>?_,fun k b=>absurd b o,?_,?_,?_,fun j c=>?_,fun j c=>?_,?_,?_,fun k i e g l=>?_,fun i n e g=>?_,?_,?_⟩;{rw[B95]at m;exact e_b ⟨n,o⟩};{obtain rfl:=i0 b;refine⟨B9s (f:=fun i k=>ivM eV 1 1 i k) (by decide +kernel),B9s (f:=fun i k=>B17 eV (frm 0) 1 1 i k) (by decide +kernel),B9s (f:=fun i k=>fmM eV (frm 0) 1 1 i k) (by decide +kernel),fun k b i a=>?_⟩;exact B9s (n:=3) (k:=2) (f:=fun k i=>kpw (fmM eV (frm 0) 1 1) (rkM eV 1 1) k i) (by decide +kernel) k i (by rw[B95]at b;omega) (by assumption)};{obtain rfl:=d c;exact⟨B9s (n:=2) (k:=2) (f:=fun i k=>B17 eV (uni 0) 1 1 i k) (by decide +kernel) i k a b,szF (n:=2) (f:=fun i=>fmM eV (uni 0) 1 1 i 0) (by decide +kernel) i a⟩};{exact C7w};{exact fun i a=>C91 ⟨i,a⟩};{exact fun i a=>big (szF (n:=2) (f:=fun i=>C2m (fmM eV (frm 0) 1 1) 2 i) (by decide +kernel) i a)};{obtain rfl:=d c;exact fun i a=>C90 ⟨i,a⟩};{obtain rfl:=d c;exact fun i a=>big (szF (n:=2) (f:=fun i=>B0w eV 1 1 (fmM eV (frm 0) 1 1) 0 i) (by decide +kernel) i a)};{rw[B95];exact fun i a=>szF (n:=3) (f:=fun i=>Li (fmM eV (frm 0) 1 1) 2 i) (by decide +kernel) i o};{exact szF (f:=fun k=>pws (Li (fmM eV (frm 0) 1 1) 2) 2 k) (by decide +kernel)};{rw[B95]at e l ⊢;exact B9s (n:=3) (k:=3) (f:=fun k i=>psT (Li (fmM eV (frm 0) 1 1) 2) 2 (pws (Li (fmM eV (frm 0) 1 1) 2) 2) k i) (by decide +kernel) k i o o};{rw[B95]at e g;exact B9s (n:=2) (k:=3) (f:=fun i n=>rgS eV 1 1 (fmM eV (frm 0) 1 1) i n) (by decide +kernel) i n o o};{exact fun i a=>C8z ⟨i,a⟩};·exact fun i a=>big (szF (n:=2) (f:=fun i=>wgX eV 1 1 (fmM eV (frm 0) 1 1) (Li (fmM eV (frm 0) 1 1) 2) 2 i) (by decide +kernel) i a)
section
variable {h:aR} {K:VP}
def B8q{α:Type}(w:α){i:J}(hi:i<1):[w][i]? = some w:=by grind
def A4w(gl:Gl h)(hK:∀h',h.le h'->K (.bool true) h'):aN prog 5 #[] h K:=by refine(fnk func5 (own:=[1,2])) ?_;refine Ei o fun z h1 l1 i1=>⟨_,_,_,_,_,_,_,_,rfl,?_⟩;refine Du (n:=1) O6 Tg [z.v] [z] rfl rfl o dc rfl (f:=exX 0) (fun i a=>⟨z,B8q z a,by assumption⟩) fun b2 h2 l2 r2=>⟨_,_,_,rfl,?_⟩;refine Ei o fun y h3 l3 i3=>⟨_,_,_,_,_,_,_,_,rfl,?_⟩;refine Du (n:=1) O6 Tg [y.v] [y] rfl rfl o dc rfl (f:=exX 1) (fun i a=>⟨y,B8q y a,by assumption⟩) fun b4 h4 l4 r4=>⟨_,_,_,rfl,?_⟩;refine Du (n:=2) (C51 1) C62 [.slice (some ⟨b2,0,none⟩) 1 1,.slice (some ⟨b4,0,none⟩) 1 1] [(⟨some ⟨b2,0,none⟩,1,1⟩:HV),⟨some ⟨b4,0,none⟩,1,1⟩] rfl rfl o dc rfl (f:=exX) (fun i a=>by rcases(show i=0\/i=1 from o)with rfl|rfl;{exact⟨_,rfl,rfl,aF _,r2.mono O6 (B6 l3 l4)⟩};·exact⟨_,rfl,rfl,aF _,r4⟩) fun b5 h5 l5 r5=>⟨_,_,_,rfl,?_⟩;refine Ei o fun F h6 l6 i6=>⟨_,_,_,_,_,_,_,_,rfl,?_⟩;refine Ei o fun X h7 l7 i7=>⟨_,_,_,_,_,_,_,_,rfl,?_⟩;refine Du (n:=2) O6 Tg [F.v,X.v] [F,X] rfl rfl o dc rfl (f:=exW) (fun i a=>by rcases(show i=0\/i=1 from o)with rfl|rfl;{exact⟨_,rfl,by show NQ h7 F 1;simpa using NQ.mono l7 i6⟩};·exact⟨_,rfl,by assumption⟩) fun b8 h8 l8 r8=>⟨_,_,_,rfl,?_⟩;have q:=B6 l6 (B6 l7 l8);have G:=B6 l1 (B6 l2 (B6 l3 (B6 l4 (B6 l5 q))));refine B26 (v:=1) (D:=4) (RowsV.of (r5.mono (C51 1) q)) r8 o o o o o (fun l j _ _=>C5c l j) (fun _ _=>B32.mono o) fun A9 c9 h9 l9 O=>⟨_,_,_,_,_,rfl,?_⟩;have sV:∀i,i<(mo 1 4).length->Sz 15 (eV i):=fun i a=>szF (n:=5) (f:=eV) (by rfl) i (by assumption);have O:=O.congr (f':=eV) fun i a=>by{rw[B91]at a;exact C94 ⟨i,a⟩};refine A3l O (by rw[B91];omega) sV o fun A10 ae af C M=>⟨_,_,_,_,_,rfl,?_⟩;have c:=B6 G (B6 l9 C);refine Yj (gl.mono c) (V:=eV) (m:=15) (D:=4) (v:=1) ⟨o,o,o,M,sV,o⟩ o (aF _) (d:=2) o (fun e=>o) (fun _ _ no=>absurd ⟨by rw[C5e,B95],by rw[C5e];omega,C7v⟩ no) fun d' ed _ _ _ _=>?_;obtain rfl:d'=1:=o;refine⟨0,15,C7u,fun FA fc MA mc CA cc WA wc ai Q xt=>⟨_,_,_,_,_,_,_,_,_,_,_,_,_,rfl,D4 (fun _=>?_) (fun e=>absurd rfl e)⟩⟩;have w:=B6 c Q;obtain⟨xf,xm,xc,T⟩:=xt;rw[B95]at xm T ⊢;have ad:∀t,t<2->B0w eV 1 1 (fmM eV (frm 0) 1 1) 0 t=if t=0 then 0 else 1:=fun t E=>e_c ⟨t,E⟩;have mw:∀t,t<2->wgX eV 1 1 (fmM eV (frm 0) 1 1) (Li (fmM eV (frm 0) 1 1) 2) 2 t=if t=0 then 1 else 0:=fun t E=>e_w ⟨t,E⟩;have s:({data:=#[48] }:ByteArray)=bs (E7 0):=t0;have k:({data:=#[49] }:ByteArray)=bs (E7 1):=t1;have B:({data:=#[45,49] }:ByteArray)=bs (E7 (-1)):=by{decide +kernel};have tc:trN (B0w eV 1 1 (fmM eV (frm 0) 1 1) 0) 2=2:=by{unfold trN;grind};have tw:trN (wgX eV 1 1 (fmM eV (frm 0) 1 1) (Li (fmM eV (frm 0) 1 1) 2) 2) 2=1:=by{unfold trN;rw[iP gz0];unfold trN;grind};rw[tw]at T ⊢;refine Du (n:=3) F1 G2 [.string _,.string _,.string _] [E7 (-1),E7 0,E7 1] (by rw[B,s,k];rfl) rfl o dc rfl (f:=fun i=>E7 (if i=0 then -1 else if i=1 then 0 else 1)) (fun i a=>by grind) fun aj L b W=>⟨_,_,_,rfl,?_⟩;refine Uz (xm.mono F1 b) W o (fun _ _=>?_) (fun no=>absurd ⟨rfl,fun i a=>?_⟩ no);rotate_left;{rcases(show i=0\/i=1\/i=2 from o)with rfl|rfl|rfl;{rw[C97];rfl};{rw[C96];rfl};·rw[C95];rfl};refine⟨_,rfl,B5g (B5g ?_)⟩;obtain⟨a0,ws,rfl,⟨H,p⟩,R⟩:=(xc.mono B3f b).at dc (show 0<1 from o);have u:(C80 eV 1 1 0 0).1=2:=by{show trN _ (rkM _ 1 1)=2;rw[B95];exact tc};have H:ws.n=2:=H.trans u;have p:aS SSr L ws.A 2 (fun i=>E7 (B0w eV 1 1 (fmM eV (frm 0) 1 1) 0 i)):=by{have p:=p;rw[u]at p;exact p};have:=R 0 _ rfl;rw[Ju]at this;refine⟨a0,rfl,o,o,_,_,_,this,?_⟩;rw[H];refine Du (n:=2) F1 G2 [.string _,.string _] [E7 0,E7 1] (by rw[s,k];rfl) rfl o dc rfl (f:=fun i=>E7 (if i=0 then 0 else 1)) (fun i a=>by grind) fun ah aa g N=>⟨_,_,_,rfl,?_⟩;refine Uz (p.mono F1 g) N o (fun _ _=>?_) (fun no=>absurd ⟨rfl,fun i a=>?_⟩ no);rotate_left;{grind};refine⟨_,rfl,B5g ?_⟩;refine Du (n:=1) F1 G2 [.string _] [E7 1] (by rw[k];rfl) rfl o dc rfl (f:=fun i=>E7 1) (fun i a=>by grind) fun ag ac r S=>⟨_,_,_,rfl,?_⟩;refine Uz (T.mono F1 (B6 b (B6 g r))) S o (fun _ _=>?_) (fun no=>absurd ⟨rfl,fun i a=>?_⟩ no);rotate_left;{grind};exact⟨_,rfl,hK _ (B6 w (B6 b (B6 g r)))⟩
end
def RowV.listS{h:aR}{A:Option aQ}{n:J}{ls:J->cX UInt8}(r:aS SSr h A n ls):SlF h A ((aE n).map ls):=by obtain⟨xs,s,rfl,q⟩:=r;have:xs=(aE xs.length).map ls:=by{refine List.ext_getElem (by simp) fun i a b=>?_;have:=q.get (i:=i) a a;rw[List.getElem_map,List.getElem_range];exact this};rw[<- this];exact s
section
variable {h:aR} {A0 A1 A2 A3:Option aQ} {n0 c0 n c1 m c2 k c3:J} {ls ws:J->cX UInt8} {wl:J->J} {cs:J->J->cX UInt8}
def law_extractRefuses(gl:Gl h)(r1:aS SSr h A1 n ls)(r2:RowsS h A2 m wl cs)(r3:aS SSr h A3 k ws):aN prog 3 #[.agg #[.slice A0 n0 c0,.slice A1 n c1,.slice A2 m c2,.slice A3 k c3]] h (C85 h):=by
 refine(fnk func3 [(4,[44],[],[I 0])] (os:=[(1,[0,1,2,3,4,5,6,7,8,9,10,11,12,13,14,15,16,18,19,21,22,17,20,23,24,25,26])]) (own:=[1]) (wr:=[1000000000])) ?_;have f:∀{hq:aR} {K':VP},h.le hq->(∀W,hq.le W->K' (.bool true) W)->aN prog 5 #[] hq K':=fun l kk=>A4w (gl.mono l) kk;have D:∀{hq:aR},h.le hq->aN prog 5 #[] hq (fun r F=>∃t,r= .bool t/\C85 h (.bool t) F):=fun l=>f l fun W l'=>⟨_,rfl,rfl,B6 l l'⟩;refine B9 (fun _=>D (B8 _)) (fun hn=>B9 (fun _=>D (B8 _)) (fun hk=>B9 (fun _=>D (B8 _)) (fun hm=>?_)));refine Fd G2 ?_;intro be ad;have H:=Heap.le_put (h:=h) (.cells #[] 9) ad;have s1:=(r1.mono F1 H).listS;refine⟨_,_,_,rfl,H,R9 (α:=cX UInt8) G2 (PrivF.nil _ 9 (some ⟨be,0,none⟩)) (ys:=(aE n).map ls) (by simp) s1 (by simp;omega) (by simp;omega) ?_⟩;intro A5 c5 h2 g2 l2 Q;have R:=B6 l2 Q.le;have S:=B6 H R;refine⟨_,_,_,rfl,R9 (α:=cX UInt8) G2 Q (ys:=(aE k).map ws) (by simp) (r3.mono F1 S).listS (by simp;omega) (by simp;omega) ?_⟩;intro A6 c6 h3 g3 l3 M;refine⟨_,_,_,rfl,?_⟩;have d:=B6 H (B6 l2 (B6 l3 M.le));have hL:(([]++(aE n).map ls)++(aE k).map ws).length<=1000000000:=by simp;omega
 have E:=M.sl
 have m1:∀i,i<n->ls i∈([]++(aE n).map ls)++(aE k).map ws:=fun i y=>by
  simp only[List.mem_append,List.mem_map,cO];exact .inl (.inr ⟨i,y,rfl⟩)
 have m2:∀i,i<k->ws i∈([]++(aE n).map ls)++(aE k).map ws:=fun i y=>by
  simp only[List.mem_append,List.mem_map,cO];exact .inr ⟨i,y,rfl⟩
 generalize ([]++(aE n).map ls)++(aE k).map ws=L at *;have rL:aS SSr h3 A6 L.length (fun i=>L.getD i []):=⟨L,E,rfl,fun i y=>⟨L[i],aT y,by simp[List.getD,y]⟩⟩;refine Vq rL hL (fun sL=>⟨_,rfl,B8 _,Br.nt ?_⟩) (fun _=>⟨_,rfl,B8 _,Lk (D d)⟩)
 have al:∀s∈L,s.length<=12:=fun s hs=>by
  obtain⟨i,y,e⟩:=List.getElem_of_mem hs;have:=sL i y;rw[show L.getD i []=s by simp[List.getD,y,e]]at this;omega
 refine⟨fun V F=>∃i:J,i<=m/\V=[I (i:Z)]/\F=h3/\∀j,j<i->wl j<=6/\∀t,t<wl j->(cs j t).length<=12,fun V _=>m-(iAt V 0).toNat,⟨0,o,rfl,rfl,fun j G=>o⟩,?_⟩;rintro z F ⟨i,y,eV,rfl,G⟩;obtain rfl:=sI1 eV;refine B9 (fun af=>?_) (fun ae=>?_)
 ·have T:i<m:=o;obtain⟨a,s,ea,es,ec,rs⟩:=(r2.mono d).at T;refine⟨a,ea,o,o,_,_,_,ec,?_⟩;rw[es];refine B9 (fun _=>D d) (fun h6=>?_);refine Vq rs o (fun sc=>⟨_,rfl,Br.nt ?_⟩) (fun _=>⟨_,rfl,Lk (D d)⟩);rw[wiS i o];refine⟨⟨i+1,o,rfl,rfl,fun j ag=>?_⟩,by simp only[U4];omega⟩;by_cases e:j=i;·subst e;exact⟨o,fun t ht=>by have:=sc t ht;omega⟩
  ·exact G j o
 ·obtain rfl:i=m:=o;have x:XtS F A1 n ls A2 i wl cs A3 k ws:=⟨r1.mono F1 d,r2.mono d,r3.mono F1 d,o,o,o,fun j h=>(G j h).1,fun j h=>al _ (m1 j h),fun j h=>(G j h).2,fun j h=>al _ (m2 j h)⟩;clear G m1 m2 al sL rL E M Q s1;refine A6p x fun _ _ _ _ _ _ _ _ _ b ai c hb=>⟨_,_,_,_,_,_,_,_,_,_,rfl,?_⟩;have q:=B6 d c
  cases b with
  |false=>
   have nv:¬Vok n ls i wl cs k ws:=fun v=>absurd (hb.2 v) dc;refine Pp (gl.mono q) (x.mono c) (fun _ O B=>⟨_,_,_,_,rfl,?_⟩) (fun v=>absurd v nv);refine G7 Oe (zx:=(0:Z)) rfl o o o o ?_;intro bi C;rw[aW];have u:=A26 (e:=3) C (aJ i (0:Z));have g:=B6 B u;refine⟨_,_,_,rfl,u,Pq (gl.mono (B6 q g)) (x.mono (B6 c g)) (Rv _ _ _ _) (fun _ X p=>⟨_,_,rfl,p,Lk ?_⟩) (fun v=>absurd v nv)⟩;have w:=B6 q (B6 g p);refine f w fun aa A=>⟨_,rfl,B5g (D4 (fun _=>D4 (fun _=>D4 (fun _=>⟨by rw[W6];rfl,B6 w A⟩) (fun e=>absurd rfl e)) (fun e=>absurd rfl e)) (fun e=>absurd rfl e))⟩
  |true=>
   have v:=hb.1 rfl;refine Pp (gl.mono q) (x.mono c) (fun nv=>absurd v nv) (fun _ N A7 c7 O B rt rs hN=>⟨_,_,_,_,rfl,?_⟩);refine G7 Oe (zx:=(0:Z)) rfl o o o o ?_;intro bi C;rw[aW];have u:=A26 (e:=3) C (aJ i (0:Z));have g:=B6 B u;refine⟨_,_,_,rfl,u,Pq (gl.mono (B6 q g)) (x.mono (B6 c g)) (Rv _ _ _ _) (fun nv=>absurd v nv) (fun _ _ X p=>⟨_,_,rfl,p,Br.nt ?_⟩)⟩;have l5:=B6 c (B6 g p);have w:=B6 d l5;refine f w fun aa A=>⟨_,rfl,B5g (D4 (fun _=>D4 (fun _=>?_) (fun e=>absurd rfl e)) (fun e=>absurd rfl e))⟩;refine A18 (x.mono (B6 l5 A)) v.1 rt rs hN fun A8 c8 ah ac=>⟨_,_,_,rfl,by rw[beq_self_eq_true],B6 w (B6 A ac)⟩
end
end Go.Proofs.YteppbhimdjmabaaGreatDoor
namespace Go.Proofs.YteppbhimdjmabaaGreatDoor
set_option maxRecDepth 20000
open Go Go.RowKit
def C5r(s:ByteArray):bs s.data.toList=s:=by cases s;simp[bs]
def Vv{hq9:Type}{enc:bF×aY->hq9}{P:bJ}{W:World}{base:J}{sp:J->Bool}{held:Bool}{t e:bF}{fuel:J}{A:Option aQ}{len cap:J}{x:DataW hq9×cX MemPlace}(ht:P.underlying t=some (.slice e))(he:P.underlying e=some .string)(hc:P.cellsOf e=1) (hf:DataW.trod enc P W base sp held fuel t [.slice A len cap]=some x):∃ls:J->cX UInt8,aS SSr (cP W) A len ls/\len<=maxLen:=by rcases Deep.open_strs ht he hc hf with⟨b,_⟩|⟨a,l,c,m,Sx,b,_,hl,n,g,_,d⟩;{simp at b;obtain⟨rfl,rfl,rfl⟩:=b;exact⟨fun _=>[],RowV.nil,Nat.zero_le _⟩};·simp at b;obtain⟨rfl,rfl,rfl⟩:=b;have k:len<=m:=by{rw[g];split<;>omega};have sl:SlV (cP W) (some a) (((aE len).map fun i=>(Sx i).data.toList).map fun l=>Value.string (bs l)):=by{refine .inr ⟨a,rfl,fun i v f=>?_⟩;rw[bI,bI]at f;by_cases j:i<len;{rw[List.getElem?_range j]at f;simp only[Option.map_some,Option.some.injEq,C5r]at f;rw[<- f];exact Kt (d i o).1};·rw[List.getElem?_eq_none (by simpa using j)]at f;cases f};have:=B25 sl;rw[cL,cF]at this;exact⟨_,this,o⟩
end Go.Proofs.YteppbhimdjmabaaGreatDoor
namespace Go.Proofs.YteppbhimdjmabaaGreatDoor
set_option maxRecDepth 20000
open Go Go.RowKit
def B2z{hq9:Type}{enc:bF×aY->hq9}{P:bJ}{W:World}{base:J}{sp:J->Bool}{held:Bool}{t e1 e:bF}{fuel:J}{A:Option aQ}{len cap:J}{x:DataW hq9×cX MemPlace}(ht:P.underlying t=some (.slice e1))(h1:P.underlying e1=some (.slice e))(he:P.underlying e=some .string)(hc1:P.cellsOf e1=1)(hc:P.cellsOf e=1)
 (hf:DataW.trod enc P W base sp held fuel t [.slice A len cap]=some x):∃(wl:J->J) (f:J->J->cX UInt8),RowsS (cP W) A len wl f:=by
 rcases Deep.open_slice1 ht hc1 hf with⟨b,_⟩|⟨a,l,c,m,n,V,D,Pl,b,_,hl,E,q,_,g⟩
 ·simp at b;obtain⟨rfl,rfl,rfl⟩:=b;exact⟨fun _=>0,fun _ _=>[],[],SlF.nil,rfl,fun i d=>o⟩
 ·simp at b;obtain⟨rfl,rfl,rfl⟩:=b;have B:len<=m:=by rw[q];split<;>omega
  have k:∀i,i<len->∃s:HV,V i= .slice s.A s.n s.c:=by
   intro i d;rcases Deep.open_strs h1 he hc (g i o).2 with⟨b,_⟩|⟨a,l,c,m,Sx,b,_⟩;·simp at b;exact⟨⟨none,0,0⟩,b⟩
   ·simp at b;exact⟨⟨some a,l,c⟩,b⟩
  let hv:J->HV:=fun i=>if h:i<len then Classical.choose (k i h)else⟨none,0,0⟩
  have p:∀i,i<len->V i= .slice (hv i).A (hv i).n (hv i).c:=by
   intro i d;have:hv i=Classical.choose (k i d):=dif_pos d;rw[this];exact Classical.choose_spec (k i d)
  have row:∀i,i<len->∃w:J->cX UInt8,aS SSr (cP W) (hv i).A (hv i).n w:=by
   intro i d;have y:=(g i o).2;rw[p i d]at y;obtain⟨w,r,_⟩:=Vv h1 he hc y;exact⟨w,r⟩
  let f:J->J->cX UInt8:=fun i=>if h:i<len then Classical.choose (row i h)else fun _=>[]
  have z:∀i,i<len->aS SSr (cP W) (hv i).A (hv i).n (f i):=by
   intro i d;have:f i=Classical.choose (row i d):=dif_pos d;rw[this];exact Classical.choose_spec (row i d)
  refine⟨fun i=>(hv i).n,f,(aE len).map hv,?_,by simp,fun i d=>⟨hv i,by simp[d],rfl,z i d⟩⟩
  have u:((aE len).map hv).flatMap Go.Proofs.YteppbhimdjmabaaGreatDoor.enc=(aE len).map fun i=>Value.slice (hv i).A (hv i).n (hv i).c:=by
   have C:∀l:cX HV,l.flatMap Go.Proofs.YteppbhimdjmabaaGreatDoor.enc=l.map fun s=>Value.slice s.A s.n s.c:=by
    intro l
    induction l with
    |nil=>rfl
    |cons x l ih=>rw[List.flatMap_cons,ih];rfl
   rw[C,List.map_map];rfl
  show SlV (cP W) (some a) (((aE len).map hv).flatMap Go.Proofs.YteppbhimdjmabaaGreatDoor.enc);rw[u];refine .inr ⟨a,rfl,fun i v j=>?_⟩;rw[bI]at j;by_cases d:i<len
  ·rw[List.getElem?_range d]at j;simp only[Option.map_some,Option.some.injEq]at j;rw[<- j,<- p i d];exact Kt (g i o).1
  ·rw[List.getElem?_eq_none (by simpa using d)]at j;cases j
end Go.Proofs.YteppbhimdjmabaaGreatDoor
namespace Go.Proofs.YteppbhimdjmabaaGreatDoor
set_option maxRecDepth 20000
open Go Go.RowKit
def open_ext{hq9:Type}{enc:bF×aY->hq9}{P:bJ}{W:World}{base:J}{sp:J->Bool}{held:Bool}{r:Reach}{b0:J}{t e1 e:bF}{f0 f1 f2 f3:Field}{v:aY}{d:DataW hq9}{ps:cX MemPlace}(ht:P.underlying t=some (.struct #[f0,f1,f2,f3]))(u0:P.underlying f0.type=some (.slice e))(u1:P.underlying f1.type=some (.slice e))(u2:P.underlying f2.type=some (.slice e1))(u3:P.underlying f3.type=some (.slice e))(v1:P.underlying e1=some (.slice e))(ue:P.underlying e=some .string)
 (hoff:(f0.offset=0/\f1.offset=1/\f2.offset=2/\f3.offset=3)/\P.cellsOf f0.type=1/\P.cellsOf f1.type=1/\P.cellsOf f2.type=1/\P.cellsOf f3.type=1/\P.cellsOf t=4/\P.cellsOf e1=1/\P.cellsOf e=1)
 (hval:Value.okWide P W r b0 t v) (hd:DataW.Trod enc P W base sp held t v d ps):∃(A0:Option aQ) (n0 c0:J) (A1:Option aQ) (n1 c1:J) (A2:Option aQ) (n2 c2:J) (A3:Option aQ) (n3 c3:J) (ls:J->cX UInt8) (wl:J->J) (cs:J->J->cX UInt8) (ws:J->cX UInt8),v= .agg #[.slice A0 n0 c0,.slice A1 n1 c1,.slice A2 n2 c2,.slice A3 n3 c3]/\aS SSr (cP W) A1 n1 ls/\RowsS (cP W) A2 n2 wl cs/\aS SSr (cP W) A3 n3 ws:=by
 obtain⟨⟨R,M,L,O⟩,c0,c1,c2,c3,S,y,s⟩:=hoff;obtain⟨cs,rfl,f⟩:=WideShapes.okWide_struct ht hval;obtain⟨E,N⟩:=hd;obtain⟨xs,n,_,T,hl,B,C⟩:=DataW.trod_struct ht N
 obtain⟨a0,a1,a2,a3,rfl⟩:∃a b c d,xs=[a,b,c,d]:=by
  match xs,B with
  | [a,b,c,d],_=>exact⟨a,b,c,d,rfl⟩
 have u:=(show _=some a0 from C 0 f0 rfl);have j:=(show _=some a1 from C 1 f1 rfl);have i:=(show _=some a2 from C 2 f2 rfl);have k:=(show _=some a3 from C 3 f3 rfl);rw[R,c0]at u;rw[M,c1]at j;rw[L,c2]at i;rw[O,c3]at k;rw[S]at f;have g:cs.toList.length=4:=by simpa using f
 obtain⟨p,q,z,w,hm⟩:∃p q z w,cs.toList=[p,q,z,w]:=by
  match h:cs.toList,g with
  | [p,q,z,w],_=>exact⟨p,q,z,w,rfl⟩
 simp only[Value.cells]at u j i k;rw[hm]at u j i k;simp at u j i k
 obtain⟨A0,n0,d0,rfl⟩:∃A len cap,p= .slice A len cap:=by
  rcases Deep.open_strs u0 ue s u with⟨f,_⟩|⟨a,l,c,m,Sx,f,_⟩;·simp at f;exact⟨_,_,_,f⟩
  ·simp at f;exact⟨_,_,_,f⟩
 obtain⟨A1,n1,d1,rfl⟩:∃A len cap,q= .slice A len cap:=by
  rcases Deep.open_strs u1 ue s j with⟨f,_⟩|⟨a,l,c,m,Sx,f,_⟩;·simp at f;exact⟨_,_,_,f⟩
  ·simp at f;exact⟨_,_,_,f⟩
 obtain⟨A2,n2,d2,rfl⟩:∃A len cap,z= .slice A len cap:=by
  rcases Deep.open_slice1 u2 y i with⟨f,_⟩|⟨a,l,c,m,n,V,D,Pl,f,_⟩;·simp at f;exact⟨_,_,_,f⟩
  ·simp at f;exact⟨_,_,_,f⟩
 obtain⟨A3,n3,d3,rfl⟩:∃A len cap,w= .slice A len cap:=by
  rcases Deep.open_strs u3 ue s k with⟨f,_⟩|⟨a,l,c,m,Sx,f,_⟩;·simp at f;exact⟨_,_,_,f⟩
  ·simp at f;exact⟨_,_,_,f⟩
 obtain⟨ls,G,_⟩:=Vv u1 ue s j;obtain⟨wl,H,Q⟩:=B2z u2 v1 ue y s i;obtain⟨ws,F,_⟩:=Vv u3 ue s k;have:cs=#[.slice A0 n0 d0,.slice A1 n1 d1,.slice A2 n2 d2,.slice A3 n3 d3]:=by rw[<- Array.toArray_toList (xs:=cs),hm]
 exact⟨A0,n0,d0,A1,n1,d1,A2,n2,d2,A3,n3,d3,ls,wl,H,ws,by rw[this],G,Q,F⟩
