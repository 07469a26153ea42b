/- A part. -/
import Derived.Test.YtbgkfnjmcjfokaaGreatDoorG25
open Go.Proofs.Tryz
set_option linter.all false
open _root_.Go.Addr renaming add->aC
open _root_.Go.Addr.mk renaming injEq->cT
open _root_.Go.Builtin renaming append_->cY
open _root_.Go.Instr renaming buildSlice->bL,storeAt->bN
open Int renaming toNat_natCast->aJ,tdiv->dE,natAbs_mul->eC,zero_tdiv->eG,zero_add->eQ,sub_zero->eR
open List renaming replicate->aF,getElem?_eq_getElem->aK,getD_eq_getElem?_getD->aL,eq_nil_of_length_eq_zero->aN,getElem_mem->aZ,length_append->bG,length_take->bJ,length_cons->bK,getElem?_append_left->bM,append_assoc->cH,length_replicate->cI,nil_append->cK,getElem?_take->cO,flatMap_cons->cP,take_length->cU,length_map->cX,range->dG,take_succ_eq_append_getElem->dH,take_append_of_le_length->dN,length_set->dT,getElem?_append_right->dY,drop_zero->dZ,drop_eq_getElem_cons->eE,mem_cons->eF,getElem?_replicate->eI,take_of_length_le->eO,getElem_cons_succ->eP
open List.cons renaming injEq->aO
open Nat renaming mul_le_mul_right->aE,le_refl->aP,zero_add->aX,mul_le_mul->aY,add_mul->bC,add_sub_cancel->bO,one_mul->bX,le_mul_of_pos_right->bY,le_mul_of_pos_left->cF,mul_le_mul_left->cL,sub_zero->cV,eq_one_of_mul_eq_one_right->dI,zero_le->dM,sub_self->eK,add_zero->eM
open Option.some renaming injEq->cD,inj->cW
open Rat renaming intCast_mul->aT,pow_succ->aU,pow_zero->aV,mul_nonneg->bI,divInt_eq_div->cC,mul_comm->cM,le_trans->cN,mul_assoc->cQ,mul_pos->dD,inv_mul_cancel->dF,mul_one->dJ,le_refl->dK,intCast_neg->dR,le_of_mul_le_mul_right->dV,divInt->dX
open _root_.Go.Value renaming cells->bU,string->bZ
open _root_.Go.Value.bool renaming injEq->cJ
open _root_.Go.Value.int renaming injEq->aR
open _root_.Go.Value.slice renaming injEq->aW
open _root_.Go.Value.string renaming injEq->bF
open _root_.Go renaming Addr->aQ,Value->bH,TypeId->dO,Program->eD
open _root_.Go.Proofs.YtbgkfnjmcjfokaaGreatDoor renaming FCall->aH,Heap->aI,RowV->cZ,OwnSl->dB,SliceT->dP,keep->dU,RowX->eJ
namespace Go.Proofs.YtbgkfnjmcjfokaaGreatDoor
set_option maxRecDepth 20000
section
variable {a b:Rat}
def A9b{p d:Rat->Rat}{m Y gl gh x:Rat}(t:TyR a b p d)(hm1:a<=m)(hm2:m<=b)(hg:∀ z,a<=z->z<=b->gl<=d z/\d z<=gh)(h1:a<=x)(h2:x<=b):
 ∃ g,gl<=g/\g<=gh/\m-Y*p m+(1-Y*g)*(x-m)=x-Y*p x:=by
 have q:gl<=gh:=by have:=hg m hm1 hm2;grind
 have k:∀ D F:Rat,0<D->gl*D<=F->F<=gh*D->∃ g,gl<=g/\g<=gh/\g*D=F:=by
  intro D F s h1 h2
  refine ⟨F*D⁻¹,?_,?_,by rw [cQ,dF D gz0,dJ]⟩
  ·refine dV (c:=D) ?_ s
   rw [cQ,dF D gz0,dJ];exact h1
  ·refine dV (c:=D) ?_ s
   rw [cQ,dF D gz0,dJ];exact h2
 by_cases e:x=m
 ·subst e
  exact ⟨gl,gz0,q,gz0⟩
 ·by_cases w:m<x
  ·obtain ⟨g,n,l,r⟩:=k (x-m) (p x-p m) gz0 (A2w t (fun z j i=>(hg z j i).1) hm1 gz0 h2) (A08 t (fun z j i=>(hg z j i).2) hm1 gz0 h2)
   have u:Y*(g*(x-m))=Y*(p x-p m):=by rw [r]
   exact ⟨g,n,l,gz0⟩
  ·obtain ⟨g,n,l,r⟩:=k (m-x) (p m-p x) gz0 (A2w t (fun z j i=>(hg z j i).1) h1 gz0 hm2) (A08 t (fun z j i=>(hg z j i).2) h1 gz0 hm2)
   have u:Y*(g*(m-x))=Y*(p m-p x):=by rw [r]
   exact ⟨g,n,l,gz0⟩
def C1j{Y x:Rat}(h1:0<Y)(h2:Y*x<=0):x<=0:=by
 by_cases a:x<=0
 ·exact a
 ·have:=dD h1 (show 0<x from gz0);grind
def B7r{Y x:Rat}(h1:0<Y)(h2:0<=Y*x):0<=x:=by
 by_cases a:0<=x
 ·exact a
 ·have:=dD h1 (show 0 < -x from gz0);grind
def A9p{p d:Rat->Rat}{m Y gl gh c e σ:Rat}(t:TyR a b p d)(hm1:a<=m)(hm2:m<=b)(hg:∀ z,a<=z->z<=b->gl<=d z/\d z<=gh)(hσ:σ=1\/σ= -1)(hY:0<=σ*Y)
 (him:∀ g x,gl<=g->g<=gh->a<=x->x<=b->c<=m-Y*p m+(1-Y*g)*(x-m)/\m-Y*p m+(1-Y*g)*(x-m)<=e)
 (ha:σ*p a<=0) (hb:0<=σ*p b) {a1 b1:Rat} (e1:a1=if a<=c then c else a) (e2:b1=if b<=e then b else e) (h1:a1<=b1):σ*p a1<=0/\0<=σ*p b1:=by
 have key:∀ x,a<=x->x<=b->c<=x-Y*p x/\x-Y*p x<=e:=fun x y u=>by
  obtain ⟨g,B,A,C⟩:=A9b (Y:=Y) t hm1 hm2 hg y u
  rw [<- C];exact him g x B A y u
 have w:σ*σ=1:=by rcases hσ with rfl|rfl<;>grind
 have j:a<=b:=gz0
 have r:Y=0->c<=a:=fun h=>by have:=(key a gz0 j).1;rw [h] at this;grind
 have s:Y=0->b<=e:=fun h=>by have:=(key b j gz0).2;rw [h] at this;grind
 have l:Y≠0->0<σ*Y:=fun h=>by
  by_cases z:σ*Y=0
  ·exfalso
   apply h
   have:σ*(σ*Y)=0:=by rw [z];grind
   rw [<- cQ,w] at this;grind
  ·grind
 have i:∀ x,σ*Y*(σ*p x)=Y*p x:=fun x=>by
  have:σ*Y*(σ*p x)=(σ*σ)*(Y*p x):=gz0
  rw [this,w];grind
 constructor
 ·by_cases h:a<=c
  ·rw [iP h] at e1
   rw [e1] at h1 ⊢
   have n:c<=b:=by
    rw [e2] at h1
    split at h1<;>grind
   by_cases z:Y=0
   ·have:=r z
    have e:c=a:=gz0
    rw [e];exact ha
   ·have k:=(key c h n).1
    exact C1j (l z) (by rw [i];grind)
  ·rw [iN h] at e1;rw [e1];exact ha
 ·by_cases h:b<=e
  ·rw [iP h] at e2;rw [e2];exact hb
  ·rw [iN h] at e2
   rw [e2] at h1 ⊢
   have q:a<=e:=by
    rw [e1] at h1
    split at h1<;>grind
   by_cases z:Y=0
   ·have:=s z
    grind
   ·have k:=(key e q gz0).2
    exact B7r (l z) (by rw [i];grind)
def meet{p:Rat->Rat}{σ u v x y:Rat}(mono:∀ s t,a<=s->s<t->t<=b->σ*p s<σ*p t)(hu:a<=u)(hv:v<=b)(hx:a<=x)(hy:y<=b)(huv:u<=v)(hxy:x<=y)(h1:σ*p u<=0)(h2:0<=σ*p v)(h3:σ*p x<=0)(h4:0<=σ*p y):u<=y/\x<=v:=by
 constructor
 ·by_cases h:u<=y
  ·exact h
  ·have:=mono y u gz0 gz0 gz0;grind
 ·by_cases h:x<=v
  ·exact h
  ·have:=mono v x gz0 gz0 gz0;grind
end
end Go.Proofs.YtbgkfnjmcjfokaaGreatDoor
namespace Go.Proofs.YtbgkfnjmcjfokaaGreatDoor
set_option maxRecDepth 20000
def PQ(w v:Rat->Rat)(n nq k:Nat)(m:Int)(q r:Nat->Int):Prop:=m≠0/\∀ x,(m:Rat)*w x=ps q x nq*v x+ps r x (n+k)
def PQ.start{w v:Rat->Rat}{n nq:Nat}{q r:Nat->Int}(hq:∀ i,i<nq->q i=0)(hr:∀ x,w x=ps r x (n+nq)):PQ w v n nq nq 1 q r:=by
 refine ⟨dc,fun x=>?_⟩
 have z:ps q x nq=0:=by
  have:=Xm (z:=q) (x:=x) (m:=0) (k:=nq) fun i _ h=>hq i o
  rw [aX] at this
  rw [this];rfl
 have e:((1:Int):Rat)=1:=rfl
 rw [z,hr,e];grind
def PQ.skip{w v:Rat->Rat}{n nq k:Nat}{m:Int}{q r:Nat->Int}(h:PQ w v n nq (k+1) m q r)(h0:r (n+k)=0):PQ w v n nq k m q r:=by
 refine ⟨h.1,fun x=>?_⟩
 rw [h.2,<- Nat.add_assoc,ps,h0]
 have e:((0:Int):Rat)=0:=rfl
 rw [e];grind
def PQ.step{w:Rat->Rat}{v q r q' r':Nat->Int}{n nq k:Nat}{m m' lead top:Int}(h:PQ w (fun x=>ps v x (n+1)) n nq (k+1) m q r)(hk:k<nq)(hl:lead=v n)(hl0:lead≠0)(ht:top=r (n+k))
 (hm:m'=m*lead) (hq:∀ i,i<nq->q' i=lead*q i+(if i=k then top else 0)) (hr:∀ i,i<n+k->r' i=r i*lead-(if k<=i then top*v (i-k) else 0)):PQ w (fun x=>ps v x (n+1)) n nq k m' q' r':=by
 refine ⟨fun z=>?_,fun x=>?_⟩
 ·rw [hm] at z
  rcases Int.mul_eq_zero.1 z with z|z
  ·exact h.1 z
  ·exact hl0 z
 ·have a:=h.2 x
  have c:=B7p (x:=x) hl ht hr
  have b:=C1i (x:=x) hk hq
  rw [<- Nat.add_assoc] at a
  rw [hm,aT,b]
  have:(m:Rat)*(lead:Rat)*w x=(lead:Rat)*((m:Rat)*w x):=gz0
  rw [this,a]
  have e:(lead:Rat)*(ps q x nq*ps v x (n+1)+ps r x (n+k+1))=(lead:Rat)*ps q x nq*ps v x (n+1)+(lead:Rat)*ps r x (n+k+1):=gz0
  rw [e,c];grind
def C2n{a b:List Int}(ha:a≠[])(hb:b≠[]):cf (Ch a b) (a.length-1+(b.length-1))=cf a (a.length-1)*cf b (b.length-1):=by
 obtain ⟨d,e⟩:=Hk ha hb
 have g:=List.length_pos_iff.2 ha
 have i:=List.length_pos_iff.2 hb
 have c:Ch a b≠[]:=by intro z;rw [z] at d;simp at d;omega
 have:=e c
 rw [Db,Db,Db] at this
 rw [<- this];congr 1;omega
def QE(f v:List Int)(k:Nat)(r:Nat->Int):Prop:=∀ x,ps r x (v.length-1+f.length)=pe (f.take k) x*pe v x
def QE.start{f v:List Int}{r:Nat->Int}(h:∀ x,ps r x (v.length-1+f.length)=pe f x*pe v x):QE f v f.length r:=fun x=>by rw [h,cU]
def QE.top{f v:List Int}{k:Nat}{r:Nat->Int}(h:QE f v (k+1) r)(hk:k<f.length)(hv:v≠[]):r (v.length-1+k)=cf f k*cf v (v.length-1):=by
 have c:=List.length_pos_iff.2 hv
 have b:f.take (k+1)≠[]:=by intro z;have:=congrArg List.length z;rw [bJ,List.length_nil] at this;omega
 have e:=Se (u:=(dG (v.length-1+f.length)).map r) (v:=Ch (f.take (k+1)) v) (fun x=>by rw [A90,h,O8]) (v.length-1+k)
 rw [A1o _ o] at e
 have t:=C2n b hv
 have a:(f.take (k+1)).length=k+1:=by rw [bJ];omega
 rw [a,bO,Nat.add_comm k (v.length-1)] at t
 rw [e,t]
 congr 1
 simp [cf,aL,cO]
def B6l{f:List Int}{k:Nat}(hk:k<f.length)(x:Rat):pe (f.take (k+1)) x=pe (f.take k) x+(cf f k:Rat)*pwx x k:=by
 have a:∀ j,j<=f.length->pe (f.take j) x=ps (cf f) x j:=fun j c=>by
  rw [<- A0o]
  have e:(f.take j).length=j:=by rw [bJ];omega
  rw [e]
  refine A4v fun i b=>?_
  simp [cf,aL,cO,b]
 rw [a _ o,a _ o]
 rfl
def QE.step{f v:List Int}{k:Nat}{r r':Nat->Int}(h:QE f v (k+1) r)(hk:k<f.length)(hv:v≠[])(hr:∀ i,i<v.length-1+f.length->r' i=r i-(if k<=i/\i<k+v.length then cf f k*cf v (i-k) else 0)):QE f v k r':=by
 intro x
 have m:=List.length_pos_iff.2 hv
 have d:ps r' x (v.length-1+f.length)=((1:Int):Rat)*ps r x (v.length-1+f.length)+((-1:Int):Rat)*ps (fun i=>if k<=i/\i<k+v.length then cf f k*cf v (i-k) else 0) x (v.length-1+f.length):=A0p fun i a=>by rw [hr i a];omega
 have b:ps (fun i=>if k<=i/\i<k+v.length then cf f k*cf v (i-k) else 0) x (k+v.length)=pwx x k*ps (fun i=>cf f k*cf v i) x v.length:=Xn (fun i a=>iN o) fun i a=>by rw [iP o,Nat.add_sub_cancel_left]
 have l:ps (fun i=>cf f k*cf v i) x v.length=(cf f k:Rat)*ps (cf v) x v.length+((0:Int):Rat)*ps (cf v) x v.length:=A0p fun i _=>by omega
 have c:ps (fun i=>if k<=i/\i<k+v.length then cf f k*cf v (i-k) else 0) x (k+v.length+(v.length-1+f.length-(k+v.length)))=ps (fun i=>if k<=i/\i<k+v.length then cf f k*cf v (i-k) else 0) x (k+v.length):=Xm fun i d b=>iN o
 rw [show k+v.length+(v.length-1+f.length-(k+v.length))=v.length-1+f.length from o,b,l,A0o] at c
 have e:((0:Int):Rat)=0:=rfl
 have g:((1:Int):Rat)=1:=rfl
 have j:((-1:Int):Rat)= -1:=rfl
 rw [d,c,h x,B6l hk,e,g,j]
 grind
def Cb(A B f:List Int):Prop:=∃ (N:Int) (α β:List Int),N≠0/\∀ x,(N:Rat)*pe f x=pe α x*pe A x+pe β x*pe B x
def Cb.left(A B:List Int):Cb A B A:=⟨1,[1],[],dc,fun x=>by
 have e:((1:Int):Rat)=1:=rfl
 rw [Y3,e];simp only [pe];grind⟩
def Cb.right(A B:List Int):Cb A B B:=⟨1,[],[1],dc,fun x=>by
 have e:((1:Int):Rat)=1:=rfl
 rw [Y3,e];simp only [pe];grind⟩
def Cb.step{A B a b q r r':List Int}{m c:Int}(hc:c≠0)(h:∀ x,(m:Rat)*pe a x=pe q x*pe b x+pe r x)(hr:∀ x,pe r x=(c:Rat)*pe r' x)(h1:Cb A B a)(h2:Cb A B b):Cb A B r':=by
 obtain ⟨N,α,β,p,h1⟩:=h1
 obtain ⟨M,γ,δ,n,h2⟩:=h2
 refine ⟨c*(N*M),Ia (R6 (m*M) α) (R6 (-N) (Ch q γ)),Ia (R6 (m*M) β) (R6 (-N) (Ch q δ)),fun z=>?_,fun x=>?_⟩
 ·rcases Int.mul_eq_zero.1 z with z|z
  ·exact hc z
  ·rcases Int.mul_eq_zero.1 z with z|z<;>contradiction
 ·have l:=h x
  have g:=h1 x
  have i:=h2 x
  have j:=hr x
  simp only [Ey,G9,O8,aT,dR]
  have:(c:Rat)*((N:Rat)*(M:Rat))*pe r' x=(N:Rat)*(M:Rat)*((m:Rat)*pe a x)-(N:Rat)*pe q x*((M:Rat)*pe b x):=by
   have e:(c:Rat)*pe r' x=(m:Rat)*pe a x-pe q x*pe b x:=by rw [<- j];grind
   have k:(c:Rat)*((N:Rat)*(M:Rat))*pe r' x=(N:Rat)*(M:Rat)*((c:Rat)*pe r' x):=gz0
   rw [k,e];grind
  rw [this,i]
  have d:(N:Rat)*(M:Rat)*((m:Rat)*pe a x)=(m:Rat)*(M:Rat)*((N:Rat)*pe a x):=gz0
  rw [d,g];grind
def Hn(w:List Int)(num den:Int)(i:Nat)(val pw:Int):Prop:=(pw:Rat)=pwx (den:Rat) (w.length-i)/\∀ x,(num:Rat)=x*(den:Rat)->(den:Rat)*(val:Rat)=pwx (den:Rat) (w.length-i)*pe (w.drop i) x
def Hn.start(w:List Int)(num den:Int):Hn w num den w.length 0 1:=by
 refine ⟨by rw [eK];rfl,fun x _=>?_⟩
 have e:((0:Int):Rat)=0:=rfl
 rw [List.drop_length,e];simp only [pe];grind
def Hn.step{w:List Int}{num den val pw:Int}{i:Nat}(h:Hn w num den (i+1) val pw)(hi:i<w.length):Hn w num den i (val*num+cf w i*pw) (pw*den):=by
 have e:w.length-i=w.length-(i+1)+1:=o
 refine ⟨?_,fun x a=>?_⟩
 ·rw [aT,h.1,e];simp only [pwx];grind
 ·have d:=h.2 x a
  have b:w.drop i=cf w i::w.drop (i+1):=by
   rw [eE hi];simp [cf,aL,hi]
  rw [b,Rat.intCast_add,aT,aT,h.1,e]
  simp only [pwx,pe]
  have:(den:Rat)*((val:Rat)*(num:Rat))=((den:Rat)*(val:Rat))*(num:Rat):=gz0
  have c:(den:Rat)*((val:Rat)*(num:Rat)+(cf w i:Rat)*pwx (den:Rat) (w.length-(i+1)))=(den:Rat)*((val:Rat)*(num:Rat))+(den:Rat)*((cf w i:Rat)*pwx (den:Rat) (w.length-(i+1))):=gz0
  rw [c,this,d,a];grind
def Zl:IV:=⟨false,none,0,0⟩
def Im:prog.cellsOf 76=2/\(prog.info? 76).isSome=true:=B6p
def WV(h:aI)(A:Option aQ)(n:Nat)(w:List Int):Prop:=n=w.length/\cZ ZIr h A n (cf w)
def WB(m:Nat)(w:List Int):Prop:=∀ i,ZB m (cf w i)
def zb0{m:Nat}:ZB m 0:=ZB.zero
def WV.mono{h h':aI}{A:Option aQ}{n:Nat}{w:List Int}(r:WV h A n w)(l:h.le h'):WV h' A n w:=⟨r.1,r.2.mono P2 l⟩
def WV.nil{h:aI}{A:Option aQ}:WV h A 0 []:=⟨rfl,RowV.nil⟩
def WB.mono{m k:Nat}{w:List Int}(b:WB m w)(h:m<=k):WB k w:=fun i=>(b i).mono h
def B15{f:Int->Int}(h0:f 0=0)(w:List Int)(i:Nat):cf (w.map f) i=f (cf w i):=by
 simp only [cf,aL,List.getElem?_map]
 cases w[i]? with
 | none=>exact h0.symm
 | some x=>rfl
def Own.wv{h h':aI}{b n:Nat}{f:Nat->Int}{w:List Int}(o:Own ZIr h h' b n f)(hn:n=w.length)(hf:∀ i,i<n->f i=cf w i):WV h' (some ⟨b,0,none⟩) n w:=⟨hn,(o.vis P2).congr hf⟩
def A4g:∀ {w:List Int},Nz w->trZ w=w:=by
 intro w
 induction w with
 | nil=>intro _;rfl
 | cons c w ih=>
  intro h
  have b:Nz w:=fun e=>by have:=h (by simp);rwa [List.getLast_cons e] at this
  simp only [trZ,ih b]
  split
  ·rename_i d
   obtain ⟨a,g⟩:=d
   subst g
   exact absurd a (h (by simp))
  ·rfl
def B2b:∀ w:List Int,trZ (w++[0])=trZ w:=by
 intro w
 induction w with
 | nil=>rfl
 | cons c w ih=>simp only [List.cons_append,trZ,ih]
def A02{w:List Int}{k:Nat}(h:k<w.length):w.take (k+1)=w.take k++[cf w k]:=by
 rw [List.take_add_one,aK h]
 simp [cf,aL,aK h]
def B14{w:List Int}{k i:Nat}(h:i<k):cf (w.take k) i=cf w i:=by
 simp only [cf,aL,cO,iP h]
def B7v{w:List Int}{k:Nat}(hk:k<=w.length)(h:k≠0->cf w (k-1)≠0):Nz (w.take k):=by
 intro e
 have a:k≠0:=by rintro rfl;exact e rfl
 rw [Db e,bJ,Nat.min_eq_left hk,B14 o]
 exact h a
def WB.trZ{m:Nat}: ∀ {w:List Int},WB m w->WB m (trZ w):=by
 intro w
 induction w with
 | nil=>exact fun h=>h
 | cons c w ih=>
  intro h
  have a:WB m w:=fun i=>h (i+1)
  simp only [Go.Proofs.YtbgkfnjmcjfokaaGreatDoor.trZ]
  split
  ·exact fun i=>by simp only [cf,List.getD_nil];exact zb0
  ·intro i
   cases i with
   | zero=>exact h 0
   | succ i=>exact ih a i
def Nz.lead{w:List Int}(h:Nz w)(h0:w≠[]):cf w (w.length-1)≠0:=by rw [<- Db h0];exact h h0
def B8v(w:List Int)(i:Nat):cf (dl w) i=cf w (i+1)*((1+i:Nat):Int):=by
 cases w with
 | nil=>simp [dl,cf]
 | cons c w=>exact B0s 1 w i
structure Ct (w:List Int) (c:Int):Prop where
 nn:0<=c
 dvd:∀ j,c∣cf w j
 most:∀ d,(∀ j,d∣cf w j)->d∣c
structure Pm (w W:List Int) (c:Int):Prop where
 len:W.length=w.length
 nn:0<=c
 eq:∀ i,cf w i=c*cf W i
 prim:c≠0->B9a W
def Pm.val{w W:List Int}{c:Int}(p:Pm w W c)(x:Rat):pe w x=(c:Rat)*pe W x:=by
 have:w=R6 c W:=by
  apply List.ext_getElem (by simp [R6,p.len])
  intro i a b
  have:=p.eq i
  rw [<- Hu] at this
  simpa [cf,aL,aK a,aK b] using this
 rw [this,G9]
def Pm.pos{w W:List Int}{c:Int}(p:Pm w W c)(hw:Nz w)(h0:w≠[]):0<c:=by
 have:=hw.lead h0
 rw [p.eq] at this
 rcases Int.lt_or_eq_of_le p.nn with h|h
 ·exact h
 ·rw [<- h] at this;simp at this
def Pm.nz{w W:List Int}{c:Int}(p:Pm w W c)(hw:Nz w):Nz W:=by
 intro b
 have a:w≠[]:=by
  rintro rfl
  have:=p.len
  exact b (aN (by simpa using this))
 have:=hw.lead a
 rw [p.eq,<- p.len] at this
 rw [Db b]
 intro e
 rw [e] at this;simp at this
def Ct.pm{w:List Int}{c:Int}(t:Ct w c)(hc:c=0->w.length=0):Pm w (w.map (dE · c)) c:=by
 have m:(0:Int).tdiv c=0:=eG c
 have b:∀ i,cf w i=c*cf (w.map (dE · c)) i:=fun i=>by
  rw [B15 m,Int.mul_tdiv_cancel' (t.dvd i)]
 refine ⟨by simp,t.nn,b,fun a k g=>?_⟩
 have:c*k∣c:=t.most _ fun j=>by
  rw [b j]
  exact Int.mul_dvd_mul_left c (g j)
 obtain ⟨d,e⟩:=this
 have l:k*d=1:=by
  have:c*(k*d)=c*1:=by rw [<- Int.mul_assoc,<- e,Int.mul_one]
  exact Int.eq_of_mul_eq_mul_left a this
 have:k.natAbs*d.natAbs=1:=by rw [<- eC,l];rfl
 have:=dI this
 omega
section
variable {h:aI} {K:VP} {A:Option aQ} {n c m:Nat} {w:List Int}
def Ku(hn:n<=1000)(hK:K (I ((n:Int)-1)) h):aH prog 84 #[.slice A n c] h K:=by
 refine (fnk func84) ?_
 rw [B5 o o]
 exact hK
def Jr(r:WV h A n w)(hn:n<=1000)(hK:∀ s A' n' c',ZI h s A' n' c' (cf w (n-1))->K (.agg #[.bool s,.slice A' n' c']) h):aH prog 100 #[.slice A n c] h K:=by
 refine (fnk func100 (own:=[2])) ?_
 refine C8 (fun e=>?_) (fun e=>?_)
 ·have g:n=0:=o
  subst g
  have b:w=[]:=aN r.1.symm
  subst b
  exact hK false none 0 0 ZI.zero
 ·obtain ⟨a,q,rfl,k,j,d⟩:=r.2.zat (i:=n-1) o
  rw [show B9 ((n:Int)-1)=((n-1:Nat):Int) by rw [B5]<;>omega]
  exact ⟨a,rfl,o,o,_,_,_,_,j,d,hK _ _ _ _ k⟩
def Bt(r:WV h A n w)(hn:n<=1000)(hc:n<=c)(hK:∀ A' n' c',WV h A' n' (trZ w)->n'<=c'->K (.slice A' n' c') h):aH prog 179 #[.slice A n c] h K:=by
 refine (fnk func179 [(2,[3],[],[I 0])]) ?_
 refine ⟨fun L d=>∃ k:Nat,k<=n/\L=[I k]/\d=h/\trZ w=trZ (w.take k),fun L _=>(iAt L 0).toNat,⟨n,aP _,rfl,rfl,by rw [r.1,cU]⟩,?_⟩
 rintro t d ⟨k,B,z,rfl,g⟩
 obtain rfl:=sI1 z
 have C:=r.1
 have b:(k≠0->cf w (k-1)≠0)->K (.slice (U3 A c 0 2) ((k:Int).toNat-0) (c-0)) d:=by
  intro p
  have e:trZ w=w.take k:=by rw [g];exact A4g (B7v o p)
  rw [aJ,cV,cV]
  refine hK _ _ _ ⟨by rw [e,bJ];omega,?_⟩ o
  have:=r.2.cut (c:=c) (l:=0) (k:=k) o hc
  refine this.congr fun i x=>?_
  rw [e,B14 x,aX]
 refine B4 (fun s=>?_) (fun s=>?_)
 ·obtain ⟨a,q,rfl,u,y,j⟩:=r.2.zat (i:=k-1) o
  rw [show B9 ((k:Int)-1)=((k-1:Nat):Int) by rw [B5]<;>omega]
  refine ⟨a,rfl,o,o,_,_,_,_,y,j,F0 u ⟨_,rfl,B4 (fun e=>?_) (fun e=>?_)⟩⟩
  ·refine ⟨⟨k-1,o,rfl,rfl,?_⟩,by simp only [Ca];omega⟩
   have m:w.take k=w.take (k-1)++[0]:=by
    have:=A02 (w:=w) (k:=k-1) o
    rw [show k-1+1=k from o,e] at this
    exact this
   rw [g,m,B2b]
  ·exact ⟨⟨o,o⟩,b fun _=>e⟩
 ·exact ⟨⟨o,o⟩,b fun D=>o⟩
def Zt{s:Bool}{B:Option aQ}{bn bc:Nat}{x:Int}(r:WV h A n w)(i:ZI h s B bn bc x)(hn:n<=1000)(hb:WB m w)(hx:ZB m x)(hm:m<=400000000)
 (hK:∀ A' n' c' h',h.le h'->WV h' A' n' (trZ (R6 x w))->n'<=c'->K (.slice A' n' c') h'):aH prog 175 #[.slice A n c,.agg #[.bool s,.slice B bn bc]] h K:=by
 refine (fnk func175 [(3,[13],[],[I 0])] (own:=[3,7])) ?_
 refine D8 tWh (zx:=Zl) rfl oo oo oo oo ?_
 intro b C
 rw [aJ]
 refine ⟨_,_,_,rfl,fun L l=>∃ k:Nat,k<=n/\L=[I k]/\OwnK ZIr h l b n k (fun i=>cf w i*x),fun L _=>n-(iAt L 0).toNat,⟨0,oo,rfl,OwnK.zero C⟩,?_⟩
 rintro t l ⟨k,hk,S,g,o,xs,j,p,F,e,E⟩
 obtain rfl:=sI1 S
 refine B4 (fun H=>?_) (fun G=>?_)
 ·have d:k<n:=oo
  obtain ⟨a,q,rfl,T,O,Q⟩:=(r.2.mono P2 j).zat d
  refine ⟨a,rfl,oo,oo,_,_,_,_,(B7 p.le O),(B7 p.le Q),?_⟩
  refine p.call (F7 T (i.mono j) (hb k) hx oo ?_)
  intro R A2 W c2 g2 V N X z
  refine ⟨_,_,_,_,rfl,_,rfl,oo,oo,?_⟩
  refine OwnK.store P2 Im (y:=(⟨R,A2,W,c2⟩:IV)) j V z F e E d rfl N ?_
  intro h3 u
  rw [wiS k oo]
  exact ⟨⟨k+1,oo,rfl,u⟩,by simp only [Ca];omega⟩
 ·obtain rfl:k=n:=oo
  have u:Own ZIr h l b k (fun i=>cf w i*x):=⟨g,o,xs,j,p,F,e,E⟩
  have wv:WV l (some ⟨b,0,none⟩) k (R6 x w):=u.wv (by simp [R6,r.1]) (fun i _=>by rw [Hu,Int.mul_comm])
  refine Bt wv hn (aP _) ?_
  intro A3 n3 c3 M D
  exact ⟨_,_,_,rfl,hK _ _ _ _ u.le M D⟩
def Kt(r:WV h A n w)(hn:n<=1000)(hb:WB m w)(hm:m<=400000000)(hm1:10<=m)
 (hK:∀ A' n' c' h',h.le h'->WV h' A' n' (dl w)->n'<=c'->K (.slice A' n' c') h'):aH prog 97 #[.slice A n c] h K:=by
 refine (fnk func97 [(5,[14],[],[I 0])]) ?_
 refine C8 (fun e=>?_) (fun e=>?_)
 ·have Q:n=0:=oo
  subst Q
  have V:w=[]:=aN r.1.symm
  subst V
  exact hK none 0 0 h (B0 _) WV.nil (aP _)
 ·rw [show B9 ((n:Int)-1)=((n-1:Nat):Int) by rw [B5]<;>omega]
  refine D8 tWh (zx:=Zl) rfl oo oo oo oo ?_
  intro b B
  rw [aJ]
  refine ⟨_,_,_,rfl,fun L z=>∃ k:Nat,k<=n-1/\L=[I k]/\OwnK ZIr h z b (n-1) k (cf (dl w)),fun L _=>n-1-(iAt L 0).toNat,⟨0,oo,rfl,OwnK.zero B⟩,?_⟩
  rintro t z ⟨k,hk,W,g,o,xs,x,p,G,j,E⟩
  obtain rfl:=sI1 W
  refine B4 (fun N=>?_) (fun M=>?_)
  ·have u:k<n-1:=oo
   rw [wiS k oo]
   obtain ⟨a,q,rfl,iq,R,S⟩:=(r.2.mono P2 x).zat (i:=k+1) oo
   refine ⟨a,rfl,oo,oo,_,_,_,_,(B7 p.le R),(B7 p.le S),?_⟩
   refine p.call (N5 oo oo ?_)
   intro s2 A2 n2 c2 g2 C O h2 d
   refine ⟨_,_,_,_,rfl,p.grow d C,?_⟩
   have T:ZB m (((k+1:Nat):Int)):=by
    have:ZB 10 (((k+1:Nat):Int)):=by unfold ZB;omega
    exact this.mono hm1
   refine d.call (F7 (iq.mono C) O (hb (k+1)) T oo ?_)
   intro H A3 D c3 g3 F X h3 l
   refine ⟨_,_,_,_,rfl,d.grow l F,_,rfl,oo,oo,?_⟩
   refine OwnK.store P2 Im (y:=(⟨H,A3,D,c3⟩:IV)) x (A0 C F) l G j E u rfl (by show ZI g3 H A3 D c3 (cf (dl w) k);rw [B8v,Nat.add_comm 1 k];exact X) ?_
   intro h4 s
   exact ⟨⟨k+1,oo,rfl,s⟩,by simp only [Ca];omega⟩
  ·obtain rfl:k=n-1:=oo
   have s:Own ZIr h z b (n-1) (cf (dl w)):=⟨g,o,xs,x,p,G,j,E⟩
   exact hK _ _ _ _ s.le (s.wv (by rw [Qd,r.1]) (fun i _=>rfl)) (aP _)
def Uc(gl:Gtz h)(r:WV h A n w)(hn:n<=1000)(hb:WB m w)(hm:m<=400000000)
 (hK:∀ x A' n' c' h',h.le h'->ZI h' false A' n' c' x->Ct w x->ZB m x->K (.agg #[.bool false,.slice A' n' c']) h'):aH prog 177 #[.slice A n c] h K:=by
 refine (fnk func177 [(3,[4],[(3,2)],[I 0,.bool false,.slice none 0 0])] (own:=[2,3])) ?_
 refine ⟨fun L y=>∃ (k:Nat) (A':Option aQ) (n' c':Nat) (x:Int),k<=n/\L=[I ((k:Int)-1),.bool false,.slice A' n' c']/\h.le y/\ZI y false A' n' c' x/\0<=x/\ZB m x/\(∀ j,k<=j->x∣cf w j)/\(∀ d,(∀ j,k<=j->d∣cf w j)->d∣x),fun L _=>(iAt L 0+1).toNat,
  ⟨n,none,0,0,0,aP _,by rw [B5 o o],B0 _,ZI.zero,o,zb0,fun j F=>?_,fun d _=>Int.dvd_zero d⟩,?_⟩
 ·rw [A5d (by have:=r.1;omega)];exact Int.dvd_refl 0
 rintro t W A1 X c1 y ⟨k,A',n',c',x,V,B,p,u,z,b,s,g⟩
 simp only [aO,aR,cJ,aW,true_and,and_true] at B
 obtain ⟨rfl,rfl,rfl,rfl,rfl⟩:=B
 refine B4 (fun M=>?_) (fun H=>?_)
 ·refine N6 u ⟨_,rfl,Br.of (fun E=>?_) (fun E=>?_)⟩
  ·obtain ⟨a,q,rfl,R,O,Q⟩:=(r.2.mono P2 p).zat (i:=k-1) o
   rw [show ((k:Int)-1)=((k-1:Nat):Int) from o]
   refine ⟨a,rfl,o,o,_,_,_,_,O,Q,?_⟩
   refine Ai (gl.mono p) u R b (hb (k-1)) o ?_
   intro A2 S c2 T G N
   refine ⟨_,_,_,_,rfl,G,⟨k-1,A2,S,c2,_,o,by rw [B5 o o],A0 p G,N,o,?_,fun j F=>?_,fun d l=>?_⟩,by simp only [Ca];rw [B5 o o];omega⟩
   ·by_cases D:x=0
    ·subst D
     have:=hb (k-1)
     unfold ZB at this ⊢
     simpa using this
    ·unfold ZB at b ⊢
     have:=Int.gcd_le_natAbs_left (cf w (k-1)) D
     omega
   ·rcases Nat.lt_or_ge j k with C|C
    ·have:j=k-1:=o
     subst this
     exact Int.gcd_dvd_right _ _
    ·exact Int.dvd_trans (Int.gcd_dvd_left _ _) (s j C)
   ·exact Int.dvd_coe_gcd (g d fun j F=>l j o) (l (k-1) o)
  ·have e:x=1:=by simpa using E
   subst e
   exact hK 1 _ _ _ _ p u ⟨o,fun j=>Int.one_dvd _,fun d l=>g d fun j _=>l j⟩ b
 ·have:k=0:=o
  subst this
  exact hK x _ _ _ _ p u ⟨z,fun j=>s j o,fun d l=>g d fun j _=>l j⟩ b
def B6c{m:Nat}{x y:Int}(h:ZB m x):ZB m (x.tdiv y):=by
 unfold ZB at h ⊢
 have:=Int.natAbs_tdiv_le_natAbs x y
 omega
def WB.divide{x:Int}(hb:WB m w):WB m (w.map (dE · x)):=fun i=>by rw [B15 (eG x)];exact B6c (hb i)
def Wr{s:Bool}{B:Option aQ}{bn bc:Nat}{x:Int}(r:WV h A n w)(i:ZI h s B bn bc x)(hn:n<=1000)(hb:WB m w)(hx:ZB m x)(hm:m<=400000000)(h0:x=0->n=0)(hc:n<=c)
 (hK:∀ A' c' h',h.le h'->WV h' A' n (w.map (dE · x))->n<=c'->K (.slice A' n c') h'):aH prog 176 #[.slice A n c,.agg #[.bool s,.slice B bn bc]] h K:=by
 refine (fnk func176 [(5,[16],[],[I 0])] (own:=[3,7])) ?_
 refine N6 i ⟨_,rfl,B4 (fun e=>?_) (fun e=>?_)⟩
 ·subst e
  have:w.map (dE · 1)=w:=by simp
  exact hK _ _ _ (B0 _) (by rw [this];exact r) hc
 ·refine D8 tWh (zx:=Zl) rfl oo oo oo oo ?_
  intro b D
  rw [aJ]
  refine ⟨_,_,_,rfl,fun L C=>∃ k:Nat,k<=n/\L=[I k]/\OwnK ZIr h C b n k (fun i=>(cf w i).tdiv x),fun L _=>n-(iAt L 0).toNat,⟨0,oo,rfl,OwnK.zero D⟩,?_⟩
  rintro t C ⟨k,hk,S,g,o,xs,l,p,F,j,E⟩
  obtain rfl:=sI1 S
  refine B4 (fun H=>?_) (fun G=>?_)
  ·have d:k<n:=oo
   obtain ⟨a,q,rfl,T,N,O⟩:=(r.2.mono P2 l).zat d
   refine ⟨a,rfl,oo,oo,_,_,_,_,(B7 p.le N),(B7 p.le O),?_⟩
   refine p.call (P0 T (i.mono l) (hb k) hx oo (fun R=>by have:=h0 R;omega) ?_)
   intro Q A2 W c2 g2 V M X z
   refine ⟨_,_,_,_,rfl,_,rfl,oo,oo,?_⟩
   refine OwnK.store P2 Im (y:=(⟨Q,A2,W,c2⟩:IV)) l V z F j E d rfl M ?_
   intro h3 u
   rw [wiS k oo]
   exact ⟨⟨k+1,oo,rfl,u⟩,by simp only [Ca];omega⟩
  ·obtain rfl:k=n:=oo
   have u:Own ZIr h C b k (fun i=>(cf w i).tdiv x):=⟨g,o,xs,l,p,F,j,E⟩
   exact hK _ _ _ u.le (u.wv (by simp [r.1]) (fun i _=>(B15 (f:=(dE · x)) (eG x) w i).symm)) (aP _)
def O2(gl:Gtz h)(r:WV h A n w)(hz:Nz w)(hn:n<=1000)(hb:WB m w)(hm:m<=400000000)(hc:n<=c)
 (hK:∀ W x A' c' h',h.le h'->WV h' A' n W->Pm w W x->WB m W->n<=c'->K (.slice A' n c') h'):aH prog 94 #[.slice A n c] h K:=by
 refine (fnk func94) ?_
 refine Uc gl r hn hb hm ?_
 intro x A1 q c1 s b i1 g l
 have d:x=0->n=0:=by
  rintro rfl
  rcases Nat.eq_zero_or_pos n with e|e
  ·exact e
  ·have i:w≠[]:=by rintro rfl;have:=r.1;simp at this;omega
   exact absurd (Int.zero_dvd.1 (g.dvd (w.length-1))) (hz.lead i)
 refine ⟨_,_,_,_,rfl,Wr (r.mono b) i1 hn hb l hm d hc ?_⟩
 intro A2 c2 p j k a
 exact ⟨_,_,_,rfl,hK _ x _ _ _ (A0 b j) k (g.pm (fun e=>by rw [<- r.1];exact d e)) hb.divide a⟩
end
def C2v{o:aI}{b i:Nat}{ws:List IV}(rb:RowB o b ws)(hi:i<ws.length):o.cell? (aC (aC ⟨b,0,none⟩ (i*2)) 0)=some (.bool ws[i].s)/\o.cell? (aC (aC ⟨b,0,none⟩ (i*2)) 1)=some (.slice ws[i].A ws[i].n ws[i].c):=by
 have d:=RowB.cell rb hi (j:=0) (v:=.bool ws[i].s) rfl
 have a:=RowB.cell rb hi (j:=1) (v:=.slice ws[i].A ws[i].n ws[i].c) rfl
 rw [T8,T8,F3,F3,aX,aX]
 exact ⟨d,a⟩
def RowB.take{α:Type}[E:Enc α]{o:aI}{b:Nat}{xs:List α}(r:RowB o b xs)(k:Nat):RowB o b (xs.take k):=by
 obtain ⟨e,ex,a⟩:=r
 refine ⟨e,(xs.drop k).flatMap enc++ex,?_⟩
 rw [a,<- cH,<- List.flatMap_append,List.take_append_drop]
structure Two (h g o:aI) (bq br nq nr:Nat) (q r:Nat->Int):Prop where
 sep:Sep h g o
 ne:bq≠br
 rq:∃ xs:List IV,eJ o bq xs/\xs.length=nq/\Row ZIr g xs nq q
 rr:∃ xs:List IV,RowB o br xs/\xs.length=nr/\Row ZIr g xs nr r
section
variable {h g o h' g':aI} {bq br nq nr:Nat} {q r:Nat->Int}
def Two.next(t:Two h g o bq br nq nr q r)(s:Sep h' g' o)(l:g.le g'):Two h' g' o bq br nq nr q r:=by
 obtain ⟨xs,d,c,i⟩:=t.rq
 obtain ⟨b,a,e,j⟩:=t.rr
 exact ⟨s,t.ne,⟨xs,d,c,i.mono P2 l⟩,⟨b,a,e,j.mono P2 l⟩⟩
def Two.congr{q' r':Nat->Int}(t:Two h g o bq br nq nr q r)(e1:∀ i,i<nq->q i=q' i)(e2:∀ i,i<nr->r i=r' i):Two h g o bq br nq nr q' r':=by
 obtain ⟨xs,d,c,j⟩:=t.rq
 obtain ⟨b,a,e,k⟩:=t.rr
 exact ⟨t.sep,t.ne,⟨xs,d,c,j.congr e1⟩,⟨b,a,e,k.congr e2⟩⟩
def Two.shrink(t:Two h g o bq br nq nr q r){k:Nat}(hk:k<=nr):Two h g o bq br nq k q r:=by
 obtain ⟨c,b,l,d⟩:=t.rr
 refine ⟨t.sep,t.ne,t.rq,c.take k,b.take k,by rw [bJ];omega,fun i j=>?_⟩
 obtain ⟨w,e,a⟩:=d i oo
 exact ⟨w,by rw [cO,iP j];exact e,a⟩
def Two.qat(t:Two h g o bq br nq nr q r){i:Nat}(hi:i<nq):∃ w:IV,ZIr g w (q i)/\o.cell? (aC (aC ⟨bq,0,none⟩ (i*2)) 0)=some (.bool w.s)/\o.cell? (aC (aC ⟨bq,0,none⟩ (i*2)) 1)=some (.slice w.A w.n w.c):=by
 obtain ⟨xs,a,d,b⟩:=t.rq
 have:=C2v a.rowB (i:=i) oo
 exact ⟨xs[i],b.get hi oo,this.1,this.2⟩
def Two.rat(t:Two h g o bq br nq nr q r){i:Nat}(hi:i<nr):∃ w:IV,ZIr g w (r i)/\o.cell? (aC (aC ⟨br,0,none⟩ (i*2)) 0)=some (.bool w.s)/\o.cell? (aC (aC ⟨br,0,none⟩ (i*2)) 1)=some (.slice w.A w.n w.c):=by
 obtain ⟨xs,a,d,b⟩:=t.rr
 have:=C2v a (i:=i) oo
 exact ⟨xs[i],b.get hi oo,this.1,this.2⟩
def Two.storeQ(t:Two h g o bq br nq nr q r){i:Nat}(hi:i<nq){w:IV}{y:Int}(z:ZIr g w y){K:Unit->aI->Prop}
 (x:∀ h' o',Two h' g o' bq br nq nr (fun j=>if j=i then y else q j) r->K () h'):wpH prog (bN 76 (.pointer (some (aC ⟨bq,0,none⟩ (i*2)))) w.v) K h:=by
 obtain ⟨xs,e,s,l⟩:=t.rq
 obtain ⟨c,b,k,m⟩:=t.rr
 refine E7 Im (y:=w) rfl t.sep e oo ?_
 rintro p u n rfl d a
 exact x _ _ ⟨d,t.ne,⟨_,a,gz0,l.upd oo z⟩,⟨c,b.other t.ne.symm n,k,m⟩⟩
def Two.storeR(t:Two h g o bq br nq nr q r){i:Nat}(hi:i<nr){w:IV}{y:Int}(z:ZIr g w y){K:Unit->aI->Prop}
 (x:∀ h' o',Two h' g o' bq br nq nr q (fun j=>if j=i then y else r j)->K () h'):wpH prog (bN 76 (.pointer (some (aC ⟨br,0,none⟩ (i*2)))) w.v) K h:=by
 obtain ⟨xs,d,e,k⟩:=t.rq
 obtain ⟨n,b,s,l⟩:=t.rr
 rw [F3,aX]
 refine Sep.store Im (y:=w) rfl t.sep b (i:=i) oo rfl ?_
 rintro p u m rfl c a
 exact x _ _ ⟨c,t.ne,⟨xs,d.other t.ne m,e,k⟩,⟨_,a,gz0,l.upd oo z⟩⟩
def Two.visQ(t:Two h g o bq br nq nr q r):cZ ZIr h (some ⟨bq,0,none⟩) nq q:=by
 obtain ⟨xs,b,a,c⟩:=t.rq
 exact ⟨xs,b.rowB.slF t.sep.ole,a,c.mono P2 t.sep.le⟩
def Two.visR(t:Two h g o bq br nq nr q r):cZ ZIr h (some ⟨br,0,none⟩) nr r:=by
 obtain ⟨xs,b,a,c⟩:=t.rr
 exact ⟨xs,b.slF t.sep.ole,a,c.mono P2 t.sep.le⟩
def Zx{e e':dO}(hb:h bq=none){zs:List IV}{A:Option aQ}{c:Nat}{xs:List IV}{g1 h1:aI}(l:(W9 e h bq zs).le g1)(p:PrivF h1 g1 e' A c xs)(hne:xs≠[])(hz:Row ZIr h zs zs.length q)(hx:Row ZIr h xs xs.length r):
 ∃ br g o,A=some ⟨br,0,none⟩/\h.le g/\Two h1 g o bq br zs.length xs.length q r:=by
 obtain ⟨br,x,y,a,n,s,u⟩:=B1m p hne
 obtain ⟨b,d,z,rfl⟩:=Pd hb l
 have ne:bq≠br:=by
  rintro rfl
  unfold W9 at a
  rw [B8] at a;cases a
 subst n
 have j:b br=none:=by
  unfold W9 at a
  rwa [B6 _ _ ne.symm] at a
 have w:Sep (W9 e b bq zs) b (J8.put bq (.cells (zs.flatMap enc).toArray e)):=F1 z
 have m:=w.new a x
 refine ⟨br,b,_,y,d,m,ne,⟨zs,RowX.other RowX.mk ne x,rfl,hz.mono P2 d⟩,⟨xs,?_,rfl,hx.mono P2 d⟩⟩
 obtain ⟨k,ex,i⟩:=u
 rw [B8] at i
 exact ⟨k,ex,by rw [B8];exact i⟩
end
section
variable {h:aI} {K:VP} {A B:Option aQ} {n c k d mw mv:Nat} {w v:List Int}
def WB.row{m n:Nat}{z:Nat->Int}(h:∀ i,i<n->ZB m (z i)):WB m ((dG n).map z):=fun i=>by
 by_cases a:i<n
 ·rw [A1o z a];exact h i a
 ·rw [A5d (by simp;omega)];exact zb0
def A7e{h:aI}{A:Option aQ}{n:Nat}{z:Nat->Int}(r:cZ ZIr h A n z):WV h A n ((dG n).map z):=⟨by simp,r.congr fun i a=>(A1o z a).symm⟩
def Ks(r:WV h A n w)(rv:WV h B k v)(hw:Nz w)(hv:Nz v)(hn:n<=1000)(hk:k<=1000)(hc:n<=c)(hbw:WB mw w)(hbv:WB mv v)(hT:mw+(n+1)*(mv+1)<=40000000)
 (hK:∀ (q R:List Int) (m:Int) A1 n1 c1 A2 n2 c2 (z:IV) h',h.le h'->WV h' A1 n1 q->WV h' A2 n2 R->n2<=c2->ZIr h' z m->m≠0->(∀ x,(m:Rat)*pe w x=pe q x*pe v x+pe R x)->Nz R->(v≠[]->R.length<v.length)->WB (mw+(n-k+1)*(mv+1)) R->K (.tuple #[.slice A1 n1 c1,.slice A2 n2 c2,z.v]) h'):
 aH prog 174 #[.slice A n c,.slice B k d] h K:=by
 refine (fnk func174 [(8,[10,11],[(7,2)],[.slice none 0 0,I 0,.bool false,.slice none 0 0]),(16,[73],[],[I 0]),(22,[97],[],[I 0])] (cs:=[(20,[],[(7,2)],[.bool false,.slice none 0 0]),(28,[],[],[])]) (os:=[(30,[0,2,4,1,3,5,6,7])]) (own:=[6,7,8,12]) (wr:=[170,239])) ?_
 refine N5 oo oo ?_
 intro s1 A1 n1 c1 h1 l1 i1
 have ae:(v≠[]->w.length<v.length)->K (.tuple #[.slice none 0 0,.slice A n c,.agg #[.bool s1,.slice A1 n1 c1]]) h1:=fun aa=>
  hK [] w 1 none 0 0 A n c ⟨s1,A1,n1,c1⟩ h1 l1 WV.nil (r.mono l1) hc i1 dc (fun x=>by rw [show ((1:Int):Rat)=1 from rfl];simp only [pe];grind) hw aa (hbw.mono oo)
 refine ⟨_,_,_,_,rfl,C8 (fun e=>?_) (fun e=>B4 (fun e1=>?_) (fun e1=>?_))⟩
 ·have am:v=[]:=aN (by have:=rv.1;omega)
  exact ae fun x=>absurd am x
 ·exact ae fun _=>by have:=r.1;have:=rv.1;omega
 have rl:=r.1
 have vl:=rv.1
 obtain ⟨nv,rfl⟩:∃ nv,k=nv+1:=⟨k-1,oo⟩
 obtain ⟨nq,hnq⟩:∃ nq,nq=n-(nv+1)+1:=⟨_,rfl⟩
 rw [<- hnq] at hK
 have am:v≠[]:=by rintro rfl;simp at vl
 refine Jr (rv.mono l1) hk ?_
 intro sl Al nl cl il
 rw [bO] at il
 refine ⟨_,_,_,_,rfl,?_⟩
 rw [show B9 (B9 ((n:Int)-((nv+1:Nat):Int))+1)=(nq:Int) by rw [B5 (n:=(n:Int)-((nv+1:Nat):Int)) oo oo,B5]<;>omega]
 refine D8 tWh (zx:=Zl) rfl oo oo oo oo ?_
 intro bq az
 rw [aJ]
 refine ⟨_,_,_,rfl,?_⟩
 refine Yg tWh ?_
 intro b2 ax
 refine ⟨_,_,_,rfl,?_⟩
 obtain ⟨xs,sx,xl,rx⟩:=r.2.mono P2 l1
 refine Af tWh (PrivF.nil _ 76 _) (ys:=xs) xl.symm (sx.mono (A0 (R1 az _) (Heap.le_put _ ax))) (by simp;omega) (by simp;omega) ?_
 intro A4 c4 h4 g4 D p4
 rw [cK] at p4
 rw [cK,xl]
 have a3:xs≠[]:=by intro z;rw [z] at xl;simp at xl;omega
 obtain ⟨br,g,o,rfl,lg,ap⟩:=Zx (q:=fun _=>0) (r:=cf w) az (A0 (Heap.le_put _ ax) D) p4 a3 (fun i l=>⟨Zl,by rw [eI,iP (by simpa using l)],ZI.zero⟩) (by rw [xl];exact rx)
 rw [cI,xl] at ap
 have bu:n<=c4:=by rw [<- xl];exact p4.2.1
 have p:=hv.lead am
 rw [<- vl,bO] at p
 obtain ⟨lead,hlead⟩:∃ z,z=cf v nv:=⟨_,rfl⟩
 rw [<- hlead] at il p
 have bl:ZB mv lead:=by rw [hlead];exact hbv nv
 have V:nv+nq=n:=oo
 have hβ:∀ j,j<=nq->mw+j*(mv+1)<=40000000:=fun j hj=>by
  have:=aE (mv+1) (show j<=n+1 from oo)
  omega
 have b4:mv<=40000000:=by
  have:=cF (mv+1) (show 0<n+1 from oo)
  omega
 have hμ:∀ j,j<=nq->1+j*mv<=40000001:=fun j hj=>by
  have:=hβ j hj
  have:=cL j (show mv<=mv+1 from oo)
  omega
 refine ⟨_,_,_,rfl,fun L hp=>∃ (k:Nat) (g' o':aI) (z:IV) (m:Int) (q r:Nat->Int),k<=nq/\L=[.slice (some ⟨br,0,none⟩) (nv+k) c4,I ((k:Int)-1),.bool z.s,.slice z.A z.n z.c]/\g.le g'/\Two hp g' o' bq br nq (nv+k) q r/\ZIr g' z m/\PQ (pe w) (fun x=>ps (cf v) x (nv+1)) nv nq k m q r/\(∀ i,i<nq->ZB (mw+(nq-k)*(mv+1)) (q i))/\(∀ i,i<nv+k->ZB (mw+(nq-k)*(mv+1)) (r i))/\ZB (1+(nq-k)*mv) m,fun L _=>(iAt L 1+1).toNat,
  ⟨nq,g,o,⟨s1,A1,n1,c1⟩,1,fun _=>0,cf w,aP _,by rw [V,B5 oo oo],B0 _,by rw [V];exact ap,i1.mono lg,PQ.start (fun _ _=>rfl) (fun x=>by rw [V,rl];exact (A0o w x).symm),fun _ _=>zb0,fun i _=>(hbw i).mono oo,by rw [eK];exact ZB.one oo⟩,?_⟩
 rintro a4 bf al kz m0 bj bk bz hp ⟨k,g1,o1,z,m,q,C,b0,eL,O,t,iz,pq,ab,N,bm⟩
 simp only [aO,aR,cJ,aW,true_and,and_true] at eL
 obtain ⟨⟨rfl,rfl,rfl⟩,rfl,rfl,rfl,rfl,rfl⟩:=eL
 refine B4 (fun b3=>?_) (fun aa=>?_)
 ·obtain ⟨j,rfl⟩:∃ j,k=j+1:=⟨k-1,oo⟩
  rw [show ((j+1:Nat):Int)-1=(j:Int) from oo]
  have ei:B9 (B9 (((nv+1:Nat):Int)-1)+(j:Int))=((nv+j:Nat):Int):=by rw [B5 (n:=((nv+1:Nat):Int)-1) oo oo,B5]<;>omega
  have ej:B9 ((j:Int)-1)=(j:Int)-1:=B5 oo oo
  have ec:U3 (some ⟨br,0,none⟩) al 0 2=some ⟨br,0,none⟩:=by rw [V1 oo];rfl
  rw [ei,ej,ec]
  obtain ⟨tw,zt,f0,f1⟩:=t.rat (i:=nv+j) oo
  refine ⟨_,rfl,oo,oo,_,_,_,_,t.sep.cell f0,t.sep.cell f1,⟨oo,oo⟩,?_⟩
  have ts:=t.shrink (k:=nv+j) oo
  have aq:nq-j=(nq-(j+1))+1:=oo
  have hβ1:mw+(nq-j)*(mv+1)=mw+(nq-(j+1))*(mv+1)+(mv+1):=by rw [aq,bC,bX];omega
  have hμ1:1+(nq-j)*mv=1+(nq-(j+1))*mv+mv:=by rw [aq,bC,bX];omega
  have b1:=hβ (nq-j) oo
  have b2:=hμ (nq-j) oo
  generalize hT:mw+(nq-(j+1))*(mv+1)=T at *
  generalize hU:1+(nq-(j+1))*mv=U at *
  have bt:=N (nv+j) oo
  refine F0 (zt.mono t.sep.le) ⟨_,rfl,B4 (fun e0=>?_) (fun e0=>?_)⟩
  ·refine ⟨⟨j,g1,o1,z,m,q,C,oo,rfl,O,ts,iz,pq.skip e0,fun i l=>(ab i l).mono oo,fun i l=>(N i oo).mono oo,bm.mono oo⟩,by show ((j:Int)-1+1).toNat<((j:Int)+1).toNat;omega⟩
  ·have Q:ZI g1 sl Al nl cl lead:=il.mono (A0 lg O)
   refine ⟨fun L hq=>∃ (g2 o2:aI) (z2:IV) (q2:Nat->Int),L=[.bool z2.s,.slice z2.A z2.n z2.c]/\g1.le g2/\Two hq g2 o2 bq br nq (nv+j) q2 C/\ZIr g2 z2 (m*lead)/\∀ i,i<nq->q2 i=lead*q i,?_,?_⟩
   ·refine N6 (Q.mono t.sep.le) ⟨_,rfl,Br.of (fun e1=>?_) (fun e1=>?_)⟩
    ·refine ts.sep.call (F7 iz Q (bm.mono (show U<=U+mv from oo)) (bl.mono oo) oo ?_)
     intro s2 A2 n2 c2 g2 l2 i2 h2 bc
     refine ⟨_,_,_,_,rfl,fun L hq=>∃ (t:Nat) (u o3:aI),t<=nq/\L=[I t]/\g2.le u/\Two hq u o3 bq br nq (nv+j) (fun i=>if i<t then lead*q i else q i) C,fun L _=>nq-(iAt L 0).toNat,⟨0,g2,o1,oo,rfl,B0 _,(ts.next bc l2).congr (fun i _=>by rw [iN oo]) (fun _ _=>rfl)⟩,?_⟩
     rintro tz hq ⟨a,u,o3,ht,aj,X,H⟩
     obtain rfl:tz=(a:Int):=by simpa using aj
     refine B4 (fun aa=>?_) (fun ay=>?_)
     ·have E:a<nq:=oo
      obtain ⟨w5,z5,d0,d1⟩:=H.qat E
      rw [iN oo] at z5
      refine ⟨_,rfl,oo,oo,_,_,_,_,H.sep.cell d0,H.sep.cell d1,?_⟩
      refine H.sep.call (F7 z5 (Q.mono (A0 l2 X)) ((ab a E).mono (show T<=T+mv from oo)) (bl.mono oo) oo ?_)
      intro s6 A6 n6 c6 g6 l6 i6 h6 S
      refine ⟨_,_,_,_,rfl,H.sep.grow S l6,_,rfl,oo,oo,?_⟩
      refine (H.next S l6).storeQ (i:=a) E (w:=⟨s6,A6,n6,c6⟩) i6 ?_
      intro h7 o7 t7
      refine ⟨⟨a+1,g6,o7,oo,by rw [B5 oo oo];rfl,A0 X l6,t7.congr (fun i l=>?_) (fun _ _=>rfl)⟩,by simp only [Ca];rw [B5 oo oo];omega⟩
      by_cases F:i=a
      ·subst F;rw [iP rfl,iP oo,Int.mul_comm]
      ·rw [iN F]
       by_cases h8:i<a
       ·rw [iP h8,iP oo]
       ·rw [iN h8,iN oo]
     ·exact ⟨u,o3,⟨s2,A2,n2,c2⟩,_,rfl,A0 l2 X,H,i2.mono X,fun i l=>iP oo⟩
    ·have e:lead=1:=by simpa using e1
     exact ⟨g1,o1,z,q,rfl,B0 _,ts,by rw [e,Int.mul_one];exact iz,fun i _=>by rw [e,Int.one_mul]⟩
   ·rintro bp bi bh bg hq ⟨g2,o2,z2,q2,an,l2,t2,a6,ak⟩
    simp only [aO,cJ,aW,true_and,and_true] at an
    obtain ⟨rfl,rfl,rfl,rfl⟩:=an
    have ac:j<nq:=oo
    obtain ⟨w5,z5,d0,d1⟩:=t2.qat ac
    refine ⟨_,rfl,oo,oo,_,_,_,_,t2.sep.cell d0,t2.sep.cell d1,?_⟩
    have bd:∀ i,i<nq->ZB (mv+T) (q2 i):=fun i l=>by rw [ak i l];exact bl.mul (ab i l)
    refine t2.sep.call (Dj z5 (zt.mono l2) (bd j ac) (bt.mono oo) oo ?_)
    intro s6 A6 n6 c6 g6 l6 i6 h6 S
    refine ⟨_,_,_,_,rfl,t2.sep.grow S l6,_,rfl,oo,oo,?_⟩
    refine (t2.next S l6).storeQ (i:=j) ac (w:=⟨s6,A6,n6,c6⟩) i6 ?_
    intro h7 o7 t7
    have af:g1.le g6:=A0 l2 l6
    refine ⟨fun L hq=>∃ (t:Nat) (u o3:aI),t<=nv+j/\L=[I t]/\g6.le u/\Two hq u o3 bq br nq (nv+j) (fun i=>if i=j then q2 j+C (nv+j) else q2 i) (fun i=>if i<t then C i*lead-(if j<=i then C (nv+j)*cf v (i-j) else 0) else C i),fun L _=>nv+j-(iAt L 0).toNat,⟨0,g6,o7,oo,rfl,B0 _,t7.congr (fun _ _=>rfl) (fun i _=>by rw [iN oo])⟩,?_⟩
    rintro tz hr ⟨a,u,o3,ht,aj,X,H⟩
    obtain rfl:tz=(a:Int):=by simpa using aj
    rw [aJ,cV]
    refine B4 (fun aa=>?_) (fun ay=>?_)
    ·have E:a<nv+j:=oo
     refine T7 Rd ?_
     intro bs ag
     have be:u bs=none:=by
      cases hx:u bs with
      | none=>rfl
      | some y=>rw [H.sep.le _ _ hx] at ag;cases ag
     have s2:=H.sep.vis ag (.cells #[.slice none 0 0,.slice none 0 0] 244)
     have Z0:SumS (u.put bs (.cells #[.slice none 0 0,.slice none 0 0] 244)) u bs 244 200000001 0 0:=SumS.zero be
     obtain ⟨w8,z8,a0,a1⟩:=H.rat E
     rw [iN oo] at z8
     have ad: ∀ {gg:aI} {w:IV} {x:Int},ZIr gg w x->ZB (T+mv+1) x->w.n<=100000000:=fun i b=>ZI.len i b oo
     have b8:=(N a oo).mono (show T<=T+mv+1 from oo)
     have ao:=bl.mono (show mv<=T+mv+1 from oo)
     have ar:=bt.mono (show T<=T+mv+1 from oo)
     have q1:=Oa b8 ao
     have q0:=Xq (m:=T+mv+1) (k:=2) oo oo
     have n8:=ad z8 b8
     have a5:=ad (w:=⟨sl,Al,nl,cl⟩) Q ao
     have nt:=ad zt ar
     refine ⟨_,rfl,_,rfl,oo,oo,_,_,_,_,s2.cell a0,s2.cell a1,?_⟩
     have ah:g1.le u:=A0 af X
     refine s2.call (O4 Z0 z8 (Q.mono ah) (by show w8.n+nl+1<=_;simp only at a5;omega) oo (N1:=T+mv+1) oo oo ?_)
     intro G3 g4 D Z3 H3 s3
     refine ⟨rfl,fun L hq=>∃ G g5 M,L=[]/\u.le g5/\SumS G g5 bs 244 200000001 M (C a*lead-(if j<=a then C (nv+j)*cf v (a-j) else 0))/\Sep hq G o3,?_,?_⟩
     ·refine B4 (fun bw=>?_) (fun bx=>?_)
      ·have e9:B9 ((a:Int)-(j:Int))=((a-j:Nat):Int):=by rw [B5]<;>omega
       rw [e9]
       have a7:a-j<nv+1:=oo
       obtain ⟨av,wv,rfl,zv,v0,v1⟩:=(rv.2.mono P2 (A0 l1 (A0 lg (A0 O (A0 ah D))))).zat a7
       have bv:=(hbv (a-j)).mono (show mv<=T+mv+1 from oo)
       have bo:=ad zv bv
       have b6:=Oa ar bv
       refine ⟨_,rfl,oo,oo,_,_,_,_,B7 (A0 Z3.le s3.le) v0,B7 (A0 Z3.le s3.le) v1,?_⟩
       refine s3.call (Fh Z3 (zt.mono (A0 ah D)) zv oo oo (N1:=T+mv+1) oo oo ?_)
       intro G5 g5 W Z5 H5 s5
       simp only [eQ] at Z5
       exact ⟨rfl,G5,g5,_,rfl,A0 D W,by rw [iP oo];exact Z5,s5⟩
      ·simp only [eQ] at Z3
       exact ⟨G3,g4,_,rfl,D,by rw [iN oo,eR];exact Z3,s3⟩
     ·rintro bn ⟨G5,g5,M5,_,W,Z5,s5⟩
      refine s5.call (Bg Z5 oo ?_)
      intro sv Av a9 cv G6 au z6 H6 s6
      refine ⟨_,_,_,_,rfl,_,rfl,oo,oo,?_⟩
      have t6:=H.next s6 (A0 W (A0 Z5.le au))
      refine t6.storeR E (w:=⟨sv,Av,a9,cv⟩) z6 ?_
      intro H7 a8 t8
      refine ⟨⟨a+1,G6,a8,oo,by rw [B5 oo oo];rfl,A0 X (A0 W (A0 Z5.le au)),t8.congr (fun _ _=>rfl) (fun i l=>?_)⟩,by simp only [Ca];rw [B5 oo oo];omega⟩
      by_cases F:i=a
      ·rw [iP F,iP (show i<a+1 from oo),F]
      ·rw [iN F]
       by_cases h8:i<a
       ·rw [iP h8,iP (show i<a+1 from oo)]
       ·rw [iN h8,iN (show ¬ i<a+1 from oo)]
    ·have e8:a=nv+j:=oo
     subst e8
     have a2:∀ i,i<nq->(if i=j then q2 j+C (nv+j) else q2 i)=lead*q i+(if i=j then C (nv+j) else 0):=fun i l=>by
      by_cases ai:i=j
      ·subst ai;rw [iP rfl,iP rfl,ak i l]
      ·rw [iN ai,iN ai,ak i l,Int.add_zero]
     refine ⟨⟨j,u,o3,z2,m*lead,_,_,oo,rfl,A0 O (A0 af X),H,a6.mono (A0 l6 X),pq.step ac hlead p rfl rfl a2 (fun i l=>iP l),fun i l=>?_,fun i l=>?_,?_⟩,by show ((j:Int)-1+1).toNat<((j:Int)+1).toNat;omega⟩
     ·rw [a2 i l]
      have x1:=bl.mul (ab i l)
      have x2:ZB (mv+T) (if i=j then C (nv+j) else 0):=by
       split
       ·exact bt.mono oo
       ·exact zb0
      exact (x1.add x2).mono oo
     ·show ZB _ (if i<nv+j then _ else _)
      rw [iP l]
      have x1:=(N i oo).mul bl
      have x2:ZB (T+mv) (if j<=i then C (nv+j)*cf v (i-j) else 0):=by
       split
       ·exact bt.mul (hbv _)
       ·exact zb0
      exact (x1.sub x2).mono oo
     ·rw [hμ1];exact bm.mul bl
 ·obtain rfl:k=0:=oo
  refine Bt (A7e t.visQ) oo (aP _) ?_
  intro A5 n5 c5 w5 _
  refine ⟨_,_,_,rfl,B0 _,?_⟩
  refine Bt (A7e t.visR) oo oo ?_
  intro A6 n6 c6 w6 ba
  refine ⟨_,_,_,rfl,B0 _,?_⟩
  refine hK _ _ m _ _ _ _ _ _ z _ (A0 l1 (A0 lg (A0 O t.sep.le))) w5 w6 ba (iz.mono t.sep.le) pq.1 (fun x=>?_) (Kz _) (fun _=>?_) ?_
  ·have e:=pq.2 x
   dsimp only at e
   rw [vl,A0o] at e
   rw [Hc,Hc,A90,A90,e]
  ·have:=B6i ((dG (nv+0)).map C)
   rw [cX,List.length_range] at this
   omega
  ·exact (WB.row N).trZ
end
end Go.Proofs.YtbgkfnjmcjfokaaGreatDoor
namespace Go.Proofs.YtbgkfnjmcjfokaaGreatDoor
set_option maxRecDepth 20000
def i1:((1:Int):Rat)=1:=rfl
def i0:((0:Int):Rat)=0:=rfl
structure Gc (A B G:List Int):Prop where
 nz:Nz G
 ne:G≠[]
 prim:B9a G
 da:Dv G A
 db:Dv G B
 cb:Cb A B G
structure GcI (A B a b:List Int):Prop where
 nza:Nz a
 nzb:Nz b
 a0:a≠[]
 pa:B9a a
 pb:b≠[]->B9a b
 cba:Cb A B a
 cbb:Cb A B b
 dn:∀ d,Dv d a->Dv d b->Dv d A/\Dv d B
def GcI.start{A B:List Int}(h1:Nz A)(h2:Nz B)(h3:A≠[])(h4:B9a A)(h5:B≠[]->B9a B):GcI A B A B:=⟨h1,h2,h3,h4,h5,Cb.left _ _,Cb.right _ _,fun _ x y=>⟨x,y⟩⟩
def Pm.ne{w W:List Int}{c:Int}(p:Pm w W c):W≠[]↔w≠[]:=by
 have:=p.len
 cases w<;>cases W<;>simp_all
def GcI.step{A B a b q R R':List Int}{m c:Int}(g:GcI A B a b)(hb:b≠[])(hm:m≠0)(h:∀ x,(m:Rat)*pe a x=pe q x*pe b x+pe R x)(hR:Nz R)(p:Pm R R' c):GcI A B b R':=by
 have e:∀ x,pe R x=(c:Rat)*pe R' x:=p.val
 refine ⟨g.nzb,p.nz hR,hb,g.pb hb,fun i=>p.prim (by have:=p.pos hR (p.ne.1 i);omega),g.cbb,?_,fun d j k=>?_⟩
 ·by_cases i:R=[]
  ·have:R'=[]:=by
    by_cases z:R'=[]
    ·exact z
    ·exact absurd i (p.ne.1 z)
   subst this
   exact ⟨1,[],[],dc,fun x=>by simp only [pe];grind⟩
  ·exact Cb.step (by have:=p.pos hR i;omega) h e g.cba g.cbb
 ·exact g.dn d (Dv.step hm h e j k) j
def GcI.done{A B a:List Int}(g:GcI A B a []):Gc A B a:=by
 obtain ⟨b,c⟩:=g.dn a (Dv.refl a) (Dv.nil a)
 exact ⟨g.nza,g.a0,g.pa,b,c,g.cba⟩
def Dv.one(p:List Int):Dv [1] p:=⟨1,p,dc,fun x=>by rw [Y3,i1];grind⟩
def GcI.one{A B a b:List Int}(g:GcI A B a b)(hb:b.length=1):Gc A B [1]:=by
 refine ⟨fun _=>by simp,by simp,fun k i=>?_,Dv.one _,Dv.one _,?_⟩
 ·have:=i 0
  have e:cf [1] 0=1:=rfl
  rw [e] at this
  obtain ⟨d,c⟩:=this
  have j:k.natAbs*d.natAbs=1:=by rw [<- eC,<- c];rfl
  have:=dI j
  omega
 ·obtain ⟨N,α,β,m,h⟩:=g.cbb
  match b,hb with
  | [k],_=>
   have l:k≠0:=g.nzb (by simp)
   refine ⟨N*k,α,β,fun z=>?_,fun x=>?_⟩
   ·rcases Int.mul_eq_zero.1 z with z|z<;>contradiction
   ·have:=h x
    rw [Y3,aT]
    simp only [pe] at this
    grind
def Hist(L:List (List Int))(p q:List Int):Prop:=∀ t,PCh (p::q::t)->PCh (L++q::t)
def Hist.start(S q:List Int):Hist [S] S q:=fun _ h=>h
def Hist.step{L:List (List Int)}{p q r u R:List Int}{m c:Int}(h:Hist L p q)(hm:m≠0)(e:∀ x,(m:Rat)*pe p x=pe u x*pe q x+pe R x)(hc:0<c)(hR:∀ x,pe R x=(c:Rat)*pe r x):Hist (L++[q]) q (if 0<m then R6 (-1) r else r):=by
 intro t b
 rw [cH]
 refine h _ ?_
 have d:((-1:Int):Rat)= -1:=rfl
 by_cases a:0<m
 ·rw [iP a] at b ⊢
  refine PCh.cons (α:=m) (β:=c) (u:=u) o hc (fun x=>?_) b
  rw [e,hR,G9,d];grind
 ·rw [iN a] at b ⊢
  refine PCh.cons (α:= -m) (β:=c) (u:=R6 (-1) u) o hc (fun x=>?_) b
  have:=e x
  rw [hR] at this
  rw [G9,d,dR];grind
def Hist.done{L:List (List Int)}{p q u:List Int}{m:Int}(h:Hist L p q)(hm:m≠0)(e:∀ x,(m:Rat)*pe p x=pe u x*pe q x):PCh (L++[q]):=h [] (PCh.two hm e)
def Hn.sgn{w:List Int}{num den val pw:Int}(h:Hn w num den 0 val pw)(hd:0<den){x:Rat}(hx:(num:Rat)=x*(den:Rat)):sgR (val:Rat)=sgR (pe w x):=by
 have e:=h.2 x hx
 rw [cV,dZ] at e
 have a:(0:Rat)<(den:Rat):=H0 hd
 have d:(0:Rat)<pwx (den:Rat) w.length:=by
  generalize w.length=n
  induction n with
  | zero=>show (0:Rat)<1;grind
  | succ n ih=>show (0:Rat)<(den:Rat)*pwx (den:Rat) n;exact dD a ih
 have c:=Ds (den:Rat) (val:Rat)
 have b:=Ds (pwx (den:Rat) w.length) (pe w x)
 rw [R5.2 a,e] at c
 rw [R5.2 d] at b
 omega
def A8d(z:Int):sgR (z:Rat)=z.sign:=by
 rcases Int.lt_trichotomy z 0 with h|h|h
 ·rw [Int.sign_eq_neg_one_of_neg h]
  refine S3.2 ?_
  have:=H0 (N:= -z) o
  rw [dR] at this;grind
 ·subst h;rfl
 ·rw [Int.sign_eq_one_of_pos h];exact R5.2 (H0 h)
def clB(l:Nat):Nat:=[89,22,7,3,1,1].getD l 1
def C2l:∀ a b c:Fin 6,c.val<b.val->b.val<a.val->(a.val=5->b.val=4)->clB a.val+(a.val-b.val+1)*clB b.val<=clB c.val:=dc
def Oz:∀ l:Nat,1<=clB l/\clB l<=89
 | 0=>by decide
 | 1=>by decide
 | 2=>by decide
 | 3=>by decide
 | 4=>by decide
 | 5=>by decide
 | n+6=>by simp [clB]
def Bdd(M:Nat)(w:List Int):Prop:=w.length<=5/\∃ μ,WB μ w/\μ+1<=clB w.length*(M+1)
def Bdd.start{M:Nat}{w:List Int}(h:WB M w)(hl:w.length<=5):Bdd M w:=⟨hl,M,h,by have:=(Oz w.length).1;exact cF _ this⟩
def Lb(a b:List Int):Prop:=a.length<=5/\b.length<a.length/\(a.length=5->b.length=4)
def Bdd.step{M:Nat}{a b:List Int}{l μ ν:Nat}(h1:Lb a b)(h3:l<b.length)(ha:μ+1<=clB a.length*(M+1))(hb:ν+1<=clB b.length*(M+1)):μ+(a.length-b.length+1)*(ν+1)+1<=clB l*(M+1):=by
 obtain ⟨h1,d,e⟩:=h1
 have k:=C2l ⟨a.length,o⟩ ⟨b.length,o⟩ ⟨l,o⟩ h3 d e
 have g:(a.length-b.length+1)*(ν+1)<=(a.length-b.length+1)*(clB b.length*(M+1)):=cL _ hb
 have i:clB a.length*(M+1)+(a.length-b.length+1)*(clB b.length*(M+1))=(clB a.length+(a.length-b.length+1)*clB b.length)*(M+1):=by rw [bC (clB a.length),Nat.mul_assoc]
 have c:=aE (M+1) k
 simp only at c
 omega
def Bdd.lim{M μ ν n:Nat}{a b:List Int}(hM:700*(M+1)<=40000000)(hn:n<=5)(ha:μ+1<=clB a.length*(M+1))(hb:ν+1<=clB b.length*(M+1)):μ+(n+1)*(ν+1)<=40000000:=by
 have e:=aE (M+1) (Oz a.length).2
 have d:=aE (M+1) (Oz b.length).2
 have c:(n+1)*(ν+1)<=6*(ν+1):=aE _ o
 omega
def Bdd.le{M:Nat}{w:List Int}(h:Bdd M w):WB (89*(M+1)) w:=by
 obtain ⟨_,μ,a,b⟩:=h
 have:=aE (M+1) (Oz w.length).2
 exact a.mono o
def Pm.lenNz{w W:List Int}{c:Int}(p:Pm w W c)(h:w≠[])(hw:Nz w):c≠0:=by have:=p.pos hw h;omega
def Dv.scale{d p q:List Int}{c:Int}(h:Dv d q)(e:∀ x,pe p x=(c:Rat)*pe q x):Dv d p:=by
 obtain ⟨N,f,a,b⟩:=h
 refine ⟨N,R6 c f,a,fun x=>?_⟩
 rw [e,G9]
 have:=b x
 have g:(N:Rat)*((c:Rat)*pe q x)=(c:Rat)*((N:Rat)*pe q x):=gz0
 rw [g,this];grind
structure SqF (w S:List Int):Prop where
 nz:Nz S
 ne:S≠[]
 len:S.length<=w.length
 ex:∃ (W G:List Int) (c:Int),0<c/\(∀ x,pe w x=(c:Rat)*pe W x)/\Dv G (dl W)/\(∀ x,pe W x=pe S x*pe G x)/\Nz G/\G≠[]/\Cb W (dl W) G
def Cb.scale{A B A' B' G:List Int}{a b:Int}(h:Cb A' B' G)(ha:a≠0)(eA:∀ x,pe A x=(a:Rat)*pe A' x)(eB:∀ x,pe B x=(b:Rat)*pe B' x)(hb:b=0->B'=[]):Cb A B G:=by
 obtain ⟨N,α,β,g,h⟩:=h
 by_cases c:b=0
 ·have d:=hb c
  subst d
  refine ⟨a*N,α,[],fun z=>by rcases Int.mul_eq_zero.1 z with z|z<;>contradiction,fun x=>?_⟩
  have:=h x
  rw [eA,aT]
  simp only [pe] at this ⊢
  have e:(a:Rat)*(N:Rat)*pe G x=(a:Rat)*((N:Rat)*pe G x):=gz0
  rw [e,this];grind
 ·refine ⟨a*b*N,R6 b α,R6 a β,fun z=>?_,fun x=>?_⟩
  ·rcases Int.mul_eq_zero.1 z with z|z
   ·rcases Int.mul_eq_zero.1 z with z|z<;>contradiction
   ·contradiction
  ·have:=h x
   rw [eA,eB,aT,aT,G9,G9]
   have e:(a:Rat)*(b:Rat)*(N:Rat)*pe G x=(a:Rat)*(b:Rat)*((N:Rat)*pe G x):=gz0
   rw [e,this];grind
section
variable {h:aI} {K:VP} {A B:Option aQ} {n c k d mw mv M:Nat} {w v f:List Int}
def A5k(r:WV h A n w)(rv:WV h B k v)(hf:Nz f)(hv:Nz v)(hv0:v≠[])(hf0:f≠[])(hl:w.length+1=f.length+v.length)(he:∀ x,pe w x=pe f x*pe v x)(hn:n<=1000)(hbw:WB mw w)(hbv:WB mv v)(hT:mw+(n+1)*(mv+1)<=40000000)
 (hK:∀ A' n' c' h',h.le h'->WV h' A' n' f->n'<=c'->WB (mw+n*(mv+1)) f->K (.slice A' n' c') h'):aH prog 95 #[.slice A n c,.slice B k d] h K:=by
 refine (fnk func95 [(6,[7],[],[I 0]),(11,[55],[],[I 0])] (os:=[(8,[0,1,2,3,4,5,6,7,8,11,9,10,12])]) (own:=[8,10])) ?_
 have rl:=r.1
 have vl:=rv.1
 have lv:=List.length_pos_iff.2 hv0
 have lf:=List.length_pos_iff.2 hf0
 refine C8 (fun e=>oo) (fun _=>B4 (fun e1=>oo) (fun _=>?_))
 obtain ⟨nv,rfl⟩:∃ nv,k=nv+1:=⟨k-1,oo⟩
 obtain ⟨nq,hnq⟩:∃ nq,nq=f.length:=⟨_,rfl⟩
 have X:nv+nq=n:=oo
 rw [show B9 (B9 ((n:Int)-((nv+1:Nat):Int))+1)=(nq:Int) by rw [B5 (n:=(n:Int)-((nv+1:Nat):Int)) oo oo,B5]<;>omega]
 refine D8 tWh (zx:=Zl) rfl oo oo oo oo ?_
 intro bq W
 rw [aJ]
 refine ⟨_,_,_,rfl,?_⟩
 refine Yg tWh ?_
 intro b2 Q
 refine ⟨_,_,_,rfl,?_⟩
 obtain ⟨xs,sx,G,rx⟩:=r.2
 refine Af tWh (PrivF.nil _ 76 _) (ys:=xs) G.symm (sx.mono (A0 (R1 W _) (Heap.le_put _ Q))) (by simp;omega) (by simp;omega) ?_
 intro A4 c4 h4 S ac p4
 rw [cK] at p4
 rw [cK,G]
 have ab:xs≠[]:=by intro z;rw [z] at G;simp at G;omega
 obtain ⟨br,g,o,rfl,lg,H⟩:=Zx (q:=fun _=>0) (r:=cf w) W (A0 (Heap.le_put _ Q) ac) p4 ab (fun i s=>⟨Zl,by rw [eI,iP (by simpa using s)],ZI.zero⟩) (by rw [G];exact rx)
 rw [cI,G] at H
 have aa:v.length-1=nv:=oo
 have hβ:∀ j,j<=nq->mw+j*(mv+1)<=40000000:=fun j hj=>by
  have:=aE (mv+1) (show j<=n+1 from oo)
  omega
 have an:mv<=40000000:=by
  have:=cF (mv+1) (show 0<n+1 from oo)
  omega
 have a:=hv.lead hv0
 refine ⟨_,_,_,rfl,fun L hp=>∃ (k:Nat) (g' o':aI) (q r:Nat->Int),k<=nq/\L=[I ((k:Int)-1)]/\g.le g'/\Two hp g' o' bq br nq n q r/\QE f v k r/\(∀ i,k<=i->i<nq->q i=cf f i)/\(∀ i,k<=i->ZB (mw+nq*(mv+1)) (cf f i))/\(∀ i,i<n->ZB (mw+(nq-k)*(mv+1)) (r i)),fun L _=>(iAt L 0+1).toNat,
  ⟨nq,g,o,fun _=>0,cf w,aP _,by rw [B5 oo oo],B0 _,H,by rw [hnq];exact QE.start (fun x=>by rw [aa,<- hnq,X,rl,A0o];exact he x),fun i h1 h2=>oo,fun i s=>by rw [A5d oo];exact zb0,fun i _=>(hbw i).mono oo⟩,?_⟩
 rintro kz hp ⟨k,g1,o1,q,r1,al,eL,l,t,qe,hq,M,D⟩
 obtain rfl:kz=(k:Int)-1:=by simpa using eL
 refine B4 (fun am=>?_) (fun ad=>?_)
 ·obtain ⟨j,rfl⟩:∃ j,k=j+1:=⟨k-1,oo⟩
  rw [show ((j+1:Nat):Int)-1=(j:Int) from oo]
  have ei:B9 (B9 (((nv+1:Nat):Int)-1)+(j:Int))=((nv+j:Nat):Int):=by rw [B5 (n:=((nv+1:Nat):Int)-1) oo oo,B5]<;>omega
  have ej:B9 ((j:Int)-1)=(j:Int)-1:=B5 oo oo
  rw [ei,ej]
  obtain ⟨tw,zt,f0,f1⟩:=t.rat (i:=nv+j) oo
  refine ⟨_,rfl,oo,oo,_,_,_,_,t.sep.cell f0,t.sep.cell f1,?_⟩
  have ae:nq-j=(nq-(j+1))+1:=oo
  have hβ1:mw+(nq-j)*(mv+1)=mw+(nq-(j+1))*(mv+1)+(mv+1):=by rw [ae,bC,bX];omega
  have b1:=hβ (nq-j) oo
  have b0:mw+(nq-(j+1))*(mv+1)<=mw+nq*(mv+1):=by
   have:=aE (mv+1) (show nq-(j+1)<=nq from oo)
   omega
  generalize hT:mw+(nq-(j+1))*(mv+1)=T at *
  have bt:=D (nv+j) oo
  have lw:h.le hp:=A0 lg (A0 l t.sep.le)
  refine t.sep.call (Jr (rv.mono (A0 lg l)) oo ?_)
  intro sl Al nl cl il ak F
  rw [bO] at il
  refine ⟨_,_,_,_,rfl,t.sep.grow F (B0 _),?_⟩
  have O:j<f.length:=oo
  have b:=qe.top O hv0
  rw [aa] at b a
  refine F.call (P0 zt il (bt.mono (show T<=T+mv from oo)) ((hbv nv).mono oo) oo a ?_)
  intro s1 A1 n1 c1 g2 y i2 h1 V
  rw [b,Int.mul_tdiv_cancel _ a] at i2
  have C:ZB T (cf f j):=by
   have:=bt
   rw [b] at this
   refine this.le ?_
   rw [eC]
   exact bY _ oo
  refine ⟨_,_,_,_,rfl,F.grow V y,_,rfl,oo,oo,?_⟩
  refine (t.next V y).storeQ (i:=j) oo (w:=⟨s1,A1,n1,c1⟩) i2 ?_
  intro h3 o3 t3
  refine ⟨fun L hq=>∃ (u:Nat) (S o4:aI),u<=nv+1/\L=[I u]/\g2.le S/\Two hq S o4 bq br nq n (fun i=>if i=j then cf f j else q i) (fun i=>r1 i-(if j<=i/\i<j+u then cf f j*cf v (i-j) else 0)),fun L _=>nv+1-(iAt L 0).toNat,⟨0,g2,o3,oo,rfl,B0 _,t3.congr (fun _ _=>rfl) (fun i _=>by rw [iN oo,eR])⟩,?_⟩
  rintro tz hr ⟨u,S,o4,hu,af,l4,p⟩
  obtain rfl:=sI1 af
  refine B4 (fun ad=>?_) (fun aj=>?_)
  ·have e9:B9 ((u:Int)+(j:Int))=((u+j:Nat):Int):=by rw [B5]<;>omega
   rw [e9]
   have ai:u<nv+1:=oo
   obtain ⟨av,wv,rfl,zv,v0,v1⟩:=(rv.2.mono P2 (A0 lg (A0 l (A0 y l4)))).zat ai
   obtain ⟨w8,z8,a0,a1⟩:=p.rat (i:=u+j) oo
   rw [iN oo,eR] at z8
   refine ⟨_,rfl,oo,oo,_,_,_,_,B7 p.sep.le v0,B7 p.sep.le v1,_,rfl,oo,oo,_,_,_,_,p.sep.cell a0,p.sep.cell a1,?_⟩
   refine p.sep.call (F7 (i2.mono l4) zv (C.mono (show T<=T+mv from oo)) ((hbv u).mono oo) oo ?_)
   intro s5 A5 n5 c5 g5 l5 i5 h5 E
   refine ⟨_,_,_,_,rfl,p.sep.grow E l5,?_⟩
   refine E.call (Zj (z8.mono l5) i5 ((D (u+j) oo).mono (show T<=T+mv from oo)) (C.mul (hbv u)) oo ?_)
   intro s6 A6 n6 c6 g6 l6 i6 h6 R
   refine ⟨_,_,_,_,rfl,E.grow R l6,_,rfl,oo,oo,?_⟩
   refine (p.next R (A0 l5 l6)).storeR (i:=u+j) oo (w:=⟨s6,A6,n6,c6⟩) i6 ?_
   intro h7 o7 t7
   refine ⟨⟨u+1,g6,o7,oo,by rw [B5 oo oo];rfl,A0 l4 (A0 l5 l6),t7.congr (fun _ _=>rfl) (fun i s=>?_)⟩,by simp only [Ca];rw [B5 oo oo];omega⟩
   by_cases N:i=u+j
   ·subst N
    rw [iP rfl,iP oo,bO]
   ·rw [iN N]
    by_cases h8:j<=i/\i<j+u
    ·rw [iP h8,iP oo]
    ·rw [iN h8,iN oo]
  ·have e8:u=nv+1:=oo
   subst e8
   refine ⟨⟨j,S,o4,_,_,oo,rfl,A0 l (A0 y l4),p,qe.step O hv0 (fun i s=>?_),fun i h1 h2=>?_,fun i s=>?_,fun i s=>?_⟩,by show ((j:Int)-1+1).toNat<((j:Int)+1).toNat;omega⟩
   ·rw [show nv+1=v.length from oo]
   ·show (if i=j then cf f j else q i)=_
    by_cases m:i=j
    ·subst m;rw [iP rfl]
    ·rw [iN m];exact hq i oo h2
   ·by_cases m:i=j
    ·subst m;exact C.mono b0
    ·exact M i oo
   ·show ZB _ (r1 i-_)
    have x2:ZB (T+mv) (if j<=i/\i<j+(nv+1) then cf f j*cf v (i-j) else 0):=by
     split
     ·exact C.mul (hbv _)
     ·exact zb0
    rw [hβ1]
    exact (((D i s).mono (show T<=T+mv from oo)).sub x2).mono oo
 ·obtain rfl:k=0:=oo
  have wv:WV hp (some ⟨bq,0,none⟩) nq f:=⟨hnq,t.visQ.congr fun i s=>hq i oo s⟩
  refine Bt wv oo (aP _) ?_
  intro A5 n5 c5 w5 ag
  rw [A4g hf] at w5
  refine ⟨_,_,_,rfl,hK _ _ _ _ (A0 lg (A0 l t.sep.le)) w5 ag fun i=>(M i oo).mono ?_⟩
  have:=aE (mv+1) (show nq<=n from oo)
  omega
end
def len2:List bH->Nat
 | [_,.slice _ n _]=>n
 | _=>0
def B9k{h:aI}{s:Bool}{A:Option aQ}{n c b:Nat}{z:Int}{e:dO}(i:ZI h s A n c z)(hb:h b=none):WV (h.put b (.cells ([Value.agg #[.bool s,.slice A n c]].flatMap (fun v=>v.cells.toList)).toArray e)) (some ⟨b,0,none⟩) 1 [z]:=by
 refine ⟨rfl,[(⟨s,A,n,c⟩:IV)],U4 e h b [(⟨s,A,n,c⟩:IV)],rfl,fun k a=>?_⟩
 have:k=0:=o
 subst this
 exact ⟨_,rfl,i.mono (Heap.le_put _ hb)⟩
section
variable {h:aI} {K:VP} {A B:Option aQ} {n c k d mw mv M:Nat} {w v f:List Int}
def A5l(gl:Gtz h)(r:WV h A n w)(rv:WV h B k v)(hw:Nz w)(hv:Nz v)(hw0:w≠[])(hk:k+1=n)(hn:n<=5)(hc:n<=c)(hd:k<=d)(bw:WB M w)(bv:WB M v)(hM:700*(M+1)<=40000000)
 (hK:∀ W V cw cv G A' n' c' h',h.le h'->WV h' A' n' G->n'<=c'->Pm w W cw->Pm v V cv->Gc W V G->WB (89*(M+1)) G->G.length<=5->K (.slice A' n' c') h'):aH prog 96 #[.slice A n c,.slice B k d] h K:=by
 refine (fnk func96 [(4,[5,6],[],[.slice none 0 0,.slice none 0 0])] (own:=[9])) ?_
 refine O2 gl r hw o bw o hc ?_
 intro W cw A1 c1 h1 l1 w1 pw bW aa
 refine ⟨_,_,_,rfl,?_⟩
 refine O2 (gl.mono l1) (rv.mono l1) hv o bv o hd ?_
 intro V cv A2 c2 h2 l2 w2 pv bV ad
 refine ⟨_,_,_,rfl,B4 (fun e=>o) (fun _=>?_)⟩
 have nW:=pw.nz hw
 have nV:=pv.nz hv
 have W0:W≠[]:=pw.ne.2 hw0
 have L1:=w1.1
 have L2:=w2.1
 refine ⟨fun L F=>∃ (a b:List Int) (A1:Option aQ) (n1 c1:Nat) (A2:Option aQ) (n2 c2:Nat),L=[.slice A1 n1 c1,.slice A2 n2 c2]/\h2.le F/\WV F A1 n1 a/\WV F A2 n2 b/\n1<=c1/\n2<=c2/\GcI W V a b/\Bdd M a/\Bdd M b/\Lb a b,fun L _=>len2 L,
  ⟨W,V,A1,n,c1,A2,k,c2,rfl,B0 _,w1.mono l2,w2,aa,ad,GcI.start nW nV W0 (pw.prim (by have:=pw.pos hw hw0;omega)) (fun z=>pv.prim (by have:=pv.pos hv (pv.ne.1 z);omega)),Bdd.start bW o,Bdd.start bV o,o,o,o⟩,?_⟩
 rintro aA an ac bA bn bc F ⟨a,b,A3,n3,c3,A4,n4,c4,eL,lp,wa,T,p,N,g,C,ae,H⟩
 simp only [aO,aW,and_true] at eL
 obtain ⟨⟨rfl,rfl,rfl⟩,rfl,rfl,rfl⟩:=eL
 have la:=wa.1
 have D:=T.1
 have j:=A0 l1 (A0 l2 lp)
 refine B4 (fun ag=>C8 (fun e1=>?_) (fun e1=>?_)) (fun hz=>?_)
 ·refine N5 o o ?_
  intro s5 A5 n5 c5 h5 s i5
  refine ⟨_,_,_,_,rfl,?_⟩
  refine H8 tWh (vs:=[.agg #[.bool s5,.slice A5 n5 c5]]) (fun u hu=>by rw [List.mem_singleton.1 hu];rfl) rfl (by show 1*2<=16777216;decide) rfl ?_
  intro b6 y
  refine ⟨_,_,_,rfl,hK W V cw cv [1] _ 1 1 _ (A0 j (A0 s (Heap.le_put _ y))) (B9k i5 y) (aP _) pw pv (g.one o) (fun i=>?_) (by simp)⟩
  cases i with
  | zero=>exact ZB.one o
  | succ i=>exact zb0
 ·have E:b≠[]:=by rintro rfl;simp at D;omega
  obtain ⟨ah,μ,bμ,hμ⟩:=C
  obtain ⟨Q,ν,bν,hν⟩:=ae
  have lim:=Bdd.lim (n:=an) hM o hμ hν
  refine Ks (wa) T g.nza g.nzb o o p bμ bν lim ?_
  intro q R m A5 n5 c5 A6 n6 c6 z h5 s _ wR af iz m0 he nR O bR
  refine ⟨_,_,_,_,_,_,_,_,_,_,rfl,?_⟩
  have hR:=O E
  have lR:=wR.1
  have st:=fun l h3=>Bdd.step (M:=M) (l:=l) H h3 hμ hν
  rw [la,D] at bR
  have bz:=aE (M+1) (Oz R.length).2
  have X:=st _ hR
  refine O2 ((gl.mono j).mono s) wR nR o bR o af ?_
  intro R' x A7 c7 h7 l7 w7 p7 b7 ab
  have S:=p7.len
  refine ⟨_,_,_,rfl,⟨b,R',bA,bn,bc,A7,n6,c7,rfl,A0 lp (A0 s l7),(T.mono s).mono l7,w7,N,ab,g.step E m0 he nR p7,⟨Q,ν,bν,hν⟩,⟨o,_,b7,by rw [S];exact X⟩,⟨o,o,by have:=H.2.1;have:=H.1;omega⟩⟩,by show n6<bn;omega⟩
 ·have E:b=[]:=aN o
  subst E
  exact hK W V cw cv a _ _ _ _ j wa p pw pv g.done C.le H.1
end
def WB.dl{m:Nat}{w:List Int}(h:WB m w)(hl:w.length<=1000):WB (m+10) (dl w):=fun i=>by
 rw [B8v]
 by_cases a:i+1<w.length
 ·refine (h (i+1)).mul ?_
  unfold ZB
  have:(2:Nat)^10=1024:=rfl
  omega
 ·rw [A5d o,Int.zero_mul];exact zb0
section
variable {h:aI} {K:VP} {A B:Option aQ} {n c k d mw mv M:Nat} {w v f:List Int}
def Y9(gl:Gtz h)(r:WV h A n w)(hw:Nz w)(hw0:w≠[])(hn:n<=5)(hc:n<=c)(bw:WB M w)(hM:700*(M+11)<=40000000)
 (hK:∀ S A' n' c' h',h.le h'->WV h' A' n' S->n'<=c'->SqF w S->WB (451*(M+11)) S->K (.slice A' n' c') h'):aH prog 33 #[.slice A n c] h K:=by
 refine (fnk func33) ?_
 refine O2 gl r hw o bw o hc ?_
 intro W cw A1 c1 h1 H g pw j C
 refine ⟨_,_,_,rfl,?_⟩
 have b:=pw.nz hw
 have W0:W≠[]:=pw.ne.2 hw0
 have s:=pw.pos hw hw0
 have L1:=g.1
 have lW:=List.length_pos_iff.2 W0
 have bD:=j.dl o
 refine Kt g o (j.mono (show M<=M+10 from o)) o o ?_
 intro A2 n2 c2 h2 l L B
 refine ⟨_,_,_,rfl,?_⟩
 have L2:=L.1
 rw [Qd] at L2
 have T:=(gl.mono H).mono l
 refine A5l T (g.mono l) L b (A67 b) W0 o hn C B (j.mono (show M<=M+10 from o)) bD o ?_
 intro W2 V2 R aa G A3 n3 c3 h3 F E ad m i a Q lG
 refine ⟨_,_,_,rfl,?_⟩
 have dW:Dv G W:=Dv.scale a.da m.val
 have V:Dv G (dl W):=Dv.scale a.db i.val
 obtain ⟨N,e,X,he⟩:=id dW
 obtain ⟨f,hf⟩:=C4x a.prim N.natAbs N W e (aP _) X he
 have k:∀ x,pe W x=pe (trZ f) x*pe G x:=fun x=>by rw [Hc,hf x]
 have S0:trZ f≠[]:=by
  intro z
  obtain ⟨x,hx⟩:=b.val W0
  refine hx ?_
  rw [k x,z];simp only [pe];grind
 have u:=Kz f
 have d:=Sk (N:=1) dc b u a.nz S0 a.ne (fun x=>by rw [show ((1:Int):Rat)=1 from rfl,<- k x];grind)
 have ab:=List.length_pos_iff.2 a.ne
 have L3:=E.1
 have hβ:(n+1)*(89*(M+10+1)+1)<=6*(90*(M+11)):=aY o o
 have hβ2:n*(89*(M+10+1)+1)<=5*(90*(M+11)):=aY o o
 refine A5k ((g.mono l).mono F) E u a.nz a.ne S0 d k o j Q o ?_
 intro A4 n4 c4 h4 l4 O p b4
 refine ⟨_,_,_,rfl,hK _ _ _ _ _ (A0 H (A0 l (A0 F l4))) O p ⟨u,S0,by have:=pw.len;omega,W,G,cw,s,pw.val,V,k,a.nz,a.ne,?_⟩ (b4.mono o)⟩
 refine a.cb.scale (m.lenNz W0 b) m.val i.val fun z=>?_
 have q:=i.ne
 by_cases D:dl W=[]
 ·by_cases y:V2=[]
  ·exact y
  ·exact absurd D (q.1 y)
 ·exact absurd z (i.lenNz D (A67 b))
def Bu{x:QV}{q:Rat}{p:Nat}(r:WV h A n w)(iq:RQ h x q)(hn:n<=1000)(hb:WB mw w)(hq:Sz p q)(hT:mw+(n+2)*(p+1)<=40000000)
 (hK:∀ s A' n' c' z pw h',h.le h'->ZI h' s A' n' c' z->Hn w q.num (q.den:Int) 0 z pw->ZB (mw+1+n*(p+1)) z->K (.agg #[.bool s,.slice A' n' c']) h'):aH prog 86 #[.slice A n c,x.v] h K:=by
 refine (fnk func86 [(5,[9],[(5,2),(8,2)],[I 0,.bool false,.slice none 0 0,.bool false,.slice none 0 0])] (os:=[(2,[0,2,4,5,1,3,6,7])]) (own:=[3,4,5,6,7,8]) (wr:=[170])) ?_
 refine Rx iq ⟨_,_,_,_,rfl,B0 _,?_⟩
 refine U6 iq ?_
 intro s1 A1 n1 c1 h1 l1 i1
 refine ⟨_,_,_,_,rfl,l1,?_⟩
 refine N5 o o ?_
 intro s2 A2 n2 c2 h2 l2 i2
 have rl:=r.1
 refine ⟨_,_,_,_,rfl,fun L B=>∃ (k:Nat) (u y:IV) (E G:Int),k<=n/\L=[I ((k:Int)-1),.bool u.s,.slice u.A u.n u.c,.bool y.s,.slice y.A y.n y.c]/\h2.le B/\ZIr B u E/\ZIr B y G/\Hn w q.num (q.den:Int) k E G/\ZB (mw+1+(n-k)*(p+1)) E/\ZB (1+(n-k)*p) G,fun L _=>(iAt L 0+1).toNat,
  ⟨n,⟨false,none,0,0⟩,⟨s2,A2,n2,c2⟩,0,1,aP _,by rw [B5 o o],B0 _,ZI.zero,i2,by rw [rl];exact Hn.start _ _ _,zb0,by rw [eK];exact ZB.one o⟩,?_⟩
 rintro i v0 vA vn vc p0 pA pn pc B ⟨k,u,y,E,G,hk,eL,Q,S,X,hh,M,e⟩
 simp only [aO,aR,cJ,aW,true_and,and_true] at eL
 obtain ⟨rfl,rfl,⟨rfl,rfl,rfl⟩,rfl,rfl,rfl,rfl⟩:=eL
 have W:=A0 l1 l2
 have D:=A0 W Q
 refine B4 (fun ad=>?_) (fun ae=>?_)
 ·obtain ⟨j,rfl⟩:∃ j,k=j+1:=⟨k-1,o⟩
  rw [show ((j+1:Nat):Int)-1=(j:Int) from o]
  have F:n-j=(n-(j+1))+1:=o
  have hβ1:mw+1+(n-j)*(p+1)=mw+1+(n-(j+1))*(p+1)+(p+1):=by rw [F,bC,bX];omega
  have hμ1:1+(n-j)*p=1+(n-(j+1))*p+p:=by rw [F,bC,bX];omega
  have ac:(n-j)*(p+1)<=n*(p+1):=aE _ o
  have O:(n+2)*(p+1)=n*(p+1)+2*(p+1):=bC _ _ _
  have ag:(n-(j+1))*p<=(n-(j+1))*(p+1):=cL _ o
  have af:mw+1+(n-(j+1))*(p+1)+(p+1)<=40000000:=o
  generalize hT1:(n-(j+1))*(p+1)=T at *
  generalize hU1:(n-(j+1))*p=U at *
  refine T7 Rd ?_
  intro b aa
  have Z0:SumS (B.put b (.cells #[.slice none 0 0,.slice none 0 0] 244)) B b 244 200000001 0 0:=SumS.zero aa
  refine ⟨_,rfl,?_⟩
  have g:=iq.num.mono D
  have d: ∀ {gg:aI} {w:IV} {x:Int},ZIr gg w x->ZB (mw+T+p+2) x->w.n<=100000000:=fun i b=>ZI.len i b o
  have b1:=M.mono (show mw+1+T<=mw+T+p+2 from o)
  have b2:=hq.1.mono (show p<=mw+T+p+2 from o)
  have b3:=(hb j).mono (show mw<=mw+T+p+2 from o)
  have b4:=e.mono (show 1+U<=mw+T+p+2 from o)
  have x1:=Oa b1 b2
  have x2:=Oa b3 b4
  have q0:=Xq (m:=mw+T+p+2) (k:=2) o o
  have m1:=d S b1
  have m2:=d (w:=⟨x.s,x.A,x.n,x.c⟩) g b2
  have m4:=d X b4
  refine O4 Z0 S g (by show u.n+x.n+1<=_;simp only at m2;omega) o (N1:=mw+T+p+2) o o ?_
  intro G3 g3 C Z3
  obtain ⟨a,ww,rfl,iw,f0,f1⟩:=(r.2.mono P2 (A0 D C)).zat (i:=j) o
  have m3:=d iw b3
  refine ⟨rfl,a,rfl,o,o,_,_,_,_,B7 Z3.le f0,B7 Z3.le f1,?_⟩
  refine O4 Z3 iw (X.mono C) o o (N1:=mw+T+p+2) o o ?_
  intro G4 g4 V Z4
  refine ⟨rfl,Bg Z4 o ?_⟩
  intro sv Av nv cv G5 H z5
  simp only [eQ] at z5
  refine ⟨_,_,_,_,rfl,?_⟩
  have N:B.le G5:=A0 C (A0 V (A0 Z4.le H))
  have l:ZB p (q.den:Int):=hq.2
  refine F7 (X.mono N) (i1.mono (A0 (A0 l2 Q) N)) (e.mono (show 1+U<=1+U+p from o)) (l.mono o) o ?_
  intro s6 A6 n6 c6 h6 l6 i6
  refine ⟨_,_,_,_,rfl,⟨j,⟨sv,Av,nv,cv⟩,⟨s6,A6,n6,c6⟩,_,_,o,by rw [B5 o o],A0 Q (A0 N l6),z5.mono l6,i6,hh.step o,?_,?_⟩,by show (B9 ((j:Int)-1)+1).toNat<((j:Int)+1).toNat;rw [B5 o o];omega⟩
  ·rw [hβ1]
   have y1:=M.mul hq.1
   have y2:=(hb j).mul e
   exact ((y1.mono (show mw+1+T+p<=mw+1+T+p from o)).add (y2.mono (show mw+(1+U)<=mw+1+T+p from o))).mono o
  ·rw [hμ1]
   exact e.mul l
 ·obtain rfl:k=0:=o
  exact hK _ _ _ _ E G _ D S hh M
end
section
set_option maxRecDepth 100000
variable {h:aI} {K:VP}
def C5g:dP prog 164 73 (N0) 1 24:=⟨by kernel_rfl,by kernel_rfl,rfl,dc⟩
end
section
variable {α:Type} [E:Enc α]
def OwnSl.store{P:eD}{t e:dO}(one:P.cellsOf t=E.default.size/\(P.info? t).isSome=true){v:bH}{y:α}(hv:v.cells=(enc y).toArray){h g o:aI}{A:Option aQ}{c:Nat}{xs:List α}(s:Sep h g o)(w:dB o e A c xs){i b:Nat}(hi:i<xs.length)(hA:A=some ⟨b,0,none⟩){K:Unit->aI->Prop}
 (x:∀ h' o',Sep h' g o'->dB o' e A c (xs.set i y)->(∀ k,k≠b->o' k=o k)->K () h'):wpH P (bN t (.pointer (some (aC ⟨b,0,none⟩ (i*E.default.size)))) v) K h:=by
 rcases w.2 with ⟨F,_⟩|⟨G,l,d,q,u,C⟩
 ·exfalso;grind
 ·rw [hA] at d
  simp only [cD,cT,and_true] at d
  subst d
  obtain ⟨ex,hex⟩:∃ ex,l=xs.flatMap enc++ex:=⟨l.drop (xs.length*E.default.size),by rw [<- C,List.take_append_drop]⟩
  rw [hex] at q u
  obtain ⟨z,j⟩:=Option.isSome_iff_exists.1 one.2
  have D:z.size=E.default.size:=by simpa [Program.cellsOf,j] using one.1
  have n:=E.default.len y
  have p:(i+1)*E.default.size<=xs.length*E.default.size:=aE _ hi
  rw [bC,bX] at p
  have a:(h.without b).put b (.cells (xs.flatMap enc++ex).toArray e)=h:=K7 (s.own b _ q)
  unfold bN
  simp only [C1,Instr.sureAddr,I4,storeVar,L4 j,D,hv,List.size_toArray,n,ne_eq,not_true_eq_false,if_false]
  rw [D4,aX,<- a]
  refine I3 (enc y) (i*E.default.size) 0 _ (by rw [bG,I7,n];omega) (E.default.one y) ?_
  have m:F2 (xs.flatMap enc++ex) (i*E.default.size+0) (enc y)=(xs.set i y).flatMap enc++ex:=by
   rw [eM,<- Yp xs hi]
   unfold F2
   rw [dN (by rw [I7];omega),List.drop_append_of_le_length (by rw [I7,n];omega),cH,cH,cH]
  rw [m]
  have r:(h.without b).put b (.cells ((xs.set i y).flatMap enc++ex).toArray e)=h.put b (.cells ((xs.set i y).flatMap enc++ex).toArray e):=by
   rw [<- a,W7,a]
  rw [r]
  refine x _ _ (s.upd q _) ⟨by simpa using w.1,.inr ⟨b,(xs.set i y).flatMap enc++ex,hA,B8 _ _ _,?_,?_⟩⟩ (fun k B=>B6 _ _ B)
  ·rw [bG,I7] at u ⊢
   grind
  ·rw [dN (by rw [I7];omega),eO (by rw [I7];omega)]
end
section
variable {h g:aI} {K:VP} {A:Option aQ} {n c cols:Nat}
def B1t(h:aI)(v:bH)(A:Option aQ)(n c cols:Nat):Prop:=∃ f0 f1:aQ,v= .func (.func 309) #[] #[.pointer (some f0),.pointer (some f1)]/\h.cell? f0=some (.slice A n c)/\h.cell? f1=some (I (cols:Int))
def A6s(hc:1<=cols)(hK:∀ v h',h.le h'->B1t h' v A n c cols->K v h'):aH prog 276 #[.slice A n c,I (cols:Int)] h K:=by
 refine (fnk func276) ?_
 refine Pc ?_
 intro b g
 refine ⟨_,rfl,Pc ?_⟩
 intro d a
 have c1:Heap.cell? ((h.put b (.cells (bU (.slice A n c)) 54)).put d (.cells (bU (I (cols:Int))) 3)) ⟨d,0,none⟩=some (I (cols:Int)):=by rw [C4];rfl
 refine ⟨_,rfl,_,c1,B4 (fun e=>o) (fun _=>hK _ _ (A0 (Heap.le_put _ g) (Heap.le_put _ a)) ⟨⟨b,0,none⟩,⟨d,0,none⟩,rfl,?_,c1⟩)⟩
 refine B7 (Heap.le_put _ a) ?_
 rw [C4];rfl
def A38{g0:aI}{v:bH}{rows:Nat}(ic:B1t g0 v A (rows*cols) c cols)(hc:1<=cols)(hn:rows*cols<=1000000000)(hcap:rows*cols<=c){B:List bH->aI->(aI->Prop)->Prop}{K:aI->Prop}(J:Nat->aI->Prop)(h0:J 0 h)(hle:∀ k h,J k h->g0.le h)
 (hB:∀ k h1,k<rows->J k h1->B [.slice (U3 A ((k+1)*cols) (k*cols) 4) cols cols] h1 (J (k+1))) (hK:∀ h1,J rows h1->K h1):Wj prog v h B K:=by
 obtain ⟨n,q,rfl,C,y⟩:=ic
 refine ⟨309,#[],#[.pointer (some n),.pointer (some q)],rfl,Zg,?_⟩
 intro l rec M a
 show aH _ _ #[.func (.yield l) #[] #[],.pointer (some n),.pointer (some q)] _ _
 refine (fnk func309 [(1,[4],[],[I 0])]) ?_
 refine ⟨fun L w=>∃ (k:Nat) (h1:aI),k<=rows/\L=[I ((k*cols:Nat):Int)]/\h1 l=none/\w=h1.put l (.loop rec)/\J k h1,fun L _=>rows*cols-(iAt L 0).toNat,⟨0,h,o,by simp,M,rfl,h0⟩,?_⟩
 rintro i w ⟨k,h1,Q,S,g,rfl,x⟩
 obtain rfl:i=((k*cols:Nat):Int):=gz0
 have p:=A0 (hle k h1 x) (Heap.le_put (.loop rec) g)
 have m:=B7 p C
 have F:=B7 p y
 refine ⟨_,_,_,m,B4 (fun E=>?_) (fun z=>?_)⟩
 ·have d:k<rows:=by
   grind
  have O:(k+1)*cols<=rows*cols:=aE _ d
  have T:(k+1)*cols=k*cols+cols:=gz0
  have H:(if ((rows*cols-(((k*cols:Nat):Int)).toNat:Nat):Int)<(cols:Int) then ((rows*cols-(((k*cols:Nat):Int)).toNat:Nat):Int) else (cols:Int))=(cols:Int):=by
   omega
  have s:B9 (((k*cols:Nat):Int)+(cols:Int))=(((k+1)*cols:Nat):Int):=by rw [B5]<;>omega
  refine ⟨_,F,_,_,_,m,⟨o,o⟩,_,_,_,m,?_⟩
  rw [H,s]
  simp only [aJ]
  have D:(k+1)*cols-k*cols=cols:=o
  rw [D]
  refine ⟨⟨o,o⟩,⟨o,o⟩,⟨o,o⟩,?_⟩
  refine (a _ h1 (J (k+1)) g (hB k h1 d x)).mono ?_
  rintro r R ⟨rfl,u,e,rfl,b⟩
  refine ⟨_,rfl,?_⟩
  show ∃ (t11:Int),_
  have j:=A0 (hle _ u b) (Heap.le_put (.loop rec) e)
  refine ⟨_,B7 j y,?_⟩
  rw [s]
  exact ⟨⟨k+1,u,o,rfl,e,rfl,b⟩,by simp only [Ca];omega⟩
 ·have G:k=rows:=by
   by_cases N:k=rows
   ·exact N
   ·exfalso
    have:(k+1)*cols<=rows*cols:=aE _ o
    grind
  grind
end
section
variable {α:Type} [E:Enc α]
def Tw{P:eD}{t e:dO}{z:bH}{bytes:Nat}(st:dP P t e z E.default.size bytes){h g o:aI}{A:Option aQ}{c:Nat}{xs:List α}(s:Sep h g o)(w:dB o e A c xs){v:bH}{y:α}(hv:v.cells=(enc y).toArray)(hsz:E.default.size<=1000)
 (hb:(2*(xs.length+1)+192)*bytes<=281474976710656) (hn:xs.length+1<=9223372036854775807) {K:VP}
 (x0:∀ B m d hp,h.le hp->(∀ {ty:dO} {K2:VP},(∀ A' c' h' g' o',g.le g'->Sep h' g' o'->dB o' e A' c' (xs++[y])->(∀ k u,o k=some u->A≠some ⟨k,0,none⟩->o' k=some u/\A'≠some ⟨k,0,none⟩)->K2 (.slice A' (xs.length+1) c') h')->wpH P (cY #[t,t] ty #[.slice A xs.length c,.slice B m d]) K2 hp)->K (.slice B m d) hp):
 wpH P (bL t 1 #[(0,v)]) K h:=by
 obtain ⟨V,p,N⟩:=w.priv s
 refine H8 st (vs:=[v]) (fun u hu=>by rw [List.mem_singleton.1 hu,hv];simp [E.default.len]) rfl gz0 rfl ?_
 intro b i
 have M:[v].flatMap (fun v=>v.cells.toList)=[y].flatMap enc:=by simp [hv]
 rw [M]
 refine x0 _ _ _ _ (Heap.le_put _ i) (fun {ty K2} x=>?_)
 have p':PrivF (h.put b (.cells ([y].flatMap enc).toArray e)) (V.put b (.cells ([y].flatMap enc).toArray e)) e A c xs:=Priv.put p i _
 refine Af st p' (ys:=[y]) rfl (U4 e h b [y]) hb hn ?_
 intro A' c' h' g' X hp
 rw [bG]
 have r:∀ k u,h k=some u->A≠some ⟨k,0,none⟩->g' k=some u:=by
  intro k u a S
  have l:k≠b:=gz0
  exact X k u (by rw [B6 _ _ l];grind)
 have L:∀ k u,g k=some u->A≠some ⟨k,0,none⟩:=by
  intro k u a C
  rcases w.2 with ⟨_,h0⟩|⟨q,n,j,D,_⟩
  ·grind
  ·rw [C] at j
   simp only [cD,cT,and_true] at j
   subst j
   rw [s.dis k _ D] at a;cases a
 rcases hp.2.2 with ⟨T,_⟩|⟨q,n,j,D,F,ha,W⟩
 ·exfalso
  have:=hp.2.1
  grind
 ·subst j
  let o':aI:=fun k=>if k=q then some (.cells (List.toArray n) e) else if A=some ⟨k,0,none⟩ then none else o k
  have Q:o' q=some (.cells (List.toArray n) e):=gz0
  have ok:∀ k,k≠q->A≠some ⟨k,0,none⟩->o' k=o k:=fun k R H=>by grind
  let g2:aI:=fun k=>match o' k with|some _=>none|none=>h' k
  have gs:∀ k u,o' k=some u->g2 k=none:=fun k u a=>by grind
  have gn:∀ k,o' k=none->g2 k=h' k:=fun k a=>by grind
  have G:∀ k u,k≠q->g' k=some u->h' k=some u:=fun k u R a=>by rw [F,B6 _ _ R];exact a
  have O:∀ k u,o k=some u->A≠some ⟨k,0,none⟩->k≠q:=by
   rintro k u a H rfl
   have:=r k u (s.own k u a) H
   grind
  refine x _ c' h' g2 o' (fun k u a=>?_) ⟨fun k u a=>?_,fun k a=>(gn k a).symm,gs⟩ ⟨hp.2.1,.inr ⟨q,n,rfl,Q,ha,W⟩⟩ (fun k u a H=>?_)
  ·have aa:o k=none:=by
    cases ho:o k with
    | none=>rfl
    | some y=>rw [s.dis k y ho] at a;cases a
   have C:=L k u a
   have e3:=r k u (s.le k u a) C
   grind
  ·by_cases l:k=q
   ·subst l
    rw [Q] at a;cases a
    rw [F,B8]
   ·by_cases C:A=some ⟨k,0,none⟩
    ·grind
    ·rw [ok k l C] at a
     exact G k u l (r k u (s.own k u a) C)
  grind
end
def A5j{P:eD}{t:dO}(one:P.cellsOf t=1/\(P.info? t).isSome=true){v:bH}(hv:Jz v=true)(hc:v.cells=#[v]){h g o:aI}(s:Sep h g o){b:Nat}{cs:Array bH}{e:dO}(hb:o b=some (.cells cs e)){i:Nat}(hi:i<cs.size){K:Unit->aI->Prop}
 (x:∀ h' o',Sep h' g o'->o'=o.put b (.cells (cs.setIfInBounds i v) e)->K () h'):wpH P (bN t (.pointer (some (aC ⟨b,0,none⟩ i))) v) K h:=by
 rw [D4,aX]
 have a:h.put b (.cells cs e)=h:=Nk (s.own b _ hb)
 rw [<- a]
 refine Dr one.1 one.2 hv hc hi ?_
 exact x _ _ (s.upd hb _) rfl
structure NT (o:aI) (bp bt cols:Nat) (es:List IV) (ss:List QV) (A:Option aQ) (c:Nat) (A':Option aQ) (c':Nat):Prop where
 hp:∃ e,o bp=some (.cells #[.pointer (some ⟨bt,0,none⟩)] e)
 ht:∃ e,o bt=some (.cells #[I (cols:Int),.slice A es.length c,.slice A' ss.length c'] e)
 oe:dB o 76 A c es
 os:dB o 83 A' c' ss
 ne:bp≠bt
 a1:A≠some ⟨bp,0,none⟩/\A≠some ⟨bt,0,none⟩
 a2:A'≠some ⟨bp,0,none⟩/\A'≠some ⟨bt,0,none⟩
 a3:∀ b,A=some ⟨b,0,none⟩->A'≠some ⟨b,0,none⟩
section
variable {h g o:aI} {bp bt cols:Nat} {es:List IV} {ss:List QV} {A A':Option aQ} {c c':Nat}
def NT.cp(n:NT o bp bt cols es ss A c A' c')(s:Sep h g o):h.cell? ⟨bp,0,none⟩=some (.pointer (some ⟨bt,0,none⟩)):=by
 obtain ⟨e,a⟩:=n.hp
 refine s.cell ?_
 unfold Heap.cell?;grind
def NT.c1(n:NT o bp bt cols es ss A c A' c')(s:Sep h g o):h.cell? (aC ⟨bt,0,none⟩ 1)=some (.slice A es.length c):=by
 obtain ⟨e,a⟩:=n.ht
 refine s.cell ?_
 rw [D4];unfold Heap.cell?;grind
def NT.c2(n:NT o bp bt cols es ss A c A' c')(s:Sep h g o):h.cell? (aC ⟨bt,0,none⟩ 2)=some (.slice A' ss.length c'):=by
 obtain ⟨e,a⟩:=n.ht
 refine s.cell ?_
 rw [D4];unfold Heap.cell?;grind
def B2r:prog.cellsOf 72=1/\(prog.info? 72).isSome=true:=by constructor<;>kernel_rfl
def B2q:prog.cellsOf 54=1/\(prog.info? 54).isSome=true:=by constructor<;>kernel_rfl
def NT.buildE(n:NT o bp bt cols es ss A c A' c')(s:Sep h g o)(w:IV)(hl:es.length<=100000000){F:aI->Prop}(hF:∀ h' g' o' A2 c2,g.le g'->Sep h' g' o'->NT o' bp bt cols (es++[w]) ss A2 c2 A' c'->F h'){K:VP}
 (x:∀ B m d hp,h.le hp->hp.cell? ⟨bp,0,none⟩=some (.pointer (some ⟨bt,0,none⟩))->(∀ {K2:VP},(∀ A2 c2 h2,h2.cell? ⟨bp,0,none⟩=some (.pointer (some ⟨bt,0,none⟩))->wpH prog (bN 72 (.pointer (some (aC ⟨bt,0,none⟩ 1))) (.slice A2 (es.length+1) c2)) (fun _ h3=>F h3) h2->K2 (.slice A2 (es.length+1) c2) h2)->wpH prog (cY #[72,72] 72 #[.slice A es.length c,.slice B m d]) K2 hp)->K (.slice B m d) hp):
 wpH prog (bL 72 1 #[(0,w.v)]) K h:=by
 refine Tw tZs s n.oe (y:=w) rfl dc oo oo ?_
 intro B m d hp E i
 refine x B m d hp E (B7 E (n.cp s)) (fun {K2} r=>i ?_)
 intro A2 c2 h2 Q G O D T dU
 obtain ⟨X,z⟩:=n.hp
 obtain ⟨S,u⟩:=n.ht
 have N:=dU bp _ z n.a1.1
 have M:=dU bt _ u n.a1.2
 refine r A2 c2 h2 ?_ ?_
 ·refine D.cell ?_
  unfold Heap.cell?;grind
 ·refine A5j B2r rfl rfl D M.1 (by simp) ?_
  intro h3 H W L
  have R:∀ k,k≠bt->H k=G k:=fun k r=>by rw [L,B6 _ _ r]
  refine hF h3 Q H A2 c2 O W ⟨⟨X,gz0⟩,⟨S,by rw [L,B8];simp⟩,T.keep fun b y j p=>gz0,?_,n.ne,⟨N.2,M.2⟩,n.a2,?_⟩
  ·refine (n.os.keep (o':=G) fun b y j p=>(dU b y p (fun e=>n.a3 b e j)).1).keep fun b y j p=>by rw [R b (fun e=>n.a2.2 gz0)];exact p
  ·intro b j a
   rcases n.os.2 with ⟨_,h0⟩|⟨C,V,l,q,_⟩
   ·grind
   ·rw [l] at a
    simp only [cD,cT,and_true] at a
    subst a
    exact (dU C _ q (fun e=>n.a3 C e l)).2 j
def NT.buildS(n:NT o bp bt cols es ss A c A' c')(s:Sep h g o)(w:QV)(hl:ss.length<=100000000){F:aI->Prop}(hF:∀ h' g' o' A2 c2,g.le g'->Sep h' g' o'->NT o' bp bt cols es (ss++[w]) A c A2 c2->F h'){K:VP}
 (x:∀ B m d hp,h.le hp->hp.cell? ⟨bp,0,none⟩=some (.pointer (some ⟨bt,0,none⟩))->(∀ {K2:VP},(∀ A2 c2 h2,h2.cell? ⟨bp,0,none⟩=some (.pointer (some ⟨bt,0,none⟩))->wpH prog (bN 54 (.pointer (some (aC ⟨bt,0,none⟩ 2))) (.slice A2 (ss.length+1) c2)) (fun _ h3=>F h3) h2->K2 (.slice A2 (ss.length+1) c2) h2)->wpH prog (cY #[54,54] 54 #[.slice A' ss.length c',.slice B m d]) K2 hp)->K (.slice B m d) hp):
 wpH prog (bL 54 1 #[(0,w.v)]) K h:=by
 refine Tw B57 s n.os (y:=w) rfl dc oo oo ?_
 intro B m d hp C i
 refine x B m d hp C (B7 C (n.cp s)) (fun {K2} p=>i ?_)
 intro A2 c2 h2 O D N z S dU
 obtain ⟨W,r⟩:=n.hp
 obtain ⟨R,q⟩:=n.ht
 have M:=dU bp _ r n.a2.1
 have L:=dU bt _ q n.a2.2
 refine p A2 c2 h2 ?_ ?_
 ·refine z.cell ?_
  unfold Heap.cell?;grind
 ·refine A5j B2q rfl rfl z L.1 (by simp) ?_
  intro h3 G V H
  have Q:∀ k,k≠bt->G k=D k:=fun k p=>by rw [H,B6 _ _ p]
  refine hF h3 O G A2 c2 N V ⟨⟨W,gz0⟩,⟨R,by rw [H,B8];simp⟩,?_,S.keep fun b y a j=>gz0,n.ne,n.a1,⟨M.2,L.2⟩,?_⟩
  ·refine (n.oe.keep (o':=D) fun b y a j=>(dU b y j (fun e=>n.a3 b a e)).1).keep fun b y a j=>by rw [Q b (fun e=>n.a1.2 gz0)];exact j
  ·intro b a
   rcases n.oe.2 with ⟨_,X⟩|⟨u,T,E,l,_⟩
   ·grind
   ·rw [E] at a
    simp only [cD,cT,and_true] at a
    subst a
    exact (dU u _ l (fun e=>n.a3 u E e)).2
end
def A7a(E:Nat->Rat)(cols i:Nat):Nat->Rat:=fun j=>E (i*cols+j)
def B2z(E:Nat->Rat)(cols i j:Nat):Int:=scl (A7a E cols i j) (Nl (A7a E cols i) cols:Int)
def B21(E:Nat->Rat)(cols i:Nat):Nat->Nat
 | 0=>0
 | j+1=>Int.gcd (B21 E cols i j:Int) (B2z E cols i j)
def A1m(E:Nat->Rat)(cols i:Nat):Nat:=if B21 E cols i cols=0 then 1 else B21 E cols i cols
def A78(E:Nat->Rat)(cols i j:Nat):Int:=(B2z E cols i j).tdiv (A1m E cols i:Int)
def A80(E:Nat->Rat)(cols i:Nat):Rat:=dX (Nl (A7a E cols i) cols:Int) (A1m E cols i:Int)
def B3y(E:Nat->Rat)(cols i:Nat):∀ n j,j<n->(B21 E cols i n:Int)∣B2z E cols i j:=by
 intro n
 induction n with
 | zero=>omega
 | succ n ih=>
  intro j a
  by_cases e:j=n
  ·subst e;exact Int.gcd_dvd_right _ _
  ·exact Int.dvd_trans (Int.gcd_dvd_left _ _) (ih j o)
def Ri(E:Nat->Rat)(cols i:Nat):0<A1m E cols i:=by unfold A1m;grind
def B4d(E:Nat->Rat)(cols i:Nat){j:Nat}(hj:j<cols):(A1m E cols i:Int)∣B2z E cols i j:=by
 unfold A1m
 split
 ·omega
 ·exact B3y E cols i cols j hj
def B6n(E:Nat->Rat)(cols i:Nat){j:Nat}(hj:j<cols):(A78 E cols i j:Rat)=A80 E cols i*E (i*cols+j):=by
 have d:=Ri E cols i
 have a:((A1m E cols i:Nat):Int)≠0:=o
 have c:((A78 E cols i j:Int):Rat)*((A1m E cols i:Nat):Int)=E (i*cols+j)*((Nl (A7a E cols i) cols:Nat):Int):=by
  rw [<- aT]
  unfold A78
  rw [Int.tdiv_mul_cancel (B4d E cols i hj)]
  exact A8f (by
   have:=Yj (A7a E cols i) cols j hj
   exact Int.natCast_dvd_natCast.2 this)
 have b:=Bn a
 unfold A80
 rw [cC]
 grind
def B2i(E:Nat->Rat)(cols i:Nat):0<A80 E cols i:=by
 unfold A80
 rw [cC]
 have a:(0:Rat)<((Nl (A7a E cols i) cols:Nat):Int):=by
  have:=Yi (A7a E cols i) cols
  exact_mod_cast this
 have b:(0:Rat)<((A1m E cols i:Nat):Int):=by
  have:=Ri E cols i
  exact_mod_cast this
 exact dD a (Rat.inv_pos.2 b)
def ZB.gcd2{k:Nat}{x y:Int}(hx:ZB k x)(hy:ZB k y):ZB k (Int.gcd x y:Int):=by
 by_cases h:y=0
 ·subst h
  rw [Int.gcd_zero_right]
  assumption
 ·exact ZB.gcd h hy
section
variable {E:Nat->Rat} {cols i m:Nat}
def Xk(h:∀ j,j<cols->Sz m (E (i*cols+j))){j:Nat}(hj:j<cols):ZB (1+cols*m+m) (B2z E cols i j):=by
 have:=A8e (h j hj) (Ol (f:=A7a E cols i) cols h)
 exact this.mono o
def B04(h:∀ j,j<cols->Sz m (E (i*cols+j))):∀ j,j<=cols->ZB (1+cols*m+m) (B21 E cols i j:Int):=by
 intro j
 induction j with
 | zero=>intro _;exact ZB.zero
 | succ j ih=>intro a;exact (ih o).gcd2 (Xk h o)
def Yz(h:∀ j,j<cols->Sz m (E (i*cols+j))):ZB (1+cols*m+m) (A1m E cols i:Int):=by
 unfold A1m
 split
 ·exact ZB.one o
 ·exact B04 h cols (aP _)
def B6m(h:∀ j,j<cols->Sz m (E (i*cols+j))){j:Nat}(hj:j<cols):ZB (1+cols*m+m) (A78 E cols i j):=(Xk h hj).tdiv
def A7z(h:∀ j,j<cols->Sz m (E (i*cols+j))):Sz (1+cols*m+m) (A80 E cols i):=by
 have:=Ri E cols i
 exact At o ((Ol (f:=A7a E cols i) cols h).mono o) (Yz h)
end
structure EsOk (g:aI) (E:Nat->Rat) (cols k:Nat) (es:List IV) (V:Nat->Int) (j:Nat):Prop where
 len:es.length=k*cols+j
 rows:∀ a b,a<k->b<cols->∃ w,es[a*cols+b]? = some w/\ZIr g w (A78 E cols a b)
 last:∀ b,b<j->∃ w,es[k*cols+b]? = some w/\ZIr g w (V b)
def EsOk.mono{g g':aI}{E:Nat->Rat}{cols k j:Nat}{es:List IV}{V:Nat->Int}(e:EsOk g E cols k es V j)(l:g.le g'):EsOk g' E cols k es V j:=by
 refine ⟨e.len,fun a b c m=>?_,fun b c=>?_⟩
 ·obtain ⟨w,i,d⟩:=e.rows a b c m;exact ⟨w,i,P2 _ _ _ _ l d⟩
 ·obtain ⟨w,i,d⟩:=e.last b c;exact ⟨w,i,P2 _ _ _ _ l d⟩
def EsOk.push{g:aI}{E:Nat->Rat}{cols k j:Nat}{es:List IV}{V:Nat->Int}(e:EsOk g E cols k es V j){w:IV}(hw:ZIr g w (V j)):EsOk g E cols k (es++[w]) V (j+1):=by
 have m:=e.len
 refine ⟨gz0,fun a b c i=>?_,fun b c=>?_⟩
 ·obtain ⟨u,d,l⟩:=e.rows a b c i
  grind
 ·by_cases n:b=j
  ·grind
  ·obtain ⟨u,d,l⟩:=e.last b o
   grind
def EsOk.set{g:aI}{E:Nat->Rat}{cols k:Nat}{es:List IV}{V:Nat->Int}(e:EsOk g E cols k es V cols){b:Nat}(hb:b<cols){w:IV}{z:Int}(hw:ZIr g w z):EsOk g E cols k (es.set (k*cols+b) w) (fun x=>if x=b then z else V x) cols:=by
 have n:=e.len
 refine ⟨gz0,fun a d c i=>?_,fun d c=>?_⟩
 ·obtain ⟨u,l,m⟩:=e.rows a d c i
  have j:=Qb c i
  grind
 ·by_cases p:d=b
  ·grind
  ·obtain ⟨u,l,m⟩:=e.last d c
   grind
def EsOk.congr{g:aI}{E:Nat->Rat}{cols k j:Nat}{es:List IV}{V V':Nat->Int}(e:EsOk g E cols k es V j)(h:∀ b,b<j->V b=V' b):EsOk g E cols k es V' j:=
 ⟨e.len,e.rows,fun b a=>by rw [<- h b a];exact e.last b a⟩
def EsOk.next{g:aI}{E:Nat->Rat}{cols k:Nat}{es:List IV}{V:Nat->Int}(e:EsOk g E cols k es V cols)(h:∀ b,b<cols->V b=A78 E cols k b)(V':Nat->Int):EsOk g E cols (k+1) es V' 0:=by
 refine ⟨by rw [e.len,bC,bX];rfl,fun a b d c=>?_,fun b d=>o⟩
 by_cases i:a=k
 ·subst i;rw [<- h b c];exact e.last b c
 ·exact e.rows a b o c
section
variable {h g:aI} {K:VP} {A:Option aQ} {n c rows cols m:Nat} {E:Nat->Rat}
def Xy(gl:Gl h)(r:cZ RQr h A (rows*cols) E)(hcap:rows*cols<=c)(hr:1<=rows)(hr2:rows<=10000)(hc:1<=cols)(hc2:cols<=10000)(hs:∀ i,i<rows*cols->Sz m (E i))(hm:1+cols*m+m<=6400000000)
 (hK:∀ h' g' o' T,h.le g'->Tab h' g' o' T (A78 E cols) (A80 E cols)->T.rows=rows->T.cols=cols->K (.pointer (some ⟨T.bt,0,none⟩)) h'):aH prog 209 #[.slice A (rows*cols) c,I (cols:Int)] h K:=by
 refine (fnk func209 [(8,[31],[(9,2)],[I 0,.bool false,.slice none 0 0]),(17,[62],[],[I 0])] (cs:=[(16,[],[(9,2)],[.bool false,.slice none 0 0])]) (os:=[(12,[1,2,3,4,5,0,6,7,8,9,10]),(21,[1,2,3,4,5,6,0,7,8,9,10,11,12])]) (rs:=[(4,[.slice none 0 0])]) (al:=[(12,[(0,[6,7])]),(21,[(0,[7,8,9])])]) (own:=[7,9,11,12,14]) (wr:=[1000000000])) ?_
 have cl:rows*cols<=100000000:=by
  have:rows*cols<=10000*10000:=aY hr2 hc2
  omega
 refine Pc ?_
 intro bt bi
 refine ⟨_,rfl,T7 (z:=.pointer none) (by kernel_rfl) ?_⟩
 intro W ao
 have ar:W≠bt:=by rintro rfl;rw [B8] at ao;cases ao
 refine ⟨_,rfl,?_⟩
 refine Dr (by kernel_rfl) (by kernel_rfl) rfl rfl dc ?_
 have s0:=((Sep.refl h).new bi (.cells (bU (.agg #[I (cols:Int),.slice none 0 0,.slice none 0 0])) 325)).new ao (.cells ((bU (.pointer none)).setIfInBounds 0 (.pointer (some ⟨bt,0,none⟩))) 277)
 have n0:NT ((J8.put bt (.cells (bU (.agg #[I (cols:Int),.slice none 0 0,.slice none 0 0])) 325)).put W (.cells ((bU (.pointer none)).setIfInBounds 0 (.pointer (some ⟨bt,0,none⟩))) 277)) W bt cols [] [] none 0 none 0:=
  ⟨⟨_,B8 _ _ _⟩,⟨_,by rw [B6 _ _ ar.symm,B8];rfl⟩,OwnSl.nil,OwnSl.nil,ar,⟨by simp,by simp⟩,⟨by simp,by simp⟩,fun b hb=>by cases hb⟩
 generalize (J8.put bt (.cells (bU (.agg #[I (cols:Int),.slice none 0 0,.slice none 0 0])) 325)).put W (.cells ((bU (.pointer none)).setIfInBounds 0 (.pointer (some ⟨bt,0,none⟩))) 277)=o0 at s0 n0
 refine s0.call (A6s hc ?_)
 intro v g0 l0 ic ca s3
 have bound:∀ k,k<rows->∀ j,j<cols->Sz m (E (k*cols+j)):=fun k hk j hj=>hs _ (Qb hk hj)
 refine ⟨_,rfl,A38 ic hc oo hcap (fun k N=>∃ (Q o1:aI) (D:List IV) (C:List QV) (A1:Option aQ) (c1:Nat) (A2:Option aQ) (c2:Nat),g0.le Q/\Sep N Q o1/\NT o1 W bt cols D C A1 c1 A2 c2/\EsOk Q E cols k D (fun _=>0) 0/\C.length=k/\Row RQr Q C k (A80 E cols)) ?_ ?_ ?_ ?_⟩
 ·exact ⟨g0,o0,[],[],none,0,none,0,B0 _,s3,n0,⟨by simp,fun a b h1=>oo,fun b h1=>oo⟩,rfl,Row.nil⟩
 ·rintro k N ⟨Q,o1,D,C,A1,c1,A2,c2,lg,s1,_⟩
  exact A0 lg s1.le
 ·rintro k ce au ⟨Q,o1,D,C,A1,c1,A2,c2,a7,s4,S,e1,aa,rs⟩
  have bk:=bound k au
  have ch:(k+1)*cols<=rows*cols:=aE _ au
  have co:(k+1)*cols=k*cols+cols:=gz0
  have b7:k<=k*cols:=bY k hc
  have aq:=A0 l0 a7
  have av:cZ RQr h A ((k+1)*cols) E:=by
   have:=r.cut (c:=c) (l:=0) (k:=(k+1)*cols) oo hcap
   rw [O7] at this
   grind
  have ah:cZ RQr h (U3 A ((k+1)*cols) (k*cols) 4) cols (A7a E cols k):=av.cut (c:=(k+1)*cols) (l:=k*cols) (k:=cols) oo (aP _)
  refine ⟨_,_,_,rfl,s4.call (Df (gl.mono aq) (ah.mono Bj aq) oo bk hm ?_)⟩
  intro sd Ad nd cd g2 l2 id cq s5
  have cE:=S.c1 s5
  rw [e1.len,eM] at cE
  have d2:=Ol (f:=A7a E cols k) cols bk
  have am:1+cols*m<=1+cols*m+m:=oo
  refine ⟨_,_,_,_,rfl,_,S.cp s5,_,rfl,_,_,_,cE,fun L N=>∃ (j:Nat) (s:Bool) (B:Option aQ) (bn bc:Nat) (X o3:aI) (D:List IV) (A1:Option aQ) (c1:Nat),j<=cols/\L=[I (j:Int),.bool s,.slice B bn bc]/\g2.le X/\Sep N X o3/\NT o3 W bt cols D C A1 c1 A2 c2/\EsOk X E cols k D (B2z E cols k) j/\ZI X s B bn bc (B21 E cols k j:Int),
   fun L _=>cols-(iAt L 0).toNat,⟨0,false,none,0,0,g2,o1,D,A1,c1,oo,rfl,B0 _,s5,S,(e1.mono l2).congr (fun b hb=>oo),ZI.zero⟩,?_⟩
  rintro z bs bA bn bc cm ⟨j,sB,B,cj,b9,X,o3,ad,A3,c3,hj,eL,l3,s6,n3,e3,i3⟩
  simp only [aO,aR,cJ,aW,true_and,and_true] at eL
  obtain ⟨rfl,rfl,rfl,rfl,rfl⟩:=eL
  have b5:B9 ((j:Int)+1)=((j+1:Nat):Int):=by rw [B5]<;>omega
  have ae:=A0 aq (A0 l2 l3)
  refine B4 (fun bq=>?_) (fun b3=>?_)
  ·have F:j<cols:=oo
   obtain ⟨a,w,ea,iw,q0,q1,q2,q3⟩:=ah.qat F
   have ac:=A0 ae s6.le
   refine ⟨a,ea,oo,oo,_,_,_,_,_,_,_,_,B7 ac q0,B7 ac q1,B7 ac q2,B7 ac q3,?_⟩
   refine s6.call (Ju (m:=1+cols*m+m) (Bj _ _ _ _ ae iw) (id.mono l3) ((bk j F).mono oo) (d2.mono am) hm ?_)
   intro s7 A7 n7 c7 g7 l7 i7 a5 b0
   refine ⟨_,_,_,_,rfl,b0.call (Ai (gl.mono (A0 ae l7)).tz (i3.mono l7) i7 (B04 bk j hj) (Xk bk F) oo ?_)⟩
   intro A8 n8 c8 g8 l8 i8 ap H
   have z7:ZIr g8 ⟨s7,A7,n7,c7⟩ (B2z E cols k j):=i7.mono l8
   have hF:∀ h' g' o' A2' G,g8.le g'->Sep h' g' o'->NT o' W bt cols (ad++[⟨s7,A7,n7,c7⟩]) C A2' G A2 c2->(∃ (j':Nat) (s:Bool) (B:Option aQ) (bn bc:Nat) (X o3:aI) (D:List IV) (A1:Option aQ) (c1:Nat),j'<=cols/\[I (B9 ((j:Int)+1)),.bool false,.slice A8 n8 c8]=[I (j':Int),.bool s,.slice B bn bc]/\g2.le X/\Sep h' X o3/\NT o3 W bt cols D C A1 c1 A2 c2/\EsOk X E cols k D (B2z E cols k) j'/\ZI X s B bn bc (B21 E cols k j':Int))/\cols-(iAt [I (B9 ((j:Int)+1)),.bool false,.slice A8 n8 c8] 0).toNat<cols-(iAt [I (j:Int),.bool bs,.slice bA bn bc] 0).toNat:=by
    intro h' g' o' A2' G M s' n'
    rw [b5]
    refine ⟨⟨j+1,false,A8,n8,c8,g',o',_,A2',G,oo,rfl,A0 l3 (A0 l7 (A0 l8 M)),s',n',((e3.mono (A0 l7 l8)).push z7).mono M,i8.mono M⟩,by simp only [Ca];omega⟩
   have ab:ad.length<=100000000:=by have:=e3.len;omega
   refine ⟨_,_,_,_,rfl,_,n3.cp H,_,rfl,_,_,_,n3.c1 H,⟨_,n3.cp H,?_⟩,?_⟩
   ·exact n3.buildE H ⟨s7,A7,n7,c7⟩ ab hF fun B m d N lp cp n=>⟨_,_,_,rfl,lp,n fun A2 c2 h2 _ q=>⟨_,_,_,rfl,_,rfl,q⟩⟩
   ·exact n3.buildE H ⟨s7,A7,n7,c7⟩ ab hF fun B m d N lp cp n=>⟨_,_,_,rfl,lp,⟨_,cp,n fun A2 c2 h2 _ q=>⟨_,_,_,rfl,_,rfl,q⟩⟩,n fun A2 c2 h2 aj q=>⟨_,_,_,rfl,_,aj,_,rfl,q⟩⟩
  ·have F:j=cols:=oo
   subst F
   have hg:((B21 E j k j:Nat):Int)=0↔B21 E j k j=0:=oo
   refine ⟨fun L N=>∃ (s:Bool) (B:Option aQ) (bn bc:Nat) (g4:aI),L=[.bool s,.slice B bn bc]/\X.le g4/\Sep N g4 o3/\ZI g4 s B bn bc (A1m E j k:Int),?_,?_⟩
   ·refine s6.call (F0 i3 ?_)
    intro a5 s7
    refine ⟨_,rfl,B4 (fun e=>?_) (fun e=>?_)⟩
    ·refine s7.call (N5 oo oo ?_)
     intro V A8 n8 c8 g8 l8 i8 ap H
     refine ⟨_,_,_,_,rfl,_,_,_,_,g8,rfl,l8,H,?_⟩
     have:A1m E j k=1:=by unfold A1m;grind
     grind
    ·refine ⟨_,_,_,_,X,rfl,B0 _,s7,?_⟩
     have:A1m E j k=B21 E j k j:=by unfold A1m;grind
     grind
   ·rintro cs cA cn cc a5 ⟨bl,b4,bv,bx,g4,eL,l4,s7,ic⟩
    obtain ⟨rfl,rfl,rfl,rfl⟩:cs=bl/\cA=b4/\cn=bv/\cc=bx:=gz0
    have e4:=e3.mono l4
    have a9:=n3.c1 s7
    rw [e4.len] at a9
    have ay:ad≠[]:=by rintro rfl;have:=e4.len;grind
    obtain ⟨O,an,rB⟩:=n3.oe.rowB ay
    subst an
    have ck:k*j+j<=c3:=by have:=n3.oe.1;rw [e4.len] at this;exact this
    have bg:(((k*j:Nat):Int)).toNat=k*j:=rfl
    have ba:U3 (some ⟨O,0,none⟩) c3 ((((k*j:Nat):Int)).toNat) 2=some ⟨O,k*j*2,none⟩:=by rw [bg,V1 oo,D4,aX]
    have ax:k*j+j-(((k*j:Nat):Int)).toNat=j:=oo
    refine ⟨_,n3.cp s7,_,rfl,_,_,_,a9,⟨oo,oo⟩,?_⟩
    rw [ba,ax]
    refine ⟨fun L N=>∃ (p:Nat) (g o:aI) (D:List IV),p<=j/\L=[I (p:Int)]/\g4.le g/\Sep N g o/\NT o W bt j D C (some ⟨O,0,none⟩) c3 A2 c2/\EsOk g E j k D (fun b=>if b<p then A78 E j k b else B2z E j k b) j,fun L _=>j-(iAt L 0).toNat,⟨0,g4,o3,ad,oo,rfl,B0 _,s7,n3,e4.congr fun b hb=>oo⟩,?_⟩
    rintro z ap ⟨p,g5,o5,R,ci,eL,l5,V,u,e5⟩
    obtain rfl:z=(p:Int):=gz0
    have be:B9 ((p:Int)+1)=((p+1:Nat):Int):=by rw [B5]<;>omega
    have bh:B9 (((k*j:Nat):Int)+(p:Int))=((k*j+p:Nat):Int):=by rw [B5]<;>omega
    have a8:=u.c1 V
    rw [e5.len] at a8
    have bz:=Ri E j k
    refine B4 (fun bq=>?_) (fun b3=>?_)
    ·have F:p<j:=oo
     obtain ⟨w,ew,iw⟩:=e5.last p F
     rw [iN (Nat.lt_irrefl p)] at iw
     obtain ⟨cg,ai,bo⟩:=u.oe.rowB gz0
     simp only [cD,cT,and_true] at ai
     subst ai
     have ag:k*j+p<R.length:=gz0
     have cb:R[k*j+p]=w:=by
      grind
     have ha:k*j*2+p*2=(k*j+p)*2:=by rw [bC]
     have cell:∀ x v,(enc w)[x]? = some v->ap.cell? (aC (aC ⟨O,k*j*2,none⟩ (((p:Int)).toNat*2)) x)=some v:=by
      intro x v hx
      refine V.cell ?_
      rw [D4,D4]
      show o5.cell? ⟨O,k*j*2+p*2+x,none⟩=_
      rw [ha]
      exact bo.cell ag gz0
     refine ⟨_,rfl,oo,oo,_,_,_,_,cell 0 _ rfl,cell 1 _ rfl,_,u.cp V,_,rfl,_,_,_,a8,?_⟩
     refine V.call (P0 iw (ic.mono l5) (Xk bk F) (Yz bk) hm oo ?_)
     intro s9 A9 n9 c9 g9 l9 i9 a6 a4
     refine ⟨_,_,_,_,rfl,V.le_le a4 l9,_,rfl,oo,oo,?_⟩
     rw [bh]
     refine OwnSl.store A2t (y:=(⟨s9,A9,n9,c9⟩:IV)) rfl a4 u.oe ag rfl ?_
     intro b8 br bm a0 ko
     obtain ⟨x1,cr⟩:=u.hp
     obtain ⟨x2,bf⟩:=u.ht
     have b1:W≠O:=fun e=>u.a1.1 (by rw [e])
     have b2:bt≠O:=fun e=>u.a1.2 (by rw [e])
     rw [be]
     refine ⟨⟨p+1,g9,br,R.set (k*j+p) ⟨s9,A9,n9,c9⟩,oo,rfl,A0 l5 l9,bm,⟨⟨x1,gz0⟩,⟨x2,gz0⟩,a0,u.os.keep fun b x hb hx=>by rw [ko b (fun e=>u.a3 O rfl gz0)];exact hx,u.ne,u.a1,u.a2,u.a3⟩,((e5.mono l9).set F (show ZIr g9 ⟨s9,A9,n9,c9⟩ (A78 E j k p) from i9)).congr fun b hb=>?_⟩,by simp only [Ca];omega⟩
     grind
    ·have bw:p=j:=oo
     subst bw
     have eN:EsOk g5 E p (k+1) R (fun _=>0) 0:=e5.next (fun b hb=>oo) _
     have sS:=A7z (E:=E) (cols:=p) (i:=k) bk
     have fr:∀ (gg:aI) (w:QV),g5.le gg->RQ gg w (dX (Nl (A7a E p k) p:Int) (A1m E p k:Int))->∀ h' g' o' A2' G,gg.le g'->Sep h' g' o'->NT o' W bt p R (C++[w]) (some ⟨O,0,none⟩) c3 A2' G->∃ (Q o1:aI) (D:List IV) (C:List QV) (A1:Option aQ) (c1:Nat) (A2:Option aQ) (c2:Nat),g0.le Q/\Sep h' Q o1/\NT o1 W bt p D C A1 c1 A2 c2/\EsOk Q E p (k+1) D (fun _=>0) 0/\C.length=k+1/\Row RQr Q C (k+1) (A80 E p):=by
      intro gg w az iw h' g' o' A2' G M s' n'
      have af:Q.le g':=A0 l2 (A0 l3 (A0 l4 (A0 l5 (A0 az M))))
      refine ⟨g',o',R,C++[w],_,c3,A2',G,A0 a7 af,s',n',eN.mono (A0 az M),gz0,?_⟩
      have bj:Row RQr g' C C.length (A80 E p):=by rw [aa];exact rs.mono Bj af
      have:=bj.push (w:=w) (by rw [aa];exact Bj _ _ _ _ M iw)
      grind
     have bd:=(gl.mono (A0 ae (A0 l4 l5))).tz
     have bb:=(id.mono (A0 l3 (A0 l4 l5)))
     have ak:C.length<=100000000:=oo
     refine ⟨_,u.cp V,_,rfl,_,_,_,u.c2 V,⟨_,u.cp V,?_⟩,?_⟩
     ·refine V.call (Q3 bd bb (ic.mono l5) (d2.mono am) (Yz bk) hm ?_)
      intro w gf lf iw a6 s9
      refine ⟨_,_,_,_,_,_,_,_,rfl,V.le_le s9 lf,?_⟩
      exact u.buildS s9 w ak (fr gf w lf iw) fun B m d N lp cp n=>⟨_,_,_,rfl,lp,n fun A2 c2 h2 _ q=>⟨_,_,_,rfl,_,rfl,q⟩⟩
     ·refine V.call (Q3 bd bb (ic.mono l5) (d2.mono am) (Yz bk) hm ?_)
      intro w gf lf iw a6 s9
      refine ⟨_,_,_,_,_,_,_,_,rfl,V.le_le s9 lf,⟨_,u.cp s9,?_⟩,?_⟩
      ·exact u.buildS s9 w ak (fr gf w lf iw) fun B m d N lp cp n=>⟨_,_,_,rfl,lp,n fun A2 c2 h2 _ q=>⟨_,_,_,rfl,_,rfl,q⟩⟩
      ·exact u.buildS s9 w ak (fr gf w lf iw) fun B m d N lp cp n=>⟨_,_,_,rfl,lp,⟨_,cp,n fun A2 c2 h2 _ q=>⟨_,_,_,rfl,_,rfl,q⟩⟩,n fun A2 c2 h2 aj q=>⟨_,_,_,rfl,_,aj,_,rfl,q⟩⟩
 ·rintro N ⟨Q,o1,D,C,A1,c1,A2,c2,lg,s1,S,e1,aa,rs⟩
  refine ⟨_,S.cp s1,?_⟩
  have ab:D.length=rows*cols:=by rw [e1.len];rfl
  have b6:0<rows*cols:=Nat.mul_pos oo oo
  obtain ⟨O,an,rE⟩:=S.oe.rowB gz0
  obtain ⟨bS,bu,rS⟩:=S.os.rowB gz0
  subst an bu
  obtain ⟨x2,bf⟩:=S.ht
  refine hK N Q o1 ⟨bt,O,bS,rows,cols,c1,c2⟩ (A0 l0 lg) ⟨s1,fun (e:bt=O)=>S.a1.2 (by rw [<- e]),fun (e:bt=bS)=>S.a2.2 (by rw [<- e]),fun (e:O=bS)=>S.a3 O rfl (by rw [e]),⟨x2,gz0⟩,⟨D,rE,ab,fun i j hi hj=>e1.rows i j hi hj⟩,⟨C,rS,aa,rs⟩,by rw [<- ab];exact S.oe.1,by rw [<- aa];exact S.os.1,⟨hr2,hc2⟩,hc⟩ rfl rfl
end
structure MOk (r c:Int) (n:Nat) (ls:Nat->List UInt8) (rows cols:Nat):Prop where
 er:r=rows
 ec:c=cols
 r1:1<=rows
 r2:rows<=64
 c1:1<=cols
 c2:cols<=64
 len:n=rows*cols
 num:∀ i,i<n->IsNum (ls i)
def B1l(r c:Int)(n:Nat):Prop:=1<=r/\r<=64/\1<=c/\c<=64/\(n:Int)=r*c
def MOk.of{r c:Int}{n:Nat}{ls:Nat->List UInt8}(s:B1l r c n)(h:∀ i,i<n->IsNum (ls i)):MOk r c n ls r.toNat c.toNat:=by
 obtain ⟨d,a,g,b,e⟩:=s
 refine ⟨o,o,o,o,o,o,?_,h⟩
 grind
def MOk.shape{r c:Int}{n:Nat}{ls:Nat->List UInt8}{rows cols:Nat}(m:MOk r c n ls rows cols):B1l r c n:=by
 obtain ⟨rfl,rfl,d,a,g,b,e,_⟩:=m
 exact ⟨o,o,o,o,o⟩
abbrev B84(r c:Int)(A:Option aQ)(n cap:Nat):bH:=.agg #[I r,I c,.slice A n cap]
def Mx(r c:Int)(n:Nat)(ls:Nat->List UInt8):Prop:=∃ rows cols,MOk r c n ls rows cols
def A28{r c:Int}{n:Nat}{ls:Nat->List UInt8}:Mx r c n ls↔B1l r c n/\∀ i,i<n->IsNum (ls i):=by
 constructor
 ·rintro ⟨a,b,m⟩;exact ⟨m.shape,m.num⟩
 ·rintro ⟨s,h⟩;exact ⟨_,_,MOk.of s h⟩
section
variable {h:aI} {K:VP} {A:Option aQ} {n cap m:Nat} {r c:Int} {ls:Nat->List UInt8}
def Mj(hn:n<=1000000000)(hK1:B1l r c n->K (.bool true) h)(hK0:¬ B1l r c n->K (.bool false) h):aH prog 275 #[B84 r c A n cap] h K:=by
 refine (fnk func275 (own:=[1])) ?_
 refine B4 (fun g=>B4 (fun a=>B4 (fun k=>B4 (fun b=>?_) (fun e=>hK0 fun s=>e s.2.2.2.1)) (fun e=>hK0 fun s=>e s.2.2.1)) (fun e=>hK0 fun s=>e s.2.1)) (fun e=>hK0 fun s=>e s.1)
 have j:r*c<=64*64:=Int.mul_le_mul a b o o
 have d:0<=r*c:=Int.mul_nonneg o o
 have i:B9 (r*c)=r*c:=B5 o o
 rw [i]
 by_cases e:(n:Int)=r*c
 ·rw [show ((n:Int)==r*c)=true from gz0]
  exact hK1 ⟨g,a,k,b,e⟩
 ·rw [show ((n:Int)==r*c)=false from gz0]
  exact hK0 fun s=>e s.2.2.2.2
def A6b(gl:Gl h)(rv':cZ SSr h A n ls)(hn:n<=1000000)(hl:∀ i,i<n->(ls i).length<=140737488351232)
 (hK1:∀ rows cols,MOk r c n ls rows cols->∀ b h',Own RQr h h' b n (fun i=>rv (ls i))->K (.tuple #[.slice (some ⟨b,0,none⟩) n n,.bool true]) h')
 (hK0:¬ Mx r c n ls->∀ h',h.le h'->K (.tuple #[.slice none 0 0,.bool false]) h'):aH prog 208 #[B84 r c A n cap] h K:=by
 refine (fnk func208 (own:=[1])) ?_
 refine Mj o (fun s=>⟨_,rfl,?_⟩) (fun s=>⟨_,rfl,hK0 (fun x=>s (A28.1 x).1) h (B0 _)⟩)
 refine Ao gl rv' hn hl (fun a b h' w=>⟨_,_,_,_,rfl,hK1 _ _ (MOk.of s a) b h' w⟩) (fun d h' l=>⟨_,_,_,_,rfl,hK0 (fun x=>d (A28.1 x).2) h' l⟩)
def A3l(gl:Gl h)(rv':cZ SSr h A n ls)(hn:n<=1000000)(hl:∀ i,i<n->(ls i).length<=140737488351232)
 (hK1:Mx r c n ls->K (.bool true) h) (hK0:¬ Mx r c n ls->K (.bool false) h):aH prog 215 #[B84 r c A n cap] h K:=by
 refine (fnk func215 [(4,[11],[],[I 0])] (own:=[1])) ?_
 refine Mj o (fun s=>⟨_,rfl,?_⟩) (fun s=>⟨_,rfl,hK0 (fun x=>s (A28.1 x).1)⟩)
 refine ⟨fun L j=>∃ k:Nat,k<=n/\L=[I k]/\j=h/\∀ i,i<k->IsNum (ls i),fun L _=>n-(iAt L 0).toNat,⟨0,o,rfl,rfl,fun i q=>o⟩,?_⟩
 rintro t j ⟨k,w,u,rfl,b⟩
 obtain rfl:=sI1 u
 refine B4 (fun m=>?_) (fun l=>?_)
 ·have d:k<n:=o
  obtain ⟨a,rfl,p⟩:=rv'.sat d
  refine ⟨a,rfl,o,o,_,p,V7 gl (hl k d) (fun g=>⟨_,rfl,?_⟩) (fun g=>⟨_,rfl,hK0 (fun y=>g ((A28.1 y).2 k d))⟩)⟩
  rw [wiS k o]
  refine ⟨⟨k+1,o,rfl,rfl,fun i q=>?_⟩,by simp only [Ca];omega⟩
  by_cases e:i=k
  ·subst e;exact g
  ·exact b i o
 ·have:k=n:=o
  subst this
  exact hK1 (A28.2 ⟨s,b⟩)
def A3k{f:Nat->Rat}(gl:Gl h)(rq:cZ RQr h A n f)(hn:n<=1000000)(hs:∀ i,i<n->Sz m (f i))(hm:m<=40000000)
 (hK:∀ b h',Own SSr h h' b n (fun i=>C0 (f i))->K (B84 r c (some ⟨b,0,none⟩) n n) h'):aH prog 212 #[I r,I c,.slice A n cap] h K:=by
 refine (fnk func212 (own:=[6])) ?_
 exact A07 gl rq hn hs hm fun b h' w=>⟨_,_,_,rfl,hK b h' w⟩
end
end Go.Proofs.YtbgkfnjmcjfokaaGreatDoor
namespace Go.Proofs.YtbgkfnjmcjfokaaGreatDoor
set_option maxRecDepth 20000
def ZrE(n c:Nat)(s:ES):Prop:=∀ i j,i<n->s.cs.length<=i->j<c->s.R i j=0
structure EqA (n w c:Nat) (A:Nat->Nat->Rat) (s:ES):Prop where
 len:s.cs.length<=n
 zero:ZrE n c s
 lt:∀ x∈s.cs,x<c
 elim:∃ B,Elim n w B s.R (fun m=>s.cs.getD m 0) s.cs.length/\(∀ i,i<n->∃ i',i'<n/\∀ j,B i' j=A i j)/\(∀ i,i<n->∃ i',i'<n/\∀ j,B i j=A i' j)
 C2k:∃ T:Nat->Nat->Rat,∀ i j,i<n->j<w->s.R i j=sm n fun l=>T i l*A l j
def mtx(E:Nat->Rat)(cols:Nat):Nat->Nat->Rat:=fun i j=>E (i*cols+j)
def elE(E:Nat->Rat)(rows cols c:Nat):ES:=C36 rows ⟨mtx E cols,[],1⟩ c
def elP(E:Nat->Rat)(rows cols c:Nat):PS:=Ge rows ⟨A78 E cols,A80 E cols,[],1,1⟩ c
def B65(E:Nat->Rat){rows cols c:Nat}(hc:c<=cols):ERel rows cols c (mtx E cols) (elE E rows cols c) (elP E rows cols c):=
 (ERel.start (fun i j _ a=>B6n E cols i a) (fun i _=>by have:=B2i E cols i;grind)).run c hc
def C53(E:Nat->Rat){rows cols c:Nat}(hc:c<=cols):(elP E rows cols c).cs=(elE E rows cols c).cs:=(B65 E hc).cs.symm
def C2d(E:Nat->Rat){rows cols c:Nat}(hc:c<=cols){i j:Nat}(hi:i<rows)(hj:j<cols)(h:i<(elE E rows cols c).cs.length\/j<c):dX ((elP E rows cols c).M i j) (elP E rows cols c).last=(elE E rows cols c).R i j:=by
 have r:=B65 E hc (rows:=rows)
 have b:=r.val i j hi hj
 have d:=Bn r.last
 rw [cC,b]
 by_cases a:i<(elE E rows cols c).cs.length
 ·grind
 ·rw [iN a,r.zero i j hi o o,Rat.mul_zero,Rat.mul_zero]
  grind
def bnd(cols m:Nat):Nat:=1+cols*m+m
def C2c{E:Nat->Rat}{rows cols m:Nat}(h:∀ i,i<rows*cols->Sz m (E i)):ZbP rows cols (bnd cols m) (bnd cols m) ⟨A78 E cols,A80 E cols,[],1,1⟩:=by
 have e:∀ i,i<rows->∀ j,j<cols->Sz m (E (i*cols+j)):=fun i k j g=>h _ (Qb k g)
 refine ⟨fun a b d c=>?_,?_,fun a d=>A7z (e a d),dM _⟩
 ·show ZB (3^0*bnd cols m) (A78 E cols a b)
  rw [Nat.pow_zero,bX];exact B6m (e a d) c
 ·show ZB (3^0*bnd cols m) 1
  exact ZB.one (by unfold bnd;omega)
def C2b{E:Nat->Rat}{rows cols m c:Nat}(h:∀ i,i<rows*cols->Sz m (E i))(hc:c<=cols):ZbP rows cols (bnd cols m) (bnd cols m) (elP E rows cols c):=(C2c h).run (by unfold bnd;omega) c hc
def B66(E:Nat->Rat)(rows cols c:Nat):(elP E rows cols c).cs.length<=c:=B2x _ _ rfl c
def B45(E:Nat->Rat)(rows cols c:Nat)(x:Nat):3^(elP E rows cols c).cs.length*x<=3^c*x:=aE _ (Nat.pow_le_pow_right dc (B66 E rows cols c))
def B8g(E:Nat->Rat)(rows cols c:Nat):(elP E rows cols c).last≠0:=(A0a rows _ (show (1:Int)≠0 from dc) (.inl rfl) (dM _) c).1
structure Own2 (h h':aI) (b n:Nat) (f:Nat->List UInt8) (A:Option aQ) (cap:Nat) (l:List Int):Prop where
 ex:∃ g o xs,h.le g/\Sep h' g o/\eJ o b xs/\xs.length=n/\Row SSr g xs n f/\dB o 3 A cap l/\A≠some ⟨b,0,none⟩
section
variable {h g o:aI} {T:Tb} {M:Nat->Nat->Int} {S:Nat->Rat}
end
section
variable {h:aI} {K:VP} {A:Option aQ} {n cap m:Nat} {r c:Int} {ls:Nat->List UInt8}
abbrev rvs(ls:Nat->List UInt8):Nat->Rat:=fun i=>rv (ls i)
def A04{E:Nat->Rat}{rows cols cc nq:Nat}(gl:Gl h)(rq:cZ RQr h A (rows*cols) E)(hcap:rows*cols<=cap)(hr:1<=rows)(hr2:rows<=10000)(hc:1<=cols)(hc2:cols<=10000)(hcc:cc<=cols)(hs:∀ i,i<rows*cols->Sz m (E i))(hnq:∀ k,k<=cc->(elP E rows cols k).cs.length<=nq)(hm:2*(3^nq*bnd cols m)+1<=100000000){K:VP}
 (hK:∀ T h1,aH prog 210 #[.pointer (some ⟨T.bt,0,none⟩),I (cc:Int)] h1 (fun r h'=>∃ g' o' A' cap' w,h.le g'/\Tab h' g' o' T (elP E rows cols cc).M (elP E rows cols cc).S/\dB o' 3 A' cap' (zs (elP E rows cols cc).cs)/\B50 T A'/\ZIr g' w (elP E rows cols cc).last/\
  r= .tuple #[.slice A' (elP E rows cols cc).cs.length cap',w.v,I (elP E rows cols cc).sgn])->h.le h1->T.rows=rows->T.cols=cols->K (.pointer (some ⟨T.bt,0,none⟩)) h1):aH prog 209 #[.slice A (rows*cols) cap,I (cols:Int)] h K:=by
 have h1:bnd cols m<=3^nq*bnd cols m:=cF _ (Nat.pow_pos dc)
 have n:bnd cols m=1+cols*m+m:=rfl
 refine Xy (m:=m) gl rq hcap hr hr2 hc hc2 hs o ?_
 intro h' g' o' T g t b u
 refine hK T h' ?_ (A0 g t.sep.le) b u
 have y:=C2c hs
 refine A0f (m:=bnd cols m) (l:=bnd cols m) t o o (by rw [b];exact hnq) hm gz0 ?_
 intro n j s A2 a w p c e q x d
 rw [b] at c e d ⊢
 exact ⟨j,s,A2,a,w,A0 g p,c,e,q,d,rfl⟩
def A2s{E:Nat->Rat}{rows cols cc:Nat}(gl:Gl h)(rq:cZ RQr h A (rows*cols) E)(hcap:rows*cols<=cap)(hr:1<=rows)(hr2:rows<=10000)(hc:1<=cols)(hc2:cols<=10000)(hcc:cc<=cols)(hs:∀ i,i<rows*cols->Sz m (E i))(hm:2*(3^cc*bnd cols m)+1<=100000000){K:VP}
 (hK:∀ T h1,aH prog 210 #[.pointer (some ⟨T.bt,0,none⟩),I (cc:Int)] h1 (fun r h'=>∃ g' o' A' cap' w,h.le g'/\Tab h' g' o' T (elP E rows cols cc).M (elP E rows cols cc).S/\dB o' 3 A' cap' (zs (elP E rows cols cc).cs)/\B50 T A'/\ZIr g' w (elP E rows cols cc).last/\
  r= .tuple #[.slice A' (elP E rows cols cc).cs.length cap',w.v,I (elP E rows cols cc).sgn])->h.le h1->T.rows=rows->T.cols=cols->K (.pointer (some ⟨T.bt,0,none⟩)) h1):aH prog 209 #[.slice A (rows*cols) cap,I (cols:Int)] h K:=A04 gl rq hcap hr hr2 hc hc2 hcc hs (fun k a=>Nat.le_trans (B66 E rows cols k) a) hm hK
end
def C62(E:Nat->Rat)(rows cols:Nat):Nat->Rat:=fun k=>(elE E rows cols cols).R (k/cols) (k%cols)
section
variable {h:aI} {K:VP} {A:Option aQ} {n cap m:Nat} {r c:Int} {ls:Nat->List UInt8}
end
def No{h:aI}{K:VP}{s:Bool}{A:Option aQ}{n c:Nat}{z:Int}(i:ZI h s A n c z)(hK:∀ w,RQ h w (z:Rat)->K w.v h):aH prog 88 #[.agg #[.bool s,.slice A n c]] h K:=by
 refine (fnk func88 (own:=[1,2])) ?_
 exact hK _ (Xh i)
def A7n:C0 0=[48]:=by rfl
section
variable {h:aI} {K:VP} {A:Option aQ} {n cap m:Nat} {r c:Int} {ls:Nat->List UInt8}
end
structure HV where
 A:Option aQ
 n:Nat
 c:Nat
abbrev HV.v(s:HV):bH:=.slice s.A s.n s.c
instance:Enc HV:=⟨⟨fun s=>[.slice s.A s.n s.c],1,fun _=>rfl,fun s v hv=>by rw [List.mem_singleton.1 hv];rfl⟩⟩
structure Mt (h g o:aI) (bo:Nat) (rb:Nat->Nat) (n w:Nat) (M:Nat->Nat->Rat):Prop where
 sep:Sep h g o
 hd:∃ hd:List HV,RowB o bo hd/\hd.length=n/\∀ i,i<n->∃ c,hd[i]? = some ⟨some ⟨rb i,0,none⟩,w,c⟩/\w<=c
 nb:∀ i,i<n->rb i≠bo
 inj:∀ i j,i<n->j<n->rb i=rb j->i=j
 row:∀ i,i<n->∃ xs:List QV,RowB o (rb i) xs/\xs.length=w/\Row NQr g xs w (M i)
section
variable {h g o:aI} {bo n w:Nat} {rb:Nat->Nat} {M:Nat->Nat->Rat}
end
def C66:List bH->Nat
 | [_,_,.slice _ n _]=>n
 | _=>0
def RowW(h:aI)(hd:List HV)(L:List (List Int)):Prop:=hd.length=L.length/\∀ i,i<L.length->∃ s w,hd[i]? = some s/\L[i]? = some w/\WV h s.A s.n w/\s.n<=s.c
def RowW.mono{h h':aI}{hd:List HV}{L:List (List Int)}(r:RowW h hd L)(l:h.le h'):RowW h' hd L:=⟨r.1,fun i d=>by
 obtain ⟨s,w,a,e,b,c⟩:=r.2 i d
 exact ⟨s,w,a,e,b.mono l,c⟩⟩
def RowW.push{h:aI}{hd:List HV}{L:List (List Int)}(r:RowW h hd L){s:HV}{w:List Int}(hw:WV h s.A s.n w)(hs:s.n<=s.c):RowW h (hd++[s]) (L++[w]):=by
 refine ⟨by simp [r.1],fun i k=>?_⟩
 have e:=r.1
 by_cases a:i<L.length
 ·obtain ⟨u,v,b,j,d,g⟩:=r.2 i a
  exact ⟨u,v,by rw [bM o];exact b,by rw [bM a];exact j,d,g⟩
 ·have:i=L.length:=by simp at k;omega
  subst this
  exact ⟨s,w,by rw [<- e];simp,by simp,hw,hs⟩
def ChV(h:aI)(A:Option aQ)(n:Nat)(L:List (List Int)):Prop:=∃ hd:List HV,SlF h A hd/\n=L.length/\RowW h hd L
def ChV.mono{h h':aI}{A:Option aQ}{n:Nat}{L:List (List Int)}(r:ChV h A n L)(l:h.le h'):ChV h' A n L:=by
 obtain ⟨a,s,e,q⟩:=r
 exact ⟨a,s.mono l,e,q.mono l⟩
def ChV.at{h:aI}{A:Option aQ}{n:Nat}{L:List (List Int)}(r:ChV h A n L){i:Nat}(hi:i<n):∃ (a:aQ) (s:HV) (w:List Int),A=some a/\L[i]? = some w/\h.cell? (aC a (i*1))=some (.slice s.A s.n s.c)/\WV h s.A s.n w/\s.n<=s.c:=by
 obtain ⟨b,s,e,q⟩:=r
 obtain ⟨u,w,d,x,g,k⟩:=q.2 i o
 obtain ⟨a,j,p⟩:=SlF.at dc s (i:=i) (by have:=q.1;omega)
 have m:b[i]'(by have:=q.1;omega)=u:=by
  have:=aK (l:=b) (i:=i) (by have:=q.1;omega)
  rw [d] at this
  exact (cW this).symm
 have:=p 0 _ (by rw [m];rfl)
 exact ⟨a,u,w,j,x,this,g,k⟩
def A72{α:Type}[E:Enc α]{o:aI}{b:Nat}{e:dO}{xs:List α}:dB (o.put b (.cells (xs.flatMap enc).toArray e)) e (some ⟨b,0,none⟩) xs.length xs:=
 ⟨aP _,.inr ⟨b,xs.flatMap enc,rfl,B8 _ _ _,I7 xs,by rw [eO];rw [I7];exact aP _⟩⟩
def B5a{a b c:Nat}(h1:a=b)(h2:b+c<=6):(2*(a+1)+192)*24<=281474976710656/\a+1<=9223372036854775807:=o
structure ChB (M:Nat) (L:List (List Int)):Prop where
 bits:∀ w∈L,WB (89*(M+1)) w
 len:∀ w∈L,w.length<=5
structure Chn (S:List Int) (t:List (List Int)):Prop where
 ch:PCh (S::t)
 der:∀ Q t',t=Q::t'->∃ c:Int,0<c/\∀ x,pd S x=(c:Rat)*pe Q x
 con:t=[]->S.length<=1
def ChI(h:aI)(M:Nat)(S Q0:List Int)(hp:aI)(Ac:Option aQ)(nc cc:Nat)(A1:Option aQ)(n1 c1:Nat)(A2:Option aQ)(n2 c2:Nat):Prop:=∃ (ch:List (List Int)) (hd:List HV) (g o:aI) (p q:List Int),nc=ch.length/\h.le g/\Sep hp g o/\dB o 73 Ac cc hd/\RowW g hd ch/\WV g A1 n1 p/\WV g A2 n2 q/\n1<=c1/\n2<=c2/\Nz p/\Nz q/\p≠[]/\Bdd (M+10) p/\Bdd (M+10) q/\Lb p q/\ChB (M+10) ch/\ch.length+q.length<=6/\((ch=[S]/\q=Q0)\/∃ t',ch=S::Q0::t'/\Q0≠[])/\(q≠[]->Hist ch p q)/\(q=[]->PCh ch)
section
variable {h:aI} {K:VP} {A B:Option aQ} {n c M:Nat} {S:List Int}
def Pp(gl:Gtz h)(r:WV h A n S)(nS:Nz S)(S0:S≠[])(hn:n<=5)(hc:n<=c)(bS:WB M S)(hM:700*(M+11)<=40000000)
 (hK:∀ t A' n' c' h',h.le h'->ChV h' A' n' (S::t)->n'<=6->ChB (M+10) (S::t)->Chn S t->K (.slice A' n' c') h'):aH prog 90 #[.slice A n c] h K:=by
 refine (fnk func90 [(3,[3,4,5],[],[.slice none 0 0,.slice none 0 0,.slice none 0 0])] (own:=[8])) ?_
 have L1:=r.1
 have lS:=List.length_pos_iff.2 S0
 refine H8 C5g (vs:=[.slice A n c]) (fun u hu=>by rw [List.mem_singleton.1 hu];rfl) rfl (by show 1*1<=16777216;decide) rfl ?_
 intro b hb
 refine ⟨_,_,_,rfl,?_⟩
 have s0:Sep (h.put b (.cells ([(⟨A,n,c⟩:HV)].flatMap enc).toArray 73)) h (J8.put b (.cells ([(⟨A,n,c⟩:HV)].flatMap enc).toArray 73)):=F1 hb
 have bD:=bS.dl oo
 refine s0.call (Kt r oo (bS.mono (show M<=M+10 from oo)) oo oo ?_)
 intro A2 n2 c2 g2 l2 w2 ar h2 s2
 have L2:=w2.1
 rw [Qd] at L2
 refine ⟨_,_,_,rfl,?_⟩
 refine s2.call (O2 (gl.mono l2) w2 (A67 nS) oo bD oo ar ?_)
 intro Q0 c0 A3 c3 g3 l3 w3 O b3 av h3 s3
 have L3:=O.len
 rw [Qd] at L3
 have nQ:=O.nz (A67 nS)
 refine ⟨_,_,_,rfl,fun L hp=>∃ (Ac:Option aQ) (nc cc:Nat) (A1:Option aQ) (n1 c1:Nat) (A2:Option aQ) (n2 c2:Nat),L=[.slice Ac nc cc,.slice A1 n1 c1,.slice A2 n2 c2]/\ChI h M S Q0 hp Ac nc cc A1 n1 c1 A2 n2 c2,fun L _=>C66 L,
  ⟨_,_,_,_,_,_,_,_,_,rfl,[S],[⟨A,n,c⟩],g3,_,S,Q0,rfl,A0 l2 l3,s3,A72,?_,(r.mono l2).mono l3,w3,hc,av,nS,nQ,S0,Bdd.start (bS.mono oo) oo,Bdd.start b3 oo,⟨oo,oo,oo⟩,⟨fun w a=>?_,fun w a=>?_⟩,by simp;omega,.inl ⟨rfl,rfl⟩,fun _=>Hist.start _ _,fun _=>PCh.one _⟩,?_⟩
 ·refine ⟨rfl,fun i hi=>?_⟩
  have:i=0:=by simp at hi;omega
  subst this
  exact ⟨_,_,rfl,rfl,(r.mono l2).mono l3,hc⟩
 ·rw [List.mem_singleton.1 a];exact bS.mono oo
 ·rw [List.mem_singleton.1 a];omega
 rintro cA cn cc bA bn bc lA ln lc hp ⟨Ac,nc,bd,A1,n1,c1,A4,n4,c4,eL,ch,hd,g,o,p,q,ae,lg,s,ow,E,wp,wq,aj,ac,np,nq,p0,bp,bq,lb,cb,ab,ai,C,ag⟩
 simp only [aO,aW,and_true] at eL
 obtain ⟨⟨rfl,rfl,rfl⟩,⟨rfl,rfl,rfl⟩,rfl,rfl,rfl⟩:=eL
 have lp:=wp.1
 have lq:=wq.1
 refine B4 (fun a2=>?_) (fun hz=>?_)
 ·have D:q≠[]:=by rintro rfl;simp at lq;omega
  have a8:=List.length_pos_iff.2 D
  have k:hd.length=ch.length:=E.1
  refine Q5 (ty:=164) C5g s ow (ae.trans k.symm) (y:=(⟨lA,ln,lc⟩:HV)) rfl dc (B5a k ab).1 (B5a k ab).2 ?_
  intro A5 c5 h5 g5 o5 l5 s5 am _
  obtain ⟨bb,μ,bμ,hμ⟩:=id bp
  obtain ⟨ax,ν,bν,hν⟩:=id bq
  have lim:=Bdd.lim (M:=M+10) (n:=bn) hM oo hμ hν
  refine s5.call (Ks (wp.mono l5) (wq.mono l5) np nq oo oo aj bμ bν lim ?_)
  intro Q R m A6 n6 c6 A7 n7 c7 z g7 l7 _ wR an iz m0 he nR ap bR h7 s7
  refine ⟨_,_,_,_,_,_,_,_,_,_,rfl,?_⟩
  have hR:=ap D
  have lR:=wR.1
  rw [lp,lq] at bR
  have ay:=Bdd.step (M:=M+10) (l:=R.length) lb hR hμ hν
  have bz:=aE (M+10+1) (Oz R.length).2
  refine s7.call (O2 (((gl.mono lg).mono l5).mono l7) wR nR oo bR oo an ?_)
  intro R' x A8 c8 g8 l8 w8 p8 b8 au h8 s8
  have al:=p8.len
  have N:=p8.nz nR
  refine ⟨_,_,_,rfl,s8.call (O9 (iz.mono l8) ?_)⟩
  intro h9 s9
  refine ⟨_,rfl,?_⟩
  have ak:=A0 l5 (A0 l7 l8)
  have X:∀ (R2:List Int) A9 n9 c9 h9 g9,g8.le g9->Sep h9 g9 o5->WV g9 A9 n9 R2->n9<=c9->WB (μ+(p.length-q.length+1)*(ν+1)) R2->R2=(if 0<m then R6 (-1) R' else R')->ChI h M S Q0 h9 A5 (hd.length+1) c5 lA ln lc A9 n9 c9:=by
   intro R2 A9 n9 c9 h9 g9 l9 s9 w9 aq b9 e9
   have B:=A0 ak l9
   have j:R2.length=R.length:=by rw [e9];split<;>simp [R6,al]
   have a0:Nz R2:=by
    rw [e9];split
    ·exact N.scl dc
    ·exact N
   refine ⟨ch++[q],hd++[⟨lA,ln,lc⟩],g9,o5,q,R2,by simp [k],A0 lg B,s9,am,(E.mono B).push (wq.mono B) ac,wq.mono B,w9,ac,aq,nq,a0,D,bq,⟨oo,_,b9,by rw [j];exact ay⟩,⟨oo,oo,by have:=lb.2.1;have:=lb.1;omega⟩,⟨fun w a=>?_,fun w a=>?_⟩,by rw [bG,List.length_singleton];omega,.inr ?_,fun h0=>?_,fun h0=>?_⟩
   ·rcases List.mem_append.1 a with a|a
    ·exact cb.bits w a
    ·rw [List.mem_singleton.1 a];exact bq.le
   ·rcases List.mem_append.1 a with a|a
    ·exact cb.len w a
    ·rw [List.mem_singleton.1 a];exact ax
   ·rcases ai with ⟨d,e2⟩|⟨t',d⟩
    ·exact ⟨[],by rw [d,e2];rfl,by rw [<- e2];exact D⟩
    ·exact ⟨t'++[q],by rw [d.1];rfl,d.2⟩
   ·have H:R≠[]:=by intro z;rw [z] at j;exact h0 (aN j)
    rw [e9]
    exact (C D).step m0 he (p8.pos nR H) p8.val
   ·have H:R=[]:=by
     rw [h0] at j
     exact aN j.symm
    exact (C D).done m0 (u:=Q) fun x=>by rw [he x,H];simp only [pe];grind
  refine B4 (fun hm=>?_) (fun hm=>?_)
  ·have F:0<m:=Int.sign_pos_iff.1 hm
   refine s9.call (N5 oo oo ?_)
   intro a6 A10 ba a5 a9 V az a7 ad
   refine ⟨_,_,_,_,rfl,?_⟩
   refine ad.call (Zt (w8.mono V) az oo (b8.mono (show _<=40000000 from oo)) (ZB.neg (ZB.one oo)) oo ?_)
   intro A11 ao be a4 a1 G aa bf W
   rw [A4g (N.scl dc)] at G
   refine ⟨_,_,_,rfl,⟨_,_,_,_,_,_,_,_,_,rfl,X _ _ _ _ _ _ (A0 V a1) W G aa (fun i=>?_) (by rw [iP F])⟩,?_⟩
   ·rw [Hu,Int.neg_one_mul];exact (b8 i).neg
   ·show ao<ln
    have:=G.1
    simp only [R6,cX] at this
    omega
  ·have F:¬ 0<m:=fun z=>hm (Int.sign_pos_iff.2 z)
   refine ⟨⟨_,_,_,_,_,_,_,_,_,rfl,X R' _ _ _ _ _ (B0 _) s9 w8 au b8 (by rw [iN F])⟩,?_⟩
   show n7<ln
   have:=w8.1
   omega
 ·have D:q=[]:=aN oo
  subst D
  have af:=ag rfl
  have T:∀ {l:List (List Int)},ch=l->ChV hp cA cn l:=fun e=>⟨hd,ow.slF s.ole,by rw [ae,e],by rw [<- e];exact E.mono s.le⟩
  have ah:=A0 lg s.le
  rcases ai with ⟨d,e2⟩|⟨t',d⟩
  ·refine hK [] _ _ _ _ ah (T d) oo (by rw [<- d];exact cb) ⟨by rw [<- d];exact af,fun _ _ z=>(by cases z),fun _=>?_⟩
   have:=O.len
   rw [<- e2,Qd] at this
   simp at this
   omega
  ·refine hK (Q0::t') _ _ _ _ ah (T d.1) oo (by rw [<- d.1];exact cb) ⟨by rw [<- d.1];exact af,fun Q a3 z=>?_,fun z=>(by cases z)⟩
   obtain ⟨rfl,rfl⟩:=List.cons.inj z
   exact ⟨c0,O.pos (A67 nS) (O.ne.1 d.2),fun x=>by rw [<- Jb,O.val]⟩
end
def B29(q:Rat):C0 q≠[]:=by
 unfold C0 Dn
 intro e
 have b:=List.append_eq_nil_iff.1 e
 have c:=Hq q.num.natAbs
 have a:=b.1
 split at a
 ·cases a
 ·exact c a
def P6{X Y:Prop}(y:Y):Br (!true) X Y:=y
def Uok(n:Nat)(ls:Nat->List UInt8):Prop:=(∀ i,i<n->IsNum (ls i))/\(0<n->ls (n-1)≠[48])
def Uok.lead{n:Nat}{ls:Nat->List UInt8}(u:Uok n ls)(h:0<n):rv (ls (n-1))≠0:=by
 obtain ⟨q,a⟩:=u.1 (n-1) o
 intro e
 rw [a,C2] at e
 subst e
 exact u.2 h (by rw [a];exact Rq)
structure UvR (c:Nat->Rat) (n:Nat) (w:List Int) (D:Int):Prop where
 len:n=w.length
 pos:0<D
 eq:∀ i,i<n->(cf w i:Rat)=c i*(D:Rat)
 nz:Nz w
 lc:D=((Nl c n:Nat):Int)
def UvR.val{c:Nat->Rat}{n:Nat}{w:List Int}{D:Int}(u:UvR c n w D)(x:Rat):pe w x=ps (cf w) x n:=by rw [u.len,A0o]
section
variable {h:aI} {K:VP} {A B:Option aQ} {n c m M:Nat} {S w:List Int} {ls:Nat->List UInt8}
def Rp(hn:n<=65)(hK:K (.bool true) h):aH prog 50 #[.slice A n c] h K:=by
 refine (fnk func50) ?_
 have e:decide (((n:Nat):Int)<=65)=true:=by simp;omega
 rw [e]
 exact hK
def Ws(gl:Gl h)(r:cZ SSr h A n ls)(hn:n<=65)(hl:∀ i,i<n->(ls i).length<=140737488351232)
 (hK1:Uok n ls->∀ b h',Own RQr h h' b n (fun i=>rv (ls i))->K (.tuple #[.slice (some ⟨b,0,none⟩) n n,.bool true]) h')
 (hK0:¬ Uok n ls->∀ h',h.le h'->K (.tuple #[.slice none 0 0,.bool false]) h'):aH prog 19 #[.slice A n c] h K:=by
 refine (fnk func19) ?_
 refine Rp hn ⟨_,rfl,P6 ?_⟩
 have p:(0<n->ls (n-1)≠[48])->aH prog 51 #[.slice A n c] h (fun w k=>∃ (t22aA:Option aQ) (t22an:Nat) (t22ac:Nat) (t22b:Bool),w= .tuple #[.slice t22aA t22an t22ac,.bool t22b]/\K (.tuple #[.slice t22aA t22an t22ac,.bool t22b]) k):=fun m=>
  Ao gl r o hl (fun g b q x=>⟨_,_,_,_,rfl,hK1 ⟨g,m⟩ _ _ x⟩) (fun j q s=>⟨_,_,_,_,rfl,hK0 (fun u=>j u.1) _ s⟩)
 refine B4 (fun l=>?_) (fun B=>p fun m=>o)
 have d:0<n:=o
 obtain ⟨a,rfl,y⟩:=r.sat (i:=n-1) o
 rw [show B9 ((n:Int)-1)=((n-1:Nat):Int) by rw [B5]<;>omega]
 refine ⟨_,rfl,o,o,_,y,?_⟩
 have z:(ByteArray.toList (bs (ls (n-1)))==ByteArray.toList ({ data:=#[48] }:ByteArray))=decide (ls (n-1)=[48]):=Na _ [48]
 rw [z]
 exact B4 (fun e=>hK0 (fun u=>u.2 d e) _ (B0 _)) (fun e=>p fun _=>e)
def Gq(gl:Gl h)(r:cZ SSr h A n ls)(hn:n<=65)(hl:∀ i,i<n->(ls i).length<=140737488351232)
 (hK1:Uok n ls->∀ h',h.le h'->K (.bool true) h') (hK0:¬ Uok n ls->∀ h',h.le h'->K (.bool false) h'):aH prog 6 #[.slice A n c] h K:=by
 refine (fnk func6) ?_
 exact Ws gl r hn hl (fun u b d a=>⟨_,_,_,_,rfl,hK1 u _ a.le⟩) (fun u d e=>⟨_,_,_,_,rfl,hK0 u _ e⟩)
def Ro{f:Nat->Rat}(gl:Gl h)(r:cZ RQr h A n f)(hn:n<=65)(hs:∀ i,i<n->Sz m (f i))(hm:m+(1+n*m+m)<=40000000)(h0:0<n->f (n-1)≠0)
 (hK:∀ (w:List Int) (D:Int) (z:IV) A' n' c' h',h.le h'->WV h' A' n' w->n'<=c'->ZIr h' z D->UvR f n w D->WB (m+(1+n*m)) w->ZB (1+n*m) D->K (.tuple #[.slice A' n' c',z.v]) h'):aH prog 164 #[.slice A n c] h K:=by
 refine (fnk func164 [(4,[15],[],[I 0])] (os:=[(8,[0,2,1,3,4])]) (own:=[3,4,7])) ?_
 refine Df gl r oo hs oo ?_
 intro s1 A1 n1 c1 R V i1
 have O:ZB (1+n*m) (Nl f n:Int):=Ol n hs
 refine ⟨_,_,_,_,rfl,?_⟩
 refine D8 tWh (zx:=Zl) rfl oo oo oo oo ?_
 intro b Q
 rw [aJ]
 refine ⟨_,_,_,rfl,fun L M=>∃ k:Nat,k<=n/\L=[I k]/\OwnK ZIr R M b n k (fun i=>scl (f i) (Nl f n)),fun L _=>n-(iAt L 0).toNat,⟨0,oo,rfl,OwnK.zero Q⟩,?_⟩
 rintro t M ⟨k,hk,eL,g,o,xs,C,d,T,p,S⟩
 obtain rfl:=sI1 eL
 refine B4 (fun aa=>?_) (fun X=>?_)
 ·have j:k<n:=oo
  obtain ⟨a,q,rfl,iq,f0,f1,f2,f3⟩:=(r.mono Bj (A0 V C)).qat j
  refine ⟨a,rfl,oo,oo,_,_,_,_,_,_,_,_,B7 d.le f0,B7 d.le f1,B7 d.le f2,B7 d.le f3,?_⟩
  refine d.call (Ju iq (i1.mono C) ((hs k j).mono (show m<=1+n*m+m from oo)) (O.mono oo) oo ?_)
  intro s2 A2 n2 c2 g2 l2 i2 h2 E
  refine ⟨_,_,_,_,rfl,_,rfl,oo,oo,?_⟩
  refine OwnK.store P2 Im (y:=(⟨s2,A2,n2,c2⟩:IV)) C l2 E T p S j rfl i2 ?_
  intro h3 x
  rw [wiS k oo]
  exact ⟨⟨k+1,oo,rfl,x⟩,by simp only [Ca];omega⟩
 ·obtain rfl:k=n:=oo
  have x:Own ZIr R M b k (fun i=>scl (f i) (Nl f k)):=⟨g,o,xs,C,d,T,p,S⟩
  have G:(0:Int)<Nl f k:=by have:=Yi f k;omega
  have u:∀ i,i<k->(scl (f i) (Nl f k):Rat)=f i*((Nl f k:Int):Rat):=fun i l=>A8f (Int.natCast_dvd_natCast.2 (Yj f k i l))
  have B:Nz ((dG k).map fun i=>scl (f i) (Nl f k)):=by
   intro s
   have H:0<k:=by
    rcases Nat.eq_zero_or_pos k with z|z
    ·subst z;exact absurd rfl s
    ·exact z
   rw [Db s,cX,List.length_range,A1o _ oo]
   intro e
   have:=u (k-1) oo
   rw [e] at this
   rcases Rat.mul_eq_zero.1 this.symm with z|z
   ·exact h0 H z
   ·exact F6 (N:=(Nl f k:Int)) oo z
  have wv:=A7e (x.vis P2)
  refine Bt wv oo (aP _) ?_
  intro A5 n5 c5 W F
  rw [A4g B] at W
  refine ⟨_,_,_,rfl,B0 _,hK _ _ ⟨s1,A1,n1,c1⟩ _ _ _ _ (A0 V x.le) W F (i1.mono x.le) ⟨by simp,G,fun i l=>by rw [A1o _ l];exact u i l,B,rfl⟩ (WB.row fun i l=>A8e (hs i l) O) O⟩
def Rn(gl:Gl h)(r:cZ SSr h A n ls)(hn:n<=65)(hl:∀ i,i<n->(ls i).length<=140737488351232)(u:Uok n ls)(hs:∀ i,i<n->Sz m (rv (ls i)))(hm:m+(1+n*m+m)<=40000000)
 (hK:∀ (w:List Int) (D:Int) (z:IV) A' n' c' h',h.le h'->WV h' A' n' w->n'<=c'->ZIr h' z D->UvR (fun i=>rv (ls i)) n w D->WB (m+(1+n*m)) w->ZB (1+n*m) D->K (.tuple #[.slice A' n' c',z.v,.bool true]) h'):aH prog 80 #[.slice A n c] h K:=by
 refine (fnk func80 (own:=[3,5,9])) ?_
 refine N5 o o ?_
 intro s1 A1 n1 c1 W B i1
 refine ⟨_,_,_,_,rfl,Rp hn ⟨_,rfl,P6 ?_⟩⟩
 refine Ao (gl.mono B) (r.mono Jc B) o hl (fun L b T H=>⟨_,_,_,_,rfl,P6 ?_⟩) (fun k=>absurd u.1 k)
 have l:=H.vis Bj
 have C:=A0 B H.le
 have j:=gl.mono C
 refine B4 (fun G=>?_) (fun X=>?_)
 ·have d:0<n:=o
  obtain ⟨a,q,S,O,M,N,Q,R⟩:=l.qat (i:=n-1) o
  rw [show B9 ((n:Int)-1)=((n-1:Nat):Int) by rw [B5]<;>omega]
  refine ⟨_,S,o,o,_,_,_,_,_,_,_,_,M,N,Q,R,?_⟩
  have g:=u.lead d
  refine V9 O ⟨_,rfl,B4 (fun e=>absurd e g) (fun _=>?_)⟩
  refine Ro j l hn hs hm (fun _=>g) ?_
  intro w D z A' n' c' h' E wv F s y p x
  exact ⟨_,_,_,_,_,_,_,rfl,hK w D z _ _ _ _ (A0 C E) wv F s y p x⟩
 ·refine Ro j l hn hs hm (fun V=>o) ?_
  intro w D z A' n' c' h' E wv F s y p x
  exact ⟨_,_,_,_,_,_,_,rfl,hK w D z _ _ _ _ (A0 C E) wv F s y p x⟩
def Jv(gl:Gl h)(r:cZ SSr h A n ls)(hn:n<=65)(h0:0<n)(hl:∀ i,i<n->(ls i).length<=140737488351232)(u:Uok n ls)(hs:∀ i,i<n->Sz m (rv (ls i)))(hm:m+(1+n*m+m)<=40000000)
 (hK:∀ (w:List Int) (D:Int) (z:IV) A' n' c' h',h.le h'->WV h' A' n' w->n'<=c'->ZIr h' z D->UvR (fun i=>rv (ls i)) n w D->WB (m+(1+n*m)) w->ZB (1+n*m) D->K (.tuple #[.slice A' n' c',z.v,I 0]) h'):aH prog 31 #[.slice A n c] h K:=by
 refine (fnk func31 (own:=[3,6])) ?_
 refine Rn gl r hn hl u hs hm ?_
 intro w D z A' n' c' h' d wv g k a j b
 refine ⟨_,_,_,_,_,_,_,_,rfl,P6 (C8 (fun e=>?_) (fun _=>hK w D z _ _ _ _ d wv g k a j b))⟩
 have:=wv.1
 have:=a.len
 omega
def Jd{l:List UInt8}{q:Rat}{i:Int}(gl:Gl h)(e:l=C0 q)(hl:l.length<=140737488351232)
 (hK:∀ (w:QV) h',h.le h'->RQ h' w q->K (.tuple #[.agg #[.bool w.s,.slice w.A w.n w.c,.bool w.s2,.slice w.A2 w.n2 w.c2,I 0],.bool true]) h'):aH prog 78 #[.string (bs l),I i] h K:=by
 refine (fnk func78 (own:=[4,6])) ?_
 rw [W5]
 refine B4 (fun b=>absurd (e▸b) (B29 q)) (fun _=>?_)
 refine Q9 gl.tz hl (fun j g w h' d k=>?_) (fun a=>absurd ⟨q,e⟩ a)
 have:j=q:=E8 (g.symm.trans e)
 subst this
 exact ⟨_,_,_,_,_,_,_,_,_,rfl,hK w h' d k⟩
def A32{a b:QV}{p q:Rat}(i:RQ h a p)(j:RQ h b q)(hp:Sz m p)(hq:Sz m q)(hm:m<=40000000)(hK:K (.bool (decide (p<q))) h):
 aH prog 162 #[.agg #[.bool a.s,.slice a.A a.n a.c,.bool a.s2,.slice a.A2 a.n2 a.c2,I 0],.agg #[.bool b.s,.slice b.A b.n b.c,.bool b.s2,.slice b.A2 b.n2 b.c2,I 0]] h K:=by
 refine (fnk func162 (own:=[2,3])) ?_
 refine D6 (fun e=>absurd rfl e) (fun _=>D6 (fun e=>absurd rfl e) (fun _=>?_))
 refine X8 i j hp hq o ⟨_,rfl,?_⟩
 have e:decide (A5c p q<0)=decide (p<q):=by
  have:=Fd (p:=p) (q:=q)
  by_cases z:p<q
  ·rw [decide_eq_true z,decide_eq_true (this.2 z)]
  ·rw [decide_eq_false z,decide_eq_false (fun y=>z (this.1 y))]
 rw [e]
 exact hK
def Xx(q:Rat):(q.num:Rat)=q*((q.den:Int):Rat):=by
 have h:=Rat.num_divInt_den q
 rw [cC] at h
 have a:((q.den:Int):Rat)≠0:=F6 (by have:=q.den_pos;omega)
 have:(q.num:Rat)/((q.den:Int):Rat)*((q.den:Int):Rat)=q.num:=Rat.div_mul_cancel a
 rw [h] at this
 exact this.symm
def A31{a:QV}{q:Rat}{p:Nat}(r:WV h A n w)(i:RQ h a q)(hn:n<=1000)(hb:WB M w)(hq:Sz p q)(hT:M+(n+2)*(p+1)<=40000000)(hK:∀ h',h.le h'->K (I (sgR (pe w q))) h'):
 aH prog 229 #[.agg #[.bool a.s,.slice a.A a.n a.c,.bool a.s2,.slice a.A2 a.n2 a.c2,I 0],.slice A n c] h K:=by
 refine (fnk func229 (own:=[2])) ?_
 refine C8 (fun _=>?_) (fun e=>absurd rfl e)
 refine Bu r i hn hb hq hT ?_
 intro s A' j l z pw h' d g b k
 refine ⟨_,_,_,_,rfl,O9 g ⟨_,rfl,?_⟩⟩
 have:=b.sgn (by have:=q.den_pos;omega) (Xx q)
 rw [A8d] at this
 rw [this]
 exact hK _ d
def Cy{a:QV}{q:Rat}{p:Nat}{L:List (List Int)}(r:ChV h A n L)(i:RQ h a q)(hb:ChB M L)(hn:n<=1000)(hq:Sz p q)(hT:89*(M+1)+7*(p+1)<=40000000)(hK:∀ h',h.le h'->K (I (chg 0 (Vs L q):Nat)) h'):
 aH prog 163 #[.slice A n c,.agg #[.bool a.s,.slice a.A a.n a.c,.bool a.s2,.slice a.A2 a.n2 a.c2,I 0]] h K:=by
 refine (fnk func163 [(3,[5,6,12],[],[I 0,I 0,I 0])] (own:=[3])) ?_
 have T:n=L.length:=by obtain ⟨_,_,e,_⟩:=r;exact e
 have vl:(Vs L q).length=n:=by simp [Vs,T]
 have m:∀ (l:List Int) (b:Int),chg b l<=l.length:=by
  intro l
  induction l with
  | nil=>intro b;simp [chg]
  | cons s l ih=>
   intro b
   rw [chg,bK]
   split
   ·have:=ih b;omega
   ·have:=ih s;split<;>omega
 refine ⟨fun V F=>∃ (k cnt:Nat) (b:Int),V=[I (cnt:Int),I b,I (k:Int)]/\k<=n/\h.le F/\cnt+chg b ((Vs L q).drop k)=chg 0 (Vs L q),fun V _=>n-(iAt V 2).toNat,⟨0,0,0,rfl,o,B0 _,by rw [dZ,aX]⟩,?_⟩
 rintro cz B kz F ⟨k,cnt,b,D,hk,g,d⟩
 simp only [aO,aR,true_and,and_true] at D
 obtain ⟨rfl,rfl,rfl⟩:=D
 refine B4 (fun O=>?_) (fun H=>?_)
 ·have j:k<n:=o
  obtain ⟨ad,s,w,rfl,C,Q,wv,hs⟩:=(r.mono g).at j
  refine ⟨_,rfl,o,o,_,_,_,Q,?_⟩
  have E:w∈L:=List.mem_of_getElem? C
  have R:=hb.len w E
  have e5:=wv.1
  have W:(s.n+2)*(p+1)<=7*(p+1):=aE _ o
  refine A31 wv ⟨i.num.mono g,i.den.mono g⟩ o (hb.bits w E) hq o ?_
  intro h1 z
  have G:(Vs L q).drop k=sgR (pe w q)::(Vs L q).drop (k+1):=by
   rw [eE o]
   have:(Vs L q)[k]? = some (sgR (pe w q)):=by simp [Vs,C]
   rw [aK o] at this
   rw [cW this]
  have sc:=D9 (pe w q)
  generalize sgR (pe w q)=sw at *
  have aa:=m (Vs L q) 0
  have S:B9 ((k:Int)+1)=((k+1:Nat):Int):=by rw [B5]<;>omega
  have N:B9 (0-sw)= -sw:=by rw [B5]<;>omega
  have X:B9 ((cnt:Int)+1)=((cnt+1:Nat):Int):=by rw [B5]<;>omega
  have dec:∀ x y:Int,n-(iAt [I x,I y,I ((k+1:Nat):Int)] 2).toNat<n-(iAt [I (cnt:Int),I B,I (k:Int)] 2).toNat:=fun x y=>by
   show n-((k+1:Nat):Int).toNat<n-(k:Int).toNat
   omega
  rw [G,chg] at d
  refine ⟨_,rfl,?_⟩
  rw [S,N,X]
  refine C8 (fun e=>?_) (fun e=>C8 (fun u=>?_) (fun u=>?_))
  ·rw [iP e] at d
   exact ⟨⟨k+1,cnt,B,rfl,o,A0 g z,d⟩,dec _ _⟩
  ·rw [iN e,iP u] at d
   exact ⟨⟨k+1,cnt+1,sw,rfl,o,A0 g z,o⟩,dec _ _⟩
  ·rw [iN e,iN u] at d
   exact ⟨⟨k+1,cnt,sw,rfl,o,A0 g z,o⟩,dec _ _⟩
 ·have:k=n:=o
  subst this
  rw [List.drop_of_length_le o] at d
  simp only [chg,eM] at d
  rw [d]
  exact hK _ g
def B9i(w:List Int)(lo hi:Rat)(z:Int):Prop:=(¬ lo<hi->z=0)/\(lo<hi->∃ S t,Sq w S t/\z=(chg 0 (Vs (S::t) lo):Int)-(chg 0 (Vs (S::t) hi):Int))
def CntS(S:List Int)(lo hi:Rat)(z:Int):Prop:=(¬ lo<hi->z=0)/\(lo<hi->∃ t,Chn S t/\z=(chg 0 (Vs (S::t) lo):Int)-(chg 0 (Vs (S::t) hi):Int))
def B1k{w S:List Int}{t:List (List Int)}(f:SqF w S)(c:Chn S t):Sq w S t:=by
 obtain ⟨W,G,k,e,a,b,d,_⟩:=f.ex
 exact Sq.of e a b d c.ch c.der c.con
def CntS.cnt{z:Int}{lo hi:Rat}(h:CntS S lo hi z)(f:SqF w S):B9i w lo hi z:=⟨h.1,fun l=>by
 obtain ⟨t,c,e⟩:=h.2 l
 exact ⟨S,t,B1k f c,e⟩⟩
def Lo{a b:QV}{p q:Rat}{e:Nat}(gl:Gtz h)(r:WV h A n S)(f:SqF w S)(hn:n<=5)(hc:n<=c)(bS:WB M S)(hM:700*(M+11)<=40000000)(i:RQ h a p)(j:RQ h b q)(hp:Sz e p)(hq:Sz e q)(hT:89*(M+10+1)+7*(e+1)<=40000000)
 (hK:∀ z h',h.le h'->CntS S p q z->K (I z) h'):aH prog 79 #[.slice A n c,.agg #[.bool a.s,.slice a.A a.n a.c,.bool a.s2,.slice a.A2 a.n2 a.c2,I 0],.agg #[.bool b.s,.slice b.A b.n b.c,.bool b.s2,.slice b.A2 b.n2 b.c2,I 0]] h K:=by
 refine (fnk func79 (os:=[(4,[0,1,3,4,2,5,6,7])]) (own:=[4,5])) ?_
 refine A32 i j hp hq o ⟨_,rfl,?_⟩
 by_cases d:p<q
 ·rw [decide_eq_true d]
  refine P6 ?_
  refine Pp gl r f.nz f.ne hn hc bS hM ?_
  intro t A1 H c1 L g u E y m
  refine ⟨_,_,_,rfl,Cy u ⟨i.num.mono g,i.den.mono g⟩ y o hp o ?_⟩
  intro G k
  refine ⟨_,rfl,k,Cy (u.mono k) ⟨j.num.mono (A0 g k),j.den.mono (A0 g k)⟩ y o hq o ?_⟩
  intro R D
  refine ⟨_,rfl,D,?_⟩
  have B:∀ (l:List Int) (b:Int),chg b l<=l.length:=by
   intro l
   induction l with
   | nil=>intro b;simp [chg]
   | cons s l ih=>
    intro b
    rw [chg,bK]
    split
    ·have:=ih b;omega
    ·have:=ih s;split<;>omega
  have C:∀ x,(Vs (S::t) x).length<=6:=fun x=>by
   obtain ⟨_,_,e,_⟩:=u
   simp only [Vs,cX];omega
  have F:=B (Vs (S::t) p) 0
  have Q:=B (Vs (S::t) q) 0
  have O:=C p
  have N:=C q
  rw [B5 o o]
  exact hK _ _ (A0 g (A0 k D)) ⟨fun z=>absurd d z,fun _=>⟨t,m,rfl⟩⟩
 ·rw [decide_eq_false d]
  exact hK _ _ (B0 _) ⟨fun _=>rfl,fun z=>absurd z d⟩
def A0d{lo hi:List UInt8}{p q:Rat}{e:Nat}(gl:Gl h)(r:cZ SSr h A n ls)(hn:n<=5)(h0:0<n)(hl:∀ i,i<n->(ls i).length<=140737488351232)(u:Uok n ls)(hs:∀ i,i<n->Sz m (rv (ls i)))(hm:m<=16)
 (elo:lo=C0 p) (ehi:hi=C0 q) (hp:Sz e p) (hq:Sz e q) (he:e<=1000000) (llo:lo.length<=140737488351232) (lhi:hi.length<=140737488351232)
 (hK:∀ w D z h',h.le h'->UvR (fun i=>rv (ls i)) n w D->B9i w p q z->K (.tuple #[I z,I 0]) h'):aH prog 29 #[.slice A n c,.string (bs lo),.string (bs hi)] h K:=by
 refine (fnk func29 (os:=[(8,[0,2,3,1,4,5,6])]) (own:=[9,11,13])) ?_
 have Q:n*m<=5*16:=aY hn hm
 refine Jv gl r o h0 hl u hs o ?_
 intro w D z A1 n1 c1 h1 k wv T iz l L _
 refine ⟨_,_,_,_,_,_,_,_,rfl,Jd (gl.mono k) elo llo ?_⟩
 intro a W G B
 refine ⟨_,_,_,_,_,_,_,_,_,_,rfl,Jd ((gl.mono k).mono G) ehi lhi ?_⟩
 intro b h3 E F
 refine ⟨_,_,_,_,_,_,_,_,_,_,rfl,C8 (fun e=>o) (fun _=>P6 (P6 (D6 (fun e=>absurd rfl e) (fun _=>?_))))⟩
 have d:=A0 G E
 have N:w≠[]:=by
  rintro rfl
  have:=l.len
  simp at this;omega
 have e1:=wv.1
 have e2:=l.len
 refine Y9 ((gl.mono (A0 k d)).tz) (wv.mono d) l.nz N o T (L.mono (show m+(1+n*m)<=97 from o)) o ?_
 intro S A4 X c4 h4 g y x s R
 refine ⟨_,_,_,rfl,g,?_⟩
 have e4:=y.1
 have V:=s.len
 have j:=A0 E g
 refine Lo (M:=451*(97+11)) ((gl.mono (A0 k (A0 d g))).tz) y s o x R o ⟨B.num.mono j,B.den.mono j⟩ ⟨F.num.mono g,F.den.mono g⟩ hp hq o ?_
 intro H h5 C O
 exact ⟨_,rfl,C,hK w D H _ (A0 k (A0 d (A0 g C))) l (O.cnt s)⟩
end
end Go.Proofs.YtbgkfnjmcjfokaaGreatDoor
namespace Go.Proofs.YtbgkfnjmcjfokaaGreatDoor
set_option maxRecDepth 20000
def ks(c:Nat->Rat):Nat->List Nat
 | 0=>[]
 | n+1=>if c n=0 then ks c n else n::ks c n
def Co{c:Nat->Rat}{e:Nat}: ∀ {n:Nat},e∈ks c n↔e<n/\c e≠0:=by
 intro n
 induction n with
 | zero=>simp [ks]
 | succ n ih=>
  rw [ks]
  split
  ·rename_i h
   rw [ih]
   constructor
   ·rintro ⟨a,b⟩;exact ⟨o,b⟩
   ·rintro ⟨a,b⟩
    refine ⟨?_,b⟩
    rcases Nat.lt_or_eq_of_le (Nat.le_of_lt_succ a) with z|z
    ·exact z
    ·subst z;exact absurd h b
  ·rename_i h
   rw [eF,ih]
   constructor
   ·rintro (rfl|⟨a,b⟩)
    ·exact ⟨o,h⟩
    ·exact ⟨o,b⟩
   ·rintro ⟨a,b⟩
    rcases Nat.lt_or_eq_of_le (Nat.le_of_lt_succ a) with z|z
    ·exact .inr ⟨z,b⟩
    ·exact .inl z
def Sn(c:Nat->Rat):∀ n,(ks c n).Pairwise (fun a b=>b<a):=by
 intro n
 induction n with
 | zero=>simp [ks]
 | succ n ih=>
  rw [ks]
  split
  ·exact ih
  ·exact List.Pairwise.cons (fun e d=>(Co.1 d).1) ih
def A52(c:Nat->Rat):∀ n,(ks c n).length<=n:=by
 intro n
 induction n with
 | zero=>simp [ks]
 | succ n ih=>
  rw [ks]
  split
  ·omega
  ·rw [bK];omega
def B3z:∀ {l m:List Nat},l.Pairwise (fun a b=>b<a)->m.Pairwise (fun a b=>b<a)->(∀ x,x∈l↔x∈m)->l=m:=by
 intro l
 induction l with
 | nil=>
  intro m _ _ h
  cases m with
  | nil=>rfl
  | cons b m=>have:=(h b).2 (by simp);simp at this
 | cons a l ih=>
  intro m k i h
  cases m with
  | nil=>have:=(h a).1 (by simp);simp at this
  | cons b m=>
   obtain ⟨e,p⟩:=List.pairwise_cons.1 k
   obtain ⟨g,j⟩:=List.pairwise_cons.1 i
   have d:a=b:=by
    have q:=(h a).1 (by simp)
    have n:=(h b).2 (by simp)
    rcases List.mem_cons.1 q with z|z
    ·exact z
    ·rcases List.mem_cons.1 n with y|y
     ·exact y.symm
     ·have:=g a z;have:=e b y;omega
   subst d
   congr 1
   refine ih p j fun x=>⟨fun c=>?_,fun c=>?_⟩
   ·rcases List.mem_cons.1 ((h x).1 (List.mem_cons_of_mem _ c)) with z|z
    ·have:=e x c;omega
    ·exact z
   ·rcases List.mem_cons.1 ((h x).2 (List.mem_cons_of_mem _ c)) with z|z
    ·have:=g x c;omega
    ·exact z
def tU(c:Nat->Rat)(n:Nat):List K9:=(ks c n).map fun e=>(C0 (c e),[(e:Int)])
def Vb(c:Nat->Rat)(n:Nat):(tU c n).length=(ks c n).length:=by simp [tU]
def Nr(c:Nat->Rat)(n:Nat){i:Nat}(hi:i<(ks c n).length):tm (tU c n) i=(C0 (c (ks c n)[i]),[((ks c n)[i]:Int)]):=by
 simp [tm,tU,aL,hi]
def sQ(c:Nat->Rat)(x:Rat):Nat->Rat
 | 0=>0
 | n+1=>sQ c x n+c n*x^n
def A8v(x:Rat):∀ n,pwx x n=x^n:=by
 intro n
 induction n with
 | zero=>rw [aV];rfl
 | succ n ih=>rw [aU,<- ih];show x*pwx x n=_;grind
def B6x{c:Nat->Rat}{z:Nat->Int}{d:Rat}{x:Rat}: ∀ {n:Nat},(∀ i,i<n->(z i:Rat)=c i*d)->ps z x n=d*sQ c x n:=by
 intro n
 induction n with
 | zero=>intro _;show (0:Rat)=d*0;grind
 | succ n ih=>
  intro h
  rw [ps,sQ,ih fun i a=>h i o,h n o,A8v];grind
def B41(t:K9)(ts:List K9)(x:Nat->Rat)(n:Nat):∀ i,evV (t::ts) x n (i+1)=tmV t.2 x (rv t.1) n+evV ts x n i:=by
 intro i
 induction i with
 | zero=>simp only [evV,tm];simp;grind
 | succ i ih=>
  rw [evV,ih]
  have e:tm (t::ts) (i+1)=tm ts i:=by simp [tm]
  rw [e]
  simp only [evV];grind
def B60(c:Nat->Rat)(x:Nat->Rat):∀ n,evV (tU c n) x 1 (tU c n).length=sQ c (x 0) n:=by
 intro n
 induction n with
 | zero=>rfl
 | succ n ih=>
  by_cases h:c n=0
  ·have e:tU c (n+1)=tU c n:=by unfold tU;rw [ks,iP h]
   rw [e,ih,sQ,h];grind
  ·have e:tU c (n+1)=(C0 (c n),[(n:Int)])::tU c n:=by unfold tU;rw [ks,iN h];rfl
   rw [e,bK,B41,ih,sQ]
   have:tmV [(n:Int)] x (rv (C0 (c n))) 1=c n*x 0^n:=by
    simp [tmV,C2]
   rw [this];grind
def B3f{a b:Nat}(h:b<a):0<B3g [(a:Int)] [(b:Int)]:=by
 have c:([(a:Int)]).sum=a:=by simp
 have d:([(b:Int)]).sum=b:=by simp
 unfold B3g
 rw [c,d,iP o]
 unfold Bb
 omega
def A81(c:Nat->Rat){n:Nat}(hn:n<=25):Bc 1 (tU c n):=by
 have lt:∀ i,(g:i<(ks c n).length)->(ks c n)[i]<n/\c (ks c n)[i]≠0:=fun i g=>Co.1 (aZ g)
 refine ⟨⟨o,o,fun j a=>?_⟩,fun b=>?_⟩
 ·rw [Vb] at a
  obtain ⟨k,d⟩:=lt j a
  refine ⟨?_,fun b=>?_⟩
  ·rw [Nr c n a]
   exact ⟨⟨_,rfl,d⟩,rfl,fun x l=>by rw [List.mem_singleton.1 l];omega⟩
  ·rw [Nr c n a,Nr c n (i:=j-1) o]
   refine B3f ?_
   have:=List.pairwise_iff_getElem.1 (Sn c n) (j-1) j o a o
   exact this
 ·rw [Vb] at b
  obtain ⟨k,d⟩:=lt 0 b
  rw [Nr c n b]
  show decide (0<=A7c [((ks c n)[0]:Int)])=true
  generalize (ks c n)[0]=e at *
  have:A7c [(e:Int)]=e:=by
   simp only [A7c,Us,List.length_singleton]
   rw [iN o,iN o]
   omega
  rw [this];simp
def UvR.sum{c:Nat->Rat}{n:Nat}{w:List Int}{D:Int}(u:UvR c n w D)(x:Rat):pe w x=(D:Rat)*sQ c x n:=by rw [u.val,B6x u.eq]
def A8h{c:Nat->Rat}{n:Nat}{w:List Int}{D:Int}{q:Rat}{z pw:Int}(u:UvR c n w D)(hn:0<n)(hh:Hn w q.num (q.den:Int) 0 z pw):dX z (D*(q.den:Int)^(n-1))=sQ c q n:=by
 have g:(0:Int)<(q.den:Int):=by have:=q.den_pos;omega
 have b:=F6 (N:=(q.den:Int)) o
 have e:=hh.2 q (Xx q)
 rw [cV,dZ,<- u.len,u.sum] at e
 have r:pwx ((q.den:Int):Rat) n=((q.den:Int):Rat)*pwx ((q.den:Int):Rat) (n-1):=by
  obtain ⟨k,rfl⟩:∃ k,n=k+1:=⟨n-1,o⟩
  rfl
 have j:pwx ((q.den:Int):Rat) (n-1)=(((q.den:Int)^(n-1):Int):Rat):=by
  rw [A8v]
  generalize (q.den:Int)=d
  generalize n-1=k
  induction k with
  | zero=>rw [aV,Int.pow_zero];rfl
  | succ k ih=>rw [aU,ih,Int.pow_succ,aT]
 rw [r,j] at e
 have i:(z:Rat)=(((q.den:Int)^(n-1):Int):Rat)*((D:Rat)*sQ c q n):=by
  have:((q.den:Int):Rat)*((z:Rat)-(((q.den:Int)^(n-1):Int):Rat)*((D:Rat)*sQ c q n))=0:=gz0
  rcases Rat.mul_eq_zero.1 this with y|y
  ·exact absurd y b
  ·grind
 have p:(((q.den:Int)^(n-1):Int):Rat)≠0:=F6 (Int.ne_of_gt (Int.pow_pos g))
 have l:(D:Rat)≠0:=F6 (by have:=u.pos;omega)
 rw [cC,i,aT,Rat.div_def]
 generalize (((q.den:Int)^(n-1):Int):Rat)=P at *
 have a:(D:Rat)*P≠0:=fun y=>by rcases Rat.mul_eq_zero.1 y with y|y<;>contradiction
 have m:((D:Rat)*P)*((D:Rat)*P)⁻¹=1:=Rat.mul_inv_cancel _ a
 generalize ((D:Rat)*P)⁻¹=X at *
 have:P*((D:Rat)*sQ c q n)*X=sQ c q n*((D:Rat)*P*X):=gz0
 rw [this,m];grind
section
variable {h:aI} {K:VP} {A:Option aQ} {n c m:Nat} {ls:Nat->List UInt8}
def A2l{x:List UInt8}{q:Rat}{e:Nat}(gl:Gl h)(r:cZ SSr h A n ls)(hn:n<=5)(h0:0<n)(hl:∀ i,i<n->(ls i).length<=140737488351232)(u:Uok n ls)(hs:∀ i,i<n->Sz m (rv (ls i)))(hm:m<=16)
 (ex:x=C0 q) (hq:Sz e q) (he1:1<=e) (he:e<=1000000) (lx:x.length<=140737488351232)
 (hK:∀ h',h.le h'->K (.tuple #[.string (bs (C0 (sQ (fun i=>rv (ls i)) q n))),I 0]) h'):aH prog 30 #[.slice A n c,.string (bs x)] h K:=by
 refine (fnk func30 (os:=[(7,[0,1,3,2,4,5,6,7,8]),(8,[0,1,3,2,4,5,6,7])]) (own:=[7,9])) ?_
 have ab:n*m<=5*16:=aY hn hm
 refine Rn gl r o hl u hs o ?_
 intro w D z A1 C c1 h1 B wv hc iz y bw Q
 refine ⟨_,_,_,_,_,_,_,_,rfl,?_⟩
 refine Q9 (gl.mono B).tz lx (fun k e' a h2 l2 M=>?_) (fun E=>absurd ⟨q,ex⟩ E)
 have:k=q:=E8 (e'.symm.trans ex)
 subst this
 have e1:=wv.1
 have e2:=y.len
 refine ⟨_,_,_,_,_,_,_,_,_,rfl,P6 (P6 (C8 (fun e=>o) (fun _=>?_)))⟩
 refine U6 M ?_
 intro s3 A3 n3 c3 h3 G i3
 refine ⟨_,_,_,_,rfl,G,Ku o ⟨_,rfl,B0 _,?_⟩⟩
 have ew:C6 ((C:Int)-1)=((n-1:Nat):Int):=by rw [show ((C:Int)-1)=((n-1:Nat):Int) from o];exact C3 o o
 rw [ew]
 have aa:e*(n-1)<=1000000*4:=aY he o
 have g:ZB e (k.den:Int):=hq.den
 refine Bq (m:=e) i3 g he1 o o o ?_
 intro s4 A4 n4 c4 W H i4
 refine ⟨_,_,_,_,rfl,H,?_⟩
 have b:h1.le W:=A0 l2 (A0 G H)
 have p:ZB (e*(n-1)+1) ((k.den:Int)^(n-1)):=g.pow he1 (n-1)
 refine F7 (m:=5000000) (iz.mono b) i4 (Q.mono o) (p.mono o) o ?_
 intro s5 A5 n5 c5 h5 j V
 refine ⟨_,_,_,_,rfl,j,?_⟩
 have l:=A0 G (A0 H j)
 have X:(C+2)*(e+1)<=7*1000001:=aY o o
 have T:C*(e+1)<=5*1000001:=aY o o
 refine Bu (wv.mono (A0 b j)) ⟨M.num.mono l,M.den.mono l⟩ o bw hq o ?_
 intro s6 A6 n6 c6 z6 S h6 s i6 R N
 refine ⟨_,_,_,_,rfl,s,?_⟩
 have d:=(Q.mul p).mono (show _<=6000000 from o)
 refine Q3 (m:=6000000) (gl.mono (A0 B (A0 b (A0 j s)))).tz i6 (V.mono s) (N.mono o) d o ?_
 intro w7 X L O
 rw [A8h y h0 R] at O
 have g7:=gl.mono (A0 B (A0 b (A0 j (A0 s L))))
 have F:Sz 6000000 (sQ (fun i=>rv (ls i)) k n):=by
  rw [<- A8h y h0 R]
  refine At ?_ (N.mono o) d
  have:=y.pos
  have h8:(0:Int)<(k.den:Int)^(n-1):=Int.pow_pos (by have:=k.den_pos;omega)
  exact Int.ne_of_gt (Int.mul_pos this h8)
 refine ⟨_,_,_,_,_,_,_,_,rfl,L,I9 g7.p10 O F o ⟨_,rfl,B0 _,hK _ ?_⟩⟩
 exact A0 B (A0 b (A0 j (A0 s L)))
end
section
set_option maxRecDepth 100000
variable {h:aI} {K:VP}
end
section
set_option maxRecDepth 100000
variable {h:aI} {K:VP}
def B9y:dP prog 211 121 (N0) 1 24:=⟨by kernel_rfl,by kernel_rfl,rfl,dc⟩
def B1r(P:eD)(d9:OA)(N f9:Nat)(h:aI)(K:VP):Prop:=
 wpH P (Instr.makeMap 212 none) (fun e2 e3=>∃ (i:bH),e2=i/\∃ (n:LP) (O:LN),n [I 0] e3/\
 ∀ d j,n [I d] j->Bd (d<(N:Int)) (∃ b4,Ax d9 b4 d N <| ∃ b5 p f8,Hd j (b4.add (d.toNat*1)) b5 p f8 <| ∃ (o:LP) (Q:LN),o [I 0] j/\
 ∀ a b,o [I a] b->Bd (a<(p:Int)) (∃ c,Ax b5 c a p <| ∃ (q:Int) (r:Int) (s:Int) (t:Int) (u:Int) (v:Int) (R:Bool) (S:OA) (T V:Nat) (W:Bool) (X:OA) (a0 a1:Nat),b.cell? (aC (c.add (a.toNat*10)) 0)=some (I q)/\b.cell? (aC (c.add (a.toNat*10)) 1)=some (I r)/\b.cell? (aC (c.add (a.toNat*10)) 2)=some (I s)/\b.cell? (aC (c.add (a.toNat*10)) 3)=some (I t)/\b.cell? (aC (c.add (a.toNat*10)) 4)=some (I u)/\b.cell? (aC (c.add (a.toNat*10)) 5)=some (I v)/\b.cell? (aC (c.add (a.toNat*10)) 6)=some (.bool R)/\b.cell? (aC (c.add (a.toNat*10)) 7)=some (.slice S T V)/\b.cell? (aC (c.add (a.toNat*10)) 8)=some (.bool W)/\b.cell? (aC (c.add (a.toNat*10)) 9)=some (.slice X a0 a1)/\wpH P (Instr.lookup 212 (i) (.agg #[I q,I r,I s,I t,I u,I v]) false) (fun e4 F=>∃ b6 b7 b8 b9 c0 c1 c2 c3,e4=Qv b6 b7 b8 b9 c0 c1 c2 c3/\b.le F/\aH P 101 #[Qv b6 b7 b8 b9 c0 c1 c2 c3,Qv R S T V W X a0 a1] F (fun e5 a9=>∃ c4 c5 c6 c7 c8 c9 d0 d1,e5=Qv c4 c5 c6 c7 c8 c9 d0 d1/\F.le a9/\wpH P (Instr.mapUpdate 212 (i) (.agg #[I q,I r,I s,I t,I u,I v]) (Qv c4 c5 c6 c7 c8 c9 d0 d1)) (fun _ b0=>o [I (B9 (a+1))] b0/\Q [I (B9 (a+1))] b0<Q [I a] b) a9)) b)
 (n [I (B9 (d+1))] b/\O [I (B9 (d+1))] b<O [I d] j))
 (wpH P (Builtin.len_ #[212] 3 #[i]) (fun e6 e7=>∃ d2,e6=I d2/\wpH P (Instr.makeSlice 121 (I 0) (I d2)) (fun e8 e9=>∃ d3 d4 d5,e8=Sl d3 d4 d5/\wpH P (Instr.range 212 (i)) (fun f0 f1=>∃ (w:aQ),f0=Pt w/\∃ (k:LP) (l:LN),k [.slice d3 d4 d5] f1/\
 ∀ e f g m,k [.slice e f g] m->wpH P (Instr.next (Pt w) false 0) (fun b1 b2=>(b1= .tuple #[.bool false]/\K (Sl e f g) b2)\/(∃ (e0:bH) (e1:bH),b1= .tuple #[.bool true,e0,e1]/\wpH P (Instr.entry (Pt w)) (fun f2 f3=>∃ (a2:Int) (a3:Int) (a4:Int) (a5:Int) (a6:Int) (a7:Int) (x:Bool) (y:OA) (z A:Nat) (B:Bool) (C:OA) (D E:Nat),f2= .tuple #[.agg #[I a2,I a3,I a4,I a5,I a6,I a7],Qv x y z A B C D E]/\aH P 140 #[Qv x y z A B C D E] f3 (fun f4 G=>∃ (a8:Bool),f4= .bool a8/\Br (!a8) (wpH P (bL 121 1 #[(0,.agg #[I a2,I a3,I a4,I a5,I a6,I a7,.bool x,Sl y z A,.bool B,Sl C D E])]) (fun f5 f6=>∃ d6 d7 d8,f5=Sl d6 d7 d8/\wpH P (cY #[121,121] 121 #[Sl e f g,Sl d6 d7 d8]) (fun f7 b3=>∃ H L M,f7=Sl H L M/\k [.slice H L M] b3/\l [.slice H L M] b3<l [.slice e f g] m) f6) G)
 (k [.slice e f g] G/\l [.slice e f g] G<l [.slice e f g] m))) b2)) m) e9) e7) j)) h
def A27 a b c(hvc:B1r prog a b c h K):aH prog 63 #[Sl a b c] h K:=
 fnq func63 { loops:=[(3,⟨[14],[],[I 0],⟨([5,7]++Lrg 14 22),[7]⟩⟩),(6,⟨[20],[],[I 0],⟨([7]++Lrg 20 15),[7]⟩⟩),(13,⟨[8],[],[N0],⟨([8,9,10]++Lrg 41 14),[9,10]⟩⟩)],orders:=[(8,([0,1,2,3,4,5,7,8,6,9,10],[]))],ent:=(124,83) } [7,9,10] [] hvc
end
section
set_option maxRecDepth 100000
variable {h:aI} {K:VP}
def Vc:dP prog 38 32 (.agg #[I 0,Sl none 0 0]) 2 32:=⟨by kernel_rfl,by kernel_rfl,rfl,dc⟩
def C5w:dP prog 132 138 (N0) 1 24:=⟨by kernel_rfl,by kernel_rfl,rfl,dc⟩
def B2k:prog.cellsOf 138=1/\(prog.info? 138).isSome=true:=⟨by kernel_rfl,by kernel_rfl⟩
def tNs:dP prog 138 140 (.string ({ data:=#[] }:ByteArray)) 1 16:=⟨by kernel_rfl,by kernel_rfl,rfl,dc⟩
def A82:prog.cellsOf 140=1/\(prog.info? 140).isSome=true:=⟨by kernel_rfl,by kernel_rfl⟩
def C3l:dP prog 135 220 (N0) 1 24:=⟨by kernel_rfl,by kernel_rfl,rfl,dc⟩
def Wx:prog.cellsOf 220=1/\(prog.info? 220).isSome=true:=⟨by kernel_rfl,by kernel_rfl⟩
def tSs:dP prog 220 221 (.agg #[.string ({ data:=#[] }:ByteArray),.string ({ data:=#[] }:ByteArray)]) 2 32:=⟨by kernel_rfl,by kernel_rfl,rfl,dc⟩
def Wy:prog.cellsOf 221=2/\(prog.info? 221).isSome=true:=⟨by kernel_rfl,by kernel_rfl⟩
def C31(P:eD)(j:OA)(d B:Nat)(k:OA)(l C:Nat)(h:aI)(K:VP):Prop:=
 ∃ u,Ax j u (0:Int) d <| ∃ (m:ByteArray),h.cell? (u.add (((0:Int)).toNat*1))=some (.string m)/\∃ v,Ax k v (0:Int) l <| ∃ (n:ByteArray),h.cell? (v.add (((0:Int)).toNat*1))=some (.string n)/\aH P 334 #[.string m,.string n] h (fun y t=>∃ (o:ByteArray),y= .string o/\h.le t/\∃ (e:LP) (p:LN),e [.string o,I 1] t/\
 ∀ c a b,e [.string c,I a] b->Bd (a<(d:Int)) (∃ w,Ax j w a d <| ∃ (q:ByteArray),b.cell? (w.add (a.toNat*1))=some (.string q)/\∃ x,Ax k x a l <| ∃ (r:ByteArray),b.cell? (x.add (a.toNat*1))=some (.string r)/\aH P 334 #[.string q,.string r] b (fun z g=>∃ (s:ByteArray),z= .string s/\b.le g/\aH P 333 #[.string c,.string s] g (fun A i=>∃ (f:ByteArray),A= .string f/\g.le i/\e [.string f,I (B9 (a+1))] i/\p [.string f,I (B9 (a+1))] i<p [.string c,I a] b)))
 (K (.string c) b))
def B4w a b c d e f(hvc:C31 prog a b c d e f h K):aH prog 223 #[Sl a b c,Sl d e f] h K:=
 fnq func223 { loops:=[(3,⟨[5,6],[],[.string ⟨#[]⟩,I 0],⟨([5,6]++Lrg 15 19),[]⟩⟩)] } [] [] hvc
def C30(P:eD)(p:OA)(e M:Nat)(q:OA)(r N:Nat)(h:aI)(K:VP):Prop:=
 ∃ l,Ax p l (0:Int) e <| ∃ (s t:ByteArray),h.cell? (aC (l.add (((0:Int)).toNat*2)) 0)=some (.string s)/\h.cell? (aC (l.add (((0:Int)).toNat*2)) 1)=some (.string t)/\∃ m,Ax q m (0:Int) r <| ∃ (u v:ByteArray),h.cell? (aC (m.add (((0:Int)).toNat*2)) 0)=some (.string u)/\h.cell? (aC (m.add (((0:Int)).toNat*2)) 1)=some (.string v)/\aH P 152 #[.agg #[.string s,.string t],.agg #[.string u,.string v]] h (fun G F=>∃ (w x:ByteArray),G= .agg #[.string w,.string x]/\h.le F/\∃ (f:LP) (y:LN),f [I 1,.string w,.string x] F/\
 ∀ a c d b,f [I a,.string c,.string d] b->Bd (a<(e:Int)) (∃ n,Ax p n a e <| ∃ (z A:ByteArray),b.cell? (aC (n.add (a.toNat*2)) 0)=some (.string z)/\b.cell? (aC (n.add (a.toNat*2)) 1)=some (.string A)/\∃ o,Ax q o a r <| ∃ (B C:ByteArray),b.cell? (aC (o.add (a.toNat*2)) 0)=some (.string B)/\b.cell? (aC (o.add (a.toNat*2)) 1)=some (.string C)/\aH P 152 #[.agg #[.string z,.string A],.agg #[.string B,.string C]] b (fun H j=>∃ (D E:ByteArray),H= .agg #[.string D,.string E]/\b.le j/\aH P 151 #[.agg #[.string c,.string d],.agg #[.string D,.string E]] j (fun L k=>∃ (g i:ByteArray),L= .agg #[.string g,.string i]/\j.le k/\f [I (B9 (a+1)),.string g,.string i] k/\y [I (B9 (a+1)),.string g,.string i] k<y [I a,.string c,.string d] b)))
 (K (.agg #[.string c,.string d]) b))
def B4v a b c d e f(hvc:C30 prog a b c d e f h K):aH prog 220 #[Sl a b c,Sl d e f] h K:=
 fnq func220 { loops:=[(3,⟨[6],[(5,2)],[I 0,.string ⟨#[]⟩,.string ⟨#[]⟩],⟨([6]++Lrg 15 19),[5]⟩⟩)],orders:=[(1,([0,1,2,3,4,5,6,8,7,9],[]))] } [4,5] [] hvc
end
def mn(p q:Rat):Rat:=if q<p then q else p
def mx(p q:Rat):Rat:=if q>p then q else p
def mnL(p:Rat)(l:List Rat):Rat:=l.foldl mn p
def mxL(p:Rat)(l:List Rat):Rat:=l.foldl mx p
def Yd(p q:Rat)(l:List Rat):mnL p (q::l)=mnL (mn p q) l:=rfl
def Ya(p q:Rat)(l:List Rat):mxL p (q::l)=mxL (mx p q) l:=rfl
def B82(p:Rat):mnL p []=p:=rfl
def B7y(p:Rat):mxL p []=p:=rfl
def B3o(p q:Rat)(l:List Rat):mnL p (l++[q])=mn (mnL p l) q:=by simp [mnL]
def B3l(p q:Rat)(l:List Rat):mxL p (l++[q])=mx (mxL p l) q:=by simp [mxL]
def B3n(p q:Rat):mn p q<=p/\mn p q<=q:=by unfold mn;split<;>grind
def B3r(p q:Rat):p<=mx p q/\q<=mx p q:=by unfold mx;split<;>grind
def A6c(p q:Rat):mn p q=p\/mn p q=q:=by unfold mn;split<;>simp
def A6a(p q:Rat):mx p q=p\/mx p q=q:=by unfold mx;split<;>simp
def Z9{x:Rat}(h:0<=x):∀ k:Nat,0<=x^k
 | 0=>by rw [aV];decide
 | k+1=>by rw [aU];exact bI (Z9 h k) h
def Y2{x y:Rat}(h:0<=x)(hxy:x<=y):∀ k:Nat,x^k<=y^k
 | 0=>by rw [aV,aV];exact dK
 | k+1=>by
  rw [aU,aU]
  have h1:=Y2 h hxy k
  have a:=Z9 h k
  have c:0<=x^k*(y-x):=bI a gz0
  have b:0<=(y^k-x^k)*y:=bI gz0 gz0
  grind
def Xz(x:Rat):∀ k:Nat,(-x)^(2*k)=x^(2*k)/\(-x)^(2*k+1)= -(x^(2*k+1))
 | 0=>by simp [aV,aU]
 | k+1=>by
  obtain ⟨h1,h2⟩:=Xz x k
  have a:(-x)^(2*(k+1))=x^(2*(k+1)):=by
   rw [show 2*(k+1)=(2*k+1)+1 from o,aU,aU,h1,aU,aU];grind
  refine ⟨a,?_⟩
  rw [aU,aU,a];grind
def Lx{x:Rat}{k:Nat}(h:k%2=0):(-x)^k=x^k:=by
 obtain ⟨j,rfl⟩:∃ j,k=2*j:=⟨k/2,o⟩
 exact (Xz x j).1
def A3b{x:Rat}{k:Nat}(h:k%2=1):(-x)^k= -(x^k):=by
 obtain ⟨j,rfl⟩:∃ j,k=2*j+1:=⟨k/2,o⟩
 exact (Xz x j).2
def Sc(x:Rat){k:Nat}(h:k%2=0):0<=x^k:=by
 by_cases a:0<=x
 ·exact Z9 a k
 ·rw [<- Lx h];exact Z9 gz0 k
def Ci(a b:Rat)(k:Nat):Rat:=if 0<k/\k%2=0/\a<0/\0<b then mnL 0 [a^k,b^k] else mn (a^k) (b^k)
def Cj(a b:Rat)(k:Nat):Rat:=if 0<k/\k%2=0/\a<0/\0<b then mxL 0 [a^k,b^k] else mx (a^k) (b^k)
def Kb{a b x y:Rat}(h1:a<=x)(h2:x<=b):mn (a*y) (b*y)<=x*y/\x*y<=mx (a*y) (b*y):=by
 have i:=B3n (a*y) (b*y)
 have g:=B3r (a*y) (b*y)
 by_cases c:0<=y
 ·have d:0<=(x-a)*y:=bI gz0 c
  have e:0<=(b-x)*y:=bI gz0 c
  grind
 ·have d:0<=(x-a)*(-y):=bI gz0 gz0
  have e:0<=(b-x)*(-y):=bI gz0 gz0
  grind
def A9i(l:List Rat):∀ p:Rat,mnL p l<=p/\∀ q∈l,mnL p l<=q:=by
 induction l with
 | nil=>intro p;exact ⟨dK,by simp⟩
 | cons q l ih=>
  intro p
  rw [Yd]
  obtain ⟨b,c⟩:=ih (mn p q)
  obtain ⟨e,d⟩:=B3n p q
  refine ⟨cN b e,fun r a=>?_⟩
  rcases List.mem_cons.1 a with rfl|a
  ·exact cN b d
  ·exact c r a
def A9n(l:List Rat):∀ p:Rat,p<=mxL p l/\∀ q∈l,q<=mxL p l:=by
 induction l with
 | nil=>intro p;exact ⟨dK,by simp⟩
 | cons q l ih=>
  intro p
  rw [Ya]
  obtain ⟨b,c⟩:=ih (mx p q)
  obtain ⟨e,d⟩:=B3r p q
  refine ⟨cN e b,fun r a=>?_⟩
  rcases List.mem_cons.1 a with rfl|a
  ·exact cN d b
  ·exact c r a
def L7(a b c d:Rat):Rat:=mnL (a*c) [a*d,b*c,b*d]
def L8(a b c d:Rat):Rat:=mxL (a*c) [a*d,b*c,b*d]
def Yb{a b c d x y:Rat}(h1:a<=x)(h2:x<=b)(h3:c<=y)(h4:y<=d):L7 a b c d<=x*y/\x*y<=L8 a b c d:=by
 obtain ⟨L,g⟩:=A9i [a*d,b*c,b*d] (a*c)
 obtain ⟨C,e⟩:=A9n [a*d,b*c,b*d] (a*c)
 have N:=g (a*d) (by simp)
 have F:=g (b*c) (by simp)
 have G:=g (b*d) (by simp)
 have B:=e (a*d) (by simp)
 have E:=e (b*c) (by simp)
 have D:=e (b*d) (by simp)
 obtain ⟨H,A⟩:=Kb (y:=y) h1 h2
 have i:=Kb (y:=a) h3 h4
 have j:=Kb (y:=b) h3 h4
 have q:=A6c (c*a) (d*a)
 have l:=A6c (c*b) (d*b)
 have m:=A6a (c*a) (d*a)
 have w:=A6a (c*b) (d*b)
 have M:=A6c (a*y) (b*y)
 have z:=A6a (a*y) (b*y)
 unfold L7 L8
 have r:c*a=a*c:=cM _ _
 have p:d*a=a*d:=cM _ _
 have s:c*b=b*c:=cM _ _
 have u:d*b=b*d:=cM _ _
 have k:y*a=a*y:=cM _ _
 have n:y*b=b*y:=cM _ _
 rw [r,p] at q m i
 rw [s,u] at l w j
 rw [k] at i
 rw [n] at j
 grind
def B7q{a b x:Rat}(k:Nat)(h1:a<=x)(h2:x<=b):Ci a b k<=x^k/\x^k<=Cj a b k:=by
 have C:=B3n (a^k) (b^k)
 have w:=B3r (a^k) (b^k)
 unfold Ci Cj
 by_cases c:0<k/\k%2=0/\a<0/\0<b
 ·rw [iP c,iP c]
  obtain ⟨D,E⟩:=A9i [a^k,b^k] 0
  obtain ⟨A,m⟩:=A9n [a^k,b^k] 0
  have z:=m (a^k) (by simp)
  have B:=m (b^k) (by simp)
  have s:=Sc x c.2.1
  refine ⟨gz0,?_⟩
  by_cases j:0<=x
  ·have:=Y2 j h2 k;grind
  ·have:=Y2 (x:= -x) (y:= -a) gz0 gz0 k
   rw [Lx c.2.1,Lx c.2.1] at this
   grind
 ·rw [iN c,iN c]
  by_cases n:k=0
  ·subst n
   rw [aV] at *
   rw [aV] at *
   rw [aV] at *
   grind
  by_cases l:k%2=0
  ·by_cases q:0<=a
   ·have d:=Y2 q h1 k
    have e:=Y2 (x:=x) gz0 h2 k
    grind
   ·have u:b<=0:=by
     have:¬ 0<b:=fun h=>c ⟨o,l,gz0,h⟩
     grind
    have d:=Y2 (x:= -x) (y:= -a) gz0 gz0 k
    have e:=Y2 (x:= -b) (y:= -x) gz0 gz0 k
    rw [Lx l,Lx l] at d e
    grind
  ·have i:k%2=1:=o
   have mono:∀ {x y:Rat},x<=y->x^k<=y^k:=by
    intro x y g
    by_cases j:0<=x
    ·exact Y2 j g k
    ·have r:=Z9 (x:= -x) gz0 k
     rw [A3b i] at r
     by_cases p:0<=y
     ·have:=Z9 p k;grind
     ·have d:=Y2 (x:= -y) (y:= -x) gz0 gz0 k
      rw [A3b i,A3b i] at d
      grind
   have d:=mono h1
   have e:=mono h2
   grind
section
variable {h h':aI} {K:VP} {A B:Option aQ} {n c n' c':Nat} {s s':Bool} {x y z:Int} {m:Nat}
end
def Rj{x:List UInt8}{k:Nat}(hl:x.length<=k)(hk:1<=k)(hk2:k<=140737488351232):Tx (4*k) x:=⟨o,Xf hl hk⟩
def Tx.mono{m n:Nat}{x:List UInt8}(t:Tx m x)(h:m<=n):Tx n x:=⟨t.len,t.sz.mono h⟩
def Zi(lo hi:List UInt8):Prop:=∃ p q,lo=C0 p/\hi=C0 q/\p<=q
abbrev ivT(lo hi:List UInt8):bH:=.agg #[.string (bs lo),.string (bs hi)]
abbrev ivS(p q:Rat):bH:=ivT (C0 p) (C0 q)
def B83(l:List Rat):∀ p,mnL p l=p\/mnL p l∈l:=by
 induction l with
 | nil=>intro p;exact .inl rfl
 | cons q l ih=>
  intro p
  rw [Yd]
  rcases ih (mn p q) with h|h
  ·rcases A6c p q with e|e
   ·rw [h,e];exact .inl rfl
   ·rw [h,e];exact .inr (by simp)
  ·exact .inr (by simp [h])
def B7z(l:List Rat):∀ p,mxL p l=p\/mxL p l∈l:=by
 induction l with
 | nil=>intro p;exact .inl rfl
 | cons q l ih=>
  intro p
  rw [Ya]
  rcases ih (mx p q) with h|h
  ·rcases A6a p q with e|e
   ·rw [h,e];exact .inl rfl
   ·rw [h,e];exact .inr (by simp)
  ·exact .inr (by simp [h])
def Sz.mnL{m:Nat}{p:Rat}{l:List Rat}(hp:Sz m p)(hl:∀ q∈l,Sz m q):Sz m (mnL p l):=by
 rcases B83 l p with e|e
 ·rw [e];exact hp
 ·exact hl _ e
def Sz.mxL{m:Nat}{p:Rat}{l:List Rat}(hp:Sz m p)(hl:∀ q∈l,Sz m q):Sz m (mxL p l):=by
 rcases B7z l p with e|e
 ·rw [e];exact hp
 ·exact hl _ e
section
variable {h:aI} {K:VP} {m:Nat} {lo hi x:List UInt8} {p q r s:Rat}
def Iq{qs:List Rat}{A:Option aQ}{n c:Nat}(gl:Gl h)(hn:n=qs.length)(sl:SlV h A (qs.map fun q=>bZ (bs (C0 q))))(hp:Sz m p)(hq:∀ q∈qs,Sz m q)(hm:m<=10000000)(hl:qs.length<=1000)
 (hK:K (.string (bs (C0 (mnL p qs)))) h):aH prog 49 #[.string (bs (C0 p)),.slice A n c] h K:=by
 subst hn
 refine (fnk func49 [(2,[0,9],[],[.string ⟨#[]⟩,I 0])]) ?_
 refine ⟨fun L hp=>hp=h/\∃ i:Nat,i<=qs.length/\L=[.string (bs (C0 (mnL p (qs.take i)))),I i],fun L _=>(qs.length-(iAt L 1).toNat),⟨rfl,0,dM _,rfl⟩,?_⟩
 rintro f w l ⟨rfl,i,x,k⟩
 simp only [aO,bF,aR,true_and,and_true] at k
 obtain ⟨rfl,rfl⟩:=k
 have sz:Sz m (mnL p (qs.take i)):=hp.mnL fun q h=>hq q (List.mem_of_mem_take h)
 refine B4 (fun e=>?_) (fun e=>?_)
 ·have b:i<qs.length:=o
  obtain ⟨a,s,u⟩:=SlV.at sl (i:=i) (by simpa using b)
  refine ⟨a,s,o,e,bs (C0 qs[i]),?_,?_⟩
  ·rw [aJ,Nat.mul_one,u];simp
  have d:mnL p (qs.take (i+1))=mn (mnL p (qs.take i)) qs[i]:=by rw [dH b,B3o]
  have g:=hq qs[i] (aZ b)
  refine K8 gl (Tx.of g o) (Tx.of sz o) o ⟨_,rfl,?_⟩
  rw [C2,C2,B5 o o]
  refine B4 (fun j=>⟨⟨rfl,i+1,b,?_⟩,?_⟩) (fun j=>⟨⟨rfl,i+1,b,?_⟩,?_⟩)
  ·rw [d,mn,iP (Fd.1 j)];rfl
  ·simp [iAt];omega
  ·rw [d,mn,iN (fun r=>j (Fd.2 r))];rfl
  ·simp [iAt];omega
 ·obtain rfl:i=qs.length:=o
  rw [cU];exact hK
def Bk{qs:List Rat}{A:Option aQ}{n c:Nat}(gl:Gl h)(hn:n=qs.length)(sl:SlV h A (qs.map fun q=>bZ (bs (C0 q))))(hp:Sz m p)(hq:∀ q∈qs,Sz m q)(hm:m<=10000000)(hl:qs.length<=1000)
 (hK:K (.string (bs (C0 (mxL p qs)))) h):aH prog 48 #[.string (bs (C0 p)),.slice A n c] h K:=by
 subst hn
 refine (fnk func48 [(2,[0,9],[],[.string ⟨#[]⟩,I 0])]) ?_
 refine ⟨fun L hp=>hp=h/\∃ i:Nat,i<=qs.length/\L=[.string (bs (C0 (mxL p (qs.take i)))),I i],fun L _=>(qs.length-(iAt L 1).toNat),⟨rfl,0,dM _,rfl⟩,?_⟩
 rintro f w l ⟨rfl,i,x,k⟩
 simp only [aO,bF,aR,true_and,and_true] at k
 obtain ⟨rfl,rfl⟩:=k
 have sz:Sz m (mxL p (qs.take i)):=hp.mxL fun q h=>hq q (List.mem_of_mem_take h)
 refine B4 (fun e=>?_) (fun e=>?_)
 ·have b:i<qs.length:=o
  obtain ⟨a,s,u⟩:=SlV.at sl (i:=i) (by simpa using b)
  refine ⟨a,s,o,e,bs (C0 qs[i]),?_,?_⟩
  ·rw [aJ,Nat.mul_one,u];simp
  have d:mxL p (qs.take (i+1))=mx (mxL p (qs.take i)) qs[i]:=by rw [dH b,B3l]
  have g:=hq qs[i] (aZ b)
  refine K8 gl (Tx.of g o) (Tx.of sz o) o ⟨_,rfl,?_⟩
  rw [C2,C2,B5 o o]
  refine B4 (fun j=>⟨⟨rfl,i+1,b,?_⟩,?_⟩) (fun j=>⟨⟨rfl,i+1,b,?_⟩,?_⟩)
  ·rw [d,mx,iP (Oy.1 j)];rfl
  ·simp [iAt];omega
  ·rw [d,mx,iN (fun r=>j (Oy.2 r))];rfl
  ·simp [iAt];omega
 ·obtain rfl:i=qs.length:=o
  rw [cU];exact hK
def Sp{qs:List Rat}{A:Option aQ}{n c:Nat}(gl:Gl h)(hn:n=qs.length)(sl:SlV h A (qs.map fun q=>bZ (bs (C0 q))))(hp:Sz m p)(hq:∀ q∈qs,Sz m q)(hm:m<=10000000)(hl:qs.length<=1000)
 (hK:K (ivS (mnL p qs) (mxL p qs)) h):aH prog 161 #[.string (bs (C0 p)),.slice A n c] h K:=by
 refine (fnk func161 (own:=[4])) ?_
 exact Iq gl hn sl hp hq hm hl ⟨_,rfl,Bk gl hn sl hp hq hm hl ⟨_,rfl,hK⟩⟩
def A89{qs:List Rat}{K2:VP}{n:Nat}{ps:Array (Nat × bH)}(gl:Gl h)(hn:n=qs.length)(hps:ps.toList=(List.range' 0 (qs.map fun q=>bZ (bs (C0 q))).length).zip (qs.map fun q=>bZ (bs (C0 q))))(hp:Sz m p)(hq:∀ q∈qs,Sz m q)(hm:m<=10000000)(hl:qs.length<=1000)
 (hK:∀ h',h.le h'->K2 (ivS (mnL p qs) (mxL p qs)) h'):wpH prog (bL 22 n ps) (fun v hp=>∃ (A:Option aQ) (n c:Nat),v= .slice A n c/\aH prog 161 #[.string (bs (C0 p)),.slice A n c] hp (fun r4 hp5=>∃ (t260:ByteArray) (t261:ByteArray),r4= .agg #[.string t260,.string t261]/\K2 (.agg #[.string t260,.string t261]) hp5)) h:=by
 have e:(qs.map C0).map (fun l=>bZ (bs l))=qs.map fun q=>bZ (bs (C0 q)):=by simp
 refine Kd P9 (ls:=qs.map C0) (by simpa using hn) o (by rw [e];exact hps) ?_
 intro b h' a sl
 rw [e] at sl
 exact ⟨_,_,_,rfl,Sp (gl.mono a) hn sl hp hq hm hl ⟨_,_,rfl,hK h' a⟩⟩
def I6(gl:Gl h)(ta:Tx m lo)(tb:Tx m hi)(hm:m<=1000000000)(hK1:∀ p q,lo=C0 p->hi=C0 q->p<=q->K (.bool true) h)(hK0:¬ Zi lo hi->K (.bool false) h):aH prog 7 #[ivT lo hi] h K:=by
 refine (fnk func7 (own:=[1])) ?_
 refine V7 gl ta.len (fun a=>⟨_,rfl,?_⟩) (fun a=>⟨_,rfl,hK0 fun ⟨p,q,e,_⟩=>a ⟨p,e⟩⟩)
 obtain ⟨p,rfl⟩:=a
 refine V7 gl tb.len (fun a=>⟨_,rfl,?_⟩) (fun a=>⟨_,rfl,hK0 fun ⟨p,q,_,e,_⟩=>a ⟨q,e⟩⟩)
 obtain ⟨q,rfl⟩:=a
 refine K8 gl ta tb o ⟨_,rfl,?_⟩
 rw [C2,C2]
 by_cases b:p<=q
 ·rw [decide_eq_true (Ht.2 b)];exact hK1 p q rfl rfl b
 ·rw [decide_eq_false (fun e=>b (Ht.1 e))]
  refine hK0 ?_
  rintro ⟨i,j,c,g,d⟩
  rw [E8 c,E8 g] at b;exact b d
def Ur(gl:Gl h)(ta:Tx m lo)(tb:Tx m hi)(tx:Tx m x)(hm:m<=1000000000)(hK1:∀ p q r,lo=C0 p->hi=C0 q->x=C0 r->p<=r->r<=q->K (.bool true) h)(hK0:¬ (∃ p q r,lo=C0 p/\hi=C0 q/\x=C0 r/\p<=r/\r<=q)->K (.bool false) h):aH prog 28 #[ivT lo hi,.string (bs x)] h K:=by
 refine (fnk func28 (own:=[2])) ?_
 refine I6 gl ta tb hm (fun p q a b n=>⟨_,rfl,?_⟩) (fun d=>⟨_,rfl,hK0 fun ⟨p,q,r,a,b,_,i,g⟩=>d ⟨p,q,a,b,cN i g⟩⟩)
 refine V7 gl tx.len (fun d=>⟨_,rfl,?_⟩) (fun d=>⟨_,rfl,hK0 fun ⟨p,q,r,_,_,e,_⟩=>d ⟨r,e⟩⟩)
 obtain ⟨r,s⟩:=d
 subst a b s
 refine K8 gl ta tx o ⟨_,rfl,?_⟩
 rw [C2,C2]
 refine B4 (fun e=>?_) (fun e=>hK0 ?_)
 ·refine K8 gl tx tb o ⟨_,rfl,?_⟩
  rw [C2,C2]
  by_cases c:r<=q
  ·rw [decide_eq_true (Ht.2 c)];exact hK1 p q r rfl rfl rfl (Ht.1 e) c
  ·rw [decide_eq_false (fun e=>c (Ht.1 e))]
   refine hK0 ?_
   rintro ⟨l,u,k,a,b,j,i,g⟩
   rw [E8 b,E8 j] at c;exact c g
 ·rintro ⟨l,u,k,a,b,j,i,g⟩
  rw [E8 a,E8 j] at e;exact e (Ht.2 i)
def A56:C0 (1/2)=[49,47,50]:=by
 have a:(1/2:Rat).num=1:=by decide +kernel
 have b:(1/2:Rat).den=2:=by decide +kernel
 simp [C0,Dn,a,b,P5,As,N9,dch]
def Su:Sz 2 (1/2):=⟨by unfold ZB;decide +kernel,by unfold ZB;decide +kernel⟩
def A97:C0 1=[49]:=by
 have a:(1:Rat).num=1:=rfl
 have b:(1:Rat).den=1:=rfl
 simp [C0,Dn,a,b,P5,As,N9,dch]
def B5p:Sz 1 1:=⟨by unfold ZB;decide +kernel,by unfold ZB;decide +kernel⟩
def A7p:C0 2=[50]:=by
 have a:(2:Rat).num=2:=rfl
 have b:(2:Rat).den=1:=rfl
 simp [C0,Dn,a,b,P5,As,N9,dch]
def A7q:Sz 2 2:=⟨by unfold ZB;decide +kernel,by unfold ZB;decide +kernel⟩
def A1b(gl:Gl h)(ta:Tx m lo)(tb:Tx m hi)(hm:m<=1000000)(hm1:1<=m)(hK1:∀ p q,lo=C0 p->hi=C0 q->p<=q->K (.string (bs (C0 ((p+q)*(1/2))))) h)(hK0:¬ Zi lo hi->K (.string (bs [48])) h):aH prog 65 #[ivT lo hi] h K:=by
 refine (fnk func65 (own:=[1])) ?_
 refine I6 gl ta tb o (fun p q d e c=>⟨_,rfl,?_⟩) (fun g=>⟨_,rfl,hK0 g⟩)
 refine Gt gl ta tb o ⟨_,rfl,?_⟩
 have a:rv [49,47,50]=1/2:=by rw [<- A56,C2]
 refine P1 (m:=m+m+1) (b:=[49,47,50]) gl (Tx.of (ta.sz.add tb.sz) o) ⟨by simp,by rw [a];exact Su.mono o⟩ o ⟨_,rfl,?_⟩
 have:=hK1 p q d e c
 rwa [a,C2,d,e,C2,C2]
def Vv(gl:Gl h)(hp:Sz m p)(hq:Sz m q)(hr:Sz m r)(hs:Sz m s)(hm:m<=9000000)(hK:K (ivS (p+r) (q+s)) h):aH prog 77 #[ivS p q,ivS r s] h K:=by
 refine (fnk func77 (os:=[(1,[0,1,2,3,5,6,7,8,4,9,10,11])]) (own:=[2,3,4])) ?_
 refine Gt gl (Tx.of hp o) (Tx.of hr o) o ⟨_,rfl,B0 _,?_⟩
 refine Gt gl (Tx.of hq o) (Tx.of hs o) o ⟨_,rfl,B0 _,?_⟩
 rw [C2,C2,C2,C2];exact hK
def Vu(gl:Gl h)(hp:Sz m p)(hq:Sz m q)(hr:Sz m r)(hs:Sz m s)(hm:m<=5000000)(hK:K (ivS (L7 p q r s) (L8 p q r s)) h):aH prog 76 #[ivS p q,ivS r s] h K:=by
 refine FCall.pure ((fnk func76 (os:=[(1,[0,1,2,3,5,6,7,8,10,11,12,13,15,16,17,18,4,9,14,19,20,21,22])]) (own:=[2,3,4])) ?_)
 refine P1 gl (Tx.of hp o) (Tx.of hr o) o ⟨_,rfl,B0 _,?_⟩
 refine P1 gl (Tx.of hp o) (Tx.of hs o) o ⟨_,rfl,B0 _,?_⟩
 refine P1 gl (Tx.of hq o) (Tx.of hr o) o ⟨_,rfl,B0 _,?_⟩
 refine P1 gl (Tx.of hq o) (Tx.of hs o) o ⟨_,rfl,B0 _,?_⟩
 rw [C2,C2,C2,C2]
 have e:=(hp.mul hr)
 have a:∀ t∈[p*s,q*r,q*s],Sz (m+m) t:=by
  intro t d
  simp only [eF,List.not_mem_nil,or_false] at d
  rcases d with rfl|rfl|rfl
  ·exact hp.mul hs
  ·exact hq.mul hr
  ·exact hq.mul hs
 refine Kd P9 (ls:=[C0 (p*s),C0 (q*r),C0 (q*s)]) rfl (by simp) rfl ?_
 intro b g c sl
 refine ⟨_,_,_,rfl,c,?_⟩
 refine Sp (qs:=[p*s,q*r,q*s]) (gl.mono c) rfl sl e a o (by simp) ⟨_,_,rfl,B0 _,c,hK⟩
def A8b{q:Rat}:q.num.sign<0↔q<0:=by rw [Int.sign_neg_iff,Rat.lt_iff];simp
def A8c{q:Rat}:0<q.num.sign↔0<q:=by rw [Int.sign_pos_iff,Rat.lt_iff];simp
def A6g{k:Nat}(gl:Gl h)(hp:Sz m p)(hq:Sz m q)(hm1:1<=m)(hk:k<=1000)(hm:m*k+1<=1000000)(hmm:m<=1000000)(hK:K (ivS (Ci p q k) (Cj p q k)) h):aH prog 74 #[ivS p q,I (k:Int)] h K:=by
 refine FCall.pure ((fnk func74 (own:=[2,4])) ?_)
 have y:({ data:=#[48] }:ByteArray)=bs (C0 0):=by rw [Rq];rfl
 refine Lc gl (Tx.of hp o) hm1 (by simpa using (show m*k+1<=40000000 from o)) o ?_ (fun _ g=>o) (fun g=>o)
 intro _ _ _
 refine ⟨_,_,rfl,?_⟩
 refine Lc gl (Tx.of hq o) hm1 (by simpa using (show m*k+1<=40000000 from o)) o ?_ (fun _ g=>o) (fun g=>o)
 intro _ _ _
 refine ⟨_,_,rfl,?_⟩
 rw [C2,C2,Int.natAbs_natCast]
 have u:=hp.pow hm1 k
 have x:=hq.pow hm1 k
 have a:¬ (0<k/\k%2=0/\p<0/\0<q)->wpH prog (bL 22 1 #[(0,.string (bs (C0 (q^k))))]) (fun v hp=>∃ (A:Option aQ) (n c:Nat),v= .slice A n c/\aH prog 161 #[.string (bs (C0 (p^k))),.slice A n c] hp (fun r4 s=>∃ (t260:ByteArray) (t261:ByteArray),r4= .agg #[.string t260,.string t261]/\h.le s/\K (.agg #[.string t260,.string t261]) h)) h:=by
  intro w
  refine A89 (K2:=fun r e=>h.le e/\K r h) (qs:=[q^k]) gl rfl rfl u (fun t b=>by simp at b;subst b;exact x) o (by simp) (fun e j=>⟨j,?_⟩)
  unfold Ci Cj at hK
  rw [iN w,iN w] at hK
  exact hK
 have b:Int.tmod (k:Int) 2=((k%2:Nat):Int):=by rw [Int.tmod_eq_emod_of_nonneg o];omega
 rw [b]
 refine B4 (fun z=>?_) (fun z=>a o)
 refine C8 (fun g=>?_) (fun g=>a o)
 refine Va gl (by have:=X6 hp;omega) ⟨_,rfl,?_⟩
 rw [C2]
 refine B4 (fun l=>?_) (fun l=>a (fun d=>l (A8b.2 d.2.2.1)))
 refine Va gl (by have:=X6 hq;omega) ⟨_,rfl,?_⟩
 rw [C2]
 refine B4 (fun i=>?_) (fun i=>a (fun d=>i (A8c.2 d.2.2.2)))
 have d:0<k/\k%2=0/\p<0/\0<q:=⟨o,o,A8b.1 l,A8c.1 i⟩
 rw [y]
 refine A89 (m:=m*k+1) (K2:=fun r e=>h.le e/\K r h) (qs:=[p^k,q^k]) gl rfl rfl (Sz.zero o) (fun t b=>by simp at b;rcases b with rfl|rfl;exact u;exact x) o (by simp) (fun e j=>⟨j,?_⟩)
 unfold Ci Cj at hK
 rw [iP d,iP d] at hK
 exact hK
abbrev ivE:bH:=.agg #[.string (bs []),.string (bs [])]
variable {lo2 hi2:List UInt8}
def A9z(gl:Gl h)(ta:Tx m lo)(tb:Tx m hi)(tc:Tx m lo2)(td:Tx m hi2)(hm:m<=1000000)(hK1:∀ p q r s,lo=C0 p->hi=C0 q->p<=q->lo2=C0 r->hi2=C0 s->r<=s->K (.tuple #[ivS (p+r) (q+s),I 0]) h)(hK0:¬ (Zi lo hi/\Zi lo2 hi2)->K (.tuple #[ivE,I 1]) h):aH prog 221 #[ivT lo hi,ivT lo2 hi2] h K:=by
 refine (fnk func221 (own:=[2,3,4])) ?_
 refine I6 gl ta tb o (fun p q d n b=>⟨_,rfl,?_⟩) (fun c=>⟨_,rfl,hK0 fun x=>c x.1⟩)
 refine I6 gl tc td o (fun r s e k a=>⟨_,rfl,?_⟩) (fun c=>⟨_,rfl,hK0 fun x=>c x.2⟩)
 have u:=hK1 p q r s d n b e k a
 subst d n e k
 have i:=ta.sz;have l:=tb.sz;have j:=tc.sz;have g:=td.sz
 rw [C2] at i l j g
 exact Vv gl i l j g o ⟨_,_,rfl,u⟩
def A9x(gl:Gl h)(ta:Tx m lo)(tb:Tx m hi)(tc:Tx m lo2)(td:Tx m hi2)(hm:m<=1000000)(hK1:∀ p q r s,lo=C0 p->hi=C0 q->p<=q->lo2=C0 r->hi2=C0 s->r<=s->K (.tuple #[ivS (L7 p q r s) (L8 p q r s),I 0]) h)(hK0:¬ (Zi lo hi/\Zi lo2 hi2)->K (.tuple #[ivE,I 1]) h):aH prog 222 #[ivT lo hi,ivT lo2 hi2] h K:=by
 refine (fnk func222 (own:=[2,3,4])) ?_
 refine I6 gl ta tb o (fun p q d n b=>⟨_,rfl,?_⟩) (fun c=>⟨_,rfl,hK0 fun x=>c x.1⟩)
 refine I6 gl tc td o (fun r s e k a=>⟨_,rfl,?_⟩) (fun c=>⟨_,rfl,hK0 fun x=>c x.2⟩)
 have u:=hK1 p q r s d n b e k a
 subst d n e k
 have i:=ta.sz;have l:=tb.sz;have j:=tc.sz;have g:=td.sz
 rw [C2] at i l j g
 exact Vu gl i l j g o ⟨_,_,rfl,u⟩
def Rz(x:Rat)(a b:Nat):x^(a+b)=x^a*x^b:=by
 induction b with
 | zero=>simp [aV]
 | succ b ih=>rw [Nat.add_succ,aU,ih,aU,cQ]
def L6(k:Nat):Sz (2*k+1) ((2:Rat)^k):=A7q.pow o k
def A2n(k:Nat):(0:Rat)<2^k:=by
 induction k with
 | zero=>rw [aV];decide
 | succ k ih=>rw [aU];exact dD ih dc
def A19:∀ (k:Nat) {K:VP},Gl h->k<=8192->K (.string (bs (C0 (2^k)))) h->aH prog 224 #[I (k:Int)] h K:=by
 intro k
 induction k using Nat.strongRecOn with
 | _ k ih=>
  intro K c l d
  refine (fnk func224) ?_
  have b:rv [50]=2:=by rw [<- A7p,C2]
  refine B4 (fun i=>?_) (fun i=>?_)
  ·refine Lc (m:=2) (a:=[50]) c ⟨by simp,by rw [b];exact A7q⟩ o o o ?_ ?_ ?_
   ·intro _ _ _
    rw [b,Int.natAbs_natCast]
    exact ⟨_,_,rfl,d⟩
   ·intro _ g;omega
   ·intro g;omega
  ·have e:B9 (dE (k:Int) 2)=((k/2:Nat):Int):=by
    rw [Int.tdiv_eq_ediv_of_nonneg o,B5 o o];omega
   have j:B9 ((k:Int)-((k/2:Nat):Int))=((k-k/2:Nat):Int):=by rw [B5 o o];omega
   rw [e,j]
   refine ih (k/2) o c o ⟨_,rfl,ih (k-k/2) o c o ⟨_,rfl,?_⟩⟩
   refine P1 (m:=2*k+1) c (Tx.of ((L6 _).mono o) o) (Tx.of ((L6 _).mono o) o) o ⟨_,rfl,?_⟩
   rw [C2,C2,<- Rz,show k/2+(k-k/2)=k from o]
   exact d
def Uz(z:Int):Dn z=C0 (z:Rat):=by simp [C0]
def A3n{bits:Int}(gl:Gl h)(ta:Tx m lo)(tb:Tx m hi)(hm1:1<=m)(hm:m<=400000)
 (hK1:∀ p q (k:Nat),lo=C0 p->hi=C0 q->p<=q->bits=k->k<=4096->K (.tuple #[ivS ((((p*2^k).floor:Int):Rat)/2^k) ((((q*2^k).ceil:Int):Rat)/2^k),I 0]) h)
 (hKr:Zi lo hi->(bits<0\/4096<bits)->K (.tuple #[ivE,I 3]) h) (hK0:¬ Zi lo hi->K (.tuple #[ivE,I 1]) h):aH prog 156 #[ivT lo hi,I bits] h K:=by
 refine (fnk func156 (own:=[2,4])) ?_
 refine I6 gl ta tb o (fun p q d g a=>⟨_,rfl,?_⟩) (fun w=>⟨_,rfl,hK0 w⟩)
 refine B4 (fun e=>hKr ⟨p,q,d,g,a⟩ (.inl e)) (fun y=>B4 (fun e=>hKr ⟨p,q,d,g,a⟩ (.inr e)) (fun x=>?_))
 obtain ⟨k,rfl⟩:∃ k:Nat,bits=k:=⟨bits.toNat,o⟩
 have s:=hK1 p q k d g a rfl o
 subst d g
 have i:=ta.sz;have j:=tb.sz
 rw [C2] at i j
 have b:=(L6 k).mono (show 2*k+1<=400000 from o)
 have c:(2:Rat)^k≠0:=fun e=>by have:=A2n k;rw [e] at this;exact absurd this dc
 refine A19 k gl o ⟨_,rfl,?_⟩
 refine P1 (m:=400000) gl (Tx.of (i.mono o) o) (Tx.of b o) o ⟨_,rfl,?_⟩
 rw [C2,C2]
 have l:=(i.mul b).mono (show m+400000<=800000 from o)
 have n:=(j.mul b).mono (show m+400000<=800000 from o)
 refine Rt (m:=800000) gl (Tx.of l o) o ⟨_,rfl,?_⟩
 rw [C2,Uz]
 have u:=Sz.int (Bm l) o
 have r:Sz 800000 (((q*2^k).ceil:Int):Rat):=by
  refine Sz.int ?_ o
  rw [Rat.ceil_eq_neg_floor_neg]
  exact (Bm n.neg).neg
 refine Lf (m:=800000) gl (Tx.of u o) (Tx.of (b.mono o) o) o o ?_ (fun e=>absurd e (by rw [C2];exact c))
 intro _
 rw [C2,C2]
 refine ⟨_,_,rfl,?_⟩
 refine P1 (m:=400000) gl (Tx.of (j.mono o) o) (Tx.of b o) o ⟨_,rfl,?_⟩
 rw [C2,C2]
 refine A5q (m:=800000) gl (Tx.of n o) o ⟨_,rfl,?_⟩
 rw [C2,Uz]
 refine Lf (m:=800000) gl (Tx.of r o) (Tx.of (b.mono o) o) o o ?_ (fun e=>absurd e (by rw [C2];exact c))
 intro _
 rw [C2,C2]
 exact ⟨_,_,rfl,s⟩
end
abbrev iv8(a b:QV):bH:=.agg #[.bool a.s,.slice a.A a.n a.c,.bool a.s2,.slice a.A2 a.n2 a.c2,.bool b.s,.slice b.A b.n b.c,.bool b.s2,.slice b.A2 b.n2 b.c2]
def Ls(w:QV):List bH:=[.bool w.s,.slice w.A w.n w.c,.bool w.s2,.slice w.A2 w.n2 w.c2]
structure QsAt (h:aI) (A:Option aQ) (ws:List QV) (ps:List Rat):Prop where
 len:ws.length=ps.length
 num:∀ (i:Nat) (h1:i<ws.length) (h2:i<ps.length),NQ h ws[i] ps[i]
 sl:SlV h A (ws.flatMap Ls)
def A8n(ws:List QV):(ws.flatMap Ls).length=ws.length*4:=by
 induction ws with
 | nil=>rfl
 | cons w ws ih=>rw [cP,bG,ih,bK];simp [Ls];omega
def B30(ws:List QV):∀ {i:Nat} (hi:i<ws.length) {j:Nat} (hj:j<4),(ws.flatMap Ls)[i*4+j]? = (Ls ws[i])[j]? :=by
 induction ws with
 | nil=>intro i hi;simp at hi
 | cons w ws ih=>
  intro i hi j hj
  rw [cP]
  cases i with
  | zero=>rw [bM (by simp [Ls];omega)];simp
  | succ i=>
   rw [dY (by simp [Ls];omega)]
   have:=ih (i:=i) (by simpa using hi) hj
   simp only [eP]
   rw [<- this]
   congr 1
   simp [Ls];omega
def QsAt.at{h:aI}{A:Option aQ}{ws:List QV}{ps:List Rat}(q:QsAt h A ws ps){i:Nat}(hi:i<ps.length):∃ a w,A=some a/\NQ h w ps[i]/\Heap.cell? h (aC (aC a (i*4)) 0)=some (.bool w.s)/\Heap.cell? h (aC (aC a (i*4)) 1)=some (.slice w.A w.n w.c)/\Heap.cell? h (aC (aC a (i*4)) 2)=some (.bool w.s2)/\Heap.cell? h (aC (aC a (i*4)) 3)=some (.slice w.A2 w.n2 w.c2):=by
 have d:i<ws.length:=by rw [q.len];exact hi
 have m:=A8n ws
 obtain ⟨a,e,_⟩:=q.sl.at (i:=0) o
 refine ⟨a,ws[i],e,q.num i d hi,?_⟩
 have cell:∀ j,j<4->∀ v,(Ls ws[i])[j]? = some v->Heap.cell? h (aC (aC a (i*4)) j)=some v:=by
  intro j k v g
  obtain ⟨p,b,l⟩:=q.sl.at (i:=i*4+j) o
  rw [e] at b
  cases b
  rw [T8,l]
  have:=B30 ws d k
  rw [aK o,g] at this
  exact this
 exact ⟨cell 0 o _ rfl,cell 1 o _ rfl,cell 2 o _ rfl,cell 3 o _ rfl⟩
section
variable {h:aI} {K:VP} {m:Nat} {lo hi x:List UInt8} {p q r s:Rat} {a b c d w:QV}
end
def ivB(lo hi:List UInt8):Bool:=decide (C0 (rv lo)=lo)&&(decide (C0 (rv hi)=hi)&&decide (rv lo<=rv hi))
def Rg{p q:Rat}(h:p<=q):ivB (C0 p) (C0 q)=true:=by simp [ivB,C2,h]
def A9u{lo hi:List UInt8}(h:ivB lo hi=true):Zi lo hi:=by
 simp only [ivB,Bool.and_eq_true,decide_eq_true_eq] at h
 exact ⟨rv lo,rv hi,h.1.symm,h.2.1.symm,h.2.2⟩
def A18{lo hi:List UInt8}(h:¬ Zi lo hi):ivB lo hi=false:=by
 cases e:ivB lo hi with
 | false=>rfl
 | true=>exact absurd (A9u e) h
abbrev R3:=List UInt8 × List UInt8 × Int
abbrev r3(x:R3):bH:=.tuple #[ivT x.1 x.2.1,I x.2.2]
section
variable {h:aI} {K:VP} {m:Nat} {lo hi x lo2 hi2:List UInt8}
def A7s{lo hi lo2 hi2:List UInt8}(h:¬ (Zi lo hi/\Zi lo2 hi2)):(ivB lo hi&&ivB lo2 hi2)=false:=by
 cases e:(ivB lo hi&&ivB lo2 hi2) with
 | false=>rfl
 | true=>
  rw [Bool.and_eq_true] at e
  exact absurd ⟨A9u e.1,A9u e.2⟩ h
def A4f{p q r s:Rat}(h:p<=q)(h2:r<=s):(ivB (C0 p) (C0 q)&&ivB (C0 r) (C0 s))=true:=by rw [Rg h,Rg h2];rfl
def B87(gl:Gl h)(ta:Tx m lo)(tb:Tx m hi)(hm:m<=1000000000)(hK:K (.bool (ivB lo hi)) h):aH prog 7 #[ivT lo hi] h K:=by
 refine I6 gl ta tb hm ?_ ?_
 ·rintro p q rfl rfl a;rw [Rg a] at hK;exact hK
 ·intro b;rw [A18 b] at hK;exact hK
def Aa(x:List UInt8 × List UInt8):List bH:=[.string (bs x.1),.string (bs x.2)]
def A6f(l:List (List UInt8 × List UInt8)):(l.flatMap Aa).length=l.length*2:=by
 induction l with
 | nil=>rfl
 | cons w l ih=>rw [cP,bG,ih,bK];simp [Aa];omega
def A9t(l:List (List UInt8 × List UInt8)):∀ {i:Nat} (hi:i<l.length) {j:Nat} (hj:j<2),(l.flatMap Aa)[i*2+j]? = (Aa l[i])[j]? :=by
 induction l with
 | nil=>intro i hi;simp at hi
 | cons w l ih=>
  intro i hi j hj
  rw [cP]
  cases i with
  | zero=>rw [bM (by simp [Aa];omega)];simp
  | succ i=>
   rw [dY (by simp [Aa];omega)]
   have:=ih (i:=i) (by simpa using hi) hj
   simp only [eP]
   rw [<- this]
   congr 1
   simp [Aa];omega
def A9s{l:List (List UInt8 × List UInt8)}{A:Option aQ}(sl:SlV h A (l.flatMap Aa)){i:Nat}(hi:i<l.length):∃ a,A=some a/\Heap.cell? h (aC (aC a (i*2)) 0)=some (.string (bs l[i].1))/\Heap.cell? h (aC (aC a (i*2)) 1)=some (.string (bs l[i].2)):=by
 have k:=A6f l
 obtain ⟨a,c,_⟩:=sl.at (i:=0) o
 refine ⟨a,c,?_⟩
 have cell:∀ j,j<2->∀ v,(Aa l[i])[j]? = some v->Heap.cell? h (aC (aC a (i*2)) j)=some v:=by
  intro j d v e
  obtain ⟨m,b,g⟩:=sl.at (i:=i*2+j) o
  rw [c] at b
  cases b
  rw [T8,g]
  have:=A9t l hi d
  rw [aK o,e] at this
  exact this
 exact ⟨cell 0 o _ rfl,cell 1 o _ rfl⟩
def B9r:C0 (-1)=[45,49]:=by
 have a:(-1:Rat).num= -1:=by decide +kernel
 have b:(-1:Rat).den=1:=by decide +kernel
 simp [C0,Dn,a,b,P5,As,N9,dch]
def B9z{q:Rat}(h:decide (q.num.natAbs<65536/\q.den<65536)=true):Sz 16 q:=by
 have:=of_decide_eq_true h
 exact ⟨by unfold ZB;exact this.1,by unfold ZB;simpa using this.2⟩
end
abbrev Ivl:=List UInt8 × List UInt8
def Wm{X Y:Prop}(y:Y):Br (!true) X Y:=y
def Wn{X Y:Prop}(x:X):Br (!false) X Y:=x
def A6h(z:Int)(l:List bH):iAt (I z::l) 0=z:=rfl
section
variable {h:aI} {K:VP} {A B:Option aQ} {ts:List K9} {vars:Int} {c:Nat}
def Gm{i:Nat}(h:i<=9223372036854775806):B9 ((i:Int)+1)=((i+1:Nat):Int):=by rw [B5]<;>omega
def A73(l:List Ivl):Prop:=∀ x∈l,Zi x.1 x.2
def Up{l:List Ivl}{n:Nat}(gl:Gl h)(x:SlV h A (l.flatMap Aa))(hn:n=l.length)(hl:l.length<=1000000)(ht:∀ x∈l,x.1.length<=800/\x.2.length<=800)(hK1:A73 l->K (.bool true) h)(hK0:¬ A73 l->K (.bool false) h):aH prog 72 #[.slice A n c] h K:=by
 subst hn
 refine (fnk func72 [(2,[7],[],[I 0])] (own:=[4])) ?_
 refine ⟨fun L r=>∃ i:Nat,i<=l.length/\L=[I (i:Int)]/\r=h/\∀ j (b:j<l.length),j<i->Zi l[j].1 l[j].2,fun L _=>l.length-(iAt L 0).toNat,⟨0,o,rfl,rfl,fun j _ b=>o⟩,?_⟩
 rintro z r ⟨i,O,N,rfl,s⟩
 obtain rfl:=sI1 N
 refine B4 (fun C=>?_) (fun u=>hK1 fun y G=>?_)
 ·have e:i<l.length:=o
  obtain ⟨a,E,c0,c1⟩:=A9s x e
  obtain ⟨D,w⟩:=ht _ (aZ e)
  refine ⟨a,E,o,o,_,_,c0,c1,?_⟩
  refine I6 (m:=3200) gl (Rj (k:=800) D o o) (Rj (k:=800) w o o) o (fun p q M F g=>⟨_,rfl,Wm ?_⟩) (fun d=>⟨_,rfl,Wn (hK0 fun x=>d (x _ (aZ e)))⟩)
  rw [Gm o]
  refine ⟨⟨i+1,o,rfl,rfl,fun j b H=>?_⟩,by simp only [A6h];omega⟩
  by_cases B:j=i
  ·subst B;exact ⟨p,q,M,F,g⟩
  ·exact s j b o
 ·obtain ⟨j,b,rfl⟩:=List.getElem_of_mem G
  exact s j b o
def A1c{i:Nat}(pa:PolyAt h A ts)(hts:ts.length<=1000000)(hi:∀ t,t<ts.length->i<(tm ts t).2.length)(hK:∀ most:Int,0<=most->(∀ t,t<ts.length->(tm ts t).2.getD i 0<=most)->(∀ B:Int,0<=B->(∀ t,t<ts.length->(tm ts t).2.getD i 0<=B)->most<=B)->K (I most) h):aH prog 73 #[.agg #[I vars,.slice A ts.length c],I (i:Int)] h K:=by
 refine (fnk func73 [(3,[5,11],[],[I 0,I 0])] (own:=[2,7])) ?_
 refine ⟨fun L p=>∃ (k:Nat) (most:Int),k<=ts.length/\L=[I most,I (k:Int)]/\p=h/\0<=most/\(∀ t,t<k->(tm ts t).2.getD i 0<=most)/\(∀ B:Int,0<=B->(∀ t,t<k->(tm ts t).2.getD i 0<=B)->most<=B),fun L _=>ts.length-(iAt L 1).toNat,⟨0,0,o,rfl,rfl,o,fun t g=>o,fun B j _=>j⟩,?_⟩
 rintro m z p ⟨k,most,M,n,rfl,u,q,j⟩
 simp only [aO,aR,true_and,and_true] at n
 obtain ⟨rfl,rfl⟩:=n
 refine B4 (fun s=>?_) (fun r=>hK m u (fun t g=>q t o) fun B l e=>j B l fun t g=>e t o)
 have b:k<ts.length:=o
 obtain ⟨a,D,d,F,y,G,H⟩:=pa k b
 have E:=hi k b
 refine ⟨a,F,o,o,_,_,_,_,y,G,?_⟩
 refine H.load rfl o o ?_
 rw [aJ,Gm o]
 generalize hx:(tm ts k).2.getD i 0=x at *
 refine ⟨⟨k+1,if x>m then x else m,o,rfl,rfl,by split<;>omega,fun t g=>?_,fun B l e=>?_⟩,?_⟩
 ·by_cases C:t=k
  ·subst C;rw [hx];split<;>omega
  ·have:=q t o;split<;>omega
 ·have N:=j B l fun t g=>e t o
  have w:=e k o
  rw [hx] at w
  split<;>omega
 ·show ts.length-((k+1:Nat):Int).toNat<ts.length-(k:Int).toNat
  omega
end
structure I2 where
 a:QV
 b:QV
instance:Enc I2:=⟨⟨fun x=>[.bool x.a.s,.slice x.a.A x.a.n x.a.c,.bool x.a.s2,.slice x.a.A2 x.a.n2 x.a.c2,.bool x.b.s,.slice x.b.A x.b.n x.b.c,.bool x.b.s2,.slice x.b.A2 x.b.n2 x.b.c2],8,fun _=>rfl,fun x v hv=>by simp at hv;rcases hv with rfl|rfl|rfl|rfl|rfl|rfl|rfl|rfl<;>rfl⟩⟩
structure RT where
 w:QV
 B:Option aQ
 n:Nat
 c:Nat
instance:Enc RT:=⟨⟨fun x=>[.bool x.w.s,.slice x.w.A x.w.n x.w.c,.bool x.w.s2,.slice x.w.A2 x.w.n2 x.w.c2,.slice x.B x.n x.c],5,fun _=>rfl,fun x v hv=>by simp at hv;rcases hv with rfl|rfl|rfl|rfl|rfl<;>rfl⟩⟩
abbrev I2r:aI->I2->Rat × Rat->Prop:=fun h w x=>NQ h w.a x.1/\NQ h w.b x.2
abbrev RTr:aI->RT->K9->Prop:=fun h w t=>NQ h w.w (rv t.1)/\w.n=t.2.length/\SlI .i64 h w.B t.2
def bxQ(l:List Ivl)(i:Nat):Rat × Rat:=(rv (l.getD i ([],[])).1,rv (l.getD i ([],[])).2)
section
variable {h:aI} {K:VP} {A B:Option aQ} {ts:List K9} {vars:Int} {c:Nat}
end
section
variable {h:aI} {lo hi x:List UInt8}
end
def Br.t{b:Bool}{A B:Prop}(hb:b=true)(x:A):Br b A B:=by subst hb;exact x
def Br.f{b:Bool}{A B:Prop}(hb:b=false)(x:B):Br b A B:=by subst hb;exact x
def C4s{m:Nat}{p q r s:Rat}(hp:Sz m p)(hq:Sz m q)(hr:Sz m r)(hs:Sz m s):Sz (m+m) (L7 p q r s)/\Sz (m+m) (L8 p q r s):=by
 have a:∀ t∈[p*s,q*r,q*s],Sz (m+m) t:=by
  intro t b
  simp only [eF,List.not_mem_nil,or_false] at b
  rcases b with rfl|rfl|rfl
  ·exact hp.mul hs
  ·exact hq.mul hr
  ·exact hq.mul hs
 exact ⟨(hp.mul hr).mnL a,(hp.mul hr).mxL a⟩
section
variable {h:aI} {K:VP} {m:Nat} {lo hi x lo2 hi2:List UInt8}
end
def tmE(es:List Int)(f:Nat->Rat × Rat)(c:Rat):Nat->Rat × Rat
 | 0=>(c,c)
 | k+1=>(L7 (tmE es f c k).1 (tmE es f c k).2 (Ci (f k).1 (f k).2 (es.getD k 0).toNat) (Cj (f k).1 (f k).2 (es.getD k 0).toNat),L8 (tmE es f c k).1 (tmE es f c k).2 (Ci (f k).1 (f k).2 (es.getD k 0).toNat) (Cj (f k).1 (f k).2 (es.getD k 0).toNat))
def evE(ts:List K9)(f:Nat->Rat × Rat)(n:Nat):Nat->Rat × Rat
 | 0=>(0,0)
 | i+1=>((evE ts f n i).1+(tmE (tm ts i).2 f (rv (tm ts i).1) n).1,(evE ts f n i).2+(tmE (tm ts i).2 f (rv (tm ts i).1) n).2)
def B5r{a b c d:Rat}:L7 a b c d<=L8 a b c d:=cN (A9i [a*d,b*c,b*d] (a*c)).1 (A9n [a*d,b*c,b*d] (a*c)).1
def A7x(es:List Int)(f:Nat->Rat × Rat)(c:Rat):∀ k,(tmE es f c k).1<=(tmE es f c k).2
 | 0=>dK
 | _+1=>B5r
def A4z{a b:Rat}(h:a<=b):L7 a b 1 1=a/\L8 a b 1 1=b:=by
 unfold L7 L8
 simp only [dJ,Yd,Ya,B82,B7y]
 constructor
 ·unfold mn;grind
 ·unfold mx;grind
def A0q(a b:Rat):Ci a b 0=1/\Cj a b 0=1:=by
 unfold Ci Cj
 rw [iN o,iN o,aV,aV]
 exact ⟨by unfold mn;split<;>rfl,by unfold mx;split<;>rfl⟩
def B2d{es:List Int}{f:Nat->Rat × Rat}{c:Rat}{k:Nat}(h:(es.getD k 0).toNat=0):tmE es f c (k+1)=tmE es f c k:=by
 show (L7 _ _ _ _,L8 _ _ _ _)=_
 rw [h,(A0q _ _).1,(A0q _ _).2,(A4z (A7x es f c k)).1,(A4z (A7x es f c k)).2]
def C4n{m k:Nat}{a b:Rat}(hm:1<=m)(ha:Sz m a)(hb:Sz m b):Sz (m*k+1) (Ci a b k)/\Sz (m*k+1) (Cj a b k):=by
 have g:=ha.pow hm k
 have i:=hb.pow hm k
 have d:Sz (m*k+1) 0:=Sz.zero o
 unfold Ci Cj
 constructor
 ·split
  ·exact Sz.mnL d fun q c=>by simp at c;rcases c with rfl|rfl<;>assumption
  ·rcases A6c (a^k) (b^k) with e|e<;>rw [e]<;>assumption
 ·split
  ·exact Sz.mxL d fun q c=>by simp at c;rcases c with rfl|rfl<;>assumption
  ·rcases A6a (a^k) (b^k) with e|e<;>rw [e]<;>assumption
structure SmE (ts:List K9) (f:Nat->Rat × Rat) (n:Nat):Prop where
 len:ts.length<=5
 n6:n<=6
 coef:∀ i,i<ts.length->Sz 32 (rv (tm ts i).1)
 elen:∀ i,i<ts.length->(tm ts i).2.length=n
 exps:∀ i,i<ts.length->∀ k,k<n->0<=(tm ts i).2.getD k 0/\(tm ts i).2.getD k 0<=6
 box:∀ k,k<n->Sz 3200 (f k).1/\Sz 3200 (f k).2
def SmE.pow{ts:List K9}{f:Nat->Rat × Rat}{n:Nat}(s:SmE ts f n){e k:Nat}(hk:k<n)(he:e<=6):Sz 19240 (Ci (f k).1 (f k).2 e)/\Sz 19240 (Cj (f k).1 (f k).2 e):=by
 obtain ⟨d,a⟩:=s.box k hk
 obtain ⟨b,c⟩:=C4n (k:=e) o d a
 exact ⟨b.mono o,c.mono o⟩
def SmE.tm{ts:List K9}{f:Nat->Rat × Rat}{n:Nat}(s:SmE ts f n){i:Nat}(hi:i<ts.length):∀ k,k<=n->Sz (19240*2^k) (tmE (Go.Proofs.YtbgkfnjmcjfokaaGreatDoor.tm ts i).2 f (rv (Go.Proofs.YtbgkfnjmcjfokaaGreatDoor.tm ts i).1) k).1/\Sz (19240*2^k) (tmE (Go.Proofs.YtbgkfnjmcjfokaaGreatDoor.tm ts i).2 f (rv (Go.Proofs.YtbgkfnjmcjfokaaGreatDoor.tm ts i).1) k).2:=by
 intro k
 induction k with
 | zero=>exact fun _=>⟨(s.coef i hi).mono o,(s.coef i hi).mono o⟩
 | succ k ih=>
  intro j
  obtain ⟨g,c⟩:=ih o
  have a:19240<=19240*2^k:=bY 19240 (Nat.pow_pos dc)
  have l:=s.exps i hi k o
  obtain ⟨b,d⟩:=s.pow (e:=((Go.Proofs.YtbgkfnjmcjfokaaGreatDoor.tm ts i).2.getD k 0).toNat) (k:=k) o o
  have e:19240*2^(k+1)=19240*2^k+19240*2^k:=by rw [Nat.pow_succ];omega
  rw [e]
  exact C4s g c (b.mono a) (d.mono a)
def A3c{k:Nat}(h:k<=6):19240*2^k<=1231360:=Nat.le_trans (cL 19240 (Nat.pow_le_pow_right dc h)) dc
def SmE.ev{ts:List K9}{f:Nat->Rat × Rat}{n:Nat}(s:SmE ts f n):∀ i,i<=ts.length->Sz (1+i*1231361) (evE ts f n i).1/\Sz (1+i*1231361) (evE ts f n i).2:=by
 intro i
 induction i with
 | zero=>exact fun _=>⟨Sz.zero o,Sz.zero o⟩
 | succ i ih=>
  intro g
  obtain ⟨d,c⟩:=ih o
  obtain ⟨b,a⟩:=s.tm (i:=i) o n (aP n)
  have e:=A3c s.n6
  exact ⟨(d.add b).mono o,(c.add a).mono o⟩
section
variable {h:aI} {K:VP} {A B:Option aQ} {ts:List K9} {c bc n:Nat} {f:Nat->Rat × Rat}
end
structure HdI where
 A:Option aQ
 n:Nat
 c:Nat
instance:Enc HdI:=⟨⟨fun s=>[.slice s.A s.n s.c],1,fun _=>rfl,fun s v hv=>by rw [List.mem_singleton.1 hv];rfl⟩⟩
instance:Enc Ivl:=⟨⟨fun x=>[.string (bs x.1),.string (bs x.2)],2,fun _=>rfl,fun x v hv=>by simp at hv;rcases hv with rfl|rfl<;>rfl⟩⟩
abbrev IVr:aI->Ivl->Rat × Rat->Prop:=fun _ w x=>w=(C0 x.1,C0 x.2)
def B81:Mon IVr:=fun _ _ _ _ _ i=>i
def Sep.giveR{α β:Type}[E:Enc α]{R:aI->α->β->Prop}(m:Mon R){h g o:aI}{ys:List α}{bb n:Nat}{f:Nat->β}(s:Sep h g o)(rb:RowB o bb ys)(hy:ys.length=n)(rr:Row R g ys n f):∃ g2,g.le g2/\Sep h g2 (o.without bb)/\cZ R g2 (some ⟨bb,0,none⟩) n f:=by
 have a:(o.without bb).le o:=fun k x e=>by
  by_cases b:k=bb
  ·subst b
   have:Heap.without o k k=none:=N3 _ _
   rw [this] at e;cases e
  ·unfold Heap.without at e;rw [iN b] at e;exact e
 obtain ⟨g2,d,c⟩:=s.give a
 obtain ⟨e,ex,j⟩:=rb
 have i:g2 bb=some (.cells (ys.flatMap enc++ex).toArray e):=by
  rw [<- c.rest bb (N3 _ _)]
  exact s.own _ _ j
 exact ⟨g2,d,c,ys,RowB.slF (o:=g2) ⟨e,ex,i⟩ (B0 _),hy,rr.mono m d⟩
def pwF(f:Nat->Rat × Rat)(i:Nat):Nat->Rat × Rat:=fun e=>(Ci (f i).1 (f i).2 e,Cj (f i).1 (f i).2 e)
def PwRow(ts:List K9)(f:Nat->Rat × Rat)(g:aI)(hds:List HdI)(i:Nat):Prop:=∃ s,hds[i]? = some s/\(∀ t,t<ts.length->(tm ts t).2.getD i 0<s.n)/\cZ IVr g s.A s.n (pwF f i)
def PwRow.mono{ts:List K9}{f:Nat->Rat × Rat}{g g':aI}{hds:List HdI}{i:Nat}(l:g.le g')(p:PwRow ts f g hds i):PwRow ts f g' hds i:=by
 obtain ⟨s,e,a,b⟩:=p
 exact ⟨s,e,a,b.mono B81 l⟩
def B8x{l:List Ivl}(ok:A73 l){i:Nat}(hi:i<l.length):l[i].1=C0 (bxQ l i).1/\l[i].2=C0 (bxQ l i).2:=by
 obtain ⟨p,q,b,a,_⟩:=ok _ (aZ hi)
 unfold bxQ
 rw [aL,aK hi]
 show l[i].1=C0 (rv l[i].1)/\l[i].2=C0 (rv l[i].2)
 rw [b,a,C2,C2]
 exact ⟨rfl,rfl⟩
section
variable {h:aI} {K:VP} {A B:Option aQ} {ts:List K9} {vars:Int} {c bc:Nat} {l:List Ivl}
def Qa{x:List UInt8}(hK:K (ivT x x) h):aH prog 75 #[.string (bs x)] h K:=by
 refine (fnk func75 (own:=[2])) ?_
 exact hK
def Uq(gl:Gl h)(pa:PolyAt h A ts)(x:SlV h B (l.flatMap Aa))(hts:ts.length<=5)(hcl:∀ i,i<ts.length->(tm ts i).1.length<=8)(hex:∀ i,i<ts.length->∀ j,j<(tm ts i).2.length->(tm ts i).2.getD j 0<=6)(hl:l.length<=8)(ht:∀ x∈l,x.1.length<=800/\x.2.length<=800)
 (hK1:¬ (Bc vars ts/\A73 l)->K (.tuple #[ivE,I 1]) h) (hK4:Bc vars ts->A73 l->(l.length:Int)≠vars->K (.tuple #[ivE,I 4]) h)
 (hK0:Bc vars ts->A73 l->(l.length:Int)=vars->SmE ts (bxQ l) l.length->∀ h',h.le h'->K (.tuple #[ivS (evE ts (bxQ l) l.length ts.length).1 (evE ts (bxQ l) l.length ts.length).2,I 0]) h'):aH prog 27 #[.agg #[I vars,.slice A ts.length c],.slice B l.length bc] h K:=by
 refine (fnk func27 [(7,[36],[],[I 0]),(11,[54],[],[I 0]),(18,[72],[(10,2)],[I 0,.string ⟨#[]⟩,.string ⟨#[]⟩]),(22,[82],[(13,2)],[I 0,.string ⟨#[]⟩,.string ⟨#[]⟩])] (own:=[2,4,8,10,12,13])) ?_
 refine Hb gl.tz pa oo (fun i r=>by have:=hcl i r;omega) (fun po=>⟨_,rfl,Wm ?_⟩) (fun no=>⟨_,rfl,Wn (hK1 fun y=>no y.1)⟩)
 refine Up gl x rfl oo ht (fun bo=>⟨_,rfl,Wm ?_⟩) (fun no=>⟨_,rfl,Wn (hK1 fun y=>no y.2)⟩)
 refine D6 (fun e=>hK4 po bo e) (fun en=>?_)
 obtain ⟨wf,_⟩:=id po
 have bk:=wf.hi
 have b:∀ i,i<ts.length->(tm ts i).2.length=l.length:=fun i r=>by have:=(wf.all i r).1.len;omega
 have sm:SmE ts (bxQ l) l.length:=⟨hts,oo,fun i r=>Xf (k:=8) (hcl i r) oo,b,fun i r k hk=>⟨((wf.all i r).1.exps _ (Is (by rw [b i r];exact hk))).1,hex i r k (by rw [b i r];exact hk)⟩,fun k hk=>by
  obtain ⟨V,W⟩:=ht _ (aZ hk)
  unfold bxQ
  rw [aL,aK hk]
  exact ⟨Xf (k:=800) V oo,Xf (k:=800) W oo⟩⟩
 have O:=hK0 po bo en sm
 clear hK0 hK1 hK4
 obtain ⟨f,hf⟩:∃ f,f=bxQ l:=⟨_,rfl⟩
 obtain ⟨n,hn⟩:∃ n,n=l.length:=⟨_,rfl⟩
 have bt:=fun {i:Nat} (r:i<l.length)=>B8x bo r
 rw [<- hf,<- hn] at sm O
 rw [<- hf] at bt
 rw [<- hn]
 have bd:=sm.n6
 refine D8 C3m (zx:=(⟨none,0,0⟩:HdI)) rfl oo oo oo oo ?_
 intro bp bf
 simp only [aJ]
 have s0:=(Sep.refl h).new bf (.cells ((aF n (⟨none,0,0⟩:HdI)).flatMap enc).toArray 39)
 refine ⟨_,_,_,rfl,fun L X=>∃ (k:Nat) (g o:aI) (p:List HdI),k<=n/\L=[I (k:Int)]/\h.le g/\Sep X g o/\eJ o bp p/\p.length=n/\∀ i,i<k->PwRow ts f g p i,fun L _=>n-(iAt L 0).toNat,⟨0,h,_,_,oo,rfl,B0 _,s0,RowX.mk,cI,fun i r=>oo⟩,?_⟩
 clear s0
 rintro z ab ⟨k,g,o,p,hk,eL,lg,s,rx,a0,w⟩
 obtain rfl:=sI1 eL
 refine B4 (fun a2=>?_) (fun bg=>?_)
 ·have az:k<n:=oo
  have M:k<l.length:=oo
  have E:=A0 lg s.le
  obtain ⟨a,ea,c0,c1⟩:=A9s x M
  refine ⟨a,ea,oo,oo,_,_,B7 E c0,B7 E c1,?_⟩
  refine s.call (A1c (pa.mono lg) oo (fun t C=>by rw [b t C];exact M) (fun F h0 bh a5 h4 s4=>⟨_,rfl,?_⟩))
  have bn:F<=6:=a5 6 oo fun t C=>hex t C k (by rw [b t C];exact M)
  obtain ⟨e,he⟩:∃ e:Nat,F=(e:Int):=⟨F.toNat,oo⟩
  subst he
  rw [Gm oo]
  refine D8 A79 (zx:=(([],[]):Ivl)) rfl oo oo oo oo ?_
  intro G T
  simp only [aJ]
  have fr:bp≠G:=by
   rintro rfl
   obtain ⟨e1,bi⟩:=rx
   rw [s4.own _ _ bi] at T;cases T
  have s5:=s4.new T (.cells ((aF (e+1) (([],[]):Ivl)).flatMap enc).toArray 24)
  refine ⟨_,_,_,rfl,_,rfl,oo,oo,?_⟩
  refine E7 A83 (y:=(⟨some ⟨G,0,none⟩,e+1,e+1⟩:HdI)) rfl s5 (rx.other fr _) (i:=k) oo ?_
  intro h6 o6 x6 ap s6 S
  have ad:eJ o6 G (aF (e+1) (([],[]):Ivl)):=by
   rw [ap]
   exact RowX.mk.other fr.symm _
  have aj:(p.set k (⟨some ⟨G,0,none⟩,e+1,e+1⟩:HdI))[k]? = some ⟨some ⟨G,0,none⟩,e+1,e+1⟩:=List.getElem?_set_self oo
  have ac:∀ {hq gq oq:aI},Sep hq gq oq->eJ oq bp (p.set k (⟨some ⟨G,0,none⟩,e+1,e+1⟩:HdI))->hq.cell? (aC ⟨bp,0,none⟩ (((k:Int)).toNat*1))=some (.slice (some ⟨G,0,none⟩) (e+1) (e+1)):=fun sq rq=>by
   have h1:=RowB.cell rq.rowB (i:=k) (by rw [dT];omega) (j:=0) (v:=.slice (some ⟨G,0,none⟩) (e+1) (e+1)) (by rw [List.getElem_set_self];rfl)
   rw [D4]
   have h2:=sq.cell h1
   rw [aJ,aX]
   exact h2
  refine ⟨_,rfl,oo,oo,_,_,_,ac s6 S,?_⟩
  refine ⟨fun L X=>∃ (j:Nat) (g' o':aI) (ys:List Ivl),j<=e+1/\L=[I (j:Int)]/\g.le g'/\Sep X g' o'/\eJ o' bp (p.set k (⟨some ⟨G,0,none⟩,e+1,e+1⟩:HdI))/\eJ o' G ys/\ys.length=e+1/\Row IVr g' ys j (pwF f k),fun L _=>e+1-(iAt L 0).toNat,⟨0,g,o6,_,oo,rfl,B0 _,s6,S,ad,cI,Row.nil⟩,?_⟩
  clear ad S s6 s5 ap
  rintro z2 bl ⟨j,g7,o7,ys,hj,H,l7,s7,aa,an,ar,ax⟩
  obtain rfl:=sI1 H
  refine B4 (fun av=>?_) (fun au=>?_)
  ·have bq:j<e+1:=oo
   obtain ⟨V,W⟩:=bt M
   obtain ⟨b1,a3⟩:=sm.box k az
   refine ⟨_,rfl,oo,oo,_,_,_,ac s7 aa,?_⟩
   rw [V,W]
   refine s7.call (A6g (k:=j) (m:=3200) (gl.mono (A0 lg l7)) b1 a3 oo oo oo oo ?_)
   intro h8 s8
   refine ⟨_,_,rfl,s7.le_le s8 (B0 _),_,rfl,oo,oo,?_⟩
   refine E7 Rc (y:=((C0 (Ci (f k).1 (f k).2 j),C0 (Cj (f k).1 (f k).2 j)):Ivl)) rfl s8 an (i:=j) oo ?_
   intro h9 o9 x9 a6 s9 bb
   rw [Gm oo]
   refine ⟨⟨j+1,g7,o9,_,oo,rfl,l7,s9,?_,bb,by rw [dT];exact ar,ax.set oo rfl⟩,by simp only [A6h];omega⟩
   rw [a6];exact aa.other fr _
  ·obtain rfl:j=e+1:=oo
   obtain ⟨g8,l8,s8,a9⟩:=s7.giveR B81 an.rowB ar ax
   rw [Gm oo]
   refine ⟨⟨k+1,g8,_,_,oo,rfl,A0 lg (A0 l7 l8),s8,aa.keep (fun x e=>by unfold Heap.without;rw [iN fr];exact e),by rw [dT];exact a0,fun i r=>?_⟩,by simp only [A6h];omega⟩
   by_cases ei:i=k
   ·subst ei
    exact ⟨_,aj,fun t C=>by have:=bh t C;show _<((e+1:Nat):Int);omega,a9⟩
   ·obtain ⟨s9,e9,h9,r9⟩:=w i oo
    exact ⟨s9,by rw [List.getElem?_set_ne (fun x=>ei x.symm)];exact e9,h9,r9.mono B81 (A0 l7 l8)⟩
 obtain rfl:k=n:=oo
 have E:=A0 lg s.le
 have aq:=gl.mono E
 have ay:=pa.mono E
 have af:=rx.rowB.slF s.ole
 have pw:∀ i,i<k->PwRow ts f ab p i:=fun i r=>(w i r).mono s.le
 clear w rx s lg
 show aH _ _ #[.string (bs [48])] _ _
 refine Qa ?_
 have e0:([48]:List UInt8)=C0 0:=Rq.symm
 refine ⟨_,_,rfl,fun L X=>∃ i:Nat,i<=ts.length/\L=[I (i:Int),.string (bs (C0 (evE ts f k i).1)),.string (bs (C0 (evE ts f k i).2))]/\X=ab,fun L _=>ts.length-(iAt L 0).toNat,⟨0,oo,by rw [e0];rfl,rfl⟩,?_⟩
 rintro z u0 u1 Q ⟨i,r,eL,rfl⟩
 simp only [aO,aR,bF,true_and,and_true] at eL
 obtain ⟨rfl,rfl,rfl⟩:=eL
 refine B4 (fun a2=>?_) (fun bg=>?_)
 ·have u:i<ts.length:=oo
  obtain ⟨a,D,d,e1,e2,e3,e4⟩:=ay i u
  refine ⟨a,e1,oo,oo,_,_,_,_,e2,e3,Qa ?_⟩
  obtain ⟨q,eq,_⟩:=(wf.all i u).1.num
  have ec:(tm ts i).1=C0 (rv (tm ts i).1):=by rw [eq,C2]
  refine ⟨_,_,rfl,fun L X=>∃ j:Nat,j<=k/\L=[I (j:Int),.string (bs (C0 (tmE (tm ts i).2 f (rv (tm ts i).1) j).1)),.string (bs (C0 (tmE (tm ts i).2 f (rv (tm ts i).1) j).2))]/\X=Q,fun L _=>k-(iAt L 0).toNat,⟨0,oo,by rw [show tmE (tm ts i).2 f (rv (tm ts i).1) 0=(rv (tm ts i).1,rv (tm ts i).1) from rfl,<- ec];rfl,rfl⟩,?_⟩
  rintro z2 p0 p1 bj ⟨j,hj,H,rfl⟩
  simp only [aO,aR,bF,true_and,and_true] at H
  obtain ⟨rfl,rfl,rfl⟩:=H
  have bm:=b i u
  refine B4 (fun av=>?_) (fun au=>?_)
  ·have R:j<k:=oo
   refine e4.load rfl oo oo ?_
   rw [aJ]
   have hx:=sm.exps i u j R
   refine B4 (fun ah=>?_) (fun ah=>?_)
   ·obtain ⟨e,he⟩:∃ e:Nat,(tm ts i).2.getD j 0=(e:Int):=⟨((tm ts i).2.getD j 0).toNat,oo⟩
    obtain ⟨sd,ai,ao,a4⟩:=pw j R
    have ag:=ao i u
    obtain ⟨a7,a1,ae⟩:=SlF.at dc af (i:=j) oo
    have am:p[j]'oo=sd:=by rw [aK oo] at ai;exact cW ai
    rw [am] at ae
    have N:=ae 0 _ rfl
    rw [A21] at N
    rw [he] at ag ⊢
    obtain ⟨a8,w8,be,al,ak⟩:=RowV.at dc a4 (i:=e) oo
    change w8=_ at al
    subst al
    refine ⟨a7,a1,oo,oo,_,_,_,N,a8,be,oo,oo,_,_,ak 0 _ rfl,ak 1 _ rfl,?_⟩
    obtain ⟨V,W⟩:=sm.tm u j oo
    obtain ⟨p1,p2⟩:=sm.pow (e:=e) R oo
    have w:19240<=19240*2^j:=bY 19240 (Nat.pow_pos dc)
    have ba:=A3c (show j<=6 from oo)
    refine Vu (m:=19240*2^j) aq V W (p1.mono w) (p2.mono w) oo ?_
    rw [Gm oo]
    refine ⟨_,_,rfl,B0 _,⟨j+1,oo,?_,rfl⟩,by simp only [A6h];omega⟩
    show _=[I _,.string (bs (C0 (L7 _ _ (Ci _ _ ((tm ts i).2.getD j 0).toNat) (Cj _ _ ((tm ts i).2.getD j 0).toNat)))),.string (bs (C0 (L8 _ _ (Ci _ _ ((tm ts i).2.getD j 0).toNat) (Cj _ _ ((tm ts i).2.getD j 0).toNat))))]
    rw [he]
    rfl
   ·rw [Gm oo]
    exact ⟨⟨j+1,oo,by rw [B2d (show ((tm ts i).2.getD j 0).toNat=0 from oo)],rfl⟩,by simp only [A6h];omega⟩
  ·obtain rfl:j=k:=oo
   obtain ⟨V,W⟩:=sm.tm u j (aP j)
   obtain ⟨s1,s2⟩:=sm.ev i oo
   have ba:=A3c bd
   refine Vv (m:=8000000) aq (s1.mono oo) (s2.mono oo) (V.mono oo) (W.mono oo) oo ?_
   rw [Gm oo]
   exact ⟨_,_,rfl,⟨i+1,oo,rfl,rfl⟩,by simp only [A6h];omega⟩
 ·obtain rfl:i=ts.length:=oo
  exact O Q E
end
section
variable {h:aI} {K:VP} {A B:Option aQ} {bc:Nat} {l:List Ivl} {x:List UInt8}
def St(y:SlV h B (l.flatMap Aa))(hne:l≠[])(hl:l.length<=1000)(hK:∀ A' c' h' g',h.le g'->PrivF h' g' 24 A' c' l->K (.slice A' l.length c') h'):aH prog 40 #[.slice B l.length bc] h K:=by
 refine (fnk func40) ?_
 obtain ⟨a,rfl,_⟩:=A9s y (i:=0) (List.length_pos_iff.2 hne)
 refine Br.of (fun e=>by cases e) (fun _=>Yg A79 ?_)
 intro b g
 have c:=Heap.le_put (h:=h) (.cells #[] 24) g
 refine ⟨_,_,_,rfl,Af (α:=Ivl) A79 (PrivF.nil _ 24 (some ⟨b,0,none⟩)) (ys:=l) rfl (y.mono c) (by simp;omega) (by simp;omega) ?_⟩
 intro A' c' h' g' d p
 rw [cK] at p ⊢
 exact ⟨_,_,_,rfl,hK A' c' h' g' (A0 c d) p⟩
end
def Jq:B9 ((0:Int)+1)=1:=by rw [B5 o o];rfl
def Fl{h:aI}{A:Option aQ}{v:bH}(s:SlV h A [v]):∃ a,A=some a/\h.cell? (aC a (0*1))=some v:=by
 obtain ⟨a,e,b⟩:=SlV.at s (i:=0) (by simp)
 exact ⟨a,e,b⟩
def U2{h:aI}{A:Option aQ}{u v:bH}(s:SlV h A [u,v]):∃ a,A=some a/\h.cell? (aC (aC a (0*2)) 0)=some u/\h.cell? (aC (aC a (0*2)) 1)=some v:=by
 obtain ⟨a,e,d⟩:=SlV.at s (i:=0) (by simp)
 obtain ⟨g,c,b⟩:=SlV.at s (i:=1) (by simp)
 rw [e] at c
 obtain rfl:=cW c
 exact ⟨a,e,by rw [T8];exact d,by rw [T8];exact b⟩
structure Rw1 (h h':aI) (bo:Nat) (p q:List UInt8):Prop where
 ex:∃ (g o:aI) (A:Option aQ) (c:Nat),h.le g/\Sep h' g o/\eJ o bo [(⟨A,1,c⟩:HV)]/\dB o 221 A c [((p,q):Ivl)]/\A≠some ⟨bo,0,none⟩
def Rv1(h:aI)(A:Option aQ)(p q:List UInt8):Prop:=∃ B c,SlV h A [.slice B 1 c]/\SlV h B [.string (bs p),.string (bs q)]
def Rv1.mono{h h':aI}{A:Option aQ}{p q:List UInt8}(r:Rv1 h A p q)(l:h.le h'):Rv1 h' A p q:=by
 obtain ⟨B,c,x,y⟩:=r
 exact ⟨B,c,x.mono l,y.mono l⟩
def Rw1.le{h h':aI}{bo:Nat}{p q:List UInt8}(r:Rw1 h h' bo p q):h.le h':=by
 obtain ⟨g,o,A,c,l,s,_⟩:=r.ex
 exact A0 l s.le
def Rw1.read{h h':aI}{bo:Nat}{p q:List UInt8}(r:Rw1 h h' bo p q):Rv1 h' (some ⟨bo,0,none⟩) p q:=by
 obtain ⟨g,o,A,c,l,s,b,a,_⟩:=r.ex
 exact ⟨A,c,b.rowB.slF s.ole,a.slF s.ole⟩
section
variable {h:aI} {K:VP} {A B:Option aQ} {c d m:Nat} {p q r s:Rat}
def W4{x:List UInt8}(hK:K (ivT x x) h):aH prog 150 #[.string (bs x)] h K:=by
 refine (fnk func150 (own:=[2])) ?_
 exact hK
def Ka(gl:Gl h)(hp:Sz m p)(hq:Sz m q)(hr:Sz m r)(hs:Sz m s)(hm:m<=1000000)(h1:p<=q)(h2:r<=s)(hK:K (ivS (p+r) (q+s)) h):aH prog 151 #[ivS p q,ivS r s] h K:=by
 refine (fnk func151 (own:=[2,3,4,5])) ?_
 refine A9z gl (Tx.of hp o) (Tx.of hq o) (Tx.of hr o) (Tx.of hs o) hm (fun j k i g b e _ c d _=>?_) (fun a=>absurd ⟨⟨p,q,rfl,rfl,h1⟩,⟨r,s,rfl,rfl,h2⟩⟩ a)
 obtain rfl:=E8 b
 obtain rfl:=E8 e
 obtain rfl:=E8 c
 obtain rfl:=E8 d
 exact ⟨_,_,_,rfl,hK⟩
def Py(gl:Gl h)(hp:Sz m p)(hq:Sz m q)(hr:Sz m r)(hs:Sz m s)(hm:m<=1000000)(h1:p<=q)(h2:r<=s)(hK:K (ivS (L7 p q r s) (L8 p q r s)) h):aH prog 152 #[ivS p q,ivS r s] h K:=by
 refine (fnk func152 (own:=[2,3,4,5])) ?_
 refine A9x gl (Tx.of hp o) (Tx.of hq o) (Tx.of hr o) (Tx.of hs o) hm (fun j k i g b e _ c d _=>?_) (fun a=>absurd ⟨⟨p,q,rfl,rfl,h1⟩,⟨r,s,rfl,rfl,h2⟩⟩ a)
 obtain rfl:=E8 b
 obtain rfl:=E8 e
 obtain rfl:=E8 c
 obtain rfl:=E8 d
 exact ⟨_,_,_,rfl,hK⟩
def A12(gl:Gl h)(hp:Sz m p)(hq:Sz m q)(hm:m<=1000000)(hK:K (.string (bs (C0 (p*q)))) h):aH prog 334 #[.string (bs (C0 p)),.string (bs (C0 q))] h K:=by
 refine (fnk func334) ?_
 refine P1 gl (Tx.of hp o) (Tx.of hq o) o ⟨_,rfl,?_⟩
 rw [C2,C2]
 exact hK
def A69(gl:Gl h)(x:SlV h A [.string (bs (C0 p))])(y:SlV h B [.string (bs (C0 q))])(hp:Sz m p)(hq:Sz m q)(hm:m<=1000000)(hK:K (.string (bs (C0 (p*q)))) h):aH prog 223 #[.slice A 1 c,.slice B 1 d] h K:=by
 refine B4w _ _ _ _ _ _ ?_
 unfold C31
 obtain ⟨a,rfl,c0⟩:=Fl x
 obtain ⟨b,rfl,g⟩:=Fl y
 refine ⟨a,rfl,o,o,_,c0,b,rfl,o,o,_,g,A12 gl hp hq hm ⟨_,rfl,B0 _,fun L hp=>L=[.string (bs (C0 (p*q))),I 1]/\hp=h,fun _ _=>0,⟨rfl,rfl⟩,?_⟩⟩
 rintro sum i hq ⟨e,rfl⟩
 simp only [aO,bF,aR,true_and,and_true] at e
 obtain ⟨rfl,rfl⟩:=e
 exact B4 (fun z=>o) (fun _=>hK)
def Vq(gl:Gl h)(x:SlV h A [.string (bs (C0 p)),.string (bs (C0 q))])(y:SlV h B [.string (bs (C0 r)),.string (bs (C0 s))])(hp:Sz m p)(hq:Sz m q)(hr:Sz m r)(hs:Sz m s)(hm:m<=1000000)(h1:p<=q)(h2:r<=s)(hK:K (ivS (L7 p q r s) (L8 p q r s)) h):aH prog 220 #[.slice A 1 c,.slice B 1 d] h K:=by
 refine B4v _ _ _ _ _ _ ?_
 unfold C30
 obtain ⟨a,rfl,c0,c1⟩:=U2 x
 obtain ⟨b,rfl,g,j⟩:=U2 y
 refine ⟨a,rfl,o,o,_,_,c0,c1,b,rfl,o,o,_,_,g,j,Py gl hp hq hr hs hm h1 h2 ⟨_,_,rfl,B0 _,fun L hp=>L=[I 1,.string (bs (C0 (L7 p q r s))),.string (bs (C0 (L8 p q r s)))]/\hp=h,fun _ _=>0,⟨rfl,rfl⟩,?_⟩⟩
 rintro i k l hq ⟨e,rfl⟩
 simp only [aO,bF,aR,true_and,and_true] at e
 obtain ⟨rfl,rfl,rfl⟩:=e
 exact B4 (fun z=>o) (fun _=>hK)
def A13{C:Option aQ}{cc:Nat}(gl:Gl h)(x:SlV h A [.slice C 1 cc])(x2:SlV h C [.string (bs (C0 p))])(y:SlV h B [.string (bs (C0 q))])(hp:Sz m p)(hq:Sz m q)(hm:m<=1000000)(hK:∀ A' h',h.le h'->SlV h' A' [.string (bs (C0 (p*q)))]->K (.slice A' 1 1) h'):aH prog 154 #[.slice A 1 c,.slice B 1 d] h K:=by
 refine (fnk func154 [(3,[13],[],[I 0])]) ?_
 refine D8 tNs (zx:=([]:List UInt8)) rfl o o o o ?_
 intro b w
 have k:Sep (W9 140 h b (aF 1 ([]:List UInt8))) h (J8.put b (.cells ((aF 1 ([]:List UInt8)).flatMap enc).toArray 140)):=F1 w
 obtain ⟨a,rfl,c0⟩:=Fl x
 refine ⟨_,_,_,rfl,fun L hp=>(L=[I 0]/\hp=W9 140 h b (aF 1 ([]:List UInt8)))\/(L=[I 1]/\h.le hp/\SlV hp (some ⟨b,0,none⟩) [.string (bs (C0 (p*q)))]),fun L _=>(1-iAt L 0).toNat,.inl ⟨rfl,rfl⟩,?_⟩
 rintro t l (⟨g,rfl⟩|⟨g,u,s⟩)
 ·obtain rfl:t=0:=by simpa using g
  refine B4 (fun _=>?_) (fun E=>o)
  refine ⟨a,rfl,o,o,_,_,_,B7 k.le c0,?_⟩
  refine k.call (A69 gl x2 y hp hq hm ?_)
  intro D r
  refine ⟨_,rfl,_,rfl,o,o,?_⟩
  refine E7 A82 (y:=C0 (p*q)) rfl r (RowX.mk (e:=140)) (i:=0) dc ?_
  rintro F z G rfl j r3
  rw [Jq]
  exact ⟨.inr ⟨rfl,j.le,r3.rowB.slF j.ole⟩,by show (1-(1:Int)).toNat<(1-(0:Int)).toNat;decide⟩
 ·obtain rfl:t=1:=by simpa using g
  exact B4 (fun n=>o) (fun _=>hK _ _ u s)
end
section
variable {h:aI} {K:VP} {A B C:Option aQ} {c d cc m:Nat} {p q r s:Rat}
def W8:(1-(1:Int)).toNat<(1-(0:Int)).toNat:=dc
def A0z(gl:Gl h)(x:Rv1 h A (C0 p) (C0 q))(y:SlV h B [.string (bs (C0 r)),.string (bs (C0 s))])(hp:Sz m p)(hq:Sz m q)(hr:Sz m r)(hs:Sz m s)(hm:m<=1000000)(h1:p<=q)(h2:r<=s)
 (hK:∀ A' h',h.le h'->SlV h' A' [.string (bs (C0 (L7 p q r s))),.string (bs (C0 (L8 p q r s)))]->K (.slice A' 1 1) h'):aH prog 155 #[.slice A 1 c,.slice B 1 d] h K:=by
 refine (fnk func155 [(3,[13],[],[I 0])]) ?_
 refine D8 tSs (zx:=(([],[]):Ivl)) rfl o o o o ?_
 intro b E
 have k:Sep (W9 221 h b (aF 1 (([],[]):Ivl))) h (J8.put b (.cells ((aF 1 (([],[]):Ivl)).flatMap enc).toArray 221)):=F1 E
 obtain ⟨C,H,l,F⟩:=x
 obtain ⟨a,rfl,c0⟩:=Fl l
 refine ⟨_,_,_,rfl,fun L hp=>(L=[I 0]/\hp=W9 221 h b (aF 1 (([],[]):Ivl)))\/(L=[I 1]/\h.le hp/\SlV hp (some ⟨b,0,none⟩) [.string (bs (C0 (L7 p q r s))),.string (bs (C0 (L8 p q r s)))]),fun L _=>(1-iAt L 0).toNat,.inl ⟨rfl,rfl⟩,?_⟩
 rintro t u (⟨g,rfl⟩|⟨g,D,z⟩)
 ·obtain rfl:t=0:=by simpa using g
  refine B4 (fun _=>?_) (fun M=>o)
  refine ⟨a,rfl,o,o,_,_,_,B7 k.le c0,?_⟩
  refine k.call (Vq gl F y hp hq hr hs hm h1 h2 ?_)
  intro h2 w
  refine ⟨_,_,rfl,_,rfl,o,o,?_⟩
  refine E7 Wy (y:=((C0 (L7 p q r s),C0 (L8 p q r s)):Ivl)) rfl w (RowX.mk (e:=221)) (i:=0) dc ?_
  rintro N G O rfl j r3
  rw [Jq]
  exact ⟨.inr ⟨rfl,j.le,r3.rowB.slF j.ole⟩,W8⟩
 ·obtain rfl:t=1:=by simpa using g
  exact B4 (fun n=>o) (fun _=>hK _ _ D z)
def A0x{x:List UInt8}(xa:SlV h A [.slice C 1 cc])(xc:SlV h C [.string (bs x)])(hK:∀ bo h',Rw1 h h' bo x x->K (.slice (some ⟨bo,0,none⟩) 1 1) h'):aH prog 149 #[.slice A 1 c] h K:=by
 refine (fnk func149 [(3,[13],[],[I 0]),(6,[20],[],[I 0])] (wr:=[1000000000])) ?_
 refine D8 C3l (zx:=(⟨none,0,0⟩:HV)) rfl oo oo oo oo ?_
 intro b D
 have m:Sep (W9 220 h b (aF 1 (⟨none,0,0⟩:HV))) h (J8.put b (.cells ((aF 1 (⟨none,0,0⟩:HV)).flatMap enc).toArray 220)):=F1 D
 obtain ⟨a,rfl,c0⟩:=Fl xa
 obtain ⟨R,rfl,c2⟩:=Fl xc
 refine ⟨_,_,_,rfl,fun L k=>(L=[I 0]/\k=W9 220 h b (aF 1 (⟨none,0,0⟩:HV)))\/(L=[I 1]/\Rw1 h k b x x),fun L _=>(1-iAt L 0).toNat,.inl ⟨rfl,rfl⟩,?_⟩
 rintro t E (⟨r,rfl⟩|⟨r,g⟩)
 ·obtain rfl:t=0:=by simpa using r
  refine B4 (fun _=>?_) (fun M=>oo)
  refine ⟨a,rfl,oo,oo,_,_,_,B7 m.le c0,fun L k=>(L=[I 0]/\k=W9 220 h b (aF 1 (⟨none,0,0⟩:HV)))\/(L=[I 1]/\Rw1 h k b x x),fun L _=>(1-iAt L 0).toNat,.inl ⟨rfl,rfl⟩,?_⟩
  rintro w G (⟨d,rfl⟩|⟨d,g⟩)
  ·obtain rfl:w=0:=by simpa using d
   refine B4 (fun _=>?_) (fun M=>oo)
   have p:=m.cell (RowB.cell (RowX.mk (o:=J8) (b:=b) (xs:=aF 1 (⟨none,0,0⟩:HV)) (e:=220)).rowB (i:=0) dc (j:=0) (v:=.slice none 0 0) rfl)
   refine ⟨R,rfl,oo,oo,_,B7 m.le c2,_,rfl,oo,oo,_,_,_,p,W4 ⟨_,_,rfl,B0 _,?_⟩⟩
   have u:dB (J8.put b (.cells ((aF 1 (⟨none,0,0⟩:HV)).flatMap enc).toArray 220)) 221 none 0 ([]:List Ivl):=OwnSl.nil
   refine OwnSl.push (ty:=220) tSs m u (v:=ivT x x) (y:=((x,x):Ivl)) rfl dc (by simp) (by simp) (K1:=fun F=>Heap.le _ F) (fun _ l=>l) ?_
   intro A3 c3 h3 T N H Q q dU
   obtain ⟨S,z⟩:=dU b _ (B8 _ _ _) (by simp)
   refine ⟨_,rfl,oo,oo,?_⟩
   have s:eJ N b (aF 1 (⟨none,0,0⟩:HV)):=⟨_,S⟩
   refine E7 Wx (y:=(⟨A3,1,c3⟩:HV)) rfl Q s (i:=0) dc ?_
   rintro X o4 V rfl B r4
   rw [Jq]
   refine ⟨.inr ⟨rfl,T,_,A3,c3,H,B,r4,q.keep fun W y e O=>?_,z⟩,W8⟩
   rw [B6 _ _ (by rintro rfl;exact z e)]
   exact O
  ·obtain rfl:w=1:=by simpa using d
   refine B4 (fun n=>oo) (fun _=>?_)
   rw [Jq]
   exact ⟨.inr ⟨rfl,g⟩,W8⟩
 ·obtain rfl:t=1:=by simpa using r
  exact B4 (fun n=>oo) (fun _=>hK _ _ g)
def Um(gl:Gl h)(x:Rv1 h A (C0 p) (C0 q))(y:Rv1 h B (C0 r) (C0 s))(hp:Sz m p)(hq:Sz m q)(hr:Sz m r)(hs:Sz m s)(hm:m<=1000000)(h1:p<=q)(h2:r<=s)
 (hK:∀ bo h',Rw1 h h' bo (C0 (L7 p q r s)) (C0 (L8 p q r s))->K (.slice (some ⟨bo,0,none⟩) 1 1) h'):aH prog 148 #[.slice A 1 c,.slice B 1 d] h K:=by
 refine (fnk func148 [(3,[16],[],[I 0]),(6,[23],[],[I 0]),(10,[31],[],[I 0])] (wr:=[1000000000])) ?_
 refine D8 C3l (zx:=(⟨none,0,0⟩:HV)) rfl oo oo oo oo ?_
 intro b hb
 have s1:Sep (W9 220 h b (aF 1 (⟨none,0,0⟩:HV))) h (J8.put b (.cells ((aF 1 (⟨none,0,0⟩:HV)).flatMap enc).toArray 220)):=F1 hb
 obtain ⟨C,cc,xa,xc⟩:=x
 obtain ⟨D,dc,ya,yd⟩:=y
 obtain ⟨a,rfl,c0⟩:=Fl xa
 obtain ⟨a3,rfl,c3⟩:=Fl ya
 obtain ⟨a4,rfl,d0,d1⟩:=U2 yd
 refine ⟨_,_,_,rfl,fun L hp=>(L=[I 0]/\hp=W9 220 h b (aF 1 (⟨none,0,0⟩:HV)))\/(L=[I 1]/\Rw1 h hp b (C0 (L7 p q r s)) (C0 (L8 p q r s))),fun L _=>(1-iAt L 0).toNat,.inl ⟨rfl,rfl⟩,?_⟩
 rintro t aa (⟨O,rfl⟩|⟨O,u⟩)
 ·obtain rfl:t=0:=by simpa using O
  refine B4 (fun _=>?_) (fun W=>oo)
  refine ⟨a,rfl,oo,oo,_,_,_,B7 s1.le c0,fun L hp=>(L=[I 0]/\hp=W9 220 h b (aF 1 (⟨none,0,0⟩:HV)))\/(L=[I 1]/\Rw1 h hp b (C0 (L7 p q r s)) (C0 (L8 p q r s))),fun L _=>(1-iAt L 0).toNat,.inl ⟨rfl,rfl⟩,?_⟩
  rintro V ab (⟨k,rfl⟩|⟨k,u⟩)
  ·obtain rfl:V=0:=by simpa using k
   refine B4 (fun _=>?_) (fun W=>oo)
   refine D8 tSs (zx:=(([],[]):Ivl)) rfl oo oo oo oo ?_
   intro G g
   have z:b≠G:=by
    rintro rfl
    unfold W9 at g
    rw [B8] at g;cases g
   have F:=s1.new g (.cells ((aF 1 (([],[]):Ivl)).flatMap enc).toArray 221)
   refine ⟨_,_,_,rfl,fun L hp=>(L=[I 0]/\hp=W9 221 (W9 220 h b (aF 1 (⟨none,0,0⟩:HV))) G (aF 1 (([],[]):Ivl)))\/(L=[I 1]/\∃ o,Sep hp h o/\eJ o b (aF 1 (⟨none,0,0⟩:HV))/\eJ o G [((C0 r,C0 s):Ivl)]),fun L _=>(1-iAt L 0).toNat,.inl ⟨rfl,rfl⟩,?_⟩
   rintro T N (⟨n,rfl⟩|⟨n,o3,E,X,rc⟩)
   ·obtain rfl:T=0:=by simpa using n
    refine B4 (fun _=>?_) (fun W=>oo)
    refine ⟨a3,rfl,oo,oo,_,_,_,B7 F.le c3,a4,rfl,oo,oo,_,_,B7 F.le d0,B7 F.le d1,_,rfl,oo,oo,?_⟩
    refine E7 Wy (y:=((C0 r,C0 s):Ivl)) rfl F (RowX.mk (e:=221)) (i:=0) (by decide) ?_
    rintro h4 o4 x4 rfl s4 r4
    rw [Jq]
    exact ⟨.inr ⟨rfl,_,s4,(RowX.mk.other z _).other z _,r4⟩,W8⟩
   ·obtain rfl:T=1:=by simpa using n
    refine B4 (fun w=>oo) (fun _=>?_)
    have H:=E.cell (RowB.cell X.rowB (i:=0) (by decide) (j:=0) (v:=.slice none 0 0) rfl)
    refine ⟨_,rfl,oo,oo,_,_,_,H,?_⟩
    have yc:SlV N (some ⟨G,0,none⟩) [.string (bs (C0 r)),.string (bs (C0 s))]:=rc.rowB.slF E.ole
    refine Vq (gl.mono E.le) (xc.mono E.le) yc hp hq hr hs hm h1 h2 ⟨_,_,rfl,B0 _,?_⟩
    have S:dB o3 221 none 0 ([]:List Ivl):=OwnSl.nil
    refine OwnSl.push (ty:=220) tSs E S (v:=ivS (L7 p q r s) (L8 p q r s)) (y:=((C0 (L7 p q r s),C0 (L8 p q r s)):Ivl)) rfl (by decide) (by simp) (by simp) (K1:=fun h1=>Heap.le _ h1) (fun _ l=>l) ?_
    intro A5 c5 h5 g5 o5 l5 s5 R dU
    obtain ⟨e5,M⟩:=X
    obtain ⟨kb,kA⟩:=dU b _ M (by simp)
    refine ⟨_,rfl,oo,oo,?_⟩
    have Q:eJ o5 b (aF 1 (⟨none,0,0⟩:HV)):=⟨_,kb⟩
    refine E7 Wx (y:=(⟨A5,1,c5⟩:HV)) rfl s5 Q (i:=0) (by decide) ?_
    rintro h6 o6 x6 rfl s6 r6
    rw [Jq]
    refine ⟨.inr ⟨rfl,g5,_,A5,c5,l5,s6,r6,R.keep fun bA y e hy=>?_,kA⟩,W8⟩
    rw [B6 _ _ (by rintro rfl;exact kA e)]
    exact hy
  ·obtain rfl:V=1:=by simpa using k
   refine B4 (fun w=>oo) (fun _=>?_)
   rw [Jq]
   exact ⟨.inr ⟨rfl,u⟩,W8⟩
 ·obtain rfl:t=1:=by simpa using O
  exact B4 (fun w=>oo) (fun _=>hK _ _ u)
end
