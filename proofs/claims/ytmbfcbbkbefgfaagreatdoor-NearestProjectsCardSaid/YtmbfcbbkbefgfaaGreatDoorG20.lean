/- A part. -/
import Derived.Test.YtmbfcbbkbefgfaaGreatDoorG18
import Derived.Test.YtmbfcbbkbefgfaaGreatDoorG19
import Derived.Test.YtmbfcbbkbefgfaaGreatDoorG10
open Go.Proofs.Tryz
set_option linter.all false
open _root_.Go.Addr renaming add->eG
open _root_.Array renaming replicate->dP
open Bool renaming false_eq_true->fF
open _root_.Go.Builtin renaming zeroCells->dD,append_->dO,copy_->fJ,lenOf->gF
open _root_.ByteArray renaming size->fE
open _root_.Go.Extern.MathBitsCarry renaming m64->aX,pair->gV
open _root_.Go.Instr renaming storeAt->dN
open Int renaming toNat_natCast->aC,mul_le_mul_of_nonneg_right->aE,mul_le_mul_of_nonneg_left->aI,le_of_lt->aN,mul_ediv_add_emod->aO,emod_lt_of_pos->aP,mul_comm->aR,mul_nonneg->aT,emod_nonneg->aU,pow_succ->aW,pow_add->bG,tdiv_eq_ediv_of_nonneg->bJ,pow_pos->bK,ediv_lt_of_lt_mul->bL,mul_lt_mul_of_pos_right->bM,ediv_eq_zero_of_lt->bU,tmod_eq_emod_of_nonneg->bX,ediv_nonneg->bZ,natCast_mul->cG,ofNat_tdiv->cL,tdiv->cP,mul_lt_mul_of_pos_left->cQ,mul_assoc->cV,mul_add->cX,lt_of_le_of_lt->cY,ofNat_tmod->dH,mul_le_mul->dI,zero_add->dL,tmod->dM,gcd_natCast_natCast->dR,eq_ofNat_of_zero_le->dS,natCast_ediv->dY,fdiv->eF,natCast_add->eM,sign_eq_neg_one_of_neg->fB,natAbs_natCast->fC,fdiv_eq_ediv_of_nonneg->fD,ediv_le_self->fN,ediv_ediv_of_nonneg->fO,zero_mul->fP,sign_eq_one_of_pos->fQ,mul_zero->fR,add_zero->fS,add_mul_ediv_right->fT,add_comm->fU,add_mul_ediv_left->fX,mul_ediv_cancel->gE,gcd->gK,emod_eq_of_lt->gL,natCast_emod->gO,add_mul_emod_self_right->gR,zero_emod->gX,toNat_pow_of_nonneg->hO,pow_zero->iG
open List renaming replicate->aD,getElem?_cons_zero->aF,length_take->aG,length_append->aH,eq_nil_of_length_eq_zero->aK,take_of_length_le->aL,getElem?_cons_succ->aM,length_drop->aQ,append_assoc->aS,drop_of_length_le->aV,take_length->bB,drop_replicate->bI,length_set->bN,append_nil->bW,take_replicate->cD,length_replicate->cF,drop_eq_getElem_cons->cJ,take_append_of_le_length->cK,nil_append->cM,getD->cN,drop_zero->cO,take_append_drop->cR,length_singleton->cT,getElem?_eq_none->cU,take_left'->dA,map_append->dB,getElem?_toArray->dC,drop_drop->dG,take_append->dK,replicate_append_replicate->dV,replicate_succ'->eA,drop_append_of_le_length->eD,drop_left'->eK,length_cons->fL,getElem_mem->fM,length_map->fV,set_append_right->fW,mem_of_mem_take->fZ,take_set_of_le->gD,map_singleton->gH,drop_length->gM,drop_append->gN,length_nil->gQ,getElem?_append_right->gS,getLast?_eq_getElem?->gU,getLast?_singleton->hG,getElem?_set_self->iF
open List.cons renaming injEq->bD
open Nat renaming min_eq_left->aJ,le_refl->bF,sub_zero->cC,mul_one->cH,add_sub_cancel_left->cI,pow_pos->cW,pow_le_pow_right->dF,pow_add->dQ,add_zero->dT,gcd->dZ,div_le_self->eI,div_add_mod->eJ,pow_le_pow_left->eO,mul_le_mul_left->eP,zero_add->eQ,pow_succ->eS,mul_comm->eU,le_trans->eV,mod_lt->eZ,lt_of_lt_of_le->fA,one_mul->fG,add_mul->fH,mul_assoc->fI,min_eq_right->fK,mul_add->fY,add_sub_cancel->gG,sub_self->gJ,pow_lt_pow_iff_right->gW,testBit_two_pow_mul->gY,mul_div_cancel_left->gZ,zero_mul->iA,le_mul_of_pos_left->iB,gcd_sub_self_right->iC,gcd_comm->iD,div_div_eq_div_mul->iE
open Nat.Coprime renaming gcd_mul_left_cancel_right->dJ
open Option renaming map_some->gP
open Option.some renaming injEq->gI
open _root_.Go.Value renaming int->aY
open _root_.Go.Value.int renaming injEq->bY
open _root_.Go.Value.slice renaming injEq->bO
open _root_.Go renaming Addr->bH,TypeId->bV,Value->cZ,Program->dE,IntKind->dX
open _root_.Go.Proofs.YtmbfcbbkbefgfaaGreatDoor renaming FCall->aZ,Heap->bC,Priv->dU,Norm->gC
namespace Go.Proofs.YtmbfcbbkbefgfaaGreatDoor
set_option maxRecDepth 20000
open Go
def Cp:prog.underlying G0=some (.int .u8):=by kernel_rfl
def T3:prog.underlying B1p=some .string:=by kernel_rfl
def pv:List Nat->Nat
 | []=>0
 | d::r=>d+1000000000*pv r
def C12(ps:List Nat)(d:Nat):pv (ps++[d])=pv ps+10^(9*ps.length)*d:=by
 induction ps with
 | nil=>simp [pv]
 | cons p ps ih=>
  simp only [List.cons_append,pv,ih,fL]
  rw [show 9*(ps.length+1)=9*ps.length+9 by omega,dQ,show 10^9=1000000000 by decide]
  grind
def A9x(ps:List Nat)(k:Nat):pv (ps.drop k)<=pv ps:=by
 induction ps generalizing k with
 | nil=>simp
 | cons p ps ih=>
  cases k with
  | zero=>simp
  | succ k=>have:=ih k;simp only [List.drop_succ_cons,pv];omega
def C13{ps:List Nat}{k:Nat}(h:k<ps.length):pv (ps.drop k)=ps[k]+1000000000*pv (ps.drop (k+1)):=by
 rw [cJ h];rfl
def pw(e:Nat):Nat:=if e=0 then 0 else 10^(e-1)
def A0c(e:Nat):pw (e+1)=10^e:=by simp [pw]
def B2q(e:Nat):pw (e+1)/10=pw e:=by
 rw [A0c]
 cases e with
 | zero=>simp [pw]
 | succ e=>rw [A0c,eS,Nat.mul_div_cancel _ (by decide)]
def C1r(V d:Nat)(hd:d<10):dd (10*V+d)=if V≠0\/d≠0 then dd V++[dch d] else dd V:=by
 by_cases h:10*V+d=0
 ·have a:V=0:=by omega
  have b:d=0:=by omega
  subst a b
  simp
 ·rw [iP (by omega),U1 h,show (10*V+d)/10=V by omega,show (10*V+d)%10=d by omega]
def B0h(n:Nat):(dd n).length=0↔n=0:=by
 constructor
 ·intro h
  by_cases a:n=0
  ·exact a
  ·exact absurd (aK h) (B7t a)
 ·rintro rfl;rw [I7];rfl
section
variable {h h':bC} {K:VP} {A B:Option bH} {n c n' c':Nat} {s s':Bool} {x y z:Int} {m:Nat} {p q:Rat} {a b w:QV}
def Vv(i:NI h s A n c z)(hz:ZB m z)(hm:m<=1000000000)(hK:K (.string (bs (P7 z.natAbs))) h):aZ prog Om #[.agg #[.bool s,.slice A n c]] h K:=by
 have h0:=i.zero_iff
 have al:=i.len hz hm
 refine FCall.pure (B14 _ _ _ _ ?_)
 unfold B5s
 refine E4 (fun e=>?_) (fun e=>?_)
 ·have:z=0:=h0.1 (by omega)
  subst this
  exact ⟨B4 h,hK⟩
 ·have ba:z≠0:=fun e1=>e (by have:=h0.2 e1;omega)
  generalize hZ:z.natAbs=Z at *
  have bb:Z<2^m:=by rw [<- hZ];exact hz
  rw [Ab (show Z≠0 by omega)] at hK
  have x:=i.mag
  rw [hZ] at x
  refine ⟨fun l p=>∃ (b:List Nat) (X:Nat) (A B:Option bH) (c H mc:Nat) (g:bC),l=[.slice A b.length c,.slice B H mc]/\h.le g/\dU p g C6 1 A b.length c (b.map fun (d:Nat)=>U32 (d:Int))/\Mg g B H X/\H<=100000000/\(∀ d∈b,d<1000000000)/\Z=pv b+10^(9*b.length)*X/\29*b.length<=m+29,fun l p=>match l with|[_,.slice B n _]=>B39 b32 p B n|_=>0,⟨[],Z,none,A,0,n,c,h,rfl,B4 h,Priv.nil _ _ _ _,x,al,by simp,by simp [pv],by simp⟩,?_⟩
  rintro A1 n1 c1 B1 H mc p ⟨b,X,A1',B1',a1,ac,a3,g,hl,N,P1,M1,q1,Q,q,a7⟩
  obtain ⟨⟨rfl,rfl,rfl⟩,rfl,rfl,rfl⟩:(A1=A1'/\n1=b.length/\c1=a1)/\B1=B1'/\H=ac/\mc=a3:=by simpa using hl
  have a9:=M1.len_zero (by decide)
  refine B7 (fun h1=>?_) (fun h1=>?_)
  ·have hX:X≠0:=by omega
   have a5:29*b.length<m:=by
    have h2:2^(29*b.length)<=10^(9*b.length):=by
     rw [Nat.pow_mul,Nat.pow_mul]
     exact eO (by decide) _
    have h3:10^(9*b.length)*1<=10^(9*b.length)*X:=eP _ (by omega)
    exact (gW (a:=2) (by decide)).1 (by omega)
   refine P1.call ?_
   refine Ni M1 (by decide) q1 ?_
   intro A2 m2 c2 h2 l2 k2 k3 M2 h3 P3
   refine ⟨_,_,_,_,rfl,?_⟩
   have R:((X:Int)%1000000000)=((X%1000000000:Nat):Int):=by omega
   have S:((X:Int)/1000000000)=((X/1000000000:Nat):Int):=by omega
   rw [S] at M2
   rw [R]
   refine Dv Uh P3 rfl rfl (by omega) (by omega) ?_
   intro A4 c4 W g4 l4 P4
   have M4:Mg g4 A2 m2 ((X/1000000000:Nat):Int):=M2.mono l4
   refine ⟨⟨b++[X%1000000000],X/1000000000,A4,A2,c4,m2,c2,g4,by simp,B0 N (B0 l2 l4),by simpa using P4,M4,by omega,?_,?_,?_⟩,?_⟩
   ·intro d hd
    rcases List.mem_append.1 hd with w|w
    ·exact Q d w
    ·rw [List.mem_singleton.1 w];exact eZ _ (by decide)
   ·rw [C12,aH,cT,fY,dQ,q,Nat.add_assoc,fI,<- fY,show 10^(9*1)=1000000000 by decide,Nat.mod_add_div]
   ·rw [aH,cT];omega
   ·show B39 b32 W A2 m2<B39 b32 p B1 H
    rw [As (M4.mono P4.le),As (M1.mono P1.le)]
    simp only [aC]
    exact Nat.div_lt_self (by omega) (by decide)
  ·have hX:X=0:=by omega
   subst hX
   rw [Nat.mul_zero,dT] at q
   have ai:SlV p A1 (b.map fun (d:Nat)=>U32 (d:Int)):=P1.slV
   have a6:b.length≠0:=by
    intro e0
    rw [aK e0] at q
    simp [pv] at q;omega
   have aq:∀ V,V<=Z->(dd V).length<=m:=by
    intro V hV
    apply Q9.2
    have:2^m<=10^m:=eO (by decide) _
    omega
   have e1:B6 ((b.length:Int)-1)=(b.length:Int)-1:=B8 (by omega) (by omega)
   rw [e1]
   refine ⟨fun l W=>∃ (k:Nat) (A:Option bH) (n c:Nat) (g:bC),l=[.slice A n c,I ((k:Int)-1)]/\k<=b.length/\p.le g/\n=(dd (pv (b.drop k))).length/\dU W g G0 1 A n c (yv (dd (pv (b.drop k)))),fun l _=>(iAt l 1+1).toNat,⟨b.length,none,0,0,p,rfl,bF _,B4 p,by simp [pv,I7],by simpa [pv,I7,yv] using Priv.nil _ _ _ _⟩,?_⟩
   rintro A2 n2 c2 i2 W ⟨k,A2',ap,ay,g4,an,hk,lg,F,P2⟩
   obtain ⟨⟨rfl,rfl,rfl⟩,rfl⟩:(A2=A2'/\n2=ap/\c2=ay)/\i2=(k:Int)-1:=by simpa using an
   refine B7 (fun h2=>?_) (fun h2=>?_)
   ·obtain ⟨j,rfl⟩:∃ j,k=j+1:=⟨k-1,by omega⟩
    have ej:((j+1:Nat):Int)-1=(j:Int):=by omega
    rw [ej]
    have hj:j<b.length:=by omega
    have af:=C13 hj
    have C:b[j]<1000000000:=Q _ (fM hj)
    have a8:=A9x b j
    refine ⟨fun l w=>∃ (e:Nat) (A:Option bH) (n c:Nat) (g:bC),l=[.slice A n c,U32 (pw e:Int)]/\e<=9/\p.le g/\n=(dd (pv (b.drop (j+1))*10^(9-e)+b[j]/10^e)).length/\dU w g G0 1 A n c (yv (dd (pv (b.drop (j+1))*10^(9-e)+b[j]/10^e))),fun l _=>(iAt l 1).toNat,⟨9,A2,n2,c2,g4,rfl,by omega,lg,?_,?_⟩,?_⟩
    ·rw [Nat.div_eq_of_lt (by simpa using C)];simpa using F
    ·rw [Nat.div_eq_of_lt (by simpa using C)];simpa using P2
    rintro A5 n5 c5 d w ⟨e,A5',a0,ah,g5,aw,he,t,r,P5⟩
    obtain ⟨⟨rfl,rfl,rfl⟩,rfl⟩:(A5=A5'/\n5=a0/\c5=ah)/\d=(pw e:Int):=by simpa using aw
    generalize hV:pv (b.drop (j+1))*10^(9-e)+b[j]/10^e=V at *
    refine B7 (fun L=>?_) (fun L=>?_)
    ·obtain ⟨f,rfl⟩:∃ f,e=f+1:=by
      cases e with
      | zero=>simp [pw] at L
      | succ f=>exact ⟨f,rfl⟩
     have G:pw (f+1)=10^f:=A0c f
     have ao:0<10^f:=cW (by decide)
     have a4:10^f<=100000000:=by
      have:10^f<=10^8:=dF (by decide) (by omega)
      simpa using this
     have y:pv (b.drop (j+1))*10^(9-f)+b[j]/10^f=10*V+b[j]/10^f%10:=by
      rw [<- hV,show 9-f=(9-(f+1))+1 by omega,eS,eS,<- iE,fY]
      have:=eJ (b[j]/10^f) 10
      grind
     have O:10*V+b[j]/10^f%10<=Z:=by
      rw [<- y]
      have J:10^(9-f)*10^f=1000000000:=by rw [<- dQ,show 9-f+f=9 by omega]
      have t2:10^(9-f)<=1000000000:=by rw [<- J];exact Nat.le_mul_of_pos_right _ ao
      have t3:pv (b.drop (j+1))*10^(9-f)<=pv (b.drop (j+1))*1000000000:=eP _ t2
      have t4:=eI b[j] (10^f)
      omega
     have ec:wu8 (G8 ((48:Int)+dM (G8 (cP (b[j]:Int) ((pw (f+1):Nat):Int))) 10))=((48+b[j]/10^f%10:Nat):Int):=by
      rw [G]
      have J:cP (b[j]:Int) ((10^f:Nat):Int)=((b[j]/10^f:Nat):Int):=by rw [<- cL]
      rw [J]
      have t2:b[j]/10^f<1000000000:=Nat.lt_of_le_of_lt (eI _ _) C
      clear J
      generalize b[j]/10^f=D at t2 ⊢
      rw [S9 (n:=(D:Int)) (by omega) (by omega)]
      have t3:dM (D:Int) 10=((D%10:Nat):Int):=by
       rw [bX (by omega)];omega
      rw [t3,S9 (by omega) (by omega),A2d (by omega) (by omega)];omega
     have u:b[j]/10^f%10<10:=eZ _ (by decide)
     have M:SlV w A1 (b.map fun (d:Nat)=>U32 (d:Int)):=ai.mono (B0 t P5.le)
     refine ⟨fun l L=>∃ (A:Option bH) (n c:Nat) (g:bC),l=[.slice A n c]/\p.le g/\n=(dd (10*V+b[j]/10^f%10)).length/\dU L g G0 1 A n c (yv (dd (10*V+b[j]/10^f%10))),?_,?_⟩
     ·obtain ⟨ad,au,E⟩:=SlV.at M (i:=j) (by simpa using hj)
      refine ⟨ad,au,by omega,by omega,(b[j]:Int),by rw [aC,cH,E];simp,?_⟩
      refine B7 (fun e0=>absurd e0 (by omega)) (fun _=>?_)
      rw [ec]
      have o:=C1r V (b[j]/10^f%10) u
      have ae:=B0h V
      refine ⟨fun l T=>l=[.bool (decide (V≠0\/b[j]/10^f%10≠0))]/\T=w,B7 (fun T=>⟨?_,rfl⟩) (fun T=>⟨?_,rfl⟩),?_⟩
      ·have:V≠0:=by omega
       simp [this]
      ·have:V=0:=by omega
       have e2:∀ D:Nat,(((48+D:Nat):Int) != 48)=decide (V≠0\/D≠0):=by
        intro D
        rw [Bool.eq_iff_iff,bne_iff_ne,decide_eq_true_iff];omega
       rw [e2]
      rintro tb T ⟨am,rfl⟩
      obtain rfl:tb=decide (V≠0\/b[j]/10^f%10≠0):=by simpa using am
      refine B7 (fun h8=>?_) (fun h8=>?_)
      ·rw [iP h8] at o
       have aj:=aq _ O
       rw [o,aH,cT] at aj
       refine Dv Ek P5 rfl rfl (by omega) (by omega) ?_
       intro A9 c9 h9 g9 l9 P9
       refine ⟨A9,n5+1,c9,g9,rfl,B0 t l9,by rw [o,aH,r];rfl,?_⟩
       rw [o,U3]
       have:yv [dch (b[j]/10^f%10)]=[Y ((48+b[j]/10^f%10:Nat):Int)]:=by
        simp only [yv,List.map_cons,List.map_nil,Fb u]
       rw [this];exact P9
      ·rw [iN h8] at o
       exact ⟨A5,n5,c5,g5,rfl,t,by rw [o];exact r,by rw [o];exact P5⟩
     ·rintro A9 n9 c9 h9 ⟨A9',ag,a2,g9,av,ak,aa,P9⟩
      obtain ⟨rfl,rfl,rfl⟩:A9=A9'/\n9=ag/\c9=a2:=by simpa using av
      have ed:G8 (cP ((pw (f+1):Nat):Int) 10)=((pw f:Nat):Int):=by
       have J:cP ((pw (f+1):Nat):Int) 10=((pw (f+1)/10:Nat):Int):=by rw [dY,bJ (by omega)];rfl
       rw [J,B2q,S9 (by omega) (by have:=B2q f;rw [G] at this;omega)]
      rw [ed]
      refine ⟨⟨f,A9,n9,c9,g9,rfl,by omega,ak,by rw [y];exact aa,by rw [y];exact P9⟩,?_⟩
      simp only [iAt,aF,aM,aC]
      have:=B2q f
      rw [G] at this ⊢
      omega
    ·have ax:e=0:=by
      cases e with
      | zero=>rfl
      | succ f=>rw [A0c] at L;have:0<10^f:=cW (by decide);omega
     subst ax
     have az:V=pv (b.drop j):=by rw [<- hV,af];simp;omega
     rw [az] at P5 r
     rw [B8 (by omega) (by omega)]
     exact ⟨⟨j,A5,n5,c5,g5,rfl,by omega,t,r,P5⟩,by simp only [iAt,aF,aM];omega⟩
   ·have ar:k=0:=by omega
    subst ar
    rw [cO,<- q] at P2 F
    refine Ju Ek.und Cp T3 P2.slV F ?_
    exact ⟨_,rfl,B0 N (B0 P1.le (B0 lg P2.le)),hK⟩
end
def A49(a:Array UInt8):({ data:=a }:ByteArray)=bs a.toList:=by simp [bs]
def A6x{l:List UInt8}(h:∀ c∈l,J9 c):Q8 l<2^(4*l.length):=by
 have b:=Lw h
 have d:10^l.length<=16^l.length:=eO (by decide) _
 have a:16^l.length=2^(4*l.length):=by rw [Nat.pow_mul]
 omega
section
variable {h h':bC} {K:VP} {A B:Option bH} {n c n' c':Nat} {s s':Bool} {x y z:Int} {m:Nat} {p q:Rat} {a b w:QV} {l:List UInt8}
def Cx{n m:Nat}(h:n<2^m):(P7 n).length<=m+1:=by
 rw [Oz (by omega)]
 have:2^m<=10^(m+1):=eV (eO (by decide) m) (dF (by decide) (by omega))
 omega
def B1y(i:NQ h w q)(hq:Sz m q)(hm:m<=1000000000)(hK:K (.string (bs (I8 q))) h):aZ prog A6p #[w.v] h K:=by
 have f:=i.num.sg
 have c:=i.den_zero
 refine B8m _ _ _ _ _ _ _ _ ?_
 unfold C4n
 have r:=Cx hq.num
 have o:=Cx (n:=q.den) (m:=m) (by have:=hq.den;unfold ZB at this;simpa using this)
 refine Vv i.num hq.num hm ⟨_,rfl,?_⟩
 refine ⟨fun l j=>l=[.string (bs (Ia q.num))]/\j=h,Br.of (fun e=>?_) (fun e=>?_),?_⟩
 ·have a:q.num<0:=by rw [f] at e;simpa using e
  refine ⟨?_,?_,rfl⟩
  ·rw [A49,K0,K0];simp;omega
  ·rw [A49,Iw];unfold Ia;rw [iP a];rfl
 ·have a:¬ q.num<0:=by rw [f] at e;simpa using e
  exact ⟨by unfold Ia;rw [iN a],rfl⟩
 rintro t s ⟨g,rfl⟩
 obtain rfl:t=bs (Ia q.num):=by simpa using g
 have p:(Ia q.num).length<=m+2:=by
  unfold Ia;split
  ·rw [fL];omega
  ·omega
 refine B7 (fun e=>?_) (fun e=>?_)
 ·have d:¬ q.den=1:=fun k=>by have:=c.2 k;omega
  have b:=i.den
  rw [iN d] at b
  refine Vv b hq.den hm ⟨_,rfl,?_,?_,?_⟩
  ·rw [A49,K0,K0,fC];simp;omega
  ·rw [A49,Iw,K0,K0,fC];simp;omega
  ·rw [A49,Iw,Iw,fC]
   unfold I8 at hK
   rw [iN d] at hK
   exact hK
 ·have d:q.den=1:=c.1 (by omega)
  unfold I8 at hK
  rw [iP d,bW] at hK
  exact hK
end
def ndg(x:Nat):Nat:=x*78913/262144
def B9d:∀ x,x<65->2^x<=10^(ndg x+1)/\(ndg x=0\/10^(ndg x-1)<=2^(x-1))/\ndg x<=19:=by decide
def A46{n k:Nat}(h1:10^k<=n)(h2:n<10^(k+1)):(dd n).length=k+1:=by
 have a:=(Q9 (n:=n) (k:=k+1)).2 h2
 have b:¬ (dd n).length<=k:=fun e=>by have:=Q9.1 e;omega
 omega
def C3n{d:Nat}(h0:d≠0)(h:d<2^64):(dd d).length=ndg (N9 d)+(if 10^ndg (N9 d)<=d then 1 else 0):=by
 have g:=Iy h
 obtain ⟨e,f⟩:=Ff h0
 obtain ⟨i,b,j⟩:=B9d (N9 d) (by omega)
 split
 ·rename_i a
  exact A46 a (by omega)
 ·rename_i a
  rcases b with b|b
  ·rw [b] at a;simp at a;omega
  ·obtain ⟨k,hk⟩:∃ k,ndg (N9 d)=k+1:=by
    by_cases c:ndg (N9 d)=0
    ·rw [c] at a;simp at a;omega
    ·exact ⟨ndg (N9 d)-1,by omega⟩
   rw [hk] at a b ⊢
   rw [gG] at b
   rw [dT]
   exact A46 (by omega) (by omega)
def C15(w n:Nat):pad (w+2) n=pad w (n/100)++[dch (n/10%10),dch (n%10)]:=by
 rw [Tj,Tj,iE];simp
def B2y(n:Nat)(h:n=0):pad 0 n=[]:=by subst h;simp [pad,I7]
abbrev b64:Int:=18446744073709551616
abbrev Mw(h:bC)(A:Option bH)(len:Nat)(n:Int):Prop:=Mag .u64 b64 h A len n
structure Win (k:dX) (h g:bC) (b:Nat) (e:bV) (A:Option bH) (pre:List cZ) (xs:List Int) (post:List cZ):Prop where
 free:g b=none
 eq:h=g.put b (.cells (pre++xs.map (aY k)++post).toArray e)
 at_:xs=[]\/A=some ⟨b,pre.length,none⟩
section
variable {k:dX} {h g:bC} {b:Nat} {e:bV} {A:Option bH} {pre post:List cZ} {xs:List Int}
def Win.le(w:Win k h g b e A pre xs post):g.le h:=by rw [w.eq];exact Heap.le_put _ w.free
def Win.sl(w:Win k h g b e A pre xs post):SlI k h A xs:=by
 rcases w.at_ with rfl|f
 ·exact SlI.nil
 ·right
  refine ⟨_,f,fun i v a=>?_⟩
  rw [w.eq,E6,E5]
  have d:i<(xs.map (aY k)).length:=by
   by_cases c:i<(xs.map (aY k)).length
   ·exact c
   ·rw [cU (by omega)] at a;cases a
  simp only [dC]
  rw [aS,gS (by omega),cI,List.getElem?_append_left d]
  exact a
def Win.store{P:dE}{t:bV}(one:P.cellsOf t=1/\(P.info? t).isSome=true)(w:Win k h g b e A pre xs post){a:bH}(ha:A=some a){i v:Int}(h0:0<=i)(h1:i<xs.length){K:Unit->bC->Prop}
 (x:∀ h',Win k h' g b e A pre (xs.set i.toNat v) post->K () h'):wpH P (dN t (.pointer (some (eG a (i.toNat*1)))) (.int k v)) K h:=by
 have d:i.toNat<xs.length:=by omega
 have c:A=some ⟨b,pre.length,none⟩:=by
  rcases w.at_ with rfl|c
  ·simp at d
  ·exact c
 rw [ha] at c
 cases c
 rw [w.eq,E6,cH]
 refine Em one.1 one.2 rfl rfl (by simp;omega) ?_
 refine x _ ⟨w.free,?_,.inr ha⟩
 have:(pre++xs.map (aY k)++post).toArray.setIfInBounds (pre.length+i.toNat) (.int k v)=(pre++(xs.set i.toNat v).map (aY k)++post).toArray:=by
  rw [List.map_set]
  simp only [List.setIfInBounds_toArray,aS]
  congr 1
  rw [fW _ _ (by omega),cI,List.set_append_left _ _ (by simpa using d)]
 rw [this]
def Win.storeN{P:dE}{t:bV}(one:P.cellsOf t=1/\(P.info? t).isSome=true)(w:Win k h g b e A pre xs post){a:bH}(ha:A=some a){i:Nat}{v:Int}(h1:i<xs.length){K:Unit->bC->Prop}
 (x:∀ h',Win k h' g b e A pre (xs.set i v) post->K () h'):wpH P (dN t (.pointer (some (eG a (i*1)))) (.int k v)) K h:=by
 have:=w.store one ha (i:=(i:Int)) (v:=v) (K:=K) (by omega) (by omega) (by simpa using x)
 simpa using this
def Win.call{P:dE}{f:FuncId}{args:Array cZ}(w:Win k h g b e A pre xs post){K:VP}(x:aZ P f args g (fun r h0=>∀ h',Win k h' h0 b e A pre xs post->K r h')):aZ P f args h K:=by
 rw [w.eq]
 exact FCall.frame w.free x fun r h0 a c=>c _ ⟨a,rfl,w.at_⟩
def Win.blk(k:dX)(e:bV){g:bC}{b:Nat}(hb:g b=none)(zs:List Int):Win k (Go.Proofs.YtmbfcbbkbefgfaaGreatDoor.blk k e g b zs) g b e (some ⟨b,0,none⟩) [] zs []:=
 ⟨hb,by simp [Go.Proofs.YtmbfcbbkbefgfaaGreatDoor.blk],.inr rfl⟩
def Win.sub(w:Win k h g b e A pre xs post){l m c:Nat}(hl:l<=m)(hm:m<=xs.length)(hc:xs.length<=c):
 Win k h g b e (K5 A c l 1) (pre++(xs.take l).map (aY k)) ((xs.drop l).take (m-l)) ((xs.drop m).map (aY k)++post):=by
 refine ⟨w.free,?_,?_⟩
 ·rw [w.eq]
  congr 3
  have:xs=xs.take l++((xs.drop l).take (m-l)++xs.drop m):=by
   have a:xs.drop m=(xs.drop l).drop (m-l):=by rw [dG];congr 1;omega
   rw [a,cR,cR]
  conv=>lhs;rw [this]
  simp [dB,aS]
 ·by_cases d:m-l=0
  ·left;simp [d]
  ·right
   rcases w.at_ with rfl|f
   ·simp at hm;omega
   ·unfold K5
    rw [iN (by omega),f]
    simp only [gP,E6,cH,aH,fV,aG]
    rw [aJ (by omega)]
def Win.whole{h' g':bC}(w:Win k h g b e A pre xs post){l m:Nat}(hl:l<=m)(hm:m<=xs.length){B:Option bH}{ys:List Int}(hy:ys.length=m-l)(v:Win k h' g' b e B (pre++(xs.take l).map (aY k)) ys ((xs.drop m).map (aY k)++post)):
 Win k h' g' b e A pre (xs.take l++ys++xs.drop m) post:=by
 refine ⟨v.free,?_,?_⟩
 ·rw [v.eq]
  congr 3
  simp [dB,aS]
 ·rcases w.at_ with rfl|a
  ·left
   simp at hm
   have:ys=[]:=aK (by omega)
   simp [this]
  ·exact .inr a
def Priv.win{n c:Nat}(p:dU h g e 1 A n c (xs.map (aY k)))(hx:xs≠[]):∃ b post,Win k h g b e A [] xs post:=by
 obtain ⟨l,m,i⟩:=p
 rcases i with ⟨o,rfl⟩|⟨b,a,d,j,rfl,q,f⟩
 ·simp at l
  exact absurd (aK (by omega)) hx
 ·refine ⟨b,a.drop (n*1),j,?_,.inr d⟩
  rw [cM,<- f,cR]
end
def Fe{P:dE}{t:bV}(one:P.cellsOf t=1/\(P.info? t).isSome=true){k:dX}{n:Int}{i:Nat}{g:bC}{b:Nat}{e:bV}{zs:List Int}(hi:i<zs.length){K:Unit->bC->Prop}
 (x:K () (blk k e g b (zs.set i n))):wpH P (dN t (.pointer (some (eG ⟨b,0,none⟩ (i*1)))) (.int k n)) K (blk k e g b zs):=by
 have:=R1 (P:=P) (t:=t) one (k:=k) (n:=n) (i:=(i:Int)) (g:=g) (b:=b) (e:=e) (zs:=zs) (K:=K) (by simpa using hi) (by simpa using x)
 simpa using this
def Gx{P:dE}{t e e' ty:bV}{k:dX}{bytes:Nat}(s:SliceT P t e' (.int k 0) 1 bytes){h g:bC}{b:Nat}{A:Option bH}{pre post:List cZ}{xs:List Int}{n c m d:Nat}(w:Win k h g b e A pre xs post)(hn:n=xs.length){B:Option bH}{ys:List Int}(sy:SlI k h B ys)(hm:m=ys.length)(hle:ys.length<=xs.length){K:VP}
 (x:∀ h',Win k h' g b e A pre (ys++xs.drop ys.length) post->K (I ys.length) h'):wpH P (fJ #[t,t] ty #[.slice A n c,.slice B m d]) K h:=by
 subst hn hm
 obtain ⟨i,o,r,l,p⟩:=s.parts
 unfold fJ
 simp only [dC,aF,aM,C5,F0 s.und,L0 o,F8,gF,l]
 have j:Nat.min ys.length xs.length=ys.length:=aJ hle
 rw [j]
 refine L9 (s:=1) (cs:=ys.map (aY k)) (by simp) sy ?_
 cases A with
 | none=>
  rcases w.at_ with f|f
  ·subst f
   have:ys=[]:=aK (by simpa using hle)
   subst this
   exact x h (by simpa using w)
  ·cases f
 | some a=>
  simp only [C5]
  rcases w.at_ with f|f
  ·subst f
   have:ys=[]:=aK (by simpa using hle)
   subst this
   exact x h (by simpa using w)
  ·cases f
   rw [w.eq]
   refine J0 (ys.map (aY k)) pre.length 0 (pre++xs.map (aY k)++post) (by simp;omega) (fun v q=>?_) ?_
   ·obtain ⟨u,_,rfl⟩:=List.mem_map.1 q;rfl
   ·refine x _ ⟨w.free,?_,?_⟩
    ·congr 3
     unfold L6
     rw [dT,aS pre,dA rfl,fV]
     rw [gN,aV (show pre.length<=pre.length+ys.length by omega),cI,cM]
     rw [eD (by simpa using hle),<- List.map_drop,dB]
     simp only [aS]
    ·right;rfl
def A81{P:dE}{nm:String}{x y c:Int}(hc:0<=c/\c<=1){f:Nat × Nat × Nat->cZ}:Qf P (Extern.MathBitsCarry.three nm #[U x,U y,U c] >>= fun p=>pure (f p))=some (f (x.toNat,y.toNat,c.toNat)):=by
 obtain rfl|rfl:c=0\/c=1:=by omega
 ·rfl
 ·rfl
def B3e:aX=18446744073709551616:=by decide
def Dq{h:bC}{K:VP}{x y c:Int}(hx:0<=x/\x<18446744073709551616)(hy:0<=y/\y<18446744073709551616)(hc:0<=c/\c<=1)(hK:K (.tuple #[U ((x+y+c)%18446744073709551616),U ((x+y+c)/18446744073709551616)]) h):ECall prog S7 #[U x,U y,U c] h K:=by
 refine B9i B1b (A81 (P:=prog) hc (f:=fun p=>gV ((p.1+p.2.1+p.2.2)%aX) ((p.1+p.2.1+p.2.2)/aX))) ?_
 have a:((x.toNat+y.toNat+c.toNat)%aX:Nat)=(((x+y+c)%18446744073709551616:Int)):=by
  rw [B3e]
  omega
 have b:((x.toNat+y.toNat+c.toNat)/aX:Nat)=(((x+y+c)/18446744073709551616:Int)):=by
  rw [B3e]
  omega
 show K (.tuple #[U ((x.toNat+y.toNat+c.toNat)%aX:Nat),U ((x.toNat+y.toNat+c.toNat)/aX:Nat)]) h
 rw [a,b];exact hK
def Fu{h:bC}{K:VP}{x y c:Int}(hx:0<=x/\x<18446744073709551616)(hy:0<=y/\y<18446744073709551616)(hc:0<=c/\c<=1)(hK:K (.tuple #[U ((x-y-c)%18446744073709551616),U (if x-y-c<0 then 1 else 0)]) h):ECall prog By #[U x,U y,U c] h K:=by
 refine B9i B19 (A81 (P:=prog) hc (f:=fun p=>gV ((p.1+aX-p.2.1-p.2.2)%aX) (if p.1<p.2.1+p.2.2 then 1 else 0))) ?_
 have a:((x.toNat+aX-y.toNat-c.toNat)%aX:Nat)=(((x-y-c)%18446744073709551616:Int)):=by
  rw [B3e]
  omega
 have b:(((if x.toNat<y.toNat+c.toNat then 1 else 0:Nat):Nat):Int)=(if x-y-c<0 then 1 else 0):=by
  split<;>split<;>omega
 show K (.tuple #[U ((x.toNat+aX-y.toNat-c.toNat)%aX:Nat),U ((if x.toNat<y.toNat+c.toNat then 1 else 0:Nat):Nat)]) h
 rw [a,b];exact hK
def Fc(x y:Int):Int:=if x<y then -1 else if x>y then 1 else 0
def B37{h:bC}{K:VP}{x:Int}(hK:K (.bool false) h):aZ prog Kd #[I x] h K:=by
 refine A7o _ ?_
 unfold A9f
 have:(x != x)=false:=by simp
 rw [this];exact hK
def B36{h:bC}{K:VP}{x:Int}(hK:K (.bool false) h):aZ prog Bw #[U x] h K:=by
 refine Xv _ ?_
 unfold Wx
 have:(x != x)=false:=by simp
 rw [this];exact hK
def B38{h:bC}{K:VP}{x:Int}(hK:K (.bool false) h):aZ prog Dj #[I x] h K:=by
 refine A24 _ ?_
 unfold Zq
 have:(x != x)=false:=by simp
 rw [this];exact hK
def B4h{h:bC}{K:VP}{x y:Int}(hK:K (I (Fc x y)) h):aZ prog A18 #[I x,I y] h K:=by
 refine B68 _ _ ?_
 unfold C0h
 refine B37 ⟨_,rfl,B37 ⟨_,rfl,?_⟩⟩
 unfold Fc at hK
 refine B7 (fun a=>?_) (fun a=>B7 (fun b=>?_) (fun b=>?_))
 ·rw [iP a] at hK;exact hK
 ·rw [iN a,iP b] at hK;exact hK
 ·rw [iN a,iN b] at hK;exact hK
def B4e{h:bC}{K:VP}{x y:Int}(hK:K (I (Fc x y)) h):aZ prog Lu #[U x,U y] h K:=by
 refine A59 _ _ ?_
 unfold A5a
 refine B36 ⟨_,rfl,B36 ⟨_,rfl,?_⟩⟩
 unfold Fc at hK
 refine B7 (fun a=>?_) (fun a=>B7 (fun b=>?_) (fun b=>?_))
 ·rw [iP a] at hK;exact hK
 ·rw [iN a,iP b] at hK;exact hK
 ·rw [iN a,iN b] at hK;exact hK
def B4i{h:bC}{K:VP}{x y:Int}(hK:K (I (Fc x y)) h):aZ prog Ra #[I x,I y] h K:=by
 refine A7u _ _ ?_
 unfold A9l
 refine B38 ⟨_,rfl,B38 ⟨_,rfl,?_⟩⟩
 unfold Fc at hK
 refine B7 (fun a=>?_) (fun a=>B7 (fun b=>?_) (fun b=>?_))
 ·rw [iP a] at hK;exact hK
 ·rw [iN a,iP b] at hK;exact hK
 ·rw [iN a,iN b] at hK;exact hK
def Nt{h:bC}{K:VP}{x y:Int}(hx:0<=x/\x<18446744073709551616)(hy:0<=y/\y<18446744073709551616)(hK:K (.tuple #[U (x*y/18446744073709551616),U (x*y%18446744073709551616)]) h):aZ prog Gv #[U x,U y] h K:=by
 refine B6a _ _ ?_
 unfold C0i
 rw [Ck hx,Ck hy]
 simp only [Xc]
 obtain ⟨b,d,c,e,a⟩:=A6e hx hy (x1:=x/4294967296) (x0:=x%4294967296) (y1:=y/4294967296) (y0:=y%4294967296) (by omega) (by omega) (by omega) (by omega)
 generalize x/4294967296*(y/4294967296)=p11 at *
 generalize x/4294967296*(y%4294967296)=p10 at *
 generalize x%4294967296*(y/4294967296)=p01 at *
 generalize x%4294967296*(y%4294967296)=p00 at *
 rw [C3 (n:=p00) (by omega) (by omega),C3 (n:=p10) (by omega) (by omega),C3 (n:=p01) (by omega) (by omega),C3 (n:=p11) (by omega) (by omega)]
 rw [C3 (n:=p10+p00/4294967296) (by omega) (by omega),Ck (by omega)]
 rw [C3 (n:=(p10+p00/4294967296)%4294967296+p01) (by omega) (by omega)]
 rw [C3 (n:=p11+(p10+p00/4294967296)/4294967296) (by omega) (by omega),C3 (by omega) (by omega),E7]
 have:p11+(p10+p00/4294967296)/4294967296+((p10+p00/4294967296)%4294967296+p01)/4294967296=x*y/18446744073709551616:=by
  rw [a];omega
 rw [this];exact hK
def S5{h:bC}{K:VP}{x y c:Int}(hx:0<=x/\x<18446744073709551616)(hy:0<=y/\y<18446744073709551616)(hc:0<=c/\c<18446744073709551616)(hK:K (.tuple #[U ((x*y+c)%18446744073709551616),U ((x*y+c)/18446744073709551616)]) h):aZ prog N5 #[U x,U y,U c] h K:=by
 have d:0<=x*y/\x*y<=18446744073709551615*18446744073709551615:=⟨aT hx.1 hy.1,dI (by omega) (by omega) hy.1 (by decide)⟩
 refine Wi _ _ _ ?_
 unfold Sf
 refine Nt hx hy ⟨_,_,rfl,?_⟩
 refine Dq (by omega) hc (by omega) ⟨_,_,rfl,?_⟩
 rw [C3 (by omega) (by omega)]
 have a:(x*y%18446744073709551616+c+0)%18446744073709551616=(x*y+c)%18446744073709551616:=by omega
 have b:x*y/18446744073709551616+(x*y%18446744073709551616+c+0)/18446744073709551616=(x*y+c)/18446744073709551616:=by omega
 rw [a,b];exact hK
def C1w(a:Array UInt8):({ data:=a }:ByteArray)=bs a.toList:=by simp [bs]
def B3f:List UInt8:=[0,1,2,2,3,3,3,3,4,4,4,4,4,4,4,4,5,5,5,5,5,5,5,5,5,5,5,5,5,5,5,5]++aD 32 6++aD 64 7++aD 128 8
def B07:∀ i,i<256->(B3f[i]?).map UInt8.toNat=some (N9 i):=by decide
def A1m{x s:Nat}(h:2^s<=x):N9 x=s+N9 (x/2^s):=by
 have a:0<2^s:=cW (by decide)
 have b:x/2^s≠0:=by
  have:=Nat.div_pos h a;omega
 have:=Yw (l:=x%2^s) (t:=x/2^s) (j:=s) (eZ _ a) b
 rw [Nat.mod_add_div] at this
 exact this
def A8h{h:bC}{K:VP}{x:Nat}(hx:x<18446744073709551616)(hK:K (I (N9 x)) h):aZ prog Tv #[U x] h K:=by
 refine B6b _ ?_
 unfold C0j
 have p:∀ (y s:Nat),s<=64->eF (y:Int) (2^(min ((s:Int)).toNat 64))=((y/2^s:Nat):Int):=by
  intro y s t
  rw [aC,aJ t,fD _ (aN (bK (by decide)))]
  simp
 refine ⟨fun l d=>∃ (y n:Nat),l=[U y,I n]/\d=h/\y<4294967296/\N9 x=n+N9 y/\n<=32,B7 (fun g=>?_) (fun g=>?_),?_⟩
 ·refine ⟨x/2^32,32,?_,rfl,by omega,A1m (by omega),by omega⟩
  rw [show (32:Int)=((32:Nat):Int) from rfl,p x 32 (by omega)]
 ·exact ⟨x,0,rfl,rfl,by omega,by omega,by omega⟩
 rintro e f d ⟨y,n,b,rfl,i,a,q⟩
 obtain ⟨rfl,rfl⟩:e=(y:Int)/\f=(n:Int):=by simpa using b
 refine ⟨fun l m=>∃ (y n:Nat),l=[U y,I n]/\m=d/\y<65536/\N9 x=n+N9 y/\n<=48,B7 (fun g=>?_) (fun g=>?_),?_⟩
 ·refine ⟨y/2^16,n+16,?_,rfl,by omega,by rw [a,A1m (x:=y) (s:=16) (by omega)];omega,by omega⟩
  rw [show (16:Int)=((16:Nat):Int) from rfl,p y 16 (by omega),B8 (by omega) (by omega)];rfl
 ·exact ⟨y,n,rfl,rfl,by omega,a,by omega⟩
 clear a i b
 rintro e f d ⟨y,n,b,rfl,i,a,q⟩
 obtain ⟨rfl,rfl⟩:e=(y:Int)/\f=(n:Int):=by simpa using b
 refine ⟨fun l m=>∃ (y n:Nat),l=[U y,I n]/\m=d/\y<256/\N9 x=n+N9 y/\n<=56,B7 (fun g=>?_) (fun g=>?_),?_⟩
 ·refine ⟨y/2^8,n+8,?_,rfl,by omega,by rw [a,A1m (x:=y) (s:=8) (by omega)];omega,by omega⟩
  rw [show (8:Int)=((8:Nat):Int) from rfl,p y 8 (by omega),B8 (by omega) (by omega)];rfl
 ·exact ⟨y,n,rfl,rfl,by omega,a,by omega⟩
 clear a i b
 rintro e f d ⟨y,n,b,rfl,i,a,q⟩
 obtain ⟨rfl,rfl⟩:e=(y:Int)/\f=(n:Int):=by simpa using b
 rw [A2d (by omega) (by omega),aC]
 have j:=B07 y i
 cases hc:B3f[y]? with
 | none=>rw [hc] at j;cases j
 | some c=>
  rw [hc] at j
  have o:c.toNat=N9 y:=by simpa using j
  refine ⟨c,⟨by omega,?_⟩,?_⟩
  ·try unfold A8g
   rw [C1w,Sc];exact hc
  ·have r:N9 y<=8:=Iy (k:=8) (by omega)
   rw [o,B8 (n:=((N9 y:Nat):Int)) (by omega) (by omega),B8 (by omega) (by omega),<- eM,<- a]
   exact hK
def R6{h:bC}{K:VP}{x:Nat}(hx:x<18446744073709551616)(hK:K (I ((64-N9 x:Nat):Int)) h):aZ prog K4 #[U x] h K:=by
 refine Pr _ ?_
 unfold Jo
 refine A8h hx ⟨_,rfl,?_⟩
 have a:N9 x<=64:=Iy (k:=64) (by omega)
 rw [B8 (by omega) (by omega)]
 have:(64:Int)-((N9 x:Nat):Int)=((64-N9 x:Nat):Int):=by omega
 rw [this];exact hK
def A4a{a b:Int}{s:Nat}(ha:0<=a)(hb:0<=b/\b<2^s)(hab:a*2^s+b<18446744073709551616):bor .u64 (a*2^s) b=a*2^s+b:=by
 have f:0<(2:Int)^s:=bK (by decide)
 have d:0<=a*2^s:=aT ha (by omega)
 rw [A73 (by omega) (by omega)]
 have e:(a*2^s).toNat=2^s*a.toNat:=by
  rw [Int.toNat_mul ha (by omega),eU,hO (by decide)];rfl
 have c:b.toNat<2^s:=by
  have:((2^s:Nat):Int)=(2:Int)^s:=by simp
  omega
 rw [e,A8d c,<- e];omega
def Ac{s:Nat}(hs:s<=64):(2:Int)^s*2^(64-s)=18446744073709551616:=by
 rw [<- bG,show s+(64-s)=64 by omega];decide
def B75{x:Int}{s:Nat}(hs:s<=64):eF x (2^(min s 64))=x/2^s:=by
 rw [aJ hs];exact fD x (aN (bK (by decide)))
def Est.exact{B top u2 v1 v2 U V:Int}(e:Est B 1 top u2 0 v1 v2 0 U V){q:Int}(h:q*(v1*B+v2)<=top*B+u2):q*V<=U:=by
 have b:=e.hU
 have d:=e.hV
 have c:U=top*B+u2:=by rw [b];omega
 have a:V=v1*B+v2:=by rw [d];omega
 rw [c,a];exact h
section
variable {h:bC} {K:VP}
def B4b{T u2 v1 v2 X Y:Int}{hp:bC}{J:Int->bC->Prop}(es:Est 4294967296 1 T u2 0 v1 v2 0 X Y)(_hT:T<18446744073709551616)
 (hJ:∀ q,0<=q->q*Y<=X->X<(q+1)*Y->J q hp):
 ∃ (Inv:Int->Int->bC->Prop) (mu:Int->Int->bC->Nat),Inv (T/v1) (T%v1) hp/\
  ∀ q r hp1,Inv q r hp1->(q>=4294967296->Inv q r hp1)/\0<=q/\q<=4294967297/\0<=r/\r<4294967296/\hp1=hp/\
   (q<4294967296->¬ (q*v2>4294967296*r+u2)->J q hp1)/\
   ((q>=4294967296\/q*v2>4294967296*r+u2)->1<=q/\(r+v1>=4294967296->J (q-1) hp1)/\(r+v1<4294967296->Inv (q-1) (r+v1) hp1/\mu (q-1) (r+v1) hp1<mu q r hp1)):=by
 obtain ⟨G,F⟩:=es.first
 have l:=es.init
 have D:=es.V0
 have A:=es.U0
 have z:=es.v1r
 have o:=es.v2r
 have y:=es.u2r
 have d:=es.top0
 have m:0<=T/v1:=bZ d (by omega)
 have p:=aO T v1
 have k:=aU T (show v1≠0 by omega)
 have x:=aP T (show 0<v1 by omega)
 refine ⟨fun q r hp1=>hp1=hp/\0<=q/\q<=4294967297/\0<=r/\r<4294967296/\q*v1+r=T/\X<(q+1)*Y,fun q _ _=>q.toNat,⟨rfl,m,by omega,k,by omega,by rw [aR];exact p,l⟩,?_⟩
 rintro q r hp1 ⟨rfl,i,u,w,s,c,f⟩
 have key:q*(v1*4294967296+v2)=(T-r)*4294967296+q*v2:=by rw [<- c];grind
 refine ⟨fun _=>⟨rfl,i,u,w,s,c,f⟩,i,u,w,s,rfl,fun g E=>hJ q i (es.exact (by omega)) f,fun e=>?_⟩
 have n:X<q*Y:=by
  rcases e with g|g
  ·exact es.big g
  ·exact es.low i (by omega)
 have j:1<=q:=by
  by_cases B:1<=q
  ·exact B
  ·have:q=0:=by omega
   subst this;omega
 have b:X<(q-1+1)*Y:=by rw [Int.sub_add_cancel];exact n
 have a:(q-1)*v1+(r+v1)=T:=by grind
 refine ⟨j,fun C=>?_,fun C=>⟨⟨rfl,by omega,by omega,by omega,by omega,a,b⟩,by show (q-1).toNat<q.toNat;omega⟩⟩
 have t:(q-1)*(v1*4294967296+v2)=(T-(r+v1))*4294967296+(q-1)*v2:=by rw [<- a];grind
 have g:(q-1)*v2<=4294967296*v2:=aE (by omega) o.1
 exact hJ (q-1) (by omega) (es.exact (by omega)) b
def Ty{hi lo:Int}{y:Nat}(hhi:0<=hi/\hi<y)(hlo:0<=lo/\lo<18446744073709551616)(hy:y<18446744073709551616)
 (hK:K (.tuple #[U ((hi*18446744073709551616+lo)/y),U ((hi*18446744073709551616+lo)%y)]) h):aZ prog Gw #[U hi,U lo,U y] h K:=by
 refine B6c _ _ _ ?_
 unfold C0k
 refine E4 (fun e=>absurd e (by omega)) (fun _=>?_)
 refine B7 (fun e=>absurd e (by omega)) (fun _=>?_)
 refine E4 (fun e=>?_) (fun a7=>?_)
 ·refine B7 (fun e=>absurd e (by omega)) (fun _=>?_)
  refine B7 (fun e=>absurd e (by omega)) (fun _=>?_)
  subst e
  rw [fP,dL] at hK
  rw [bJ hlo.1,bX hlo.1,C3 (bZ hlo.1 (by omega)) (cY (fN _ hlo.1) hlo.2)]
  exact hK
 refine R6 hy ⟨_,rfl,?_⟩
 have Q:y≠0:=by omega
 obtain ⟨ba,a5⟩:=Ff Q
 have av:N9 y<=64:=Iy (k:=64) (by omega)
 have a8:1<=N9 y:=by unfold N9;rw [iN Q];omega
 obtain ⟨s,hs⟩:∃ s,s=64-N9 y:=⟨_,rfl⟩
 rw [<- hs]
 have az:s<64:=by omega
 have o:0<(2:Int)^s:=bK (by decide)
 have z:=Ac (s:=s) (by omega)
 have ap:0<(2:Int)^(64-s):=bK (by decide)
 have E:N9 y=64-s:=by omega
 have al:(y:Int)<2^(64-s):=by
  rw [<- E]
  have:((y:Nat):Int)<((2^N9 y:Nat):Int):=by omega
  simpa using this
 have ah:(2:Int)^(63-s)<=y:=by
  have:((2^(N9 y-1):Nat):Int)<=((y:Nat):Int):=by omega
  rw [show N9 y-1=63-s by omega] at this
  simpa using this
 have H:(2:Int)^s*2^(63-s)=9223372036854775808:=by
  rw [<- bG,show s+(63-s)=63 by omega];decide
 have ak:C1 (s:Int)=(s:Int):=C3 (by omega) (by omega)
 have aj:C1 ((64:Int)-s)=((64-s:Nat):Int):=by rw [C3 (by omega) (by omega)];omega
 have W:(y:Int)*2^s<18446744073709551616:=by
  rw [<- z,aR];exact cQ al o
 have au:9223372036854775808<=(y:Int)*2^s:=by
  rw [<- H,aR (y:Int)];exact aI ah (by omega)
 have eY:C1 ((y:Int)*2^(min s 64))=(y:Int)*2^s:=by rw [aJ (by omega),C3 (by omega) W]
 have bb:hi*2^s+2^s<=(y:Int)*2^s:=by
  have:=aE (show hi+1<=(y:Int) by omega) (aN o)
  rw [Int.add_mul] at this;omega
 have M:0<=hi*2^s:=aT hhi.1 (by omega)
 have ad:0<=lo/2^(64-s)/\lo/2^(64-s)<2^s:=by
  refine ⟨bZ hlo.1 (by omega),bL ap ?_⟩
  rw [z];exact hlo.2
 have eT:bor .u64 (C1 (hi*2^(min s 64))) (eF lo (2^(min (64-s) 64)))=hi*2^s+lo/2^(64-s):=by
  rw [aJ (show s<=64 by omega),C3 M (by omega),B75 (by omega),A4a hhi.1 ad (by omega)]
 have eL:C1 (lo*2^(min s 64))=lo*2^s%18446744073709551616:=by rw [aJ (by omega),E7]
 have a9:0<=lo*2^s%18446744073709551616/\lo*2^s%18446744073709551616<18446744073709551616:=⟨aU _ (by decide),aP _ (by decide)⟩
 have hN:(hi*18446744073709551616+lo)*2^s=(hi*2^s+lo/2^(64-s))*18446744073709551616+lo*2^s%18446744073709551616:=by
  have d1:lo*2^s/18446744073709551616=lo/2^(64-s):=by
   rw [<- z,aR lo,Int.mul_ediv_mul_of_pos _ _ o]
  have d2:=aO (lo*2^s) 18446744073709551616
  rw [d1] at d2
  grind
 generalize hTT:hi*2^s+lo/2^(64-s)=T at *
 generalize hLL:lo*2^s%18446744073709551616=L at *
 generalize hYY:(y:Int)*2^s=Y at *
 have t:0<=T/\T<Y:=by omega
 unfold A5c A5e A5b A5d
 simp only [ak,aj,aC,eY,eT,eL,Xc]
 rw [Ck (by omega),Ck (by omega)]
 have e1:Est 4294967296 1 T (L/4294967296) 0 (Y/4294967296) (Y%4294967296) 0 (T*4294967296+L/4294967296) Y:=
  ⟨by decide,by decide,by omega,by omega,by omega,by omega,by omega,by omega,t.1,by omega,by omega⟩
 refine B7 (fun e=>absurd e (by omega)) (fun _=>?_)
 refine B7 (fun e=>absurd e (by omega)) (fun _=>?_)
 refine B7 (fun e=>absurd e (by omega)) (fun _=>?_)
 refine B7 (fun e=>absurd e (by omega)) (fun _=>?_)
 refine B7 (fun e=>absurd e (by omega)) (fun _=>?_)
 have Z:∀ {q w:Int},0<=q->q<=4294967296->0<=w->w<4294967296->0<=q*w/\q*w<18446744073709551616:=by
  intro q w a b c d
  refine ⟨aT a c,?_⟩
  have:=dI b (show w<=4294967295 by omega) c (by decide)
  omega
 refine ⟨fun l hp=>∃ q,l=[U q]/\hp=h/\0<=q/\q*Y<=T*4294967296+L/4294967296/\T*4294967296+L/4294967296<(q+1)*Y,?_,?_⟩
 ·obtain ⟨Inv,mu,i0,st⟩:=B4b (hp:=h) (J:=fun q hp=>∃ i,[U q]=[U i]/\hp=h/\0<=i/\i*Y<=T*4294967296+L/4294967296/\T*4294967296+L/4294967296<(i+1)*Y) e1 (by omega) (fun q a b c=>⟨q,rfl,rfl,a,b,c⟩)
  refine ⟨fun l hp=>∃ q r,l=[U q,U r]/\Inv q r hp,fun l hp=>mu (iAt l 0) (iAt l 1) hp,⟨T/(Y/4294967296),T%(Y/4294967296),?_,i0⟩,?_⟩
  ·have dm:=aO T (Y/4294967296)
   have O:=bZ t.1 (show 0<=Y/4294967296 by omega)
   have d1:T/(Y/4294967296)<=T:=fN _ t.1
   have d2:=aU T (show Y/4294967296≠0 by omega)
   rw [bJ t.1,C3 (n:=T/(Y/4294967296)) O (by omega),aR (T/(Y/4294967296))]
   have d3:=aT (show 0<=Y/4294967296 by omega) O
   rw [C3 (n:=Y/4294967296*(T/(Y/4294967296))) d3 (by omega),C3 (by omega) (by omega)]
   have:T-Y/4294967296*(T/(Y/4294967296))=T%(Y/4294967296):=by omega
   rw [this]
  rintro q r m ⟨i,r',hl,hI⟩
  obtain ⟨rfl,rfl⟩:q=i/\r=r':=by simpa using hl
  obtain ⟨_,f,g,r0,r1,rfl,ok,C⟩:=st q r m hI
  have S:=Z (q:=4294967296) (w:=r) (by omega) (by omega) r0 r1
  refine ⟨fun l hp=>l=[]/\hp=m/\(q>=4294967296\/q*(Y%4294967296)>4294967296*r+L/4294967296),B7 (fun F=>⟨rfl,rfl,.inl F⟩) (fun F=>?_),?_⟩
  ·have X:=Z (q:=q) (w:=Y%4294967296) f (by omega) (by omega) (by omega)
   rw [C3 X.1 X.2,C3 S.1 S.2,C3 (n:=4294967296*r+L/4294967296) (by omega) (by omega)]
   exact B7 (fun B=>⟨rfl,rfl,.inr B⟩) (fun B=>ok (by omega) B)
  ·rintro af ⟨_,rfl,j⟩
   obtain ⟨g1,g2,N⟩:=C j
   rw [C3 (n:=r+Y/4294967296) (by omega) (by omega),C3 (n:=q-1) (by omega) (by omega)]
   exact B7 (fun G=>g2 G) (fun G=>⟨⟨_,_,rfl,(N (by omega)).1⟩,(N (by omega)).2⟩)
 rintro g A ⟨ac,am,rfl,aq,a3,a2⟩
 obtain rfl:g=ac:=by simpa using am
 have a1:g<4294967296:=by
  by_cases D:g<4294967296
  ·exact D
  ·have:=aE (show 4294967296<=g by omega) (show 0<=Y by omega);omega
 have bd:(g+1)*Y=g*Y+Y:=by grind
 have a0:0<=g*Y:=aT aq (by omega)
 have ai:C1 (C1 (C1 (T*4294967296)+L/4294967296)-C1 (g*Y))=T*4294967296+L/4294967296-g*Y:=by
  simp only [E7];omega
 simp only [ai]
 generalize hRR:T*4294967296+L/4294967296-g*Y=R at *
 have p:0<=R/\R<Y:=by omega
 refine B7 (fun e=>absurd e (by omega)) (fun _=>?_)
 have e2:Est 4294967296 1 R (L%4294967296) 0 (Y/4294967296) (Y%4294967296) 0 (R*4294967296+L%4294967296) Y:=
  ⟨by decide,by decide,by omega,by omega,by omega,by omega,by omega,by omega,p.1,by omega,by omega⟩
 refine ⟨fun l hp=>∃ q,l=[U q]/\hp=A/\0<=q/\q*Y<=R*4294967296+L%4294967296/\R*4294967296+L%4294967296<(q+1)*Y,?_,?_⟩
 ·obtain ⟨Inv,mu,i0,st⟩:=B4b (hp:=A) (J:=fun q hp=>∃ i,[U q]=[U i]/\hp=A/\0<=i/\i*Y<=R*4294967296+L%4294967296/\R*4294967296+L%4294967296<(i+1)*Y) e2 (by omega) (fun q a b c=>⟨q,rfl,rfl,a,b,c⟩)
  refine ⟨fun l hp=>∃ q r,l=[U r,U q]/\Inv q r hp,fun l hp=>mu (iAt l 1) (iAt l 0) hp,⟨R/(Y/4294967296),R%(Y/4294967296),?_,i0⟩,?_⟩
  ·have dm:=aO R (Y/4294967296)
   have O:=bZ p.1 (show 0<=Y/4294967296 by omega)
   have d1:R/(Y/4294967296)<=R:=fN _ p.1
   have d2:=aU R (show Y/4294967296≠0 by omega)
   rw [bJ p.1,C3 (n:=R/(Y/4294967296)) O (by omega),aR (R/(Y/4294967296))]
   have d3:=aT (show 0<=Y/4294967296 by omega) O
   rw [C3 (n:=Y/4294967296*(R/(Y/4294967296))) d3 (by omega),C3 (by omega) (by omega)]
   have:R-Y/4294967296*(R/(Y/4294967296))=R%(Y/4294967296):=by omega
   rw [this]
  rintro r q m ⟨i,r',hl,hI⟩
  obtain ⟨rfl,rfl⟩:r=r'/\q=i:=by simpa using hl
  obtain ⟨_,f,g,r0,r1,rfl,ok,C⟩:=st q r m hI
  have S:=Z (q:=4294967296) (w:=r) (by omega) (by omega) r0 r1
  refine ⟨fun l hp=>l=[]/\hp=m/\(q>=4294967296\/q*(Y%4294967296)>4294967296*r+L%4294967296),B7 (fun F=>⟨rfl,rfl,.inl F⟩) (fun F=>?_),?_⟩
  ·have X:=Z (q:=q) (w:=Y%4294967296) f (by omega) (by omega) (by omega)
   rw [C3 X.1 X.2,C3 S.1 S.2,C3 (n:=4294967296*r+L%4294967296) (by omega) (by omega)]
   exact B7 (fun B=>⟨rfl,rfl,.inr B⟩) (fun B=>ok (by omega) B)
  ·rintro af ⟨_,rfl,j⟩
   obtain ⟨g1,g2,N⟩:=C j
   rw [C3 (n:=r+Y/4294967296) (by omega) (by omega),C3 (n:=q-1) (by omega) (by omega)]
   exact B7 (fun G=>g2 G) (fun G=>⟨⟨_,_,rfl,(N (by omega)).1⟩,(N (by omega)).2⟩)
 rintro f be ⟨ag,ae,rfl,ao,a6,bc⟩
 obtain rfl:f=ag:=by simpa using ae
 refine B7 (fun e=>absurd e (by omega)) (fun _=>?_)
 have ax:f<4294967296:=by
  by_cases D:f<4294967296
  ·exact D
  ·have:=aE (show 4294967296<=f by omega) (show 0<=Y by omega);omega
 have a4:(f+1)*Y=f*Y+Y:=by grind
 have aw:0<=f*Y:=aT ao (by omega)
 have aa:C1 (C1 (C1 (R*4294967296)+L%4294967296)-C1 (f*Y))=R*4294967296+L%4294967296-f*Y:=by
  simp only [E7];omega
 rw [aa,C3 (n:=g*4294967296) (by omega) (by omega),C3 (n:=g*4294967296+f) (by omega) (by omega),B75 (by omega)]
 have ay:(hi*18446744073709551616+lo)*2^s=(g*4294967296+f)*(y*2^s)+(R*4294967296+L%4294967296-f*Y):=by
  rw [hN,hYY]
  have:T*18446744073709551616+L=(T*4294967296+L/4294967296)*4294967296+L%4294967296:=by omega
  rw [this]
  have:T*4294967296+L/4294967296=R+g*Y:=by omega
  rw [this];grind
 have x:R*4294967296+L%4294967296-f*Y=(hi*18446744073709551616+lo-(g*4294967296+f)*y)*2^s:=by grind
 rw [x,gE _ (show (2:Int)^s≠0 by omega)]
 have an:0<=hi*18446744073709551616+lo-(g*4294967296+f)*y:=by
  by_cases D:0<=hi*18446744073709551616+lo-(g*4294967296+f)*y
  ·exact D
  ·have:=aE (show hi*18446744073709551616+lo-(g*4294967296+f)*y <= -1 by omega) (aN o);omega
 have ar:hi*18446744073709551616+lo-(g*4294967296+f)*y<y:=by
  by_cases D:hi*18446744073709551616+lo-(g*4294967296+f)*y<y
  ·exact D
  ·have:=aE (show (y:Int)<=hi*18446744073709551616+lo-(g*4294967296+f)*y by omega) (aN o);omega
 have u:(hi*18446744073709551616+lo)/y=g*4294967296+f:=by
  have:hi*18446744073709551616+lo=(hi*18446744073709551616+lo-(g*4294967296+f)*y)+(g*4294967296+f)*y:=by omega
  rw [this,fT _ _ (by omega),bU an ar,dL]
 have V:(hi*18446744073709551616+lo)%y=hi*18446744073709551616+lo-(g*4294967296+f)*y:=by
  rw [Int.emod_def,u,aR (y:Int)]
 rw [u,V] at hK
 exact hK
end
def N8{xs:List Int}(d:Dig b64 xs)(i:Nat):0<=xs.getD i 0/\xs.getD i 0<18446744073709551616:=d.getD (by decide) i
def Et(c:Int):0<=c%18446744073709551616/\c%18446744073709551616<b64:=⟨aU _ (by decide),aP _ (by decide)⟩
section
variable {h g:bC} {K:VP} {A B:Option bH} {ac bc:Nat}
def Eh{xs:List Int}(s:SlI .u64 h A xs)(hc:xs.length<=ac)(hl:xs.length<=10000000000)(hK:∀ m,m<=xs.length->gC (xs.take m)->val b64 (xs.take m)=val b64 xs->K (.slice A m ac) h):aZ prog I6 #[.slice A xs.length ac] h K:=by
 refine B89 _ _ _ ?_
 unfold C4b
 refine ⟨fun l g=>∃ m:Nat,l=[I m]/\m<=xs.length/\g=h/\val b64 (xs.take m)=val b64 xs,fun l _=>(iAt l 0).toNat,⟨xs.length,rfl,bF _,rfl,by rw [bB]⟩,?_⟩
 rintro o n ⟨m,c,k,rfl,d⟩
 obtain rfl:=sI1 c
 refine B7 (fun f=>?_) (fun f=>?_)
 ·obtain ⟨j,rfl⟩:∃ j,m=j+1:=⟨m-1,by omega⟩
  have e:B6 (((j+1:Nat):Int)-1)=(j:Int):=by rw [B8 (by omega) (by omega)];omega
  rw [e]
  have a:=O1 b64 (xs:=xs) (i:=j) (by omega)
  refine s.load rfl (by omega) (by omega) ?_
  rw [aC]
  refine E4 (fun b=>?_) (fun b=>?_)
  ·exact ⟨⟨j,rfl,by omega,rfl,by rw [b] at a;omega⟩,by simp only [iAt,aF];omega⟩
  ·refine ⟨⟨by omega,by omega⟩,?_⟩
   rw [I0,aC,cC,cC]
   refine hK (j+1) k ?_ d
   rw [Ic (by omega)];exact A3e b
 ·have:m=0:=by omega
  subst this
  refine ⟨⟨by omega,by omega⟩,?_⟩
  rw [I0,aC,cC,cC]
  exact hK 0 (by omega) Norm.nil d
def Q4{xs:List Int}(s:SlI .u64 h A xs)(hd:Dig b64 xs)(hc:xs.length<=ac)(hl:xs.length<=10000000000)(hK:∀ m,m<=xs.length->Mw h A m (val b64 xs)->K (.slice A m ac) h):aZ prog I6 #[.slice A xs.length ac] h K:=by
 refine Eh s hc hl ?_
 intro m a b d
 refine hK m a ⟨xs.take m,by simp;omega,?_,hd.take m,b,d⟩
 have:=s.cut (c:=ac) (l:=0) (m:=m) (by omega) a hc
 simpa [I0] using this
def Bq{w:Int}(hw:0<=w/\w<18446744073709551616)(hK:∀ A m c h',h.le h'->m<=c->Mw h' A m w->K (.slice A m c) h'):aZ prog Y3 #[U w] h K:=by
 refine A4o _ ?_
 unfold A4p
 refine E4 (fun e=>?_) (fun e=>?_)
 ·subst e;exact hK none 0 0 h (B4 h) (bF _) Mag.zero
 ·refine Dx Q0 rfl ?_
  intro b a
  exact ⟨_,_,_,rfl,hK _ _ _ _ (Heap.le_put _ a) (bF _) ⟨[w],rfl,SlI.new h b [w] C2 _,Dig.one hw,by simpa [gC] using e,Co _ _⟩⟩
def F9{x y:Int}{an bn:Nat}(ma:Mw h A an x)(mb:Mw h B bn y)(hl:an<=10000000000)(hK:K (I (Fc x y)) h):aZ prog F2 #[.slice A an ac,.slice B bn bc] h K:=by
 obtain ⟨a,rfl,q,f,w,rfl⟩:=ma
 obtain ⟨b,rfl,r,g,z,rfl⟩:=mb
 refine Tc _ _ _ _ _ _ ?_
 unfold Pk
 refine J4 (fun t=>?_) (fun t=>?_)
 ·refine B4h ⟨_,rfl,?_⟩
  have:Fc (a.length:Int) (b.length:Int)=Fc (val b64 a) (val b64 b):=by
   unfold Fc
   by_cases m:a.length<b.length
   ·have:=Js (by decide) f g z m
    rw [iP (by omega),iP this]
   ·have:=Js (by decide) g f w (by omega)
    rw [iN (by omega),iP (by omega),iN (by omega),iP (by omega)]
  rw [this];exact hK
 ·have d:a.length=b.length:=by omega
  refine ⟨fun l u=>∃ k:Nat,l=[I ((k:Int)-1)]/\k<=a.length/\u=h/\a.drop k=b.drop k,fun l _=>(iAt l 0+1).toNat,⟨a.length,?_,bF _,rfl,?_⟩,?_⟩
  ·rw [B8 (by omega) (by omega)]
  ·rw [gM,d,gM]
  rintro i D ⟨k,p,C,rfl,c⟩
  obtain rfl:i=(k:Int)-1:=by simpa using p
  refine B7 (fun m=>?_) (fun m=>?_)
  ·obtain ⟨j,rfl⟩:∃ j,k=j+1:=⟨k-1,by omega⟩
   have e:((j+1:Nat):Int)-1=(j:Int):=by omega
   rw [e]
   refine q.load rfl (by omega) (by omega) ?_
   refine r.load rfl (by omega) (by omega) ?_
   rw [aC]
   refine J4 (fun s=>?_) (fun s=>?_)
   ·refine q.load rfl (by omega) (by omega) ?_
    refine r.load rfl (by omega) (by omega) ?_
    rw [aC]
    refine B4e ⟨_,rfl,B4 _,?_⟩
    have:Fc (a.getD j 0) (b.getD j 0)=Fc (val b64 a) (val b64 b):=by
     unfold Fc
     by_cases o:a.getD j 0<b.getD j 0
     ·have:=Jr (by decide) f g (i:=j) (by omega) (by omega) c o
      rw [iP o,iP this]
     ·have:=Jr (by decide) g f (i:=j) (by omega) (by omega) c.symm (by omega)
      rw [iN o,iP (by omega),iN (by omega),iP (by omega)]
    rw [this];exact hK
   ·rw [B8 (by omega) (by omega)]
    refine ⟨⟨j,rfl,by omega,rfl,?_⟩,by simp only [iAt,aF];omega⟩
    rw [cJ (show j<a.length by omega),cJ (show j<b.length by omega),c]
    congr 1
    simpa [cN,show j<a.length by omega,show j<b.length by omega] using s
  ·have n:k=0:=by omega
   subst n
   simp at c
   subst c
   have:Fc (val b64 a) (val b64 a)=0:=by unfold Fc;rw [iN (by omega),iN (by omega)]
   rw [this] at hK;exact hK
def Fd{xs:List Int}{an:Nat}(s:SlI .u64 h A xs)(hn:an=xs.length)(hl:xs.length<=10000000000)(hK:∀ A' c' h' g',h.le g'->dU h' g' C2 1 A' xs.length c' (xs.map (aY .u64))->K (.slice A' xs.length c') h'):aZ prog Gj #[.slice A an ac] h K:=by
 subst hn
 refine B52 _ _ _ ?_
 unfold B9t
 refine Br.of (fun e=>?_) (fun e=>?_)
 ·have i:A=none:=by simpa using e
  have g:xs=[]:=by
   rcases s with j|⟨a,d,_⟩
   ·simpa using j
   ·rw [i] at d;cases d
  subst g
  exact hK none 0 h h (B4 h) (by simpa using Priv.nil _ _ _ _)
 ·refine Qj Q0 ?_
  intro b k
  refine ⟨_,_,_,rfl,?_⟩
  have c:=Heap.le_put (h:=h) (b:=b) (.cells #[] C2) k
  refine Pb Q0 (Priv.nil _ _ _ _) (ys:=xs.map (aY .u64)) (by simp) (SlI.mono c s) (fun v m=>?_) (by omega) (by omega) ?_
  ·obtain ⟨a,_,rfl⟩:=List.mem_map.1 m;rfl
  ·intro A' c' h' g' l f
   simp only [eQ,cM] at f ⊢
   exact ⟨_,_,_,rfl,hK _ _ _ _ (B0 c l) f⟩
variable {b:Nat} {e:bV} {pre post:List cZ}
def Jc{xs ys:List Int}{an bn:Nat}(w:Win .u64 h g b e A pre xs post)(hn:an=xs.length)(sy:SlI .u64 g B ys)(hm:bn=ys.length)(dx:Dig b64 xs)(dy:Dig b64 ys)(hle:ys.length<=xs.length)(hfit:val b64 xs+val b64 ys<b64^xs.length)(hl:xs.length<=10000000000)
 (hK:∀ xs' h',xs'.length=xs.length->Dig b64 xs'->val b64 xs'=val b64 xs+val b64 ys->Win .u64 h' g b e A pre xs' post->K (.tuple #[]) h'):aZ prog T8 #[.slice A an ac,.slice B bn bc] h K:=by
 subst hn hm
 refine A7d _ _ _ _ _ _ ?_
 unfold A95
 refine ⟨fun l t=>∃ (k:Nat) (c:Int) (zs:List Int),l=[U c,I k]/\k<=ys.length/\zs.length=xs.length/\Dig b64 zs/\(0<=c/\c<=1)/\Win .u64 t g b e A pre zs post/\zs.drop k=xs.drop k/\val b64 (zs.take k)+c*b64^k=val b64 (xs.take k)+val b64 (ys.take k),fun l _=>ys.length-(iAt l 1).toNat,⟨0,0,xs,rfl,by omega,rfl,dx,by omega,w,rfl,by simp [val]⟩,?_⟩
 rintro c i t ⟨k,E,zs,q,J,d,o,x,j,f,y⟩
 obtain ⟨rfl,rfl⟩:c=E/\i=(k:Int):=by simpa using q
 refine B7 (fun z=>?_) (fun z=>?_)
 ·have N:=N8 dy k
  have D:=N8 o k
  have r:=E8 f
  have C:=C4 b64 xs k
  have M:=C4 b64 ys k
  refine (sy.mono j.le).load rfl (by omega) (by omega) ?_
  refine j.sl.load d.symm (by omega) (by omega) ?_
  simp only [aC]
  refine Dq D N x ⟨_,_,rfl,?_⟩
  obtain ⟨a,u,_⟩:=SlV.at j.sl (i:=k) (by simp;omega)
  refine ⟨a,u,by omega,by omega,j.storeN F6 u (by omega) ?_⟩
  intro h' G
  rw [B8 (n:=(k:Int)+1) (by omega) (by omega)]
  refine ⟨⟨k+1,_,_,rfl,by omega,by simpa using d,o.set (Et _),by omega,G,?_,?_⟩,by simp only [iAt,aF,aM];omega⟩
  ·rw [D5 (by omega)];exact D8 f
  ·rw [C8 (by omega),F1,aG,aJ (by omega),aW,Cj,C,M,<- r]
   grind
 ·have s:k=ys.length:=by omega
  subst s
  rw [bB] at y
  refine ⟨fun l t=>∃ (k:Nat) (c:Int) (zs:List Int),l=[U c,I k]/\ys.length<=k/\k<=xs.length/\zs.length=xs.length/\Dig b64 zs/\(0<=c/\c<=1)/\Win .u64 t g b e A pre zs post/\zs.drop k=xs.drop k/\val b64 (zs.take k)+c*b64^k=val b64 (xs.take k)+val b64 ys,fun l _=>xs.length-(iAt l 1).toNat,⟨ys.length,c,zs,rfl,by omega,by omega,d,o,x,j,f,y⟩,?_⟩
  clear y f j o d x J z
  rintro c i t ⟨k,E,zs,q,L,J,d,o,x,j,f,y⟩
  obtain ⟨rfl,rfl⟩:c=E/\i=(k:Int):=by simpa using q
  have p:=F5 b64 zs (i:=k) (by omega)
  have m:=F5 b64 xs (i:=k) (by omega)
  refine J4 (fun O=>B7 (fun z=>?_) (fun z=>?_)) (fun O=>?_)
  ·have D:=N8 o k
   have r:=E8 f
   have C:=C4 b64 xs k
   refine j.sl.load d.symm (by omega) (by omega) ?_
   simp only [aC]
   refine Dq D (by omega) x ⟨_,_,rfl,?_⟩
   obtain ⟨a,u,_⟩:=SlV.at j.sl (i:=k) (by simp;omega)
   refine ⟨a,u,by omega,by omega,j.storeN F6 u (by omega) ?_⟩
   intro h' G
   rw [B8 (n:=(k:Int)+1) (by omega) (by omega)]
   refine ⟨⟨k+1,_,_,rfl,by omega,by omega,by simpa using d,o.set (Et _),by omega,G,?_,?_⟩,by simp only [iAt,aF,aM];omega⟩
   ·rw [D5 (by omega)];exact D8 f
   ·rw [C8 (by omega),F1,aG,aJ (by omega),aW,Cj,C,<- r]
    grind
  ·exfalso
   have s:k=xs.length:=by omega
   subst s
   have F:c=1:=by omega
   subst F
   rw [bB] at y
   have:=C7 (by decide) (o.take xs.length)
   omega
  ·have H:c=0:=by omega
   subst H
   refine hK zs t d o ?_ j
   rw [p,m,f];omega
def El{xs ys:List Int}{an bn:Nat}(w:Win .u64 h g b e A pre xs post)(hn:an=xs.length)(sy:SlI .u64 g B ys)(hm:bn=ys.length)(dx:Dig b64 xs)(dy:Dig b64 ys)(hle:ys.length<=xs.length)(hfit:val b64 ys<=val b64 xs)(hl:xs.length<=10000000000)
 (hK:∀ xs' h',xs'.length=xs.length->Dig b64 xs'->val b64 xs'=val b64 xs-val b64 ys->Win .u64 h' g b e A pre xs' post->K (.tuple #[]) h'):aZ prog U9 #[.slice A an ac,.slice B bn bc] h K:=by
 subst hn hm
 refine Su _ _ _ _ _ _ ?_
 unfold Pd
 have key:∀ {z y c:Int},(0<=z/\z<18446744073709551616)->(0<=y/\y<18446744073709551616)->(0<=c/\c<=1)->(z-y-c)%18446744073709551616=z-y-c+18446744073709551616*(if z-y-c<0 then 1 else 0):=by
  intro z y c S T q;split<;>omega
 refine ⟨fun l x=>∃ (k:Nat) (c:Int) (zs:List Int),l=[U c,I k]/\k<=ys.length/\zs.length=xs.length/\Dig b64 zs/\(0<=c/\c<=1)/\Win .u64 x g b e A pre zs post/\zs.drop k=xs.drop k/\val b64 (zs.take k)=val b64 (xs.take k)-val b64 (ys.take k)+c*b64^k,fun l _=>ys.length-(iAt l 1).toNat,⟨0,0,xs,rfl,by omega,rfl,dx,by omega,w,rfl,by simp [val]⟩,?_⟩
 rintro c i x ⟨k,G,zs,r,M,d,o,q,j,f,t⟩
 obtain ⟨rfl,rfl⟩:c=G/\i=(k:Int):=by simpa using r
 refine B7 (fun E=>?_) (fun E=>?_)
 ·have N:=N8 dy k
  have D:=N8 o k
  have s:=E8 f
  have F:=C4 b64 xs k
  have Q:=C4 b64 ys k
  refine (sy.mono j.le).load rfl (by omega) (by omega) ?_
  refine j.sl.load d.symm (by omega) (by omega) ?_
  simp only [aC]
  refine Fu D N q ⟨_,_,rfl,?_⟩
  obtain ⟨a,C,_⟩:=SlV.at j.sl (i:=k) (by simp;omega)
  refine ⟨a,C,by omega,by omega,j.storeN F6 C (by omega) ?_⟩
  intro h' J
  rw [B8 (n:=(k:Int)+1) (by omega) (by omega)]
  refine ⟨⟨k+1,_,_,rfl,by omega,by simpa using d,o.set (Et _),by split<;>omega,J,?_,?_⟩,by simp only [iAt,aF,aM];omega⟩
  ·rw [D5 (by omega)];exact D8 f
  ·rw [C8 (by omega),F1,aG,aJ (by omega),aW,F,Q,<- s,t,key D N q]
   grind
 ·have u:k=ys.length:=by omega
  subst u
  rw [bB] at t
  refine ⟨fun l x=>∃ (k:Nat) (c:Int) (zs:List Int),l=[U c,I k]/\ys.length<=k/\k<=xs.length/\zs.length=xs.length/\Dig b64 zs/\(0<=c/\c<=1)/\Win .u64 x g b e A pre zs post/\zs.drop k=xs.drop k/\val b64 (zs.take k)=val b64 (xs.take k)-val b64 ys+c*b64^k,fun l _=>xs.length-(iAt l 1).toNat,⟨ys.length,c,zs,rfl,by omega,by omega,d,o,q,j,f,t⟩,?_⟩
  clear t f j o d q M E
  rintro c i x ⟨k,G,zs,r,O,M,d,o,q,j,f,t⟩
  obtain ⟨rfl,rfl⟩:c=G/\i=(k:Int):=by simpa using r
  have p:=F5 b64 zs (i:=k) (by omega)
  have m:=F5 b64 xs (i:=k) (by omega)
  refine J4 (fun R=>B7 (fun E=>?_) (fun E=>?_)) (fun R=>?_)
  ·have D:=N8 o k
   have s:=E8 f
   have F:=C4 b64 xs k
   refine j.sl.load d.symm (by omega) (by omega) ?_
   simp only [aC]
   refine Fu D (by omega) q ⟨_,_,rfl,?_⟩
   obtain ⟨a,C,_⟩:=SlV.at j.sl (i:=k) (by simp;omega)
   refine ⟨a,C,by omega,by omega,j.storeN F6 C (by omega) ?_⟩
   intro h' J
   rw [B8 (n:=(k:Int)+1) (by omega) (by omega)]
   refine ⟨⟨k+1,_,_,rfl,by omega,by omega,by simpa using d,o.set (Et _),by split<;>omega,J,?_,?_⟩,by simp only [iAt,aF,aM];omega⟩
   ·rw [D5 (by omega)];exact D8 f
   ·rw [C8 (by omega),F1,aG,aJ (by omega),aW,F,<- s,t,key D (y:=0) (by omega) q]
    grind
  ·exfalso
   have u:k=xs.length:=by omega
   subst u
   have H:c=1:=by omega
   subst H
   rw [bB] at t
   have:=L5 (by decide) (o.take xs.length)
   rw [aG,aJ (by omega)] at this
   omega
  ·have L:c=0:=by omega
   subst L
   refine hK zs x d o ?_ j
   rw [p,m,f];omega
def A1o{x y:Int}{an bn:Nat}(ma:Mw h A an x)(mb:Mw h B bn y)(hab:bn<=an)(hl:an<=4000000000)(hb0:bn≠0)(hK:∀ A' m c' h',h.le h'->m<=c'->Mw h' A' m (x+y)->K (.slice A' m c') h'):
 wpH prog (Instr.makeSlice Z5 (I (B6 ((an:Int)+1))) (I (B6 ((an:Int)+1)))) (fun v hp1=>∃ (t20A:Option bH) (t20n:Nat) (t20c:Nat),v= .slice t20A t20n t20c/\∀ ty,wpH prog (fJ #[Z5,Z5] ty #[.slice t20A t20n t20c,.slice A an ac]) (fun v1 hp2=>∃ (t23:Int),v1=I t23/\aZ prog T8 #[.slice t20A t20n t20c,.slice B bn bc] hp2 (fun r hp3=>r= .tuple #[]/\aZ prog I6 #[.slice t20A t20n t20c] hp3 (fun r1 hp4=>∃ (t28A:Option bH) (t28n:Nat) (t28c:Nat),r1= .slice t28A t28n t28c/\K (.slice t28A t28n t28c) hp4))) hp1) h:=by
 obtain ⟨a,rfl,t,n,L,rfl⟩:=ma
 obtain ⟨H,rfl,z,o,M,rfl⟩:=mb
 have C:B6 ((a.length:Int)+1)=((a.length+1:Nat):Int):=by rw [B8 (by omega) (by omega)];omega
 rw [C]
 refine K3 Q0 (by omega) (by omega) (by omega) ?_
 intro b s
 rw [aC]
 refine ⟨_,_,_,rfl,fun ty=>?_⟩
 have l:=Win.blk .u64 C2 s (aD (a.length+1) 0)
 refine Gx Q0 l (by simp) (SlI.mono l.le t) rfl (by simp) ?_
 intro J k
 refine ⟨_,rfl,?_⟩
 have c:(aD (a.length+1) (0:Int)).drop a.length=[0]:=by rw [bI];simp [cI]
 rw [c] at k
 have d:val b64 (a++[0])=val b64 a:=by rw [F1];omega
 have D:=L5 (by decide) n
 have F:=L5 (by decide) o
 have w:=C9 (B:=b64) (by decide) hab
 have j:b64^(a.length+1)=b64^a.length*18446744073709551616:=aW _ _
 have E:=D7 (B:=b64) (by decide) a.length
 refine Jc k (by simp) z rfl (n.append (Dig.one (by decide))) o (by simp;omega) ?_ (by simp;omega) ?_
 ·rw [d,aH,cT,j];omega
 intro zs G f i g q
 refine ⟨rfl,?_⟩
 have e:zs.length=a.length+1:=by rw [f];simp
 rw [<- e]
 refine Q4 q.sl i (by omega) (by omega) ?_
 intro m u p
 rw [g,d] at p
 exact ⟨_,_,_,rfl,hK _ _ _ _ q.le u p⟩
def R9{x y:Int}{an bn:Nat}(ma:Mw h A an x)(mb:Mw h B bn y)(ha:an<=ac)(hb:bn<=bc)(hl:an<=4000000000)(hl2:bn<=4000000000)(hK:∀ A' m c' h',h.le h'->m<=c'->Mw h' A' m (x+y)->K (.slice A' m c') h'):aZ prog O4 #[.slice A an ac,.slice B bn bc] h K:=by
 refine A4s _ _ _ _ _ _ ?_
 unfold A4t
 refine ⟨fun l h'=>h'=h/\∃ (A1 B1:Option bH) (b d c1 c2:Nat) (j n:Int),l=[.slice A1 b c1,.slice B1 d c2]/\Mw h A1 b j/\Mw h B1 d n/\d<=b/\b<=4000000000/\b<=c1/\j+n=x+y,B7 (fun s=>?_) (fun s=>?_),?_⟩
 ·exact ⟨rfl,_,_,_,_,_,_,y,x,rfl,mb,ma,by omega,hl2,hb,fU _ _⟩
 ·exact ⟨rfl,_,_,_,_,_,_,x,y,rfl,ma,mb,by omega,hl,ha,rfl⟩
 ·rintro A1 b c1 B1 d c2 z ⟨rfl,A1',B1',g,a,i,c,j,n,f,p,q,r,e,k,o⟩
  obtain ⟨⟨rfl,rfl,rfl⟩,rfl,rfl,rfl⟩:(A1=A1'/\b=g/\c1=i)/\B1=B1'/\d=a/\c2=c:=by simpa using f
  rw [<- o] at hK
  refine E4 (fun w=>?_) (fun w=>?_)
  ·have:=(q.len_zero (by decide)).2 (by omega)
   subst this
   rw [fS] at hK
   exact hK _ _ _ _ (B4 _) k p
  ·refine Jp _ (A1o (ac:=c1) (bc:=c2) p q r e (by omega) hK) ?_
   rintro v h' ⟨A2,a,c,t,u⟩
   exact ⟨A2,a,c,t,u _⟩
def H2{x y:Int}{an bn:Nat}(ma:Mw h A an x)(mb:Mw h B bn y)(ha:an<=ac)(hl:an<=4000000000)(hxy:y<=x)(hK:∀ A' m c' h',h.le h'->m<=c'->Mw h' A' m (x-y)->K (.slice A' m c') h'):aZ prog G9 #[.slice A an ac,.slice B bn bc] h K:=by
 have a:bn<=an:=mb.len_le (by decide) (cY hxy (ma.lt (by decide)))
 refine Rg _ _ _ _ _ _ ?_
 unfold Kr
 refine E4 (fun r=>?_) (fun r=>?_)
 ·have:=(mb.len_zero (by decide)).2 (by omega)
  subst this
  rw [Int.sub_zero] at hK
  exact hK _ _ _ _ (B4 _) ha ma
 ·obtain ⟨E,rfl,n,p,C,rfl⟩:=ma
  obtain ⟨t,rfl,o,q,D,rfl⟩:=mb
  refine Fd n rfl (by omega) ?_
  intro A1 c1 u z i e
  refine ⟨_,_,_,rfl,?_⟩
  obtain ⟨b,g,l⟩:=e.win (by rintro rfl;rw [gQ] at a;omega)
  refine El l rfl (o.mono i) rfl p q a hxy (by omega) ?_
  intro zs s c f d k
  refine ⟨rfl,?_⟩
  rw [<- c]
  refine Q4 k.sl f (by have:=e.2.1;omega) (by omega) ?_
  intro m w j
  rw [d] at j
  exact ⟨_,_,_,rfl,hK _ _ _ _ (B0 i k.le) (by have:=e.2.1;omega) j⟩
def Jb{zs xs:List Int}{an bn:Nat}{wd:Int}(w:Win .u64 h g b e A pre zs post)(hn:an=zs.length)(sx:SlI .u64 g B xs)(hm:bn=xs.length)(dz:Dig b64 zs)(dx:Dig b64 xs)(hle:zs.length=xs.length)(hw:0<=wd/\wd<18446744073709551616)(hl:xs.length<=10000000000)
 (hK:∀ zs' c h',zs'.length=zs.length->Dig b64 zs'->(0<=c/\c<18446744073709551616)->val b64 zs'+c*b64^zs.length=val b64 zs+val b64 xs*wd->Win .u64 h' g b e A pre zs' post->K (U c) h'):aZ prog Bu #[.slice A an ac,.slice B bn bc,U wd] h K:=by
 subst hn hm
 refine Xo _ _ _ _ _ _ _ ?_
 unfold Wm
 refine ⟨fun l r=>∃ (k:Nat) (c:Int) (d:List Int),l=[U c,I k]/\k<=xs.length/\d.length=zs.length/\Dig b64 d/\(0<=c/\c<18446744073709551616)/\Win .u64 r g b e A pre d post/\d.drop k=zs.drop k/\val b64 (d.take k)+c*b64^k=val b64 (zs.take k)+val b64 (xs.take k)*wd,fun l _=>xs.length-(iAt l 1).toNat,⟨0,0,zs,rfl,by omega,rfl,dz,by omega,w,rfl,by simp [val]⟩,?_⟩
 rintro c i r ⟨k,F,d,p,H,f,o,u,m,j,x⟩
 obtain ⟨rfl,rfl⟩:c=F/\i=(k:Int):=by simpa using p
 refine B7 (fun C=>?_) (fun C=>?_)
 ·have y:=N8 dx k
  have E:=N8 o k
  have q:=E8 j
  have D:=C4 b64 xs k
  have z:=C4 b64 zs k
  have hm:0<=xs.getD k 0*wd/\xs.getD k 0*wd<=18446744073709551615*18446744073709551615:=⟨aT y.1 hw.1,dI (by omega) (by omega) hw.1 (by decide)⟩
  refine (sx.mono m.le).load rfl (by omega) (by omega) ?_
  rw [aC]
  refine Nt y hw ⟨_,_,rfl,?_⟩
  generalize hmm:xs.getD k 0*wd=mm at *
  refine Dq (by omega) u (by omega) ⟨_,_,rfl,?_⟩
  refine m.sl.load f.symm (by omega) (by omega) ?_
  rw [aC]
  refine Dq E (by omega) (by omega) ⟨_,_,rfl,?_⟩
  obtain ⟨a,t,_⟩:=SlV.at m.sl (i:=k) (by simp;omega)
  refine ⟨a,t,by omega,by omega,m.storeN F6 t (by omega) ?_⟩
  intro h' G
  rw [B8 (n:=(k:Int)+1) (by omega) (by omega)]
  rw [C3 (n:=mm/18446744073709551616+(mm%18446744073709551616+c+0)/18446744073709551616) (by omega) (by omega)]
  rw [C3 (by omega) (by omega)]
  refine ⟨⟨k+1,_,_,rfl,by omega,by simpa using f,o.set (Et _),by omega,G,?_,?_⟩,by simp only [iAt,aF,aM];omega⟩
  ·rw [D5 (by omega)];exact D8 j
  ·rw [C8 (by omega),F1,aG,aJ (by omega),aW,D,z,<- q]
   have key:(d.getD k 0+(mm%18446744073709551616+c+0)%18446744073709551616+0)%18446744073709551616+18446744073709551616*(mm/18446744073709551616+(mm%18446744073709551616+c+0)/18446744073709551616+(d.getD k 0+(mm%18446744073709551616+c+0)%18446744073709551616+0)/18446744073709551616)=d.getD k 0+mm+c:=by omega
   generalize (d.getD k 0+(mm%18446744073709551616+c+0)%18446744073709551616+0)%18446744073709551616=dg at *
   generalize mm/18446744073709551616+(mm%18446744073709551616+c+0)/18446744073709551616+(d.getD k 0+(mm%18446744073709551616+c+0)%18446744073709551616+0)/18446744073709551616=cn at *
   rw [<- hmm] at key
   grind
 ·have s:k=xs.length:=by omega
  subst s
  rw [bB,<- hle,bB,<- f,bB] at x
  exact hK d c r f o u (by rw [<- f];exact x) m
def Kj{zs xs:List Int}{an bn:Nat}{wd:Int}(w:Win .u64 h g b e A pre zs post)(hn:an=zs.length)(sx:SlI .u64 g B xs)(hm:bn=xs.length)(dz:Dig b64 zs)(dx:Dig b64 xs)(hle:zs.length=xs.length)(hw:0<=wd/\wd<18446744073709551616)(hl:xs.length<=10000000000)
 (hK:∀ zs' c h',zs'.length=zs.length->Dig b64 zs'->(0<=c/\c<18446744073709551616)->val b64 zs'=val b64 zs-val b64 xs*wd+c*b64^zs.length->Win .u64 h' g b e A pre zs' post->K (U c) h'):aZ prog U8 #[.slice A an ac,.slice B bn bc,U wd] h K:=by
 subst hn hm
 refine Mc _ _ _ _ _ _ _ ?_
 unfold Hj
 refine ⟨fun l r=>∃ (k:Nat) (c:Int) (d:List Int),l=[U c,I k]/\k<=xs.length/\d.length=zs.length/\Dig b64 d/\(0<=c/\c<18446744073709551616)/\Win .u64 r g b e A pre d post/\d.drop k=zs.drop k/\val b64 (d.take k)=val b64 (zs.take k)-val b64 (xs.take k)*wd+c*b64^k,fun l _=>xs.length-(iAt l 1).toNat,⟨0,0,zs,rfl,by omega,rfl,dz,by omega,w,rfl,by simp [val]⟩,?_⟩
 rintro c i r ⟨k,F,d,p,H,f,o,x,m,j,s⟩
 obtain ⟨rfl,rfl⟩:c=F/\i=(k:Int):=by simpa using p
 refine B7 (fun C=>?_) (fun C=>?_)
 ·have y:=N8 dx k
  have E:=N8 o k
  have q:=E8 j
  have D:=C4 b64 xs k
  have z:=C4 b64 zs k
  have hm:0<=xs.getD k 0*wd/\xs.getD k 0*wd<=18446744073709551615*18446744073709551615:=⟨aT y.1 hw.1,dI (by omega) (by omega) hw.1 (by decide)⟩
  refine (sx.mono m.le).load rfl (by omega) (by omega) ?_
  rw [aC]
  refine Nt y hw ⟨_,_,rfl,?_⟩
  generalize hmm:xs.getD k 0*wd=mm at *
  refine Dq (by omega) x (by omega) ⟨_,_,rfl,?_⟩
  refine m.sl.load f.symm (by omega) (by omega) ?_
  rw [aC]
  refine Fu E (by omega) (by omega) ⟨_,_,rfl,?_⟩
  obtain ⟨a,u,_⟩:=SlV.at m.sl (i:=k) (by simp;omega)
  refine ⟨a,u,by omega,by omega,m.storeN F6 u (by omega) ?_⟩
  intro h' G
  rw [B8 (n:=(k:Int)+1) (by omega) (by omega)]
  rw [C3 (n:=mm/18446744073709551616+(mm%18446744073709551616+c+0)/18446744073709551616) (by omega) (by omega)]
  rw [C3 (by split<;>omega) (by split<;>omega)]
  refine ⟨⟨k+1,_,_,rfl,by omega,by simpa using f,o.set (Et _),by split<;>omega,G,?_,?_⟩,by simp only [iAt,aF,aM];omega⟩
  ·rw [D5 (by omega)];exact D8 j
  ·rw [C8 (by omega),F1,aG,aJ (by omega),aW,D,z,<- q,s]
   have key:(d.getD k 0-(mm%18446744073709551616+c+0)%18446744073709551616-0)%18446744073709551616=d.getD k 0-mm-c+18446744073709551616*(mm/18446744073709551616+(mm%18446744073709551616+c+0)/18446744073709551616+(if d.getD k 0-(mm%18446744073709551616+c+0)%18446744073709551616-0<0 then 1 else 0)):=by split<;>omega
   rw [key]
   generalize mm/18446744073709551616+(mm%18446744073709551616+c+0)/18446744073709551616+(if d.getD k 0-(mm%18446744073709551616+c+0)%18446744073709551616-0<0 then 1 else 0)=cn at *
   rw [<- hmm]
   grind
 ·have t:k=xs.length:=by omega
  subst t
  rw [bB,<- hle,bB,<- f,bB] at s
  exact hK d c r f o x (by rw [<- f];exact s) m
end
def Yl{x z:Int}{s:Nat}(hs:s<=64)(_hx:0<=x/\x<18446744073709551616)(hz:0<=z/\z<(2:Int)^s):
 bor .u64 z (x*2^s%18446744073709551616)=z+x*2^s%18446744073709551616/\z+x*2^s%18446744073709551616<18446744073709551616/\x*2^s%18446744073709551616=2^s*(x%2^(64-s)):=by
 have k:=Ac hs
 have c:0<(2:Int)^s:=bK (by decide)
 have j:0<(2:Int)^(64-s):=bK (by decide)
 have a:z<18446744073709551616:=by
  have:(2:Int)^s*1<=2^s*2^(64-s):=aI (by omega) (by omega)
  omega
 have g:x*2^s%18446744073709551616=2^s*(x%2^(64-s)):=by
  rw [<- k,aR x,Int.mul_emod_mul_of_pos _ _ c]
 have d:=Et (x*2^s)
 have f:0<=x%2^(64-s):=aU _ (by omega)
 have i:(x*2^s%18446744073709551616).toNat=2^s*(x%2^(64-s)).toNat:=by
  rw [g,Int.toNat_mul (by omega) f]
  rw [hO (by decide)];rfl
 have e:z.toNat<2^s:=by
  have:((2^s:Nat):Int)=(2:Int)^s:=by simp
  omega
 have b:bor .u64 z (x*2^s%18446744073709551616)=z+x*2^s%18446744073709551616:=by
  rw [A73 ⟨hz.1,a⟩ d,i,Nat.or_comm,A8d e,<- i]
  omega
 refine ⟨b,?_,g⟩
 rw [<- b,A73 ⟨hz.1,a⟩ d]
 have:z.toNat ||| (x*2^s%18446744073709551616).toNat<2^64:=Nat.or_lt_two_pow (by omega) (by have:=d.2;show _<_;omega)
 omega
def Kz(k:Nat):b64^k=(2:Int)^(64*k):=by
 rw [show b64=(2:Int)^64 by decide,<- Int.pow_mul]
section
variable {h g:bC} {K:VP} {A B:Option bH} {ac bc:Nat}
def U4{x:Int}{an s:Nat}(ma:Mw h A an x)(ha:an<=ac)(hl:an<=1000000000)(hs:s<=10000000000)(hK:∀ A' m c' h',h.le h'->m<=c'->Mw h' A' m (x*2^s)->K (.slice A' m c') h'):aZ prog T6 #[.slice A an ac,U s] h K:=by
 have t:=ma.len_zero (by decide)
 refine A1p _ _ _ _ ?_
 unfold Za
 refine E4 (fun h0=>?_) (fun h0=>E4 (fun o=>?_) (fun o=>?_))
 ·have:=t.2 (by omega)
  subst this
  rw [fP] at hK
  exact hK _ _ _ _ (B4 _) ha ma
 ·have:s=0:=by omega
  subst this
  rw [iG,Int.mul_one] at hK
  exact hK _ _ _ _ (B4 _) ha ma
 ·obtain ⟨a,rfl,N,dx,nx,rfl⟩:=ma
  obtain ⟨k0,hk0⟩:∃ k0,k0=s/64:=⟨_,rfl⟩
  obtain ⟨r,hr⟩:∃ r,r=s%64:=⟨_,rfl⟩
  have M:B6 (C1 (cP (s:Int) 64))=(k0:Int):=by
   rw [bJ (by omega),C3 (by omega) (by omega),B8 (by omega) (by omega)];omega
  have O:dM (s:Int) 64=(r:Int):=by rw [bX (by omega)];omega
  have er:C1 ((64:Int)-(r:Int))=((64-r:Nat):Int):=by rw [C3 (by omega) (by omega)];omega
  simp only [M,O,er,aC]
  have e1:B6 (B6 ((a.length:Int)+k0)+1)=((a.length+k0+1:Nat):Int):=by rw [B8 (n:=(a.length:Int)+k0) (by omega) (by omega),B8 (by omega) (by omega)];omega
  rw [e1]
  refine K3 Q0 (by omega) (by omega) (by omega) ?_
  intro b E
  rw [aC]
  refine ⟨_,_,_,rfl,?_⟩
  have D:0<(2:Int)^r:=bK (by decide)
  have u:0<(2:Int)^(64-r):=bK (by decide)
  have f:=Ac (s:=r) (by omega)
  refine ⟨fun l h'=>∃ (k:Nat) (zs:List Int),l=[I k]/\k<=a.length/\zs.length=a.length+k0+1/\Dig b64 zs/\h'=blk .u64 C2 h b zs/\zs.drop (k+k0+1)=aD (a.length-k) 0/\zs.getD (k+k0) 0<2^r/\val b64 (zs.take (k+k0+1))=val b64 (a.take k)*2^s,fun l _=>a.length-(iAt l 0).toNat,⟨0,_,rfl,by omega,by simp,I3 (by decide) _,rfl,?_,?_,?_⟩,?_⟩
  ·rw [bI];congr 1;omega
  ·have:(aD (a.length+k0+1) (0:Int)).getD (0+k0) 0=0:=by simp [cN,List.getElem?_replicate];split<;>rfl
   rw [this];exact D
  ·rw [cD,Cn];simp [val]
  rintro i hp ⟨k,zs,q,hk,c,j,rfl,p,hg,d⟩
  obtain rfl:=sI1 q
  have y:=W8 (k:=.u64) (e:=C2) E zs
  refine B7 (fun o=>?_) (fun o=>?_)
  ·have z:=N8 dx k
   have V:=N8 j (k+k0)
   have S:=C4 b64 a k
   have L:=C4 b64 zs (k+k0)
   have W:B6 ((k:Int)+k0)=((k+k0:Nat):Int):=by rw [B8 (by omega) (by omega)];omega
   have Z:B6 (((k+k0:Nat):Int)+1)=((k+k0+1:Nat):Int):=by rw [B8 (by omega) (by omega)];omega
   rw [W,Z]
   refine (N.mono y).load rfl (by omega) (by omega) ?_
   refine (Dn .u64 C2 h b zs).load c.symm (by omega) (by omega) ?_
   simp only [aC]
   refine B7 (fun e=>absurd e (by omega)) (fun _=>?_)
   refine ⟨_,rfl,by omega,by omega,?_⟩
   obtain ⟨J,H,o3⟩:=Yl (s:=r) (by omega) z ⟨V.1,hg⟩
   rw [aJ (show r<=64 by omega),E7,J,B75 (show 64-r<=64 by omega)]
   have Q:=Et (a.getD k 0*2^r)
   refine Fe (zs:=zs) (i:=k+k0) F6 (by first|omega|(rw [bN];omega)) ?_
   refine B7 (fun e=>absurd e (by omega)) (fun _=>?_)
   refine ⟨_,rfl,by omega,by omega,?_⟩
   refine Fe (zs:=zs.set (k+k0) (zs.getD (k+k0) 0+a.getD k 0*2^r%18446744073709551616)) (i:=k+k0+1) F6 (by first|omega|(rw [bN];omega)) ?_
   have F:0<=a.getD k 0/2^(64-r)/\a.getD k 0/2^(64-r)<2^r:=⟨bZ z.1 (by omega),bL u (by rw [f];exact z.2)⟩
   have X:(2:Int)^r<=9223372036854775808:=by
    have:=C9 (B:=2) (by decide) (show r<=63 by omega)
    have e:(2:Int)^63=9223372036854775808:=by decide
    omega
   rw [B8 (n:=(k:Int)+1) (by omega) (by omega)]
   refine ⟨⟨k+1,(zs.set (k+k0) (zs.getD (k+k0) 0+a.getD k 0*2^r%18446744073709551616)).set (k+k0+1) (a.getD k 0/2^(64-r)),rfl,by omega,by simpa using c,(j.set ⟨by omega,H⟩).set ⟨F.1,by show _<(18446744073709551616:Int);omega⟩,rfl,?_,?_,?_⟩,by simp only [iAt,aF];omega⟩
   ·rw [show k+1+k0+1=(k+k0+1)+1 by omega,D5 (by omega),D5 (by omega),<- dG,p,bI]
    congr 1
   ·rw [show k+1+k0=k+k0+1 by omega]
    have:((zs.set (k+k0) (zs.getD (k+k0) 0+a.getD k 0*2^r%18446744073709551616)).set (k+k0+1) (a.getD k 0/2^(64-r))).getD (k+k0+1) 0=a.getD k 0/2^(64-r):=by
     rw [cN,iF (by rw [bN];omega)];rfl
    rw [this];exact F.2
   ·rw [show k+1+k0+1=(k+k0+1)+1 by omega,C8 (by rw [bN];omega),F1,C8 (by omega),F1]
    simp only [aG,aH,cT]
    rw [aJ (show k+k0<=zs.length by omega),aW,S]
    rw [L] at d
    have w:(2:Int)^s=b64^k0*2^r:=by
     rw [Kz,<- bG];congr 1;omega
    have g:b64^(k+k0)=b64^k*b64^k0:=bG _ _ _
    have aa:=aO (a.getD k 0) (2^(64-r))
    have key:a.getD k 0*2^r%18446744073709551616+18446744073709551616*(a.getD k 0/2^(64-r))=a.getD k 0*2^r:=by
     rw [o3,<- f,cV,<- cX]
     have:a.getD k 0%2^(64-r)+2^(64-r)*(a.getD k 0/2^(64-r))=a.getD k 0:=by omega
     rw [this,aR]
    generalize a.getD k 0*2^r%18446744073709551616=lo at *
    generalize a.getD k 0/2^(64-r)=hi at *
    rw [w] at d ⊢
    rw [g] at d ⊢
    have T:(val b64 (a.take k)+b64^k*a.getD k 0)*(b64^k0*2^r)=val b64 (a.take k)*(b64^k0*2^r)+b64^k*b64^k0*(a.getD k 0*2^r):=by grind
    rw [T,<- d,<- key]
    grind
  ·have C:k=a.length:=by omega
   subst C
   rw [bB,aL (by omega)] at d
   rw [<- c]
   refine Q4 (Dn _ _ _ _ _) j (bF _) (by omega) ?_
   intro m R G
   rw [d] at G
   exact ⟨_,_,_,rfl,hK _ _ _ _ (W8 E _) R G⟩
def Hc{x:Int}{an s:Nat}(ma:Mw h A an x)(hl:an<=1000000000)(hs:s<=1000000000000)(hK:∀ A' m c' h',h.le h'->m<=c'->Mw h' A' m (x/2^s)->K (.slice A' m c') h'):aZ prog Bt #[.slice A an ac,U s] h K:=by
 have y:=ma.nonneg (by decide)
 have ah:=ma.lt (by decide)
 refine Xk _ _ _ _ ?_
 unfold Wd
 obtain ⟨k0,hk0⟩:∃ k0,k0=s/64:=⟨_,rfl⟩
 obtain ⟨r,hr⟩:∃ r,r=s%64:=⟨_,rfl⟩
 have J:C1 (cP (s:Int) 64)=(k0:Int):=by
  rw [bJ (by omega),C3 (by omega) (by omega)];omega
 have q:B6 (k0:Int)=(k0:Int):=B8 (by omega) (by omega)
 have em:dM (s:Int) 64=(r:Int):=by rw [bX (by omega)];omega
 have er:C1 ((64:Int)-(r:Int))=((64-r:Nat):Int):=by rw [C3 (by omega) (by omega)];omega
 have en:C1 (an:Int)=(an:Int):=C3 (by omega) (by omega)
 simp only [J,q,em,er,en,aC]
 have j:(2:Int)^s=b64^k0*2^r:=by
  rw [Kz,<- bG];congr 1;omega
 refine B7 (fun h1=>?_) (fun h1=>?_)
 ·have:x/2^s=0:=by
   apply bU y
   rw [j]
   have O:=C9 (B:=b64) (by decide) (show an<=k0 by omega)
   have W:b64^k0*1<=b64^k0*2^r:=aI (by have:0<(2:Int)^r:=bK (by decide);omega) (aN (D7 (by decide) _))
   omega
  rw [this] at hK
  exact hK _ _ _ _ (B4 _) (bF _) Mag.zero
 ·obtain ⟨a,rfl,S,p,nx,rfl⟩:=ma
  have F:B6 ((a.length:Int)-k0)=((a.length-k0:Nat):Int):=by rw [B8 (by omega) (by omega)];omega
  rw [F]
  refine K3 Q0 (by omega) (by omega) (by omega) ?_
  intro b R
  rw [aC]
  refine ⟨_,_,_,rfl,?_⟩
  have X:0<(2:Int)^r:=bK (by decide)
  have d:=Ac (s:=r) (by omega)
  have E:0<(2:Int)^(64-r):=bK (by decide)
  have ae:(a.drop k0).length=a.length-k0:=aQ
  have f:∀ i,(a.drop k0).getD i 0=a.getD (k0+i) 0:=fun i=>A3s
  refine ⟨fun l h'=>∃ (k:Nat) (zs:List Int),l=[I k]/\k<=a.length-k0/\zs.length=a.length-k0/\Dig b64 zs/\h'=blk .u64 C2 h b zs/\2^r*val b64 (zs.take k)+(a.drop k0).getD 0 0%2^r=val b64 ((a.drop k0).take k)+b64^k*((a.drop k0).getD k 0%2^r),fun l _=>a.length-(iAt l 0).toNat,⟨0,_,rfl,by omega,by simp,I3 (by decide) _,rfl,by simp [val]⟩,?_⟩
  rintro i ag ⟨k,zs,w,hk,c,u,rfl,Z⟩
  obtain rfl:=sI1 w
  have n:∀ zs,h.le (blk .u64 C2 h b zs):=fun zs=>W8 (k:=.u64) (e:=C2) R zs
  have V:=N8 (p.drop k0) k
  refine B7 (fun h2=>?_) (fun h2=>?_)
  ·have e2:B6 ((k:Int)+k0)=((k0+k:Nat):Int):=by rw [B8 (by omega) (by omega)];omega
   have e3:B6 (((k0+k:Nat):Int)+1)=((k0+(k+1):Nat):Int):=by rw [B8 (by omega) (by omega)];omega
   rw [e2,e3]
   refine (S.mono (n zs)).load rfl (by omega) (by omega) ?_
   refine B7 (fun e=>absurd e (by omega)) (fun _=>?_)
   refine ⟨_,rfl,by omega,by omega,?_⟩
   simp only [aC]
   rw [<- f k,B75 (show r<=64 by omega)]
   have g:0<=(a.drop k0).getD k 0/2^r:=bZ V.1 (by omega)
   have t:(a.drop k0).getD k 0/2^r<2^(64-r):=by
    apply bL X
    rw [aR,d];exact V.2
   have T:(2:Int)^(64-r)<=18446744073709551616:=by
    rw [<- d]
    have:=aE (show 1<=(2:Int)^r by omega) (aN E);omega
   refine Fe (zs:=zs) (i:=k) F6 (by first|omega|(rw [bN];omega)) ?_
   have d1:Dig b64 (zs.set k ((a.drop k0).getD k 0/2^r)):=u.set ⟨g,by show _<(18446744073709551616:Int);omega⟩
   have l1:(zs.set k ((a.drop k0).getD k 0/2^r)).length=a.length-k0:=by rw [bN];exact c
   have g1:(zs.set k ((a.drop k0).getD k 0/2^r)).getD k 0=(a.drop k0).getD k 0/2^r:=by simp [cN,show k<zs.length by omega]
   have vr:=C4 b64 (a.drop k0) k
   have o:∀ z:Int,2^r*z=(a.drop k0).getD k 0-(a.drop k0).getD k 0%2^r+18446744073709551616*((a.drop k0).getD (k+1) 0%2^r)->
    2^r*val b64 ((zs.set k z).take (k+1))+(a.drop k0).getD 0 0%2^r=val b64 ((a.drop k0).take (k+1))+b64^(k+1)*((a.drop k0).getD (k+1) 0%2^r):=by
    intro z ez
    rw [C8 (by omega),F1,aG,aJ (by omega),vr,aW]
    have F:2^r*(val b64 (zs.take k)+b64^k*z)=2^r*val b64 (zs.take k)+b64^k*(2^r*z):=by grind
    rw [F,ez]
    grind
   have af:=aO ((a.drop k0).getD k 0) (2^r)
   have C:B6 ((k:Int)+1)=((k+1:Nat):Int):=by rw [B8 (by omega) (by omega)];omega
   rw [C]
   refine B7 (fun h3=>?_) (fun h3=>?_)
   ·have ld:=(Dn .u64 C2 h b (zs.set k ((a.drop k0).getD k 0/2^r)))
    obtain ⟨aa,D,H⟩:=SlV.at ld (i:=k) (by simp;omega)
    refine ⟨aa,D,by omega,by omega,(a.drop k0).getD k 0/2^r,?_,?_⟩
    ·rw [cH,H]
     congr 1
     simp only [List.getElem_map]
     congr 1
     simp
    refine (S.mono (n _)).load rfl (by omega) (by omega) ?_
    refine B7 (fun e=>absurd e (by omega)) (fun _=>?_)
    refine ⟨_,rfl,by omega,by omega,?_⟩
    simp only [aC]
    rw [<- f (k+1)]
    have gr:=N8 (p.drop k0) (k+1)
    obtain ⟨o1,o2,o3⟩:=Yl (s:=64-r) (by omega) gr ⟨g,t⟩
    rw [aJ (show 64-r<=64 by omega),E7,o1]
    refine Fe (zs:=zs.set k ((a.drop k0).getD k 0/2^r)) (i:=k) F6 (by first|omega|(rw [bN];omega)) ?_
    rw [List.set_set]
    have ad:=Et ((a.drop k0).getD (k+1) 0*2^(64-r))
    refine ⟨⟨k+1,zs.set k ((a.drop k0).getD k 0/2^r+(a.drop k0).getD (k+1) 0*2^(64-r)%18446744073709551616),rfl,by omega,by simpa using c,u.set ⟨by omega,o2⟩,rfl,o _ ?_⟩,by simp only [iAt,aF];omega⟩
    rw [o3,show 64-(64-r)=r by omega,cX,<- cV,d]
    omega
   ·have G:(a.drop k0).getD (k+1) 0=0:=by simp only [cN,cU (show (a.drop k0).length<=k+1 by omega)];rfl
    refine ⟨⟨k+1,zs.set k ((a.drop k0).getD k 0/2^r),rfl,by omega,l1,d1,rfl,o _ ?_⟩,by simp only [iAt,aF];omega⟩
    rw [G,gX,fR,fS];omega
  ·have Q:k=a.length-k0:=by omega
   subst Q
   have G:(a.drop k0).getD (a.length-k0) 0=0:=by simp only [cN,cU (show (a.drop k0).length<=a.length-k0 by omega)];rfl
   rw [G,gX,fR,fS,aL (by omega),aL (by omega)] at Z
   have N:=aU ((a.drop k0).getD 0 0) (show (2:Int)^r≠0 by omega)
   have L:=aP ((a.drop k0).getD 0 0) X
   have M:val b64 a/2^s=val b64 zs:=by
    have sp:=F5 b64 a (i:=k0) (by omega)
    have O:=L5 (by decide) (p.take k0)
    have W:=C7 (by decide) (p.take k0)
    rw [aG,aJ (by omega)] at O
    rw [j,<- fO (aN (D7 (by decide) _)),sp,fX _ _ (by have:=D7 (B:=b64) (by decide) k0;omega),bU W O,dL,<- Z,fU,fX _ _ (by omega),bU N L,dL]
   rw [<- c]
   refine Q4 (Dn _ _ _ _ _) u (bF _) (by omega) ?_
   intro m hm hM
   rw [<- M] at hM
   exact ⟨_,_,_,rfl,hK _ _ _ _ (W8 R _) hm hM⟩
end
def Db(B:Int)(xs:List Int)(n:Nat):val B (xs++aD n 0)=val B xs:=by rw [G2,Cn];omega
def Ns{xs:List Int}{k:Nat}(h:gC xs)(hk:k<xs.length):gC (xs.drop k):=by
 unfold gC at *
 rwa [List.getLast?_drop,iN (by omega)]
def Mw.of{h:bC}{A:Option bH}{xs:List Int}(s:SlI .u64 h A xs)(d:Dig b64 xs)(n:gC xs):Mw h A xs.length (val b64 xs):=⟨xs,rfl,s,d,n,rfl⟩
def A1i{k:dX}{h:bC}{A:Option bH}{xs:List Int}(s:SlI k h A xs){c l:Nat}(hl:l<=xs.length)(hc:xs.length<=c):SlI k h (K5 A c l 1) (xs.drop l):=by
 have:=s.cut (c:=c) (l:=l) (m:=xs.length) hl (bF _) hc
 rwa [aL (by rw [aQ];omega)] at this
def Ke{k:dX}{h:bC}{A:Option bH}{xs:List Int}(s:SlI k h A xs){c m:Nat}(hm:m<=xs.length)(hc:xs.length<=c):SlI k h A (xs.take m):=by
 have:=s.cut (c:=c) (l:=0) (m:=m) (by omega) hm hc
 simpa [I0] using this
def Bm{h:bC}{K:VP}{A:Option bH}{ac n:Nat}{v:Int}{xs:List Int}(s:SlI .u64 h A xs)(hd:Dig b64 xs)(hn:n=xs.length)(hv:val b64 xs=v)(hc:n<=ac)(hl:n<=10000000000)(hK:∀ m,m<=n->Mw h A m v->K (.slice A m ac) h):aZ prog I6 #[.slice A n ac] h K:=by
 subst hn hv
 exact Q4 s hd hc hl hK
def C4x(N:Nat):Prop:=∀ {h:bC} {K:VP} {A B:Option bH} {ac bc an bn:Nat} {x y:Int},an+bn<=N->Mw h A an x->Mw h B bn y->an<=ac->bn<=bc->an<=1000000000->bn<=1000000000->
 (∀ A' m c' h',h.le h'->m<=c'->Mw h' A' m (x*y)->K (.slice A' m c') h')->aZ prog D4 #[.slice A an ac,.slice B bn bc] h K
section
variable {h g:bC} {K:VP} {A B:Option bH} {ac bc:Nat}
def C3f{xs ys:List Int}{b:Nat}(hb:h b=none)(sx:SlI .u64 h A xs)(dx:Dig b64 xs)(sy:SlI .u64 h B ys)(dy:Dig b64 ys)(hl:xs.length<=1000000000)(hl2:ys.length<=1000000000)
 (hK:∀ A' m c' h',h.le h'->m<=c'->Mw h' A' m (val b64 xs*val b64 ys)->K (.slice A' m c') h'):
 Y8 prog K A xs.length ac B ys.length (some ⟨b,0,none⟩) (xs.length+ys.length) (xs.length+ys.length) (blk .u64 C2 h b (aD (xs.length+ys.length) 0)):=by
 unfold Y8
 refine ⟨fun l z=>∃ (k:Nat) (zs:List Int),l=[I k]/\k<=ys.length/\zs.length=xs.length+ys.length/\Dig b64 zs/\Win .u64 z h b C2 (some ⟨b,0,none⟩) [] zs []/\zs.drop (k+xs.length)=aD (ys.length-k) 0/\val b64 (zs.take (k+xs.length))=val b64 xs*val b64 (ys.take k),fun l _=>ys.length-(iAt l 0).toNat,⟨0,_,rfl,by omega,by simp,I3 (by decide) _,Win.blk .u64 C2 hb _,?_,?_⟩,?_⟩
 ·rw [bI];congr 1;omega
 ·rw [cD,Cn];simp [val]
 rintro i z ⟨k,zs,p,O,j,f,w,o,t⟩
 obtain rfl:=sI1 p
 refine B7 (fun D=>?_) (fun D=>?_)
 ·have L:=N8 dy k
  have H:=C4 b64 ys k
  have J:B6 ((k:Int)+xs.length)=((k+xs.length:Nat):Int):=by rw [B8 (by omega) (by omega)];omega
  rw [J]
  refine (sy.mono w.le).load rfl (by omega) (by omega) ?_
  simp only [aC]
  refine ⟨⟨by omega,by omega⟩,⟨by omega,by omega⟩,?_⟩
  have a:((zs.drop k).take (k+xs.length-k)).length=xs.length:=by rw [aG,aQ];omega
  refine Jb (w.sub (l:=k) (m:=k+xs.length) (c:=xs.length+ys.length) (by omega) (by omega) (by omega)) (by rw [a];omega) sx rfl ((f.drop k).take _) dx a L (by omega) ?_
  intro g c h' d e G s M
  rw [a] at d
  have N:=w.whole (l:=k) (m:=k+xs.length) (by omega) (by omega) (by omega) M
  refine ⟨_,rfl,_,rfl,by omega,by omega,?_⟩
  have q:(zs.take k++g++zs.drop (k+xs.length)).length=xs.length+ys.length:=by
   simp only [aH,aG,aQ];omega
  refine N.storeN (i:=k+xs.length) F6 rfl (by omega) ?_
  intro Q E
  rw [B8 (n:=(k:Int)+1) (by omega) (by omega)]
  have y:(zs.take k++g++zs.drop (k+xs.length)).take (k+xs.length)=zs.take k++g:=by
   apply dA
   simp only [aH,aG];omega
  have x:(zs.take k++g++zs.drop (k+xs.length)).drop (k+xs.length)=zs.drop (k+xs.length):=by
   apply eK
   simp only [aH,aG];omega
  refine ⟨⟨k+1,_,rfl,by omega,by rw [bN];exact q,(((f.take k).append e).append (f.drop _)).set G,E,?_,?_⟩,by simp only [iAt,aF];omega⟩
  ·rw [show k+1+xs.length=(k+xs.length)+1 by omega,D5 (by omega),<- dG,x,o,bI]
   congr 1
  ·rw [show k+1+xs.length=(k+xs.length)+1 by omega,C8 (by omega),y,F1,G2,H]
   simp only [aH,aG]
   rw [aJ (by omega),d,bG]
   have r:val b64 (zs.take (k+xs.length))=val b64 (zs.take k)+b64^k*val b64 ((zs.drop k).take (k+xs.length-k)):=by
    rw [show k+xs.length-k=xs.length by omega,List.take_add,G2,aG,aJ (by omega)]
   rw [a] at s
   rw [r] at t
   grind
 ·have u:k=ys.length:=by omega
  subst u
  rw [bB,aL (by omega)] at t
  rw [<- j]
  refine Q4 w.sl f (bF _) (by omega) ?_
  intro m F C
  rw [t] at C
  exact ⟨_,_,_,rfl,hK _ _ _ _ w.le F C⟩
def Qh{x y:Int}{an bn N:Nat}(ih:C4x N)(hN:2*bn<=N)(ma:Mw h A an x)(mb:Mw h B bn y)(ha:an<=ac)(hbc:bn<=bc)(hl:an<=1000000000)(hb0:0<bn)(hba:bn<=an)(hK:∀ A' m c' h',h.le h'->m<=c'->Mw h' A' m (x*y)->K (.slice A' m c') h'):aZ prog Ct #[.slice A an ac,.slice B bn bc] h K:=by
 have ae:=mb.nonneg (by decide)
 have C:=mb.lt (by decide)
 obtain ⟨a,rfl,sx,Q,nx,rfl⟩:=ma
 refine Sv _ _ _ _ _ _ ?_
 unfold Pe
 have e1:B6 ((a.length:Int)+bn)=((a.length+bn:Nat):Int):=by rw [B8 (by omega) (by omega)];omega
 rw [e1]
 refine K3 Q0 (by omega) (by omega) (by omega) ?_
 intro b hb
 rw [aC]
 refine ⟨_,_,_,rfl,?_⟩
 refine ⟨fun l J=>∃ (k:Nat) (zs:List Int) (g:bC),l=[I k]/\k<=a.length+bn/\h.le g/\zs.length=a.length+bn/\Dig b64 zs/\Win .u64 J g b C2 (some ⟨b,0,none⟩) [] zs []/\val b64 zs=val b64 (a.take k)*y,fun l _=>a.length+bn-(iAt l 0).toNat,⟨0,_,h,rfl,by omega,B4 h,by simp,I3 (by decide) _,Win.blk .u64 C2 hb _,by rw [Cn];simp [val]⟩,?_⟩
 rintro i J ⟨k,zs,g,X,hk,O,R,t,w,hv⟩
 obtain rfl:=sI1 X
 refine B7 (fun h1=>?_) (fun h1=>?_)
 ·have e2:B6 ((k:Int)+bn)=((k+bn:Nat):Int):=by rw [B8 (by omega) (by omega)];omega
  rw [e2]
  obtain ⟨en,hen⟩:∃ en,en=min a.length (k+bn):=⟨_,rfl⟩
  have e3:(if (a.length:Int)<((k+bn:Nat):Int) then (a.length:Int) else ((k+bn:Nat):Int))=(en:Int):=by split<;>omega
  rw [e3]
  simp only [aC]
  refine ⟨⟨by omega,by omega⟩,⟨by omega,by omega⟩,⟨by omega,by omega⟩,?_⟩
  have ah:((a.drop k).take (en-k)).length=en-k:=by rw [aG,aQ];omega
  have sp:SlI .u64 g (K5 A ac k 1) ((a.drop k).take (en-k)):=(sx.mono O).cut (c:=ac) (l:=k) (m:=en) (by omega) (by omega) ha
  have dp:Dig b64 ((a.drop k).take (en-k)):=(Q.drop k).take _
  have ao:=C7 (by decide) Q
  have u:∀ m,m<=en-k->gC (((a.drop k).take (en-k)).take m)->val b64 (((a.drop k).take (en-k)).take m)=val b64 ((a.drop k).take (en-k))->
   aZ prog D4 #[.slice (K5 A ac k 1) m (ac-k),.slice B bn bc] J (fun S d=>∃ (t38A:Option bH) (t38n:Nat) (t38c:Nat),S= .slice t38A t38n t38c/\Heap.le J d/\aZ prog T8 #[.slice (K5 (some ⟨b,0,none⟩) (a.length+bn) k 1) (a.length+bn-k) (a.length+bn-k),.slice t38A t38n t38c] d (fun T q=>T= .tuple #[]/\(∃ (k_1:Nat) (zs:List Int) (g:bC),[I ((k+bn:Nat):Int)]=[I k_1]/\k_1<=a.length+bn/\h.le g/\zs.length=a.length+bn/\Dig b64 zs/\Win .u64 q g b C2 (some ⟨b,0,none⟩) [] zs []/\val b64 zs=val b64 (a.take k_1)*y)/\a.length+bn-(iAt [I ((k+bn:Nat):Int)] 0).toNat<a.length+bn-(iAt [I k] 0).toNat)):=by
   intro m W p n
   have Mp:Mw g (K5 A ac k 1) m (val b64 ((a.drop k).take (en-k))):=⟨((a.drop k).take (en-k)).take m,by rw [aG];omega,Ke sp (c:=ac) (by omega) (by omega),dp.take m,p,n⟩
   refine w.call ?_
   refine ih (by omega) Mp (mb.mono O) (by omega) hbc (by omega) (by omega) ?_
   intro A' m' c' g2 l2 ap M2 h3 w3
   refine ⟨_,_,_,rfl,?_,?_⟩
   ·rw [w.eq,w3.eq]
    intro kk o e
    by_cases L:kk=b
    ·subst L;rw [C0] at e ⊢;exact e
    ·rw [B9 _ _ L] at e ⊢;exact l2 kk o e
   obtain ⟨f,H,D,E,ag,ad⟩:=M2
   have aa:=F5 b64 zs (i:=k) (by omega)
   have am:=C7 (by decide) (t.take k)
   have aj:a.take en=a.take k++(a.drop k).take (en-k):=by
    have:=List.take_add (l:=a) (i:=k) (j:=en-k)
    rwa [show k+(en-k)=en by omega] at this
   have Z:val b64 (a.take en)=val b64 (a.take k)+b64^k*val b64 ((a.drop k).take (en-k)):=by
    rw [aj,G2,aG,aJ (by omega)]
   have z:val b64 zs+b64^k*val b64 f=val b64 (a.take en)*y:=by
    rw [hv,ad,Z];grind
   have au:val b64 (a.take en)*y<b64^(a.length+bn):=by
    have t1:=L5 (by decide) (Q.take en)
    have t2:=C7 (by decide) (Q.take en)
    rw [aG,aJ (by omega)] at t1
    have t3:val b64 (a.take en)*y<=b64^en*y:=aE (by omega) ae
    have t4:b64^en*y<b64^en*b64^bn:=cQ C (D7 (by decide) en)
    rw [<- bG] at t4
    have t5:=C9 (B:=b64) (by decide) (show en+bn<=a.length+bn by omega)
    omega
   have F:val b64 (zs.drop k)+val b64 f<b64^(a.length+bn-k):=by
    have e5:b64^(a.length+bn)=b64^k*b64^(a.length+bn-k):=by rw [<- bG];congr 1;omega
    by_cases M:val b64 (zs.drop k)+val b64 f<b64^(a.length+bn-k)
    ·exact M
    ·have:=aI (show b64^(a.length+bn-k)<=val b64 (zs.drop k)+val b64 f by omega) (aN (D7 (B:=b64) (by decide) k))
     rw [cX] at this
     omega
   have al:=C7 (by decide) (t.drop k)
   have ar:f.length<=a.length+bn-k:=by
    have Mps:Mw g2 A' f.length (val b64 f):=⟨f,rfl,D,E,ag,rfl⟩
    exact Mps.len_le (by decide) (by omega)
   have ws:=w3.sub (l:=k) (m:=a.length+bn) (c:=a.length+bn) (by omega) (by omega) (by omega)
   have ak:(zs.drop k).take (a.length+bn-k)=zs.drop k:=aL (by rw [aQ];omega)
   have G:(zs.drop k).length=a.length+bn-k:=by rw [aQ];omega
   rw [ak] at ws
   refine Jc ws G.symm D H (t.drop k) E (by omega) (by rw [G];exact F) (by omega) ?_
   intro us h5 aq ai V w5
   have w6:=w3.whole (l:=k) (m:=a.length+bn) (by omega) (by omega) (by omega) w5
   refine ⟨rfl,⟨k+bn,_,g2,rfl,by omega,B0 O l2,?_,((t.take k).append ai).append (t.drop _),w6,?_⟩,by simp only [iAt,aF];omega⟩
   ·simp only [aH,aG,aQ];omega
   ·rw [aV (by omega),bW,G2,aG,aJ (by omega),V]
    have:a.take (k+bn)=a.take en:=by
     rw [hen]
     by_cases M:a.length<=k+bn
     ·rw [aJ M,bB,aL M]
     ·rw [fK (by omega)]
    rw [this,<- z,aa];grind
  have tr:=Eh (K:=fun r s=>∃ (t36A:Option bH) (t36n:Nat) (t36c:Nat),r= .slice t36A t36n t36c/\Heap.le J s/\aZ prog D4 #[.slice t36A t36n t36c,.slice B bn bc] s (fun S d=>∃ (t38A:Option bH) (t38n:Nat) (t38c:Nat),S= .slice t38A t38n t38c/\Heap.le s d/\aZ prog T8 #[.slice (K5 (some ⟨b,0,none⟩) (a.length+bn) k 1) (a.length+bn-k) (a.length+bn-k),.slice t38A t38n t38c] d (fun T q=>T= .tuple #[]/\(∃ (k_1:Nat) (zs:List Int) (g:bC),[I ((k+bn:Nat):Int)]=[I k_1]/\k_1<=a.length+bn/\h.le g/\zs.length=a.length+bn/\Dig b64 zs/\Win .u64 q g b C2 (some ⟨b,0,none⟩) [] zs []/\val b64 zs=val b64 (a.take k_1)*y)/\a.length+bn-(iAt [I ((k+bn:Nat):Int)] 0).toNat<a.length+bn-(iAt [I k] 0).toNat))) (ac:=ac-k) (sp.mono w.le) (by omega) (by omega) (fun m W p n=>⟨_,_,_,rfl,B4 _,u m (by omega) p n⟩)
  rw [ah] at tr
  exact tr
 ·have af:a.take k=a:=aL (by omega)
  rw [af] at hv
  rw [<- R]
  refine Q4 w.sl t (bF _) (by omega) ?_
  intro m W hM
  rw [hv] at hM
  exact ⟨_,_,_,rfl,hK _ _ _ _ (B0 O w.le) W hM⟩
def C7i{X0 X1 Y0 Y1 P:Int}(hx0:0<=X0)(hx1:0<=X1)(hy0:0<=Y0)(hy1:0<=Y1):
 X0*Y0<=(X0+X1)*(Y0+Y1)/\X1*Y1<=(X0+X1)*(Y0+Y1)-X0*Y0/\(X0+P*X1)*(Y0+P*Y1)=X0*Y0+P*((X0+X1)*(Y0+Y1)-X0*Y0-X1*Y1)+P*P*(X1*Y1):=by
 have a:=aT hx0 hy0
 have b:=aT hx0 hy1
 have c:=aT hx1 hy0
 have d:=aT hx1 hy1
 have e:(X0+X1)*(Y0+Y1)=X0*Y0+X0*Y1+X1*Y0+X1*Y1:=by grind
 refine ⟨by omega,by omega,?_⟩
 rw [e];grind
def C5n:∀ N,C4x N:=by
 intro N
 induction N with
 | zero=>
  intro h K A B ac bc an bn x y hN ma mb ha O hl u D
  have h0:=ma.len_zero (by decide)
  have hx:x=0:=h0.2 (by omega)
  subst hx
  rw [fP] at D
  refine Fi _ _ _ _ _ _ ?_
  unfold Ec
  refine ⟨fun l h'=>h'=h/\l=[.slice A an ac,.slice B bn bc],B7 (fun e=>absurd e (by omega)) (fun _=>⟨rfl,rfl⟩),?_⟩
  rintro A1 s c1 B1 C c2 hp ⟨rfl,hl⟩
  obtain ⟨⟨rfl,rfl,rfl⟩,rfl,rfl,rfl⟩:(A1=A/\s=an/\c1=ac)/\B1=B/\C=bn/\c2=bc:=by simpa using hl
  refine E4 (fun _=>D none 0 0 _ (B4 _) (bF _) Mag.zero) (fun e=>absurd (by omega) e)
 | succ N ih=>
  intro h K A B ac bc an bn x y hN ma mb ha O hl u D
  refine Fi _ _ _ _ _ _ ?_
  unfold Ec
  refine ⟨fun l h'=>h'=h/\∃ (A1 B1:Option bH) (s C c1 c2:Nat) (x1 y1:Int),l=[.slice A1 s c1,.slice B1 C c2]/\Mw h A1 s x1/\Mw h B1 C y1/\C<=s/\s<=1000000000/\s<=c1/\C<=c2/\s+C<=N+1/\x1*y1=x*y,B7 (fun h1=>?_) (fun h1=>?_),?_⟩
  ·exact ⟨rfl,_,_,_,_,_,_,y,x,rfl,mb,ma,by omega,u,O,ha,by omega,aR _ _⟩
  ·exact ⟨rfl,_,_,_,_,_,_,x,y,rfl,ma,mb,by omega,hl,ha,O,by omega,rfl⟩
  clear ma mb ha O hl u hN
  rintro A1 s c1 B1 C c2 hp ⟨rfl,A1',B1',b3,br,b4,bw,x1,y1,a4,m1,V,hn,aw,J,R,cq,a1⟩
  obtain ⟨⟨rfl,rfl,rfl⟩,rfl,rfl,rfl⟩:(A1=A1'/\s=b3/\c1=b4)/\B1=B1'/\C=br/\c2=bw:=by simpa using a4
  rw [<- a1] at D
  clear a4 a1
  have hz:=V.len_zero (by decide)
  refine E4 (fun h0=>?_) (fun h0=>?_)
  ·have:y1=0:=hz.2 (by omega)
   subst this
   rw [fR] at D
   exact D none 0 0 _ (B4 _) (bF _) Mag.zero
  ·refine ⟨fun l h'=>∃ t:Bool,h'=hp/\l=[.bool t]/\(t=true->y1=1),E4 (fun h1=>?_) (fun h1=>⟨false,rfl,rfl,fun e=>by cases e⟩),?_⟩
   ·obtain ⟨f,X,sy,Q,ny,ba⟩:=V
    refine sy.load X (by omega) (by omega) ⟨_,rfl,rfl,fun e=>?_⟩
    have e1:f.getD 0 0=1:=by simpa using e
    obtain ⟨d,rfl⟩:∃ d,f=[d]:=by
     cases f with
     | nil=>simp at X;omega
     | cons d r=>
      cases r with
      | nil=>exact ⟨d,rfl⟩
      | cons _ _=>simp at X;omega
    rw [<- ba,Co];simpa using e1
   rintro tb S ⟨t',rfl,u,L⟩
   obtain rfl:tb=t':=by simpa using u
   refine Br.of (fun e=>?_) (fun _=>?_)
   ·rw [L e,Int.mul_one] at D
    exact D _ _ _ _ (B4 _) J m1
   clear L u
   have eL:B6 ((s:Int)+C)=((s+C:Nat):Int):=by rw [B8 (by omega) (by omega)];omega
   refine B7 (fun h2=>?_) (fun h2=>?_)
   ·obtain ⟨g,rfl,sx,dx,nx,rfl⟩:=m1
    obtain ⟨f,rfl,sy,Q,ny,rfl⟩:=V
    rw [eL]
    refine K3 Q0 (by omega) (by omega) (by omega) ?_
    intro b O
    rw [aC]
    exact ⟨_,_,_,rfl,C3f O sx dx sy Q aw (by omega) D⟩
   ·obtain ⟨H,hH⟩:∃ H,H=(s+1)/2:=⟨_,rfl⟩
    have eH:B6 (cP (B6 ((s:Int)+1)) 2)=(H:Int):=by
     rw [B8 (n:=(s:Int)+1) (by omega) (by omega),bJ (by omega),B8 (by omega) (by omega)];omega
    have bk:B6 ((2:Int)*(H:Int))=((2*H:Nat):Int):=by rw [B8 (by omega) (by omega)];omega
    simp only [eH,eL,bk,aC]
    refine B7 (fun h3=>?_) (fun h3=>?_)
    ·refine Qh ih (by omega) m1 V J R aw (by omega) (by omega) ?_
     intro A' m c' h' l' k' M'
     exact ⟨_,_,_,rfl,D _ _ _ _ l' k' M'⟩
    ·have bt:=m1.nonneg (by decide)
     have al:=m1.lt (by decide)
     have ai:=V.lt (by decide)
     have bu:=V.nonneg (by decide)
     obtain ⟨g,rfl,sx,dx,nx,rfl⟩:=m1
     obtain ⟨f,rfl,sy,Q,ny,rfl⟩:=V
     have b0:H<g.length:=by omega
     have bj:H<f.length:=by omega
     have ag:=C7 (by decide) (dx.take H)
     have ao:=C7 (by decide) (dx.drop H)
     have ae:=C7 (by decide) (Q.take H)
     have a6:=C7 (by decide) (Q.drop H)
     have b6:=F5 b64 g (i:=H) (by omega)
     have b5:=F5 b64 f (i:=H) (by omega)
     have ak:=L5 (by decide) (dx.take H)
     have av:=L5 (by decide) (Q.take H)
     rw [aG,aJ (by omega)] at ak av
     have w:Mw S (K5 A1 c1 H 1) (g.length-H) (val b64 (g.drop H)):=by
      have:=Mw.of (A1i sx (c:=c1) (l:=H) (by omega) J) (dx.drop H) (Ns nx b0)
      rwa [aQ] at this
     have z:Mw S (K5 B1 c2 H 1) (f.length-H) (val b64 (f.drop H)):=by
      have:=Mw.of (A1i sy (c:=c2) (l:=H) (by omega) R) (Q.drop H) (Ns ny bj)
      rwa [aQ] at this
     obtain ⟨ka,kb,kc⟩:=C7i (P:=b64^H) ag ao ae a6
     rw [<- b6,<- b5] at kc
     generalize hX0:val b64 (g.take H)=X0 at *
     generalize hX1:val b64 (g.drop H)=X1 at *
     generalize hY0:val b64 (f.take H)=Y0 at *
     generalize hY1:val b64 (f.drop H)=Y1 at *
     rw [I0,I0,cC,cC,cC]
     refine ⟨⟨by omega,by omega⟩,⟨by omega,by omega⟩,?_⟩
     refine Bm (Ke sx (c:=c1) (m:=H) (by omega) J) (dx.take H) (by rw [aG];omega) hX0 (by omega) (by omega) ?_
     intro mx ch MX0
     refine ⟨_,_,_,rfl,B4 _,⟨by omega,by omega⟩,⟨by omega,by omega⟩,?_⟩
     refine Bm (Ke sy (c:=c2) (m:=H) (by omega) R) (Q.take H) (by rw [aG];omega) hY0 (by omega) (by omega) ?_
     intro my cg MY0
     refine ⟨_,_,_,rfl,B4 _,?_⟩
     refine ih (by omega) MX0 MY0 (by omega) (by omega) (by omega) (by omega) ?_
     intro A3 n3 c3 g3 l3 k3 M3
     refine ⟨_,_,_,rfl,?_⟩
     refine ih (by omega) (w.mono l3) (z.mono l3) (by omega) (by omega) (by omega) (by omega) ?_
     intro A4 n4 c4 g4 l4 k4 M4
     refine ⟨_,_,_,rfl,?_⟩
     have G:=B0 l3 l4
     refine R9 (MX0.mono G) (w.mono G) (by omega) (by omega) (by omega) (by omega) ?_
     intro A5 n5 c5 g5 l5 k5 M5
     refine ⟨_,_,_,rfl,?_⟩
     have ar:=B0 G l5
     refine R9 (MY0.mono ar) (z.mono ar) (by omega) (by omega) (by omega) (by omega) ?_
     intro A6 n6 c6 g6 l6 k6 M6
     refine ⟨_,_,_,rfl,?_⟩
     have ap:=w.lt (by decide)
     have aq:=z.lt (by decide)
     have bd:=D7 (B:=b64) (by decide) H
     have ca:b64^(H+1)=b64^H*18446744073709551616:=aW _ _
     have cb:n5<=H+1:=by
      refine M5.len_le (by decide) ?_
      have:=C9 (B:=b64) (by decide) (show g.length-H<=H by omega)
      omega
     have ce:n6<=H+1:=by
      refine M6.len_le (by decide) ?_
      have:=C9 (B:=b64) (by decide) (show f.length-H<=H by omega)
      omega
     refine ih (by omega) (M5.mono l6) M6 k5 k6 (by omega) (by omega) ?_
     intro A7 n7 c7 g7 l7 k7 M7
     refine ⟨_,_,_,rfl,?_⟩
     have W:=B0 (B0 l5 l6) l7
     have k:∀ {p q:Int} {i j:Nat},0<=p->p<b64^i->0<=q->q<b64^j->p*q<b64^(i+j):=by
      intro p q i j a b c d
      rw [bG]
      have t1:p*q<=b64^i*q:=aE (by omega) c
      have t2:b64^i*q<b64^i*b64^j:=cQ d (D7 (by decide) i)
      omega
     have cc:n7<=n5+n6:=M7.len_le (by decide) (k (M5.nonneg (by decide)) (M5.lt (by decide)) (M6.nonneg (by decide)) (M6.lt (by decide)))
     refine H2 M7 (M3.mono (B0 l4 W)) k7 (by omega) ka ?_
     intro A8 n8 c8 g8 l8 k8 M8
     refine ⟨_,_,_,rfl,?_⟩
     have b7:n8<=n7:=M8.len_le (by decide) (by have:=M7.lt (by decide);have:=M3.nonneg (by decide);omega)
     refine H2 M8 (M4.mono (B0 W l8)) k8 (by omega) kb ?_
     intro A9 n9 c9 g9 l9 k9 M9
     refine ⟨_,_,_,rfl,?_⟩
     have T:=B0 W (B0 l8 l9)
     have ay:S.le g9:=B0 G T
     refine K3 Q0 (by omega) (by omega) (by omega) ?_
     intro b O
     rw [aC]
     refine ⟨_,_,_,rfl,?_⟩
     have w0:=Win.blk .u64 C2 O (aD (g.length+f.length) 0)
     have cd:n3<=H+H:=M3.len_le (by decide) (k ag ak ae av)
     have b8:n4<=(g.length-H)+(f.length-H):=M4.len_le (by decide) (k ao ap a6 aq)
     obtain ⟨o,aj,bg,a9,cf,a8⟩:=M3.mono (B0 l4 T)
     obtain ⟨hi,a0,bz,bo,cm,az⟩:=M4.mono T
     obtain ⟨M,a5,a2,ax,bh,a3⟩:=M9
     refine Gx Q0 w0 (by simp) (bg.mono w0.le) aj (by simp;omega) ?_
     intro co ad
     refine ⟨_,rfl,⟨by omega,by omega⟩,?_⟩
     have bi:o++(aD (g.length+f.length) (0:Int)).drop o.length=o++aD (g.length+f.length-o.length) 0:=by rw [bI]
     rw [bi] at ad
     have Z:=ad.sub (l:=2*H) (m:=g.length+f.length) (c:=g.length+f.length) (by omega) (by simp;omega) (by simp;omega)
     have b1:((o++aD (g.length+f.length-o.length) (0:Int)).drop (2*H)).take (g.length+f.length-2*H)=aD (g.length+f.length-2*H) 0:=by
      rw [gN,aV (by omega),cM,bI,cD]
      congr 1;omega
     rw [b1] at Z
     refine Gx Q0 Z (by simp) (bz.mono Z.le) a0 (by simp;omega) ?_
     intro cs am
     refine ⟨_,rfl,⟨by omega,by omega⟩,?_⟩
     rw [bI] at am
     have F:=ad.whole (l:=2*H) (m:=g.length+f.length) (by omega) (by simp;omega) (by simp;omega) am
     have bp:(o++aD (g.length+f.length-o.length) (0:Int)).take (2*H)=o++aD (2*H-o.length) 0:=by
      rw [dK,aL (by omega),cD]
      congr 2;omega
     have be:(o++aD (g.length+f.length-o.length) (0:Int)).drop (g.length+f.length)=[]:=by
      apply aV;simp;omega
     rw [bp,be,bW] at F
     generalize hzs:o++aD (2*H-o.length) (0:Int)++(hi++aD (g.length+f.length-2*H-hi.length) 0)=zs at F
     have cl:zs.length=g.length+f.length:=by
      rw [<- hzs];simp;omega
     have E:Dig b64 zs:=by
      rw [<- hzs]
      exact (a9.append (I3 (by decide) _)).append (bo.append (I3 (by decide) _))
     have bl:val b64 zs=X0*Y0+b64^H*b64^H*(X1*Y1):=by
      rw [<- hzs,G2,Db,Db,a8,az]
      have:(o++aD (2*H-o.length) (0:Int)).length=H+H:=by simp;omega
      rw [this,bG]
     have a7:=F.sub (l:=H) (m:=g.length+f.length) (c:=g.length+f.length) (by omega) (by omega) (by omega)
     have bv:(zs.drop H).take (g.length+f.length-H)=zs.drop H:=aL (by rw [aQ];omega)
     have au:(zs.drop H).length=g.length+f.length-H:=by rw [aQ];omega
     rw [bv] at a7
     have bm:=F5 b64 zs (i:=H) (by omega)
     have ci:=C7 (by decide) (E.take H)
     have b9:=C7 (by decide) (E.drop H)
     have cr:val b64 g*val b64 f<b64^(g.length+f.length):=k bt al bu ai
     have af:val b64 zs+b64^H*val b64 M=val b64 g*val b64 f:=by rw [kc,bl,a3];grind
     have ah:val b64 (zs.drop H)+val b64 M<b64^(g.length+f.length-H):=by
      have e5:b64^(g.length+f.length)=b64^H*b64^(g.length+f.length-H):=by rw [<- bG];congr 1;omega
      by_cases hc:val b64 (zs.drop H)+val b64 M<b64^(g.length+f.length-H)
      ·exact hc
      ·have:=aI (show b64^(g.length+f.length-H)<=val b64 (zs.drop H)+val b64 M by omega) (aN bd)
       rw [cX] at this
       omega
     have cj:M.length<=g.length+f.length-H:=by
      have Mmi:Mw g9 A9 M.length (val b64 M):=⟨M,rfl,a2,ax,bh,rfl⟩
      exact Mmi.len_le (by decide) (by omega)
     refine Jc a7 au.symm a2 a5 (E.drop H) ax (by omega) (by rw [au];exact ah) (by omega) ?_
     intro us ck cn bq bb bf
     refine ⟨rfl,?_⟩
     have aa:=F.whole (l:=H) (m:=g.length+f.length) (by omega) (by omega) (by omega) bf
     rw [aV (show zs.length<=g.length+f.length by omega),bW] at aa
     have bx:(zs.take H++us).length=g.length+f.length:=by
      simp only [aH,aG];omega
     rw [<- bx]
     refine Q4 aa.sl ((E.take H).append bq) (by omega) (by omega) ?_
     intro m hm hM
     have b2:val b64 (zs.take H++us)=val b64 g*val b64 f:=by
      rw [G2,aG,aJ (by omega),bb,<- af,bm];grind
     rw [b2] at hM
     exact ⟨_,_,_,rfl,D _ _ _ _ (B0 ay aa.le) hm hM⟩
def H8{x y:Int}{an bn:Nat}(ma:Mw h A an x)(mb:Mw h B bn y)(ha:an<=ac)(hb:bn<=bc)(hl:an<=1000000000)(hl2:bn<=1000000000)(hK:∀ A' m c' h',h.le h'->m<=c'->Mw h' A' m (x*y)->K (.slice A' m c') h'):aZ prog D4 #[.slice A an ac,.slice B bn bc] h K:=
 C5n _ (bF _) ma mb ha hb hl hl2 hK
end
section
variable {h g:bC} {K:VP} {A B:Option bH} {ac bc:Nat}
def B4a{hi lo y:Int}(hhi:0<=hi/\hi<y)(hlo:0<=lo/\lo<18446744073709551616)(hy:y<18446744073709551616)
 (hK:K (.tuple #[U ((hi*18446744073709551616+lo)/y),U ((hi*18446744073709551616+lo)%y)]) h):aZ prog Gw #[U hi,U lo,U y] h K:=by
 obtain ⟨n,rfl⟩:∃ n:Nat,y=n:=⟨y.toNat,by omega⟩
 exact Ty hhi hlo (by omega) hK
def Vs{x:Int}{an w:Nat}(ma:Mw h A an x)(hw:0<w/\w<18446744073709551616)(hl:an<=1000000000)(hK:∀ A' m c' h',h.le h'->m<=c'->m<=an->Mw h' A' m (x/w)->K (.tuple #[.slice A' m c',U (x%w)]) h'):aZ prog Gi #[.slice A an ac,U w] h K:=by
 obtain ⟨a,rfl,y,D,J,rfl⟩:=ma
 refine Xn _ _ _ _ ?_
 unfold Wk
 refine K3 Q0 (by omega) (by omega) (by omega) ?_
 intro b s
 rw [aC]
 refine ⟨_,_,_,rfl,?_⟩
 refine ⟨fun l h'=>∃ (k:Nat) (r:Int) (zs:List Int),l=[U r,I ((k:Int)-1)]/\k<=a.length/\zs.length=a.length/\Dig b64 zs/\(0<=r/\r<w)/\h'=blk .u64 C2 h b zs/\val b64 (a.drop k)=val b64 (zs.drop k)*w+r,fun l _=>(iAt l 1+1).toNat,⟨a.length,0,_,by rw [B8 (by omega) (by omega)],by omega,by simp,I3 (by decide) _,by omega,rfl,by simp [val]⟩,?_⟩
 rintro r i H ⟨k,C,zs,g,G,c,t,d,rfl,f⟩
 obtain ⟨rfl,rfl⟩:r=C/\i=(k:Int)-1:=by simpa using g
 have p:=W8 (k:=.u64) (e:=C2) s zs
 refine B7 (fun z=>?_) (fun z=>?_)
 ·obtain ⟨j,rfl⟩:∃ j,k=j+1:=⟨k-1,by omega⟩
  have e:((j+1:Nat):Int)-1=(j:Int):=by omega
  rw [e]
  have E:=N8 D j
  refine (y.mono p).load rfl (by omega) (by omega) ?_
  rw [aC]
  refine Ty d E hw.2 ⟨_,_,rfl,?_⟩
  have F:0<=r*18446744073709551616+a.getD j 0:=by omega
  have q:0<=(r*18446744073709551616+a.getD j 0)/w/\(r*18446744073709551616+a.getD j 0)/w<18446744073709551616:=by
   constructor
   ·exact bZ F (by omega)
   ·apply bL (by omega)
    have:(r+1)*18446744073709551616<=(w:Int)*18446744073709551616:=aE (by omega) (by decide)
    omega
  refine ⟨_,rfl,by omega,by omega,?_⟩
  refine Fe (zs:=zs) (i:=j) F6 (by omega) ?_
  rw [B8 (by omega) (by omega)]
  refine ⟨⟨j,_,zs.set j ((r*18446744073709551616+a.getD j 0)/w),rfl,by omega,by simpa using c,t.set q,⟨aU _ (by omega),aP _ (by omega)⟩,rfl,?_⟩,by simp only [iAt,aF,aM];omega⟩
  rw [W7 (by omega),My b64 (by omega),f]
  have:=aO (r*18446744073709551616+a.getD j 0) w
  simp only [val]
  grind
 ·have n:k=0:=by omega
  subst n
  rw [cO,cO] at f
  rw [<- c]
  refine Q4 (Dn _ _ _ _ _) t (bF _) (by omega) ?_
  intro m B u
  have q:val b64 a/w=val b64 zs:=by
   rw [f,fU,fT _ _ (by omega),bU d.1 d.2,dL]
  have o:val b64 a%w=r:=by
   rw [f,fU,gR,gL d.1 d.2]
  rw [<- q] at u
  rw [<- o]
  exact ⟨_,_,_,rfl,hK _ _ _ _ (W8 s _) B (by omega) u⟩
def Np{x:Int}{an w:Nat}(ma:Mw h A an x)(hw:0<w/\w<18446744073709551616)(hl:an<=1000000000)(hK:K (U (x%w)) h):aZ prog At #[.slice A an ac,U w] h K:=by
 obtain ⟨a,rfl,o,m,y,rfl⟩:=ma
 refine Rh _ _ _ _ ?_
 unfold Ks
 refine ⟨fun l q=>∃ (k:Nat) (r:Int) (Q:Int),l=[U r,I ((k:Int)-1)]/\k<=a.length/\(0<=r/\r<w)/\q=h/\val b64 (a.drop k)=Q*w+r,fun l _=>(iAt l 1+1).toNat,⟨a.length,0,0,by rw [B8 (by omega) (by omega)],by omega,by omega,rfl,by simp [val]⟩,?_⟩
 rintro r i u ⟨k,s,Q,g,t,c,rfl,f⟩
 obtain ⟨rfl,rfl⟩:r=s/\i=(k:Int)-1:=by simpa using g
 refine B7 (fun p=>?_) (fun p=>?_)
 ·obtain ⟨j,rfl⟩:∃ j,k=j+1:=⟨k-1,by omega⟩
  have e:((j+1:Nat):Int)-1=(j:Int):=by omega
  rw [e]
  have n:=N8 m j
  refine o.load rfl (by omega) (by omega) ?_
  rw [aC]
  refine Ty c n hw.2 ⟨_,_,rfl,?_⟩
  rw [B8 (by omega) (by omega)]
  refine ⟨⟨j,_,b64*Q+(r*18446744073709551616+a.getD j 0)/w,rfl,by omega,⟨aU _ (by omega),aP _ (by omega)⟩,rfl,?_⟩,by simp only [iAt,aF,aM];omega⟩
  rw [My b64 (by omega),f]
  have:=aO (r*18446744073709551616+a.getD j 0) w
  show _+(18446744073709551616:Int)*_=((18446744073709551616:Int)*_+_)*_+_
  grind
 ·have b:k=0:=by omega
  subst b
  rw [cO] at f
  have d:val b64 a%w=r:=by
   rw [f,fU,gR,gL c.1 c.2]
  rw [d] at hK;exact hK
def A1c{us vs:List Int}{m wn dn:Nat}{X Y:Int}(su:SlI .u64 h A us)(sv:SlI .u64 h B vs)(hwn:wn=us.length)(hdn:dn=vs.length)(du:Dig b64 us)(dv:Dig b64 vs)(hu:us.length=m+3)(hv:vs.length=m+2)(hl:m<=10000000000)(h1:b64<=2*vs.getD (m+1) 0)(hX:val b64 us=X)(hY:val b64 vs=Y)(hlt:X<Y*b64)
 (hK:∀ q,0<=q->q<18446744073709551616->X<(q+1)*Y->(q-1)*Y<=X->K (U q) h):aZ prog Lo #[.slice A wn ac,.slice B dn bc] h K:=by
 subst hwn hdn
 have b:=B9j (B:=b64) (by decide) du dv hu hv h1 (by rw [hX,hY];exact hlt)
 rw [hX,hY] at b
 have gu:=N8 du (m+2)
 have k:=N8 du (m+1)
 have M:=N8 dv (m+1)
 have g:=b.v1r
 have a:=b.v2r
 have L:=b.u2r
 have ad:=b.V0
 have S:=b.U0
 refine A4q _ _ _ _ _ _ ?_
 unfold A4r
 have Z:B6 ((vs.length:Int)-1)=((m+1:Nat):Int):=by rw [B8 (by omega) (by omega)];omega
 have R:B6 ((vs.length:Int)-2)=(m:Int):=by rw [B8 (by omega) (by omega)];omega
 have W:((vs.length:Nat):Int)=((m+2:Nat):Int):=by omega
 rw [Z,R,W]
 refine sv.load (by omega) (by omega) (by omega) ?_
 refine sv.load (by omega) (by omega) (by omega) ?_
 refine su.load rfl (by omega) (by omega) ?_
 simp only [aC]
 refine B7 (fun G=>?_) (fun G=>?_)
 ·have H:=b.top (by
   have:vs.getD (m+1) 0*b64<=us.getD (m+2) 0*b64:=aE G (by decide)
   omega)
  exact hK 18446744073709551615 (by omega) (by omega) H.2 H.1
 ·refine su.load rfl (by omega) (by omega) ?_
  refine su.load rfl (by omega) (by omega) ?_
  simp only [aC]
  refine B4a (by omega) k M.2 ⟨_,_,rfl,B4 h,?_⟩
  generalize hT:us.getD (m+2) 0*b64+us.getD (m+1) 0=T at b
  have ae:us.getD (m+2) 0*18446744073709551616+us.getD (m+1) 0=T:=hT
  have u:0<=T:=b.top0
  have x:=b.init
  have D:=aO T (vs.getD (m+1) 0)
  have O:=aU T (show vs.getD (m+1) 0≠0 by omega)
  have J:=aP T (show 0<vs.getD (m+1) 0 by omega)
  have z:0<=T/vs.getD (m+1) 0:=bZ u (by omega)
  have i:T/vs.getD (m+1) 0<18446744073709551616:=by
   apply bL (by omega)
   have:(us.getD (m+2) 0+1)*18446744073709551616<=vs.getD (m+1) 0*18446744073709551616:=aE (by omega) (by decide)
   have:=k.2
   have:18446744073709551616*vs.getD (m+1) 0=vs.getD (m+1) 0*18446744073709551616:=aR _ _
   omega
  refine ⟨fun l N=>∃ q r:Int,l=[U q,U r]/\N=h/\(0<=q/\q<18446744073709551616)/\(0<=r/\r<18446744073709551616)/\q*vs.getD (m+1) 0+r=T/\X<(q+1)*Y,fun l _=>(iAt l 0).toNat,⟨_,_,rfl,rfl,⟨z,i⟩,by omega,by rw [aR];exact D,x⟩,?_⟩
  rintro q r t ⟨q',Q,E,rfl,p,hr,w,o⟩
  obtain ⟨rfl,rfl⟩:q=q'/\r=Q:=by simpa using E
  have hm:0<=q*vs.getD m 0/\q*vs.getD m 0<=18446744073709551615*18446744073709551615:=⟨aT p.1 a.1,dI (by omega) (by have:=(N8 dv m).2;omega) a.1 (by decide)⟩
  have key:q*(vs.getD (m+1) 0*b64+vs.getD m 0)=(T-r)*18446744073709551616+q*vs.getD m 0:=by
   rw [<- w];show q*(vs.getD (m+1) 0*(18446744073709551616:Int)+vs.getD m 0)=_;grind
  have f:q*vs.getD m 0<=r*18446744073709551616+us.getD m 0->K (U q) t:=by
   intro aa
   refine hK q p.1 p.2 o (b.up (by show q<=(18446744073709551616:Int);omega) ?_)
   rw [key];show _<=T*(18446744073709551616:Int)+_;omega
  have e:¬ (q*vs.getD m 0<=r*18446744073709551616+us.getD m 0)->Br (decide (C1 (r+vs.getD (m+1) 0)<vs.getD (m+1) 0)) (K (U (C1 (q-1))) t) ((∃ q_1 r_1:Int,[U (C1 (q-1)),U (C1 (r+vs.getD (m+1) 0))]=[U q_1,U r_1]/\t=t/\(0<=q_1/\q_1<18446744073709551616)/\(0<=r_1/\r_1<18446744073709551616)/\q_1*vs.getD (m+1) 0+r_1=T/\X<(q_1+1)*Y)/\(iAt [U (C1 (q-1)),U (C1 (r+vs.getD (m+1) 0))] 0).toNat<(iAt [U q,U r] 0).toNat):=by
   intro hf
   have C:X<q*Y:=b.low p.1 (by rw [key];show T*(18446744073709551616:Int)+_<_;omega)
   have i:1<=q:=by
    by_cases y:1<=q
    ·exact y
    ·have:q=0:=by omega
     subst this;omega
   have d:X<(q-1+1)*Y:=by rw [Int.sub_add_cancel];exact C
   have c:(q-1)*vs.getD (m+1) 0+(r+vs.getD (m+1) 0)=T:=by grind
   rw [C3 (n:=q-1) (by omega) (by omega)]
   refine B7 (fun s=>?_) (fun s=>?_)
   ·rw [E7] at s
    have hb:(q-1)*vs.getD m 0<=18446744073709551616*vs.getD m 0:=aE (by omega) a.1
    have j:(q-1)*(vs.getD (m+1) 0*b64+vs.getD m 0)=(T-(r+vs.getD (m+1) 0))*18446744073709551616+(q-1)*vs.getD m 0:=by
     rw [<- c];show (q-1)*(vs.getD (m+1) 0*(18446744073709551616:Int)+vs.getD m 0)=_;grind
    refine hK (q-1) (by omega) (by omega) d (b.up (by show q-1<=(18446744073709551616:Int);omega) ?_)
    rw [j]
    have:=a.2
    show _<=T*(18446744073709551616:Int)+_
    have:vs.getD m 0<18446744073709551616:=a.2
    omega
   ·have F:r+vs.getD (m+1) 0<18446744073709551616:=by
     by_cases y:r+vs.getD (m+1) 0<18446744073709551616
     ·exact y
     ·rw [E7] at s;have:=g.2;have:vs.getD (m+1) 0<18446744073709551616:=g.2;omega
    rw [C3 (n:=r+vs.getD (m+1) 0) (by omega) F]
    exact ⟨⟨q-1,r+vs.getD (m+1) 0,rfl,rfl,by omega,by omega,c,d⟩,by simp only [iAt,aF];omega⟩
  refine Nt p (by have:=a.2;exact ⟨a.1,this⟩) ⟨_,_,rfl,?_⟩
  have af:0<=us.getD m 0/\us.getD m 0<18446744073709551616:=N8 du m
  refine B7 (fun s=>f (by omega)) (fun s=>?_)
  refine E4 (fun h4=>?_) (fun h4=>e (by omega))
  refine su.load rfl (by omega) (by omega) ?_
  rw [aC]
  exact B7 (fun V=>f (by omega)) (fun V=>e (by omega))
end
section
variable {h g:bC} {K:VP} {bu bq:Nat} {pre qs:List Int} {VA:Option bH} {vs:List Int}
def C47{n N:Nat}{ws:List Int}{q:Int}{J:LP}(hu:g bu=none)(hq:g bq=none)(hne:bu≠bq)(sv:SlI .u64 g VA vs)(dv:Dig b64 vs)(hn:n=vs.length)(dw:Dig b64 ws)(hN:N=(pre++ws).length)(hl:n<ws.length)(hbig:N<=4000000000)
 (hD:val b64 (ws.take n)+val b64 vs<2*b64^n) (hD0:b64^n<=val b64 (ws.take n)+val b64 vs) (htop:ws.getD n 0=18446744073709551615)
 (hJ:∀ ws',ws'.length=ws.length->Dig b64 ws'->ws'.drop (n+1)=ws.drop (n+1)->ws'.getD n 0=0->val b64 (ws'.take n)=val b64 (ws.take n)+val b64 vs-b64^n->J [U (C1 (q-1))] (Am .u64 C2 g bu (pre++ws') bq qs)):
 Ay prog n VA n (some ⟨bu,0,none⟩) N (pre.length:Int) q J (Am .u64 C2 g bu (pre++ws) bq qs):=by
 unfold Ay
 refine ⟨fun l F=>∃ (k:Nat) (c:Int) (zs:List Int),l=[U c,I k]/\k<=n/\zs.length=ws.length/\Dig b64 zs/\(0<=c/\c<=1)/\F=Am .u64 C2 g bu (pre++zs) bq qs/\zs.drop k=ws.drop k/\val b64 (zs.take k)+c*b64^k=val b64 (ws.take k)+val b64 (vs.take k),fun l _=>n-(iAt l 1).toNat,⟨0,0,ws,rfl,by omega,rfl,dw,by omega,rfl,rfl,by simp [val]⟩,?_⟩
 rintro c i V ⟨k,L,zs,r,T,b,m,M,rfl,a,Q⟩
 obtain ⟨rfl,rfl⟩:c=L/\i=(k:Int):=by simpa using r
 have w:g.le (Am .u64 C2 g bu (pre++zs) bq qs):=Re hu hq hne
 have C:SlI .u64 (Am .u64 C2 g bu (pre++zs) bq qs) (some ⟨bu,0,none⟩) (pre++zs):=Wa hne
 have f:N=(pre++zs).length:=by rw [hN,aH,aH,b]
 have D:N=pre.length+zs.length:=by rw [f,aH]
 have x:B6 ((pre.length:Int)+k)=((k+pre.length:Nat):Int):=by rw [B8 (by omega) (by omega)];omega
 have z:B6 ((pre.length:Int)+n)=((n+pre.length:Nat):Int):=by rw [B8 (by omega) (by omega)];omega
 refine B7 (fun G=>?_) (fun G=>?_)
 ·have E:=N8 dv k
  have H:=N8 m k
  have d:=E8 a
  have R:=C4 b64 vs k
  have S:=C4 b64 ws k
  rw [x]
  refine (sv.mono w).load hn (by omega) (by omega) ?_
  refine C.load f (by omega) (by omega) ?_
  simp only [aC,Gf]
  refine Dq H E M ⟨_,_,rfl,?_⟩
  refine ⟨_,rfl,by omega,by omega,?_⟩
  have j:=O5 (P:=prog) (t:=C2) (k:=.u64) (e:=C2) (g:=g) (bu:=bu) (bq:=bq) (us:=pre++zs) (qs:=qs) (i:=((k+pre.length:Nat):Int)) (n:=(zs.getD k 0+vs.getD k 0+c)%18446744073709551616) F6 hne (by rw [aC];omega)
   (K:=fun _ o=>(∃ (k_1:Nat) (c_1:Int) (zs_1:List Int),[U ((zs.getD k 0+vs.getD k 0+c)/18446744073709551616),I (B6 ((k:Int)+1))]=[U c_1,I k_1]/\k_1<=n/\zs_1.length=ws.length/\Dig b64 zs_1/\(0<=c_1/\c_1<=1)/\o=Am .u64 C2 g bu (pre++zs_1) bq qs/\zs_1.drop k_1=ws.drop k_1/\val b64 (zs_1.take k_1)+c_1*b64^k_1=val b64 (ws.take k_1)+val b64 (vs.take k_1))/\n-(iAt [U ((zs.getD k 0+vs.getD k 0+c)/18446744073709551616),I (B6 ((k:Int)+1))] 1).toNat<n-(iAt [U c,I k] 1).toNat)
  rw [aC] at j
  refine j ?_
  rw [Kx,B8 (n:=(k:Int)+1) (by omega) (by omega)]
  refine ⟨⟨k+1,_,zs.set k ((zs.getD k 0+vs.getD k 0+c)%18446744073709551616),rfl,by omega,by simpa using b,m.set (Et _),by omega,rfl,?_,?_⟩,by simp only [iAt,aF,aM];omega⟩
  ·rw [D5 (by omega)];exact D8 a
  ·rw [C8 (by omega),F1,aG,aJ (by omega),aW,Cj,R,S,<- d]
   grind
 ·have y:k=n:=by omega
  subst y
  have d:=E8 a
  rw [z]
  refine C.load f (by omega) (by omega) ?_
  rw [aC,Gf,d,htop]
  refine ⟨_,rfl,by omega,by omega,?_⟩
  have s:vs.take k=vs:=by rw [hn,bB]
  rw [s] at Q
  have A:=L5 (by decide) (m.take k)
  rw [aG,aJ (by omega)] at A
  have W:=C7 (by decide) (m.take k)
  have u:c=1:=by
   by_cases B:c=0
   ·subst B;omega
   ·omega
  subst u
  have O:C1 (18446744073709551615+1)=0:=by rw [E7];omega
  rw [O]
  have j:=O5 (P:=prog) (t:=C2) (k:=.u64) (e:=C2) (g:=g) (bu:=bu) (bq:=bq) (us:=pre++zs) (qs:=qs) (i:=((k+pre.length:Nat):Int)) (n:=0) F6 hne (by rw [aC];omega) (K:=fun _ p=>J [U (C1 (q-1))] p)
  rw [aC] at j
  refine j ?_
  rw [Kx]
  refine hJ (zs.set k 0) (by simpa using b) (m.set (by decide)) (by rw [D5 (by omega)];exact D8 a) (by simp [cN,show k<zs.length by omega]) ?_
  rw [gD (by omega)]
  omega
end
def B6h{g h':bC}{e:bV}{bu bq:Nat}{A:Option bH}{us qs:List Int}(hne:bu≠bq)(w:Win .u64 h' (blk .u64 e g bq qs) bu e A [] us []):h'=Am .u64 e g bu us bq qs:=by
 rw [Ix hne,w.eq]
 simp [blk]
def B7z{g:bC}{e:bV}{bu bq:Nat}{us qs:List Int}(hu:g bu=none)(hne:bu≠bq):Win .u64 (Am .u64 e g bu us bq qs) (blk .u64 e g bq qs) bu e (some ⟨bu,0,none⟩) [] us []:=by
 rw [Ix hne]
 refine Win.blk .u64 e ?_ us
 unfold blk;rw [B9 _ _ hne];exact hu
def A4b{P:dE}{t:bV}{k:dX}{e:bV}{g:bC}{bu bq:Nat}{us qs:List Int}(one:P.cellsOf t=1/\(P.info? t).isSome=true)(hne:bu≠bq){n:Int}{i:Nat}(hi:i<us.length){K:Unit->bC->Prop}
 (x:K () (Am k e g bu (us.set i n) bq qs)):wpH P (dN t (.pointer (some (eG ⟨bu,0,none⟩ (i*1)))) (.int k n)) K (Am k e g bu us bq qs):=by
 have:=O5 (P:=P) (t:=t) (k:=k) (e:=e) (g:=g) (bu:=bu) (bq:=bq) (us:=us) (qs:=qs) (i:=(i:Int)) (n:=n) (K:=K) one hne (by simpa using hi) (by simpa using x)
 simpa using this
def A4c{P:dE}{t:bV}{k:dX}{e:bV}{g:bC}{bu bq:Nat}{us qs:List Int}(one:P.cellsOf t=1/\(P.info? t).isSome=true){n:Int}{i:Nat}(hi:i<qs.length){K:Unit->bC->Prop}
 (x:K () (Am k e g bu us bq (qs.set i n))):wpH P (dN t (.pointer (some (eG ⟨bq,0,none⟩ (i*1)))) (.int k n)) K (Am k e g bu us bq qs):=by
 have:=Wb (P:=P) (t:=t) (k:=k) (e:=e) (g:=g) (bu:=bu) (bq:=bq) (us:=us) (qs:=qs) (i:=(i:Int)) (n:=n) (K:=K) one (by simpa using hi) (by simpa using x)
 simpa using this
section
variable {h g:bC} {K:VP} {bu bq:Nat} {VA:Option bH} {vs us0:List Int}
set_option maxHeartbeats 1000000 in
def A5w{s mm N nq vc xn:Nat}{a b Y:Int}(hu:g bu=none)(hq:g bq=none)(hne:bu≠bq)(sv:SlI .u64 g VA vs)(dv:Dig b64 vs)(hn:vs.length=mm+2)(hv1:b64<=2*vs.getD (mm+1) 0)(hs:s<64)(hY:val b64 vs=Y)(hYb:Y=b*2^s)(du:Dig b64 us0)(hN:us0.length=N)(hua:val b64 us0=a*2^s)(hxn:N=xn+1)(hnq:N=nq+(mm+2))(hnq1:1<=nq)(hbig:N<=1000000001)(htop:val b64 (us0.drop nq)<Y)
 (hK:∀ A1 m1 c1 A2 m2 c2 h',g.le h'->m1<=c1->m2<=c2->Mw h' A1 m1 (a/b)->Mw h' A2 m2 (a%b)->K (.tuple #[.slice A1 m1 c1,.slice A2 m2 c2]) h'):
 Az prog xn (mm+2) K (s:Int) VA (mm+2) vc (some ⟨bu,0,none⟩) N N (some ⟨bq,0,none⟩) nq nq (Am .u64 C2 g bu us0 bq (aD nq 0)):=by
 have hp:0<(2:Int)^s:=bK (by decide)
 have a4:Y<b64^(mm+2):=by rw [<- hY,<- hn];exact L5 (by decide) dv
 have bb:0<Y:=by have:=C7 (by decide) (du.drop nq);omega
 have e0:B6 ((xn:Int)-((mm+2:Nat):Int))=(nq:Int)-1:=by rw [B8 (by omega) (by omega)];omega
 unfold Az
 refine ⟨fun l h'=>∃ (k:Nat) (us qs:List Int),l=[I ((k:Int)-1)]/\k<=nq/\us.length=N/\qs.length=nq/\Dig b64 us/\Dig b64 qs/\h'=Am .u64 C2 g bu us bq qs/\val b64 (us.drop k)<Y/\val b64 us0=val b64 (qs.drop k)*Y*b64^k+val b64 us,fun l _=>(iAt l 0+1).toNat,⟨nq,us0,_,by rw [e0],by omega,hN,by simp,du,I3 (by decide) _,rfl,htop,by simp [val]⟩,?_⟩
 rintro j a3 ⟨k,us,qs,ax,hk,F,R,t,O,rfl,an,hv⟩
 obtain rfl:j=(k:Int)-1:=by simpa using ax
 have S:g.le (Am .u64 C2 g bu us bq qs):=Re hu hq hne
 have su:SlI .u64 (Am .u64 C2 g bu us bq qs) (some ⟨bu,0,none⟩) us:=Wa hne
 unfold Hk
 refine B7 (fun h1=>?_) (fun h1=>?_)
 ·obtain ⟨j,rfl⟩:∃ j,k=j+1:=⟨k-1,by omega⟩
  have ej:((j+1:Nat):Int)-1=(j:Int):=by omega
  rw [ej]
  have e1:B6 ((j:Int)+((mm+2:Nat):Int))=((j+(mm+2):Nat):Int):=by rw [B8 (by omega) (by omega)];omega
  have e2:B6 (((j+(mm+2):Nat):Int)+1)=((j+(mm+3):Nat):Int):=by rw [B8 (by omega) (by omega)];omega
  simp only [e1,e2,aC]
  have x:=t.drop j
  have C:(us.drop j).length=N-j:=by rw [aQ,F]
  have w:val b64 ((us.drop j).drop (mm+3))=0:=by
   have:=Dt (B:=b64) (by decide) (n:=mm+2) (t.drop (j+1)) (by omega)
   rw [dG] at this ⊢
   rw [show j+(mm+3)=j+1+(mm+2) by omega];exact this
  have ay:=A2h b64 us j
  have am:val b64 (us.drop j)<Y*b64:=by
   have a9:=N8 t j
   rw [ay]
   have t1:b64*(val b64 (us.drop (j+1))+1)<=b64*Y:=aI (by omega) (by decide)
   have t2:b64*(val b64 (us.drop (j+1))+1)=b64*val b64 (us.drop (j+1))+18446744073709551616:=by show (18446744073709551616:Int)*_=_;grind
   have t3:Y*b64=b64*Y:=aR _ _
   omega
  have D:=F5 b64 (us.drop j) (i:=mm+3) (by omega)
  rw [w,fR,fS] at D
  have ar:=G7 b64 (us.drop j) (mm+2)
  have hX:val b64 (us.drop j)=val b64 ((us.drop j).take (mm+2))+b64^(mm+2)*(us.drop j).getD (mm+2) 0:=by rw [D];exact ar
  refine ⟨⟨by omega,by omega⟩,⟨by omega,by omega⟩,?_⟩
  have sw:SlI .u64 (Am .u64 C2 g bu us bq qs) (K5 (some ⟨bu,0,none⟩) N j 1) ((us.drop j).take (mm+3)):=by
   have:=su.cut (c:=N) (l:=j) (m:=j+(mm+3)) (by omega) (by omega) (by omega)
   rwa [show j+(mm+3)-j=mm+3 by omega] at this
  generalize hXX:val b64 (us.drop j)=X at *
  refine A1c (m:=mm) (X:=X) (Y:=Y) sw (sv.mono S) (by rw [aG,C];omega) hn.symm (x.take _) dv (by rw [aG,C];omega) hn (by omega) hv1 D.symm hY am ?_
  intro q q0 q1 q2 q3
  refine ⟨_,rfl,⟨by omega,by omega⟩,⟨by omega,by omega⟩,?_⟩
  have w0:=B7z (e:=C2) (us:=us) (qs:=qs) hu hne
  have ai:SlI .u64 (blk .u64 C2 g bq qs) VA vs:=sv.mono (W8 hq qs)
  have hW:(us.drop j).take (j+(mm+2)-j)=(us.drop j).take (mm+2):=by rw [show j+(mm+2)-j=mm+2 by omega]
  have w1:=w0.sub (l:=j) (m:=j+(mm+2)) (c:=N) (by omega) (by omega) (by omega)
  rw [hW] at w1
  have G:((us.drop j).take (mm+2)).length=mm+2:=by rw [aG,C];omega
  refine Kj w1 (by rw [G];omega) ai hn.symm (x.take _) dv (by rw [G,hn]) ⟨q0,q1⟩ (by omega) ?_
  intro W c h2 o L u H w2
  rw [G] at o H
  refine ⟨_,rfl,?_⟩
  have w3:=w0.whole (l:=j) (m:=j+(mm+2)) (by omega) (by omega) (by omega) w2
  have af:=B6h hne w3
  have f:(us.take j).length=j:=by rw [aG,F];omega
  have ak:us.drop (j+(mm+2))=(us.drop j).drop (mm+2):=by rw [dG]
  rw [aS,ak] at af
  subst af
  generalize hws:us.drop j=ws at *
  have p:(W++ws.drop (mm+2)).length=ws.length:=by rw [aH,aQ];omega
  have dW:Dig b64 (W++ws.drop (mm+2)):=L.append (x.drop _)
  have T:(W++ws.drop (mm+2)).getD (mm+2) 0=ws.getD (mm+2) 0:=by
   simp only [cN]
   rw [gS (by omega),o,gJ,List.getElem?_drop,dT]
  have ad:=N8 x (mm+2)
  have aj:(us.take j++(W++ws.drop (mm+2))).length=N:=by rw [aH,p,f];omega
  have au:SlI .u64 (Am .u64 C2 g bu (us.take j++(W++ws.drop (mm+2))) bq qs) (some ⟨bu,0,none⟩) (us.take j++(W++ws.drop (mm+2))):=Wa hne
  have al:j+(mm+2)=(mm+2)+(us.take j).length:=by omega
  refine au.load aj.symm (by omega) (by omega) ?_
  rw [aC,al,Gf,T]
  refine ⟨_,rfl,by omega,by omega,?_⟩
  refine A4b (i:=mm+2+(us.take j).length) F6 hne (by omega) ?_
  rw [Kx]
  have hP:0<b64^(mm+2):=D7 (by decide) _
  have av:=L5 (by decide) L
  have a2:=C7 (by decide) L
  rw [o] at av
  rw [hY] at H
  have hD:X-q*Y=val b64 W+(ws.getD (mm+2) 0-c)*b64^(mm+2):=by rw [H,hX];grind
  have Q:X-q*Y<Y:=by
   have:(q+1)*Y=q*Y+Y:=by grind
   omega
  have a5: -Y<=X-q*Y:=by
   have:(q-1)*Y=q*Y-Y:=by grind
   omega
  have a7:0<=X:=by
   have t1:=C7 (by decide) (x.take (mm+2))
   have t2:=aT (aN hP) ad.1
   omega
  have a0:ws.getD (mm+2) 0-c=0\/ws.getD (mm+2) 0-c= -1:=by
   have t2:ws.getD (mm+2) 0-c<1:=by
    by_cases u:ws.getD (mm+2) 0-c<1
    ·exact u
    ·have:=aE (show 1<=ws.getD (mm+2) 0-c by omega) (aN hP);omega
   have t3: -2<ws.getD (mm+2) 0-c:=by
    by_cases u: -2<ws.getD (mm+2) 0-c
    ·exact u
    ·have:=aE (show ws.getD (mm+2) 0-c <= -2 by omega) (aN hP);omega
   omega
  have y:∀ v,((W++ws.drop (mm+2)).set (mm+2) v).take (mm+2)=W:=by
   intro v
   rw [gD (by omega),dA o]
  have V:∀ v,((W++ws.drop (mm+2)).set (mm+2) v).getD (mm+2) 0=v:=by
   intro v
   rw [cN,iF (by omega)];rfl
  have ac:∀ v,((W++ws.drop (mm+2)).set (mm+2) v).drop (mm+3)=ws.drop (mm+3):=by
   intro v
   rw [D5 (by omega),show mm+3=(mm+2)+1 by omega,<- dG,eK o,dG]
  refine ⟨fun l h'=>∃ d r,l=[U r]/\h'=Am .u64 C2 g bu (us.take j++d) bq qs/\d.length=ws.length/\Dig b64 d/\d.drop (mm+3)=ws.drop (mm+3)/\d.getD (mm+2) 0=0/\val b64 (d.take (mm+2))=X-r*Y/\0<=X-r*Y/\X-r*Y<Y/\0<=r/\r<18446744073709551616,B7 (fun h3=>?_) (fun h3=>?_),?_⟩
  ·have E:ws.getD (mm+2) 0-c= -1:=by omega
   rw [E] at hD ⊢
   have aa:C1 (-1)=18446744073709551615:=by rw [E7];omega
   rw [aa]
   have aw:1<=q:=by
    by_cases u:1<=q
    ·exact u
    ·have:q=0:=by omega
     subst this;omega
   have e5:(q-1)*Y=q*Y-Y:=by grind
   have bk:=C47 (g:=g) (bu:=bu) (bq:=bq) (pre:=us.take j) (qs:=qs) (VA:=VA) (vs:=vs) (n:=mm+2) (N:=N) (ws:=(W++ws.drop (mm+2)).set (mm+2) 18446744073709551615) (q:=q)
    (J:=fun l h'=>∃ d r,l=[U r]/\h'=Am .u64 C2 g bu (us.take j++d) bq qs/\d.length=ws.length/\Dig b64 d/\d.drop (mm+3)=ws.drop (mm+3)/\d.getD (mm+2) 0=0/\val b64 (d.take (mm+2))=X-r*Y/\0<=X-r*Y/\X-r*Y<Y/\0<=r/\r<18446744073709551616)
    hu hq hne sv dv hn.symm (dW.set (by decide)) (by rw [aH,bN,p,f];omega) (by rw [bN,p];omega) (by omega) (by rw [y,hY];omega) (by rw [y,hY];omega) (V _) ?_
   ·rw [f] at bk;exact bk
   ·intro d g1 g2 g3 g4 g5
    rw [y,hY] at g5
    rw [C3 (n:=q-1) (by omega) (by omega)]
    refine ⟨d,q-1,rfl,rfl,by rw [g1,bN,p],g2,by rw [g3,ac],g4,by omega,by omega,by omega,by omega,by omega⟩
  ·have A:ws.getD (mm+2) 0-c=0:=by omega
   rw [A] at hD ⊢
   have ah:C1 0=0:=by rw [E7];omega
   rw [ah]
   exact ⟨(W++ws.drop (mm+2)).set (mm+2) 0,q,rfl,rfl,by rw [bN,p],dW.set (by decide),ac _,V _,by rw [y];omega,by omega,Q,q0,q1⟩
  ·rintro q4 a1 ⟨d,r,ap,rfl,g1,g2,g3,g4,g5,g6,g7,g8,g9⟩
   obtain rfl:q4=r:=by simpa using ap
   refine ⟨_,rfl,by omega,by omega,?_⟩
   refine A4c (i:=j) F6 (by omega) ?_
   rw [B8 (by omega) (by omega)]
   have ae:val b64 d=X-q4*Y:=by
    have z1:=F5 b64 d (i:=mm+3) (by omega)
    rw [g3,w,G7,g4,g5] at z1
    simp at z1
    omega
   refine ⟨⟨j,us.take j++d,qs.set j q4,rfl,by omega,by rw [aH,g1,f];omega,by simpa using R,(t.take j).append g2,O.set ⟨g8,g9⟩,rfl,?_,?_⟩,by simp only [iAt,aF];omega⟩
   ·rw [eK f,ae];exact g7
   ·have M:=F5 b64 us (i:=j) (by omega)
    rw [hws,hXX] at M
    rw [hv,W7 (by omega),G2,f,ae,M,aW]
    simp only [val]
    grind
 ·have ao:k=0:=by omega
  subst ao
  simp at an hv
  have ba:0<b:=by
   by_cases u:0<b
   ·exact u
   ·have:=aE (show b<=0 by omega) (aN hp);omega
  have a6:=C7 (by decide) t
  have hR:val b64 us=(a-val b64 qs*b)*2^s:=by
   rw [hua,hYb] at hv
   grind
  have aq:0<=a-val b64 qs*b:=by
   by_cases u:0<=a-val b64 qs*b
   ·exact u
   ·have:=aE (show a-val b64 qs*b <= -1 by omega) (aN hp);omega
  have az:a-val b64 qs*b<b:=by
   by_cases u:a-val b64 qs*b<b
   ·exact u
   ·have:=aE (show b<=a-val b64 qs*b by omega) (aN hp);omega
  have z:a/b=val b64 qs:=by
   have:a=(a-val b64 qs*b)+val b64 qs*b:=by omega
   rw [this,fT _ _ (by omega),bU aq az,dL]
  have Z:a%b=a-val b64 qs*b:=by
   have:=Int.emod_def a b
   rw [this,z,aR]
  rw [z,Z] at hK
  rw [<- R]
  refine Q4 B9o O (bF _) (by omega) ?_
  intro m1 aa M1
  refine ⟨_,_,_,rfl,?_⟩
  rw [<- F]
  refine Q4 su t (bF _) (by omega) ?_
  intro m2 a8 M2
  refine ⟨_,_,_,rfl,?_⟩
  rw [C3 (by omega) (by omega)]
  refine Hc M2 (by have:=M2.len_le (by decide) (j:=mm+2) (by omega);omega) (by omega) ?_
  intro A3 m3 c3 h3 l3 k3 M3
  have ag:val b64 us/2^s=a-val b64 qs*b:=by rw [hR,gE _ (by omega)]
  rw [ag] at M3
  exact ⟨_,_,_,rfl,hK _ _ _ _ _ _ _ (B0 S l3) (by omega) k3 (M1.mono l3) M3⟩
end
section
variable {h g:bC} {K:VP} {A B:Option bH} {ac bc:Nat}
set_option maxHeartbeats 1000000 in
def Fa{x y:Int}{an bn:Nat}(ma:Mw h A an x)(mb:Mw h B bn y)(ha:an<=ac)(hbc:bn<=bc)(hy:y≠0)(hl:an<=1000000000)(hl2:bn<=1000000000)
 (hK:∀ A1 m1 c1 A2 m2 c2 h',h.le h'->m1<=c1->m2<=c2->Mw h' A1 m1 (x/y)->Mw h' A2 m2 (x%y)->K (.tuple #[.slice A1 m1 c1,.slice A2 m2 c2]) h'):aZ prog J2 #[.slice A an ac,.slice B bn bc] h K:=by
 have O:=ma.nonneg (by decide)
 have am:=mb.nonneg (by decide)
 have a4:=mb.len_zero (by decide)
 have u:=ma.lt (by decide)
 have a5:=mb.lt (by decide)
 refine Sx _ _ _ _ _ _ ?_
 unfold Pg
 refine F9 ma mb (by omega) ⟨_,rfl,B7 (fun q=>?_) (fun q=>E4 (fun h2=>?_) (fun h2=>?_))⟩
 ·have M:x<y:=by
   unfold Fc at q
   by_cases c:x<y
   ·exact c
   ·rw [iN c] at q
    by_cases F:x>y
    ·rw [iP F] at q;omega
    ·rw [iN F] at q;omega
  rw [bU O M,gL O M] at hK
  exact hK none 0 0 _ _ _ _ (B4 h) (bF _) ha Mag.zero ma
 ·obtain ⟨a,rfl,sy,Z,ny,rfl⟩:=mb
  have V:a.length=1:=by omega
  obtain ⟨d,rfl⟩:∃ d,a=[d]:=by
   cases a with
   | nil=>simp at V
   | cons d r=>
    cases r with
    | nil=>exact ⟨d,rfl⟩
    | cons _ _=>simp at V
  rw [Co] at hy am hK
  have hd:=Z d (by simp)
  obtain ⟨w,rfl⟩:∃ w:Nat,d=w:=⟨d.toNat,by omega⟩
  refine sy.load rfl (by omega) (by simp) ?_
  show aZ _ _ #[_,U (w:Int)] _ _
  have hw:w<18446744073709551616:=by have:=hd.2;have:(w:Int)<18446744073709551616:=this;omega
  refine Vs ma ⟨by omega,hw⟩ hl ?_
  intro A' m c' h' ak hm a3 hM
  refine ⟨_,_,_,_,rfl,?_⟩
  refine Bq ⟨aU _ (by omega),by have:=aP x (show (0:Int)<w by omega);omega⟩ ?_
  intro A2 m2 c2 h3 E k3 M3
  exact ⟨_,_,_,rfl,hK _ _ _ _ _ _ _ (B0 ak E) hm k3 (hM.mono E) M3⟩
 ·have ax:y<=x:=by
   unfold Fc at q
   by_cases c:x<y
   ·rw [iP c] at q;omega
   ·omega
  have a2:bn<=an:=mb.len_le (by decide) (cY ax u)
  have af:=mb
  have aj:=ma
  obtain ⟨a,rfl,sy,Z,ny,rfl⟩:=mb
  obtain ⟨mm,hmm⟩:∃ mm,a.length=mm+2:=⟨a.length-2,by omega⟩
  have gt:=N8 Z (mm+1)
  have ao:=A2m (m:=mm+1) hmm ny
  obtain ⟨J,o⟩:=Ce (B:=b64) (by decide) Z (m:=mm+1) hmm
  have e1:B6 ((a.length:Int)-1)=((mm+1:Nat):Int):=by rw [B8 (by omega) (by omega)];omega
  rw [e1]
  refine sy.load rfl (by omega) (by omega) ?_
  rw [aC]
  obtain ⟨t,ht⟩:∃ t:Nat,a.getD (mm+1) 0=t:=⟨(a.getD (mm+1) 0).toNat,by omega⟩
  rw [ht] at gt ao J o ⊢
  have l:t≠0:=by omega
  refine R6 (by omega) ⟨_,rfl,?_⟩
  obtain ⟨ay,a1⟩:=Ff l
  have a0:N9 t<=64:=Iy (k:=64) (by omega)
  have az:1<=N9 t:=by unfold N9;rw [iN l];omega
  obtain ⟨s,hs⟩:∃ s,s=64-N9 t:=⟨_,rfl⟩
  rw [<- hs]
  have R:s<64:=by omega
  have b:0<(2:Int)^s:=bK (by decide)
  have ah:=Ac (s:=s) (by omega)
  have z:N9 t=64-s:=by omega
  have ai:(t:Int)+1<=2^(64-s):=by
   rw [<- z]
   have:((t+1:Nat):Int)<=((2^N9 t:Nat):Int):=by omega
   simpa using this
  have ad:(2:Int)^(63-s)<=t:=by
   have:((2^(N9 t-1):Nat):Int)<=((t:Nat):Int):=by omega
   rw [show N9 t-1=63-s by omega] at this
   simpa using this
  have G:(2:Int)^s*2^(63-s)=9223372036854775808:=by
   rw [<- bG,show s+(63-s)=63 by omega];decide
  have al:C1 (s:Int)=(s:Int):=C3 (by omega) (by omega)
  rw [al]
  have g:=D7 (B:=b64) (by decide) (mm+1)
  have aq:val b64 a*2^s<b64^(mm+2):=by
   have t2:val b64 a*2^s<((t:Int)+1)*b64^(mm+1)*2^s:=bM J b
   have t3:((t:Int)+1)*b64^(mm+1)*2^s=((t:Int)+1)*2^s*b64^(mm+1):=by grind
   have t4:((t:Int)+1)*2^s*b64^(mm+1)<=18446744073709551616*b64^(mm+1):=by
    apply aE _ (aN g)
    rw [<- ah,aR (2^s)]
    exact aE ai (aN b)
   have t5:b64^(mm+2)=18446744073709551616*b64^(mm+1):=by rw [aW b64 (mm+1),aR]
   omega
  have a6:9223372036854775808*b64^(mm+1)<=val b64 a*2^s:=by
   have t1:(t:Int)*b64^(mm+1)*2^s<=val b64 a*2^s:=aE o (aN b)
   have t2:9223372036854775808*b64^(mm+1)<=(t:Int)*2^s*b64^(mm+1):=by
    apply aE _ (aN g)
    rw [<- G,aR (t:Int)]
    exact aI ad (by omega)
   have t3:(t:Int)*2^s*b64^(mm+1)=(t:Int)*b64^(mm+1)*2^s:=by grind
   omega
  refine U4 af hbc hl2 (by omega) ?_
  intro A1 n1 c1 g1 l1 k1 M1
  refine ⟨_,_,_,rfl,?_⟩
  have aa:n1=mm+2:=by
   have q1:=M1.len_le (by decide) aq
   have q2:=M1.lt (by decide)
   by_cases c:n1=mm+2
   ·exact c
   ·have:=C9 (B:=b64) (by decide) (show n1<=mm+1 by omega)
    omega
  subst aa
  obtain ⟨W,T,sv,dv,nv,D⟩:=M1
  have av:b64<=2*W.getD (mm+1) 0:=by
   obtain ⟨q1,q2⟩:=Ce (B:=b64) (by decide) dv (m:=mm+1) T.symm
   rw [D] at q1
   have:9223372036854775808<W.getD (mm+1) 0+1:=by
    by_cases c:9223372036854775808<W.getD (mm+1) 0+1
    ·exact c
    ·have:=aE (show W.getD (mm+1) 0+1<=9223372036854775808 by omega) (aN g);omega
   show (18446744073709551616:Int)<=_
   omega
  have eN:B6 ((an:Int)+1)=((an+1:Nat):Int):=by rw [B8 (by omega) (by omega)];omega
  rw [eN]
  refine K3 Q0 (by omega) (by omega) (by omega) ?_
  intro bu ae
  rw [aC]
  refine ⟨_,_,_,rfl,?_⟩
  have w0:=Win.blk .u64 C2 ae (aD (an+1) 0)
  refine w0.call ?_
  refine U4 (aj.mono l1) ha hl (by omega) ?_
  intro A3 n3 c3 g3 E k3 M3 h4 w4
  refine ⟨_,_,_,rfl,?_⟩
  have au:x*2^s<b64^(an+1):=by
   have t1:x*2^s<b64^an*2^s:=bM u b
   have t2:b64^an*2^s<=b64^an*18446744073709551616:=by
    apply aI _ (aN (D7 (by decide) an))
    have:=C9 (B:=2) (by decide) (show s<=64 by omega)
    have e:(2:Int)^64=18446744073709551616:=by decide
    omega
   rw [aW];show _<b64^an*(18446744073709551616:Int);omega
  have a8:=M3.len_le (by decide) au
  obtain ⟨us,ap,ar,ag,a7,Q⟩:=M3
  refine Gx Q0 w4 (by simp) (ar.mono w4.le) ap (by simp;omega) ?_
  intro h5 X
  refine ⟨_,rfl,?_⟩
  rw [bI] at X
  generalize hu0:us++aD (an+1-us.length) (0:Int)=us0 at X
  have S:us0.length=an+1:=by rw [<- hu0];simp;omega
  have j:Dig b64 us0:=by rw [<- hu0];exact ag.append (I3 (by decide) _)
  have p:val b64 us0=x*2^s:=by rw [<- hu0,Db];exact Q
  obtain ⟨nq,hnq⟩:∃ nq,an+1=nq+(mm+2):=⟨an+1-(mm+2),by omega⟩
  have eq:B6 (B6 ((an:Int)-(a.length:Int))+1)=(nq:Int):=by
   rw [B8 (n:=(an:Int)-(a.length:Int)) (by omega) (by omega),B8 (by omega) (by omega)];omega
  rw [eq]
  refine K3 Q0 (by omega) (by omega) (by omega) ?_
  intro bq f
  rw [aC]
  refine ⟨_,_,_,rfl,?_⟩
  have aw:h5=blk .u64 C2 g3 bu us0:=by rw [X.eq];simp [blk]
  subst aw
  have C:g3 bu=none:=X.free
  have L:bu≠bq:=by
   rintro rfl
   unfold blk at f
   rw [C0] at f;cases f
  have H:g3 bq=none:=by
   have:=f
   unfold blk at this
   rwa [B9 _ _ L.symm] at this
  rw [hmm]
  refine A5w (us0:=us0) (N:=an+1) (xn:=an) C H L (sv.mono E) dv T.symm av R D rfl j S p rfl hnq (by omega) (by omega) ?_ ?_
  ·have s1:=F5 b64 us0 (i:=nq) (by omega)
   have s2:=C7 (by decide) (j.take nq)
   have s3:val b64 us0<b64^an*2^s:=by
    rw [p];exact bM u b
   have s4:b64^(mm+1)<=val b64 a:=by
    have:=aE (show 1<=(t:Int) by omega) (aN g);omega
   have s5:b64^nq*(b64^(mm+1)*2^s)<=b64^nq*(val b64 a*2^s):=aI (aE s4 (aN b)) (aN (D7 (by decide) nq))
   have s6:b64^nq*(b64^(mm+1)*2^s)=b64^an*2^s:=by
    rw [<- cV,<- bG,show nq+(mm+1)=an by omega]
   by_cases c:val b64 (us0.drop nq)<val b64 a*2^s
   ·exact c
   ·have:=aI (show val b64 a*2^s<=val b64 (us0.drop nq) by omega) (aN (D7 (B:=b64) (by decide) nq));omega
  ·intro A5 m5 c5 A6 m6 c6 h6 l6 k5 k6 M5 M6
   exact hK _ _ _ _ _ _ _ (B0 l1 (B0 E l6)) k5 k6 M5 M6
end
def A1h{x a b p:Int}(h:a+p*b=x)(h0:0<=a)(h1:a<p):x/p=b/\x%p=a:=(Int.ediv_emod_unique (by omega)).2 ⟨h,h0,h1⟩
def Xg{P:dE}{h:bC}{A:Option bH}{n m c s:Nat}{cs:List cZ}(hl:cs.length=n*s)(hc:cs=[]\/∃ a,A=some a/\∀ j v,cs[j]? = some v->h.cell? (a.add j)=some v){K:Array cZ->bC->Prop}(x:K cs.toArray h):
 wpH P (Builtin.firstCells s n (.slice A m c)) K h:=by
 cases A with
 | none=>
  rcases hc with rfl|⟨a,e,_⟩
  ·exact x
  ·cases e
 | some a=>
  show wpH P (loadCells a (n*s)) K h
  rcases hc with rfl|⟨b,e,hc⟩
  ·exact U5 (cs:=[]) hl.symm (fun j v e=>by simp at e) x
  ·cases e
   exact U5 hl.symm hc x
def B7u{P:dE}{t e ty:bV}{k:dX}{bytes:Nat}(s:SliceT P t e (.int k 0) 1 bytes){h g:bC}{b:Nat}{A:Option bH}{pre post:List cZ}{xs:List Int}{n c m d:Nat}(w:Win k h g b e A pre xs post)(hn:n=xs.length){B:Option bH}{ys:List Int}(sy:SlI k h B ys)(hm:min m xs.length=ys.length){K:VP}
 (x:∀ h',Win k h' g b e A pre (ys++xs.drop ys.length) post->K (I ys.length) h'):wpH P (fJ #[t,t] ty #[.slice A n c,.slice B m d]) K h:=by
 subst hn
 have f:ys.length<=xs.length:=by omega
 obtain ⟨i,p,y,o,q⟩:=s.parts
 unfold fJ
 simp only [dC,aF,aM,C5,F0 s.und,L0 p,F8,gF,o]
 have l:Nat.min m xs.length=ys.length:=hm
 rw [l]
 refine Xg (s:=1) (cs:=ys.map (aY k)) (by simp) sy ?_
 cases A with
 | none=>
  rcases w.at_ with j|j
  ·subst j
   have:ys=[]:=aK (by simpa using f)
   subst this
   exact x h (by simpa using w)
  ·cases j
 | some a=>
  simp only [C5]
  rcases w.at_ with j|j
  ·subst j
   have:ys=[]:=aK (by simpa using f)
   subst this
   exact x h (by simpa using w)
  ·cases j
   rw [w.eq]
   refine J0 (ys.map (aY k)) pre.length 0 (pre++xs.map (aY k)++post) (by simp;omega) (fun v r=>?_) ?_
   ·obtain ⟨u,_,rfl⟩:=List.mem_map.1 r;rfl
   ·refine x _ ⟨w.free,?_,?_⟩
    ·congr 3
     unfold L6
     rw [dT,aS pre,dA rfl,fV]
     rw [gN,aV (show pre.length<=pre.length+ys.length by omega),cI,cM]
     rw [eD (by simpa using f),<- List.map_drop,dB]
     simp only [aS]
    ·right;rfl
section
variable {h g:bC} {K:VP} {A B:Option bH} {ac bc:Nat}
def B9e(a n:Nat):(if (a:Int)<(n:Int) then (a:Int) else (n:Int))=((min n a:Nat):Int):=by split<;>omega
def Ms{xs:List Int}(d:Dig b64 xs)(n:Nat):val b64 xs/b64^n=val b64 (xs.drop (min n xs.length))/\val b64 xs%b64^n=val b64 (xs.take (min n xs.length)):=by
 by_cases a:n<=xs.length
 ·rw [aJ a]
  have e:=F5 b64 xs a
  have b:=C7 (by decide) (d.take n)
  have c:=L5 (by decide) (d.take n)
  rw [aG,aJ a] at c
  exact A1h e.symm b c
 ·rw [fK (by omega),gM,bB]
  have b:=C7 (by decide) d
  have c:=L5 (by decide) d
  have f:=C9 (B:=b64) (by decide) (show xs.length<=n by omega)
  exact A1h (by simp [val]) b (by omega)
def Z6{x:Int}{an n:Nat}(ma:Mw h A an x)(ha:an<=ac)(hK:∀ A' m c',m<=c'->m<=an->Mw h A' m (x/b64^n)->K (.slice A' m c') h):aZ prog T7 #[.slice A an ac,I n] h K:=by
 obtain ⟨b,rfl,e,a,d,rfl⟩:=ma
 refine A1q _ _ _ _ ?_
 unfold Zb
 rw [B9e,aC]
 refine ⟨⟨by omega,by omega⟩,hK _ _ _ (by omega) (by omega) ?_⟩
 rw [(Ms a n).1,<- aQ]
 refine Mw.of (A1i e (by omega) ha) (a.drop _) ?_
 by_cases c:min n b.length<b.length
 ·exact Ns d c
 ·rw [aV (by omega)];exact Norm.nil
def Ge{x:Int}{an n:Nat}(ma:Mw h A an x)(ha:an<=ac)(hl:an<=10000000000)(hK:∀ A' m c',m<=c'->m<=n->m<=an->Mw h A' m (x%b64^n)->K (.slice A' m c') h):aZ prog Cu #[.slice A an ac,I n] h K:=by
 obtain ⟨c,rfl,b,a,d,rfl⟩:=ma
 refine A4k _ _ _ _ ?_
 unfold A4l
 rw [B9e,aC,I0,cC,cC]
 refine ⟨⟨by omega,by omega⟩,Bm (Ke b (m:=min n c.length) (by omega) ha) (a.take _) (by rw [aG];omega) (Ms a n).2.symm (by omega) (by omega) ?_⟩
 intro m e M
 exact ⟨_,_,_,rfl,hK _ _ _ (by omega) (by omega) (by omega) M⟩
def Ih{x y:Int}{an bn n:Nat}(ma:Mw h A an x)(mb:Mw h B bn y)(hbn:bn<=n)(hl:n+an<=5000000000)(hK:∀ A' m c' h',h.le h'->m<=c'->Mw h' A' m (x*b64^n+y)->K (.slice A' m c') h'):aZ prog Ln #[.slice A an ac,.slice B bn bc,I n] h K:=by
 obtain ⟨a,rfl,q,w,F,rfl⟩:=ma
 obtain ⟨d,rfl,t,z,G,rfl⟩:=mb
 refine B8a _ _ _ _ _ _ _ ?_
 unfold C4c
 have u:B6 ((n:Int)+a.length)=((n+a.length:Nat):Int):=by rw [B8 (by omega) (by omega)];omega
 rw [u]
 refine K3 Q0 (by omega) (by omega) (by omega) ?_
 intro b p
 rw [aC]
 refine ⟨_,_,_,rfl,?_⟩
 have j:=Win.blk .u64 C2 p (aD (n+a.length) 0)
 refine Gx Q0 j (by simp) (t.mono j.le) rfl (by simp;omega) ?_
 intro E f
 refine ⟨_,rfl,⟨by omega,by omega⟩,?_⟩
 rw [bI] at f
 generalize hz:d++aD (n+a.length-d.length) (0:Int)=zs at f
 have o:zs.length=n+a.length:=by rw [<- hz];simp;omega
 have C:=f.sub (l:=n) (m:=n+a.length) (c:=n+a.length) (by omega) (by omega) (by omega)
 rw [aC]
 refine Gx Q0 C (by rw [aG,aQ];omega) (q.mono f.le) rfl (by rw [aG,aQ];omega) ?_
 intro D k
 rw [aV (by rw [aG,aQ];omega),bW] at k
 have g:=f.whole (l:=n) (m:=n+a.length) (by omega) (by omega) (by omega) k
 rw [aV (show zs.length<=n+a.length by omega),bW] at g
 have i:zs.take n=d++aD (n-d.length) 0:=by
  rw [<- hz,dK,aL (by omega),cD]
  congr 2;omega
 rw [i] at g
 refine ⟨_,rfl,Bm g.sl ((z.append (I3 (by decide) _)).append w) (by simp;omega) rfl (by omega) (by omega) ?_⟩
 intro m r M
 refine ⟨_,_,_,rfl,hK _ _ _ _ g.le r ?_⟩
 rw [G2,Db] at M
 have e:(d++aD (n-d.length) (0:Int)).length=n:=by simp;omega
 rw [e] at M
 have s:val b64 a*b64^n+val b64 d=val b64 d+b64^n*val b64 a:=by rw [aR];omega
 rw [s];exact M
def C1y{x y:Int}(hx:0<=x/\x<18446744073709551616)(hy:0<=y/\y<18446744073709551616)(hK:K (.tuple #[U (x*y/18446744073709551616),U (x*y%18446744073709551616)]) h):aZ prog B3z #[U x,U y] h K:=by
 refine C2x _ _ ?_
 unfold C7h
 exact Nt hx hy ⟨_,_,rfl,hK⟩
def A63{v:Int}{n:Nat}(s:SlI .u64 h A [v])(hn:0<n)(hl:n<=1000000000)(hK:∀ A' h',h.le h'->SlI .u64 h' A' (aD n v)->K (.slice A' n n) h'):aZ prog Vj #[.slice A 1 ac,I n] h K:=by
 refine B0t _ _ _ _ ?_
 unfold B50
 refine B7 (fun d=>by omega) (fun _=>?_)
 rw [C3 (n:=((1:Nat):Int)) (by omega) (by omega),C3 (n:=(n:Int)) (by omega) (by omega)]
 refine C1y (by omega) (by omega) ⟨_,_,rfl,?_⟩
 have C:((1:Nat):Int)*(n:Int)/18446744073709551616=0:=by omega
 have z:((1:Nat):Int)*(n:Int)%18446744073709551616=n:=by omega
 rw [C,z]
 refine B7 (fun d=>by omega) (fun _=>?_)
 refine B7 (fun d=>by omega) (fun _=>?_)
 rw [B8 (n:=(n:Int)) (by omega) (by omega)]
 refine K3 Q0 (by omega) (by omega) (by omega) ?_
 intro b u
 rw [aC]
 refine ⟨_,_,_,rfl,?_⟩
 have o:=Win.blk .u64 C2 u (aD n 0)
 refine Gx Q0 o (by simp) (s.mono o.le) rfl (by simp;omega) ?_
 intro d g
 refine ⟨_,rfl,?_⟩
 rw [bI] at g
 refine ⟨fun l f=>∃ k:Nat,l=[I k]/\0<k/\k<=n/\Win .u64 f h b C2 (some ⟨b,0,none⟩) [] (aD k v++aD (n-k) 0) [],fun l _=>n-(iAt l 0).toNat,⟨1,rfl,by omega,hn,g⟩,?_⟩
 rintro i f ⟨k,e,y,a,w⟩
 obtain rfl:=sI1 e
 refine B7 (fun t=>?_) (fun t=>?_)
 ·have r:(aD k v++aD (n-k) (0:Int)).length=n:=by simp;omega
  refine ⟨⟨by omega,by omega⟩,⟨by omega,by omega⟩,?_⟩
  simp only [aC,I0,cC]
  have q:=w.sub (l:=k) (m:=n) (c:=n) (by omega) (by omega) (by omega)
  have B:((aD k v++aD (n-k) (0:Int)).drop k).take (n-k)=aD (n-k) 0:=by
   rw [eK (by simp),aL (by simp)]
  rw [B] at q
  have E:SlI .u64 f (some ⟨b,0,none⟩) (aD (min k (n-k)) v):=by
   have:=Ke w.sl (c:=n) (m:=min k (n-k)) (by omega) (by omega)
   rwa [cK (by simp;omega),cD,aJ (by omega)] at this
  refine B7u Q0 q (by simp) E (by simp) ?_
  intro F p
  rw [cF] at p ⊢
  have j:=w.whole (l:=k) (m:=n) (by omega) (by omega) (by simp;omega) p
  have D:B6 ((k:Int)+(min k (n-k):Nat))=((k+min k (n-k):Nat):Int):=by rw [B8 (by omega) (by omega)];omega
  refine ⟨_,rfl,?_⟩
  rw [D]
  refine ⟨⟨_,rfl,by omega,by omega,?_⟩,?_⟩
  ·have x:(aD k v++aD (n-k) (0:Int)).take k++(aD (min k (n-k)) v++(aD (n-k) (0:Int)).drop (min k (n-k)))++(aD k v++aD (n-k) (0:Int)).drop n=aD (k+min k (n-k)) v++aD (n-(k+min k (n-k))) 0:=by
    rw [dA (by simp),aV (show (aD k v++aD (n-k) (0:Int)).length<=n by omega),bW,bI,<- aS,dV]
    congr 2;omega
   rw [x] at j
   exact j
  ·simp only [iAt,aF];omega
 ·have a:k=n:=by omega
  subst a
  have:=w.sl
  rw [gJ,List.replicate_zero,bW] at this
  exact hK _ _ w.le this
end
def Mw.high{h:bC}{A:Option bH}{an ac k:Nat}{x:Int}(ma:Mw h A an x)(ha:an<=ac)(hk:k<=an):Mw h (K5 A ac k 1) (an-k) (x/b64^k):=by
 obtain ⟨f,rfl,d,b,c,rfl⟩:=ma
 have e:=(Ms b k).1
 rw [aJ hk] at e
 rw [e,<- aQ]
 refine Mw.of (A1i d hk ha) (b.drop _) ?_
 by_cases a:k<f.length
 ·exact Ns c a
 ·rw [aV (by omega)];exact Norm.nil
def B6o{x P X2 yh top:Int}(hP:0<P)(h1:x<P*P*(X2+1))(h2:P*top<=x)(hlt:X2<yh):top<P*yh:=by
 by_cases a:top<P*yh
 ·exact a
 ·have c:P*(P*yh)<=P*top:=aI (by omega) (by omega)
  have b:P*P*(X2+1)<=P*P*yh:=aI (by omega) (aT (by omega) (by omega))
  rw [cV P P yh] at b
  omega
def B6p{x P X2 yh top:Int}(hP:0<P)(h1:P*P*X2<=x)(h2:x<P*(top+1))(hge:yh<=X2):P*yh<=top:=by
 by_cases a:P*yh<=top
 ·exact a
 ·have c:P*(top+1)<=P*(P*yh):=aI (by omega) (by omega)
  have b:P*P*yh<=P*P*X2:=aI (by omega) (aT (by omega) (by omega))
  rw [cV P P yh] at b
  omega
def C0e(N:Nat):Prop:=∀ {h:bC} {K:VP} {A B:Option bH} {ac bc an bn:Nat} {x y:Int},bn<=N->Mw h A an x->Mw h B bn y->an<=ac->bn<=bc->an<=1000000000->bn<=200000000->0<bn->9223372036854775808*b64^(bn-1)<=y->x<b64^bn*y->
 (∀ A1 m1 c1 A2 m2 c2 h',h.le h'->m1<=c1->m2<=c2->Mw h' A1 m1 (x/y)->Mw h' A2 m2 (x%y)->K (.tuple #[.slice A1 m1 c1,.slice A2 m2 c2]) h')->aZ prog V3 #[.slice A an ac,.slice B bn bc] h K
section
variable {h g:bC} {K:VP} {A B:Option bH} {ac bc:Nat}
def Dm{x y:Int}:Fc x y<0↔x<y:=by
 unfold Fc
 by_cases a:x<y
 ·rw [iP a];simp [a]
 ·rw [iN a]
  by_cases b:x>y
  ·rw [iP b];simp [a]
  ·rw [iN b];simp [a]
set_option maxHeartbeats 1000000 in
def A5p{x y q0 R0 pr:Int}{m bn nq cq np cp nr cr:Nat}{Aq Ap Ar:Option bH}(hx0:0<=x)(mb:Mw h B bn y)(hb:bn<=bc)(hl2:bn<=200000000)(hbm:bn=2*m)(mq:Mw h Aq nq q0)(hq:nq<=cq)(mp:Mw h Ap np pr)(hp2:pr<b64^bn)
 (mr:Mw h Ar nr R0) (hr:nr<=cr) (hq0:q0<b64^m) (hR:R0-pr=x-q0*y) (hy:x-q0*y<y)
 (hK:∀ A1 m1 c1 A2 m2 c2 h',h.le h'->m1<=c1->m2<=c2->Mw h' A1 m1 (x/y)->Mw h' A2 m2 (x%y)->K (.tuple #[.slice A1 m1 c1,.slice A2 m2 c2]) h'):
 Aw prog B bn bc K Aq nq cq Ap np cp Ar nr cr h:=by
 have J:=mb.lt (by decide)
 have F:=mb.nonneg (by decide)
 have N:=mp.nonneg (by decide)
 unfold Aw
 refine ⟨fun l c=>∃ (Aq Ar:Option bH) (nq cq nr cr:Nat) (q R:Int),l=[.slice Aq nq cq,.slice Ar nr cr]/\h.le c/\Mw c Aq nq q/\nq<=cq/\Mw c Ar nr R/\nr<=cr/\q<b64^m/\R-pr=x-q*y/\x-q*y<y,fun l c=>match l with|[.slice A n _,_]=>B39 b64 c A n|_=>0,⟨_,_,_,_,_,_,_,_,rfl,B4 h,mq,hq,mr,hr,hq0,hR,hy⟩,?_⟩
 rintro A1 D c1 A2 E c2 c ⟨Aq,Ar,nq,cq,nr,cr,q,R,s,e,mq,hq,mr,hr,hq0,hR,hy⟩
 simp only [bD,bO,and_true] at s
 obtain ⟨⟨rfl,rfl,rfl⟩,rfl,rfl,rfl⟩:=s
 have L:E<=bn+1:=mr.len_le (by decide) (by
  rw [aW]
  show R<b64^bn*18446744073709551616
  omega)
 have z:D<=m:=mq.len_le (by decide) hq0
 refine F9 mr (mp.mono e) (by omega) ⟨_,rfl,?_⟩
 refine B7 (fun g=>?_) (fun g=>?_)
 ·rw [Dm] at g
  have t:=mq.nonneg (by decide)
  have f:1<=q:=by
   by_cases C:1<=q
   ·exact C
   ·obtain rfl:q=0:=by omega
    omega
  refine R9 mr (mb.mono e) hr hb (by omega) (by omega) ?_
  intro A3 H M k d j M3
  refine ⟨_,_,_,rfl,Dx Q0 rfl ?_⟩
  intro b o
  refine ⟨_,_,_,rfl,?_⟩
  have i:=Heap.le_put (.cells #[U 1] C2) o
  have M1:Mw (k.put b (.cells #[U 1] C2)) (some ⟨b,0,none⟩) 1 1:=⟨[1],rfl,SlI.new k b [1] C2 _,Dig.one (by decide),by simp [gC],Co _ _⟩
  refine H2 ((mq.mono d).mono i) M1 hq (by omega) f ?_
  intro A5 Q O S r w M5
  refine ⟨_,_,_,rfl,⟨_,_,_,_,_,_,_,_,rfl,B0 e (B0 d (B0 i r)),M5,w,(M3.mono i).mono r,j,by omega,?_,?_⟩,?_⟩
  ·rw [Int.sub_mul];omega
  ·rw [Int.sub_mul];omega
  ·simp only [As M5,As mq];omega
 ·rw [Dm] at g
  refine H2 mr (mp.mono e) hr (by omega) (by omega) ?_
  intro A3 H M k d j M3
  obtain ⟨u,G⟩:=A1h (x:=x) (a:=R-pr) (b:=q) (p:=y) (by rw [hR,aR y];omega) (by omega) (by omega)
  refine ⟨_,_,_,rfl,hK _ _ _ _ _ _ _ (B0 e d) hq j ?_ ?_⟩
  ·rw [u];exact mq.mono d
  ·rw [G];exact M3
set_option maxHeartbeats 1000000 in
def Ug{N:Nat}(ih:C0e N){x y:Int}{an bn m:Nat}(hm:0<m)(hN:m<=N)(hbm:bn=2*m)(ma:Mw h A an x)(mb:Mw h B bn y)(ha:an<=ac)(hb:bn<=bc)(hl:an<=1000000000)(hl2:bn<=200000000)(htop:9223372036854775808*b64^(bn-1)<=y)(hxy:x<b64^m*y)
 (hK:∀ A1 m1 c1 A2 m2 c2 h',h.le h'->m1<=c1->m2<=c2->Mw h' A1 m1 (x/y)->Mw h' A2 m2 (x%y)->K (.tuple #[.slice A1 m1 c1,.slice A2 m2 c2]) h'):aZ prog V1 #[.slice A an ac,.slice B bn bc] h K:=by
 have ah:=ma.nonneg (by decide)
 have a3:=mb.nonneg (by decide)
 have a0:=mb.lt (by decide)
 have o:=D7 (B:=b64) (by decide) m
 have ae:b64^bn=b64^m*b64^m:=by rw [<- bG];congr 1;omega
 have D:b64^(2*m)=b64^m*b64^m:=by rw [<- bG];congr 1;omega
 have X:b64^(bn-1)=b64^m*b64^(m-1):=by rw [<- bG];congr 1;omega
 have a:=mb.high (k:=m) hb (by omega)
 rw [show bn-m=m by omega] at a
 have d:=a.nonneg (by decide)
 have ar:=a.lt (by decide)
 have dy:b64^m*(y/b64^m)+y%b64^m=y:=aO _ _
 have aq:=aU y (b:=b64^m) (by omega)
 have av:=aP y o
 have dx:b64^m*(x/b64^m)+x%b64^m=x:=aO _ _
 have a2:=aU x (b:=b64^m) (by omega)
 have a9:=aP x o
 have a4:=D7 (B:=b64) (by decide) (m-1)
 have ad:9223372036854775808*b64^(m-1)<=y/b64^m:=by
  by_cases hc:9223372036854775808*b64^(m-1)<=y/b64^m
  ·exact hc
  ·have n:b64^m*(y/b64^m+1)<=b64^m*(9223372036854775808*b64^(m-1)):=aI (by omega) (by omega)
   have R:b64^m*(9223372036854775808*b64^(m-1))=9223372036854775808*(b64^m*b64^(m-1)):=by grind
   rw [X] at htop
   rw [cX] at n
   omega
 obtain ⟨S,ag,sy,e,aj,rfl⟩:=mb
 have mb:Mw h B bn (val b64 S):=⟨S,ag,sy,e,aj,rfl⟩
 generalize hyv:val b64 S=y at *
 refine Sw _ _ _ _ _ _ ?_
 unfold Pf
 have eh:B6 (cP ((bn:Nat):Int) 2)=(m:Int):=by rw [bJ (by omega),B8 (by omega) (by omega)];omega
 have V:B6 (2*(m:Int))=((2*m:Nat):Int):=by rw [B8 (by omega) (by omega)];omega
 simp only [eh,V,aC,cC,I0]
 rw [show bn-m=m by omega]
 refine ⟨⟨by omega,by omega⟩,⟨by omega,by omega⟩,Bm (Ke sy (m:=m) (c:=bc) (by omega) (by omega)) (e.take m) (by rw [aG];omega) rfl (by omega) (by omega) ?_⟩
 intro yn az Myl
 have t:=(Ms e m).2
 rw [aJ (by omega),hyv] at t
 rw [<- t] at Myl
 refine ⟨_,_,_,rfl,B4 h,Z6 ma ha ?_⟩
 intro A1 n1 c1 k1 a8 M1
 refine ⟨_,_,_,rfl,?_⟩
 have C:=M1.nonneg (by decide)
 refine ⟨fun l L=>∃ (Aq Ar:Option bH) (Q cq O cr:Nat) (q r:Int),l=[.slice Aq Q cq,.slice Ar O cr]/\h.le L/\Mw L Aq Q q/\Q<=cq/\Mw L Ar O r/\O<=cr/\q<b64^m/\x/b64^m=q*(y/b64^m)+r/\x-q*y<y,?_,?_⟩
 ·refine Z6 ma ha ?_
  intro A2 n2 c2 k2 a7 M2
  refine ⟨_,_,_,rfl,F9 M2 a (by omega) ⟨_,rfl,?_⟩⟩
  have al:b64^(2*m)*(x/b64^(2*m))+x%b64^(2*m)=x:=aO _ _
  have am:=aU x (b:=b64^(2*m)) (by have:=D7 (B:=b64) (by decide) (2*m);omega)
  have ao:=aP x (D7 (B:=b64) (by decide) (2*m))
  generalize x/b64^(2*m)=X2 at *
  rw [D] at al am ao
  refine B7 (fun J=>?_) (fun J=>?_)
  ·rw [Dm] at J
   have ht:=B6o (x:=x) (top:=x/b64^m) o (by rw [cX];omega) (by omega) J
   refine ih hN M1 a k1 (by omega) (by omega) (by omega) hm ad ht ?_
   intro A3 n3 c3 A4 n4 c4 h3 i k3 k4 M3 M4
   have H:0<y/b64^m:=by omega
   have d1:=aO (x/b64^m) (y/b64^m)
   have d2:=aP (x/b64^m) H
   have d0:=M3.nonneg (by decide)
   refine ⟨_,_,_,_,_,_,rfl,_,_,_,_,_,_,_,_,rfl,i,M3,k3,M4,k4,bL H ht,by rw [aR];omega,?_⟩
   generalize (x/b64^m)/(y/b64^m)=q at *
   generalize (x/b64^m)%(y/b64^m)=r at *
   generalize x/b64^m=top at *
   generalize y/b64^m=yh at *
   generalize y%b64^m=yl at *
   generalize x%b64^m=xl at *
   generalize b64^m=P at *
   have n:P*(r+1)<=P*yh:=aI (by omega) (by omega)
   have R:x-q*y=P*r+xl-q*yl:=by rw [<- dx,<- dy,<- d1];grind
   have t3:=aT d0 aq
   rw [cX] at n
   omega
  ·rw [Dm] at J
   have ht:=B6p (x:=x) (top:=x/b64^m) (yh:=y/b64^m) (X2:=X2) o (by omega) (by rw [cX];omega) (by omega)
   refine Dx Q0 rfl ?_
   intro b af
   refine ⟨_,_,_,rfl,?_⟩
   have l4:=Heap.le_put (.cells #[U 18446744073709551615] C2) af
   refine A63 (v:=18446744073709551615) (SlI.new h b [18446744073709551615] C2 _) hm (by omega) ?_
   intro A5 h5 w s5
   refine ⟨_,_,_,rfl,?_⟩
   have s:=B0 l4 w
   refine Ih (a.mono s) (Mag.zero (k:=.u64) (B:=b64)) (by omega) (by omega) ?_
   intro A6 n6 c6 h6 l6 k6 M6
   refine ⟨_,_,_,rfl,?_⟩
   have f:=B0 s l6
   refine H2 (M1.mono f) M6 k1 (by omega) (by rw [aR];omega) ?_
   intro A7 n7 c7 h7 u W M7
   have ay:n7<=an:=M7.len_le (by decide) (by
    have:=ma.lt (by decide)
    have n:=aT d (aN o)
    have R:1*(x/b64^m)<=b64^m*(x/b64^m):=aE (by omega) C
    omega)
   refine ⟨_,_,_,rfl,?_⟩
   refine R9 M7 ((a.mono f).mono u) W (by omega) (by omega) (by omega) ?_
   intro A8 n8 c8 h8 l8 k8 M8
   have p:∀ j:Nat,val b64 (aD j 18446744073709551615)=b64^j-1:=by
    intro j
    induction j with
    | zero=>rfl
    | succ j ihj=>
     rw [List.replicate_succ,val,ihj,aW]
     show (18446744073709551615:Int)+18446744073709551616*(b64^j-1)=b64^j*18446744073709551616-1
     omega
   have M5:Mw h5 A5 m (b64^m-1):=by
    refine ⟨aD m 18446744073709551615,by simp,s5,?_,?_,p m⟩
    ·intro z hz
     have:=List.eq_of_mem_replicate hz
     subst this;decide
    ·obtain ⟨j,rfl⟩:∃ j,m=j+1:=⟨m-1,by omega⟩
     unfold gC
     rw [eA]
     simp
   refine ⟨_,_,_,rfl,_,_,_,_,_,_,_,_,rfl,B0 f (B0 u l8),((M5.mono l6).mono u).mono l8,bF _,M8,k8,by omega,?_,?_⟩
   ·grind
   ·have:(b64^m-1)*y=b64^m*y-y:=by grind
    omega
 ·rintro Aq' ai a6 Ar' ap ax L ⟨Aq,Ar,Q,cq,O,cr,q,r,E,lh,M,hq,T,hr,g,ak,aa⟩
  simp only [bD,bO,and_true] at E
  obtain ⟨⟨rfl,rfl,rfl⟩,rfl,rfl,rfl⟩:=E
  have F:=M.nonneg (by decide)
  have a5:=T.nonneg (by decide)
  have aw:ai<=m:=M.len_le (by decide) g
  have a1:ap<=an:=T.len_le (by decide) (by
   have:=ma.lt (by decide)
   have n:=aT F d
   have R:1*(x/b64^m)<=b64^m*(x/b64^m):=aE (by omega) C
   omega)
  refine H8 M (Myl.mono lh) hq (by omega) (by omega) (by omega) ?_
  intro A3 n3 c3 h3 i k3 M3
  refine ⟨_,_,_,rfl,Ge (ma.mono (B0 lh i)) ha (by omega) ?_⟩
  intro A4 n4 c4 k4 Z au M4
  refine ⟨_,_,_,rfl,Ih (T.mono i) M4 Z (by omega) ?_⟩
  intro A5 n5 c5 h5 w k5 M5
  have G:=B0 lh (B0 i w)
  refine ⟨_,_,_,rfl,A5p (q0:=q) (m:=m) ah (mb.mono G) hb hl2 hbm ((M.mono i).mono w) hq (M3.mono w) ?_ M5 k5 g ?_ aa ?_⟩
  ·rw [ae]
   have n:q*(y%b64^m)<=q*b64^m:=aI (by omega) F
   have R:q*b64^m<b64^m*b64^m:=bM g o
   omega
  ·generalize x/b64^m=top at *
   generalize y/b64^m=yh at *
   generalize y%b64^m=yl at *
   generalize x%b64^m=xl at *
   generalize b64^m=P at *
   rw [<- dx,<- dy,ak];grind
  ·intro A6 n6 c6 A7 n7 c7 h7 u k6 W M6 M7
   exact hK _ _ _ _ _ _ _ (B0 G u) k6 W M6 M7
end
set_option maxHeartbeats 1000000 in
def C3r:∀ N,C0e N:=by
 intro N
 induction N with
 | zero=>intro h K A B M Q L d x y G _ _ _ _ _ _ C;omega
 | succ N ih=>
  intro h K A B M Q L d x y hN k g s D hl i ae f j T
  have af:=k.nonneg (by decide)
  have ag:=g.nonneg (by decide)
  have e:0<y:=by
   have:=D7 (B:=b64) (by decide) (d-1);omega
  refine Sy _ _ _ _ _ _ ?_
  unfold Ph
  have c:aZ prog J2 #[.slice A L M,.slice B d Q] h (fun r hp=>∃ (t22aA:Option bH) (t22an:Nat) (t22ac:Nat) (t22bA:Option bH) (t22bn:Nat) (t22bc:Nat),r= .tuple #[.slice t22aA t22an t22ac,.slice t22bA t22bn t22bc]/\K (.tuple #[.slice t22aA t22an t22ac,.slice t22bA t22bn t22bc]) hp):=by
   refine Fa k g s D (by omega) hl (by omega) ?_
   intro A1 m1 c1 A2 m2 c2 h' l F S M1 M2
   exact ⟨_,_,_,_,_,_,rfl,T _ _ _ _ _ _ _ l F S M1 M2⟩
  refine B7 (fun G=>c) (fun G=>?_)
  refine J4 (fun C=>c) (fun C=>?_)
  rw [bX (by omega)] at C
  obtain ⟨m,hbm⟩:∃ m,d=2*m:=⟨d/2,by omega⟩
  have eh:B6 (cP ((d:Nat):Int) 2)=(m:Int):=by rw [bJ (by omega),B8 (by omega) (by omega)];omega
  simp only [eh]
  have R:=D7 (B:=b64) (by decide) m
  have w:b64^d=b64^m*b64^m:=by rw [<- bG];congr 1;omega
  have dx:b64^m*(x/b64^m)+x%b64^m=x:=aO _ _
  have ad:=aU x (b:=b64^m) (by omega)
  have ak:=aP x R
  rw [w] at j
  refine Z6 k s ?_
  intro A1 n1 c1 F ai M1
  refine ⟨_,_,_,rfl,?_⟩
  have O:x/b64^m<b64^m*y:=by
   by_cases hc:x/b64^m<b64^m*y
   ·exact hc
   ·have z:b64^m*(b64^m*y)<=b64^m*(x/b64^m):=aI (by omega) (by omega)
    rw [cV] at j
    omega
  refine Ug ih (by omega) (by omega) hbm M1 g F D (by omega) i f O ?_
  intro A2 n2 c2 A3 n3 c3 h3 n S k3 M2 M3
  refine ⟨_,_,_,_,_,_,rfl,Ge (k.mono n) s (by omega) ?_⟩
  intro A4 n4 c4 k4 u J M4
  have d1:=aO (x/b64^m) y
  have d2:=aP (x/b64^m) e
  have d3:=aU (x/b64^m) (b:=y) (by omega)
  have E:x/b64^m/y<b64^m:=bL e O
  have aj:n3<=d:=M3.len_le (by decide) (by have:=g.lt (by decide);omega)
  have ah:n2<=m:=M2.len_le (by decide) E
  refine ⟨_,_,_,rfl,Ih M3 M4 u (by omega) ?_⟩
  intro A5 n5 c5 h5 t k5 M5
  refine ⟨_,_,_,rfl,?_⟩
  have W:(x/b64^m)%y*b64^m+x%b64^m<b64^m*y:=by
   have z:b64^m*((x/b64^m)%y+1)<=b64^m*y:=aI (by omega) (by omega)
   rw [cX,aR] at z
   omega
  have aa:n5<=d+m:=M5.len_le (by decide) (by
   have z:b64^m*y<b64^m*b64^d:=cQ (g.lt (by decide)) R
   rw [Nat.add_comm,bG];omega)
  refine Ug ih (by omega) (by omega) hbm M5 (g.mono (B0 n t)) k5 D (by omega) i f W ?_
  intro A6 X c6 A7 n7 c7 h7 H k6 k7 M6 M7
  have q:X<=m:=M6.len_le (by decide) (bL e W)
  refine ⟨_,_,_,_,_,_,rfl,Ih ((M2.mono t).mono H) M6 q (by omega) ?_⟩
  intro A8 n8 c8 h8 V k8 M8
  refine ⟨_,_,_,rfl,?_⟩
  have e1:=aO ((x/b64^m)%y*b64^m+x%b64^m) y
  have Z:=aP ((x/b64^m)%y*b64^m+x%b64^m) e
  have e3:=aU ((x/b64^m)%y*b64^m+x%b64^m) (b:=y) (by omega)
  have M7':=M7.mono V
  have o:=B0 n (B0 t (B0 H V))
  generalize ((x/b64^m)%y*b64^m+x%b64^m)/y=q2 at *
  obtain ⟨f1,f2⟩:=A1h (x:=x) (a:=((x/b64^m)%y*b64^m+x%b64^m)%y) (b:=x/b64^m/y*b64^m+q2) (p:=y) (by
   generalize ((x/b64^m)%y*b64^m+x%b64^m)%y=r2 at *
   generalize x/b64^m/y=q1 at *
   generalize x/b64^m%y=r1 at *
   generalize x/b64^m=top at *
   generalize x%b64^m=xl at *
   generalize b64^m=P at *
   grind) e3 Z
  refine T _ _ _ _ _ _ _ o k8 k7 ?_ ?_
  ·rw [f1];exact M8
  ·rw [f2];exact M7'
def Ym{ys:List Int}{k t s:Nat}(dy:Dig b64 ys)(hk:ys.length=k+1)(ht:ys.getD k 0=(t:Int))(ht0:t≠0)(hs:s=64-N9 t):s<64/\val b64 ys*2^s<b64^(k+1)/\9223372036854775808*b64^k<=val b64 ys*2^s:=by
 have w:=N8 dy k
 obtain ⟨g,a⟩:=Ce (B:=b64) (by decide) dy (m:=k) hk
 rw [ht] at w g a
 obtain ⟨n,p⟩:=Ff ht0
 have o:N9 t<=64:=Iy (k:=64) (by omega)
 have q:1<=N9 t:=by unfold N9;rw [iN ht0];omega
 have e:s<64:=by omega
 have b:0<(2:Int)^s:=bK (by decide)
 have j:=Ac (s:=s) (by omega)
 have c:N9 t=64-s:=by omega
 have l:(t:Int)+1<=2^(64-s):=by
  rw [<- c]
  have:((t+1:Nat):Int)<=((2^N9 t:Nat):Int):=by omega
  simpa using this
 have i:(2:Int)^(63-s)<=t:=by
  have:((2^(N9 t-1):Nat):Int)<=((t:Nat):Int):=by omega
  rw [show N9 t-1=63-s by omega] at this
  simpa using this
 have d:(2:Int)^s*2^(63-s)=9223372036854775808:=by
  rw [<- bG,show s+(63-s)=63 by omega];decide
 have f:=D7 (B:=b64) (by decide) k
 refine ⟨e,?_,?_⟩
 ·have r:val b64 ys*2^s<((t:Int)+1)*b64^k*2^s:=bM g b
  have u:((t:Int)+1)*b64^k*2^s=((t:Int)+1)*2^s*b64^k:=by grind
  have y:((t:Int)+1)*2^s*b64^k<=18446744073709551616*b64^k:=by
   apply aE _ (aN f)
   rw [<- j,aR (2^s)]
   exact aE l (aN b)
  have x:b64^(k+1)=18446744073709551616*b64^k:=by rw [aW b64 k,aR]
  omega
 ·have z:(t:Int)*b64^k*2^s<=val b64 ys*2^s:=aE a (aN b)
  have r:9223372036854775808*b64^k<=(t:Int)*2^s*b64^k:=by
   apply aE _ (aN f)
   rw [<- d,aR (t:Int)]
   exact aI i (by omega)
  have u:(t:Int)*2^s*b64^k=(t:Int)*b64^k*2^s:=by grind
  omega
section
variable {h g:bC} {K:VP} {A B:Option bH} {ac bc:Nat}
set_option maxHeartbeats 1000000 in
def A74{D V a b:Int}{S sh dn dc vc bn bq:Nat}{pieces t46:Int}{DA VA:Option bH}(hS:B6 ((B6 (cP (B6 ((B6 (((bn:Nat):Int)+pieces))-(1:Int))) pieces))*pieces)=(S:Int))
 (hsh:C1 (B6 ((B6 ((64:Int)*(B6 ((S:Int)-((bn:Nat):Int)))))+t46))=(sh:Int)) (hS0:0<S) (hS2:S<=200000000) (hsh2:sh<=100000000000) (hb:h bq=none) (hD:Mw h DA dn D) (hdc:dn<=dc) (hdn:0<dn) (hdl:dn<=2000000000) (hV:Mw h VA S V) (hvc:S<=vc) (hVt:9223372036854775808*b64^(S-1)<=V)
 (hDa:D=a*2^sh) (hVb:V=b*2^sh)
 (hK:∀ A1 m1 c1 A2 m2 c2 h',h.le h'->m1<=c1->m2<=c2->Mw h' A1 m1 (a/b)->Mw h' A2 m2 (a%b)->K (.tuple #[.slice A1 m1 c1,.slice A2 m2 c2]) h'):
 Ba prog bn K pieces t46 VA S vc DA dn dc (some ⟨bq,0,none⟩) (dn+S) (dn+S) (blk .u64 C2 h bq (aD (dn+S) 0)):=by
 have H:=hD.nonneg (by decide)
 have ak:=hD.lt (by decide)
 have C:=hV.lt (by decide)
 have o:0<V:=by have:=D7 (B:=b64) (by decide) (S-1);omega
 have R:0<(2:Int)^sh:=bK (by decide)
 have hQ:=D7 (B:=b64) (by decide) S
 unfold Ba
 simp only [hS,hsh]
 obtain ⟨nb,hnb⟩:∃ nb,nb=(dn-1)/S:=⟨_,rfl⟩
 have al:nb*S<=dn-1:=by rw [hnb];exact Nat.div_mul_le_self _ _
 have ai:dn-1<nb*S+S:=by
  have z:=eJ (dn-1) S
  have h2:=eZ (dn-1) hS0
  rw [<- hnb,eU] at z
  omega
 have e1:B6 (B6 (cP (B6 ((dn:Int)-1)) (S:Int))*(S:Int))=((nb+1:Nat):Int)*S-S:=by
  rw [B8 (n:=(dn:Int)-1) (by omega) (by omega),show (dn:Int)-1=((dn-1:Nat):Int) by omega,<- cL,<- hnb]
  have:nb<=dn-1:=by rw [hnb];exact eI _ _
  have T:(nb:Int)*(S:Int)=((nb*S:Nat):Int):=by simp
  rw [B8 (n:=(nb:Int)) (by omega) (by omega),T,B8 (by omega) (by omega),eM,Int.add_mul,T]
  omega
 refine ⟨fun l R=>∃ (j n c:Nat) (A:Option bH) (d:List Int) (r:Int) (g:bC),l=[.slice A n c,I ((j:Int)*S-S)]/\h.le g/\j*S+d.length=dn+S/\Dig b64 d/\Win .u64 R g bq C2 (some ⟨bq,0,none⟩) [] (aD (j*S) 0++d) []/\Mw g A n r/\n<=c/\r=(D/b64^(j*S))%V/\val b64 d=(D/b64^(j*S))/V,fun l _=>(iAt l 1+S).toNat,⟨nb+1,0,0,none,aD (dn-1+1-nb*S) 0,0,h,by rw [e1],B4 h,?_,I3 (by decide) _,?_,Mag.zero,bF _,?_,?_⟩,?_⟩
 ·rw [cF,fH,fG];omega
 ·rw [dV,show (nb+1)*S+(dn-1+1-nb*S)=dn+S by rw [fH,fG];omega]
  exact Win.blk .u64 C2 hb _
 ·have:=C9 (B:=b64) (by decide) (show dn<=(nb+1)*S by rw [fH,fG];omega)
  rw [bU H (by omega),gX]
 ·have:=C9 (B:=b64) (by decide) (show dn<=(nb+1)*S by rw [fH,fG];omega)
  rw [bU H (by omega),Int.zero_ediv,Cn]
 rintro A1 n1 c1 st a1 ⟨j,n,c,A',d,r,g,L,X,s,M,w,Mr,aw,u,k⟩
 simp only [bD,bO,bY,and_true,true_and] at L
 obtain ⟨⟨rfl,rfl,rfl⟩,rfl⟩:=L
 refine B7 (fun z=>?_) (fun z=>?_)
 ·obtain ⟨i,rfl⟩:∃ i,j=i+1:=⟨j-1,by
   rcases j with _|j
   ·simp at z;omega
   ·rfl⟩
  obtain ⟨e,he⟩:∃ e,e=i*S:=⟨_,rfl⟩
  have G:(i+1)*S=e+S:=by rw [he,fH,fG]
  have ah:((i+1:Nat):Int)*(S:Int)-(S:Int)=(e:Int):=by rw [<- cG,G];omega
  rw [G] at s w u k
  rw [ah]
  have ar:=D7 (B:=b64) (by decide) e
  refine w.call (Z6 (hD.mono X) hdc ?_)
  intro A2 n2 c2 k2 a0 M2 h2 w2
  refine ⟨_,_,_,rfl,w2.call (Ge M2 k2 (by omega) ?_)⟩
  intro A3 n3 c3 k3 ae aj M3 T w3
  have ax:=Mr.nonneg (by decide)
  have ay:r<V:=by rw [u];exact aP _ o
  have am:n1<=S:=Mr.len_le (by decide) (by omega)
  refine ⟨_,_,_,rfl,w3.call (Ih Mr M3 ae (by omega) ?_)⟩
  intro A4 n4 c4 g4 l4 k4 M4 h4 w4
  have ag:D/b64^(e+S)=D/b64^e/b64^S:=by rw [bG,fO (by omega)]
  rw [ag] at u k
  have dm:=aO (D/b64^e) (b64^S)
  have ap:=aU (D/b64^e) (b:=b64^S) (by omega)
  have ao:=aP (D/b64^e) hQ
  generalize hD1:D/b64^e=D1 at *
  have q:r*b64^S+D1%b64^S<b64^S*V:=by
   have t1:b64^S*(r+1)<=b64^S*V:=aI (by omega) (by omega)
   rw [cX,aR] at t1
   omega
  have au:n4<=S+S:=M4.len_le (by decide) (by
   have t1:b64^S*V<b64^S*b64^S:=cQ C hQ
   rw [bG];omega)
  have J:=B0 X l4
  refine ⟨_,_,_,rfl,w4.call (C3r S (bF _) M4 (hV.mono J) k4 hvc (by omega) hS2 hS0 hVt q ?_)⟩
  intro A5 n5 c5 A6 n6 c6 g6 l6 k5 k6 M5 M6 h6 O
  have an:n5<=S:=M5.len_le (by decide) (bL o q)
  refine ⟨_,_,_,_,_,_,rfl,⟨by omega,by omega⟩,?_⟩
  rw [aC]
  have aa:aD (e+S) (0:Int)++d=aD e 0++(aD S 0++d):=by rw [<- aS,dV]
  rw [aa] at O
  have av:(aD e (0:Int)++(aD S 0++d)).length=dn+S:=by simp only [aH,cF];omega
  have w7:=O.sub (l:=e) (m:=dn+S) (c:=dn+S) (by omega) (by omega) (by omega)
  have e7:((aD e (0:Int)++(aD S 0++d)).drop e).take (dn+S-e)=aD S 0++d:=by
   rw [eK (by simp),aL (by simp only [aH,cF];omega)]
  rw [e7] at w7
  obtain ⟨t,N,ac,Z,aq,F⟩:=M5
  refine Gx Q0 w7 (by simp only [aH,cF];omega) (ac.mono O.le) N (by simp only [aH,cF];omega) ?_
  intro h8 w8
  rw [eD (by simp;omega),bI,<- aS t] at w8
  have f:(t++aD (S-t.length) (0:Int)).length=S:=by simp;omega
  have w9:=O.whole (l:=e) (m:=dn+S) (by omega) (by omega) (by rw [aH,f];omega) w8
  rw [dA (by simp),aV (show (aD e (0:Int)++(aD S 0++d)).length<=dn+S by omega),bW] at w9
  have e8:B6 ((e:Int)-(S:Int))=((i:Nat):Int)*S-S:=by
   rw [B8 (by omega) (by omega),he,cG]
  have az:=aO (r*b64^S+D1%b64^S) V
  have y:=aU (r*b64^S+D1%b64^S) (b:=V) (by omega)
  have E:=aP (r*b64^S+D1%b64^S) o
  have af:=aO (D1/b64^S) V
  rw [<- u,<- k] at af
  obtain ⟨f1,f2⟩:=A1h (x:=D1) (a:=(r*b64^S+D1%b64^S)%V) (b:=val b64 t+b64^S*val b64 d) (p:=V) (by
   rw [F]
   generalize (r*b64^S+D1%b64^S)%V=r2 at *
   generalize hq2:(r*b64^S+D1%b64^S)/V=q2 at *
   generalize D1%b64^S=bl at *
   generalize D1/b64^S=D2 at *
   generalize b64^S=Q at *
   generalize val b64 d=W at *
   grind) y E
  refine ⟨_,rfl,?_⟩
  rw [e8]
  refine ⟨⟨i,_,_,_,(t++aD (S-t.length) 0)++d,_,g6,rfl,B0 J l6,?_,?_,?_,M6,k6,?_,?_⟩,?_⟩
  ·rw [aH,f];omega
  ·exact (Z.append (I3 (by decide) _)).append M
  ·rw [<- he];exact w9
  ·rw [<- he,hD1,f2]
  ·rw [<- he,hD1,f1,G2,f,Db]
  ·simp only [iAt,aM,aF]
   rw [<- cG,<- he]
   omega
 ·obtain rfl:j=0:=by
   rcases j with _|j
   ·rfl
   ·rw [<- cG,fH,fG] at z
    omega
  rw [iA,List.replicate_zero,cM] at w
  rw [iA,iG,Int.ediv_one] at u k
  rw [iA,eQ] at s
  have ad:0<b:=by
   by_cases hc:0<b
   ·exact hc
   ·have:=aE (show b<=0 by omega) (aN R);omega
  obtain ⟨f1,f2⟩:=A1h (x:=D) (a:=(a%b)*2^sh) (b:=a/b) (p:=V) (by
   have:=aO a b
   rw [hDa,hVb]
   conv=>rhs;rw [<- this]
   grind) (aT (aU _ (by omega)) (by omega)) (by rw [hVb];exact bM (aP _ ad) R)
  refine Bm w.sl M s.symm k (by omega) (by omega) ?_
  intro m2 k2 M2
  refine ⟨_,_,_,rfl,?_⟩
  refine Hc (Mr.mono w.le) (by have:=Mr.len_le (j:=S) (by decide) (by have:=aP D o;omega);omega) (by omega) ?_
  intro A3 n3 c3 T l3 k3 M3
  rw [u,f2,gE _ (by omega)] at M3
  rw [f1] at M2
  exact ⟨_,_,_,rfl,hK _ _ _ _ _ _ _ (B0 X (B0 w.le l3)) k2 k3 (M2.mono l3) M3⟩
set_option maxHeartbeats 1000000 in
def Rb{x y:Int}{an bn:Nat}(ma:Mw h A an x)(mb:Mw h B bn y)(ha:an<=ac)(hbc:bn<=bc)(hl:an<=800000000)(hl2:bn<=100000000)(ha0:0<an)(hb0:0<bn)
 (hK:∀ A1 m1 c1 A2 m2 c2 h',h.le h'->m1<=c1->m2<=c2->Mw h' A1 m1 (x/y)->Mw h' A2 m2 (x%y)->K (.tuple #[.slice A1 m1 c1,.slice A2 m2 c2]) h'):aZ prog Cv #[.slice A an ac,.slice B bn bc] h K:=by
 have ae:=ma.nonneg (by decide)
 have af:=ma.len_zero (by decide)
 have m:=ma.lt (by decide)
 refine Ta _ _ _ _ _ _ ?_
 unfold Pi Jf
 refine ⟨fun l hp=>hp=h/\∃ p:Nat,l=[I p]/\0<p/\p<=bn,fun l _=>bn-(iAt l 0).toNat,⟨rfl,1,rfl,by omega,by omega⟩,?_⟩
 rintro w hp ⟨rfl,p,J,r,ah⟩
 obtain rfl:=sI1 J
 have W:B6 (cP (B6 (B6 ((bn:Int)+(p:Int))-1)) (p:Int))=(((bn+p-1)/p:Nat):Int):=by
  rw [B8 (n:=(bn:Int)+p) (by omega) (by omega),B8 (n:=(bn:Int)+p-1) (by omega) (by omega),show (bn:Int)+p-1=((bn+p-1:Nat):Int) by omega,<- cL]
  have:(bn+p-1)/p<=bn+p-1:=eI _ _
  generalize (bn+p-1)/p=q at *
  rw [B8 (by omega) (by omega)]
 refine B7 (fun c=>by omega) (fun _=>?_)
 obtain ⟨S,hS⟩:∃ S,S=(bn+p-1)/p*p:=⟨_,rfl⟩
 have ag:bn<=S/\S<=bn+p-1:=by
  have c:=eJ (bn+p-1) p
  have E:=eZ (bn+p-1) r
  rw [eU,<- hS] at c
  omega
 have T:B6 ((B6 (cP (B6 (B6 ((bn:Int)+(p:Int))-1)) (p:Int)))*(p:Int))=(S:Int):=by
  rw [W,<- cG,<- hS,B8 (by omega) (by omega)]
 refine B7 (fun c=>?_) (fun c=>?_)
 ·rw [W] at c
  have E:80<=(bn+p-1)/p:=by omega
  rw [Nat.le_div_iff_mul_le r] at E
  have L:B6 ((p:Int)*2)=((p*2:Nat):Int):=by rw [B8 (by omega) (by omega)];omega
  rw [L]
  exact ⟨⟨rfl,_,rfl,by omega,by omega⟩,by simp only [iAt,aF];omega⟩
 ·refine B7 (fun c=>by omega) (fun _=>?_)
  obtain ⟨k,hk⟩:∃ k,bn=k+1:=⟨bn-1,by omega⟩
  have C:=mb
  obtain ⟨a,z,sy,dy,ny,rfl⟩:=mb
  have d:a.length=k+1:=by omega
  have gt:=N8 dy k
  have N:=A2m d ny
  have L:B6 ((bn:Int)-1)=(k:Int):=by rw [B8 (by omega) (by omega)];omega
  rw [L]
  subst z
  refine sy.load rfl (by omega) (by omega) ?_
  rw [aC]
  obtain ⟨t,ht⟩:∃ t:Nat,a.getD k 0=t:=⟨(a.getD k 0).toNat,by omega⟩
  rw [ht] at gt N ⊢
  refine R6 (by omega) ⟨_,rfl,?_⟩
  obtain ⟨s,hs⟩:∃ s,s=64-N9 t:=⟨_,rfl⟩
  rw [<- hs]
  obtain ⟨X,Q,O⟩:=Ym dy d ht (by omega) hs
  simp only [T]
  obtain ⟨sh,hsh⟩:∃ sh,sh=64*(S-a.length)+s:=⟨_,rfl⟩
  have e4:C1 (B6 (B6 (64*B6 ((S:Int)-(a.length:Int)))+(s:Int)))=(sh:Int):=by
   rw [B8 (n:=(S:Int)-(a.length:Int)) (by omega) (by omega),B8 (n:=64*((S:Int)-(a.length:Int))) (by omega) (by omega),B8 (by omega) (by omega),C3 (by omega) (by omega)]
   omega
  simp only [e4]
  have f:(2:Int)^sh=2^s*b64^(S-a.length):=by rw [hsh,bG,Kz,aR]
  have g:=D7 (B:=b64) (by decide) (S-a.length)
  have ai:0<(2:Int)^s:=bK (by decide)
  have o:0<(2:Int)^sh:=bK (by decide)
  have ad:val b64 a*2^sh=val b64 a*2^s*b64^(S-a.length):=by rw [f,cV]
  have F:val b64 a*2^sh<b64^S:=by
   have u:val b64 a*2^s*b64^(S-a.length)<b64^(k+1)*b64^(S-a.length):=bM Q g
   rw [<- bG,show k+1+(S-a.length)=S by omega] at u
   omega
  have G:9223372036854775808*b64^(S-1)<=val b64 a*2^sh:=by
   have u:9223372036854775808*b64^k*b64^(S-a.length)<=val b64 a*2^s*b64^(S-a.length):=aE O (aN g)
   rw [cV,<- bG,show k+(S-a.length)=S-1 by omega] at u
   omega
  refine U4 C hbc (by omega) (by omega) ?_
  intro A1 b c1 c l1 k1 M1
  refine ⟨_,_,_,rfl,?_⟩
  have H:b=S:=by
   have q1:=M1.len_le (by decide) F
   have q2:=M1.lt (by decide)
   by_cases hc:b=S
   ·exact hc
   ·have:=C9 (B:=b64) (by decide) (show b<=S-1 by omega)
    have:=D7 (B:=b64) (by decide) (S-1)
    omega
  subst H
  refine U4 (ma.mono l1) ha (by omega) (by omega) ?_
  intro A2 j c2 E Z k2 M2
  refine ⟨_,_,_,rfl,?_⟩
  have aa:j<=an+(1+(b-a.length)):=M2.len_le (by decide) (by
   have u:x*2^sh<b64^an*2^sh:=bM m o
   have t2:(2:Int)^sh<=b64^(1+(b-a.length)):=by
    rw [f,bG]
    apply aE _ (aN g)
    have:=C9 (B:=2) (by decide) (show s<=64 by omega)
    have e:(2:Int)^64=18446744073709551616:=by decide
    show (2:Int)^s<=b64^1
    rw [aW,iG]
    show (2:Int)^s<=1*18446744073709551616
    omega
   have t3:b64^an*2^sh<=b64^an*b64^(1+(b-a.length)):=aI t2 (aN (D7 (by decide) an))
   rw [bG b64 an]
   omega)
  have i:0<j:=by
   rcases Nat.eq_zero_or_pos j with R|R
   ·have:=(M2.len_zero (by decide)).2 R
    rcases Int.mul_eq_zero.1 this with h3|h3<;>omega
   ·exact R
  have e5:B6 ((j:Int)+(b:Int))=((j+b:Nat):Int):=by rw [B8 (by omega) (by omega)];omega
  rw [e5]
  refine K3 Q0 (by omega) (by omega) (by omega) ?_
  intro bq M
  rw [aC]
  refine ⟨_,_,_,rfl,?_⟩
  refine B7 (fun c=>by omega) (fun _=>?_)
  refine A74 (D:=x*2^sh) (V:=val b64 a*2^sh) (sh:=sh) (S:=b) T e4 (by omega) (by omega) (by omega) M M2 k2 i (by omega) (M1.mono Z) k1 G rfl rfl ?_
  intro A3 n3 c3 A4 n4 c4 h4 l4 k3 k4 M3 M4
  exact hK _ _ _ _ _ _ _ (B0 l1 (B0 Z l4)) k3 k4 M3 M4
def S8{x y:Int}{an bn:Nat}(ma:Mw h A an x)(mb:Mw h B bn y)(ha:an<=ac)(hbc:bn<=bc)(hy:y≠0)(hl:an<=800000000)(hl2:bn<=100000000)
 (hK:∀ A1 m1 c1 A2 m2 c2 h',h.le h'->m1<=c1->m2<=c2->Mw h' A1 m1 (x/y)->Mw h' A2 m2 (x%y)->K (.tuple #[.slice A1 m1 c1,.slice A2 m2 c2]) h'):aZ prog O9 #[.slice A an ac,.slice B bn bc] h K:=by
 refine Wj _ _ _ _ _ _ ?_
 unfold Sh
 have a:aZ prog J2 #[.slice A an ac,.slice B bn bc] h (fun r e=>∃ (t22aA:Option bH) (t22an:Nat) (t22ac:Nat) (t22bA:Option bH) (t22bn:Nat) (t22bc:Nat),r= .tuple #[.slice t22aA t22an t22ac,.slice t22bA t22bn t22bc]/\K (.tuple #[.slice t22aA t22an t22ac,.slice t22bA t22bn t22bc]) e):=by
  refine Fa ma mb ha hbc hy (by omega) (by omega) ?_
  intro A1 m1 c1 A2 m2 c2 h' l c b M1 M2
  exact ⟨_,_,_,_,_,_,rfl,hK _ _ _ _ _ _ _ l c b M1 M2⟩
 refine B7 (fun f=>B7 (fun d=>?_) (fun _=>a)) (fun _=>a)
 rw [B8 (by omega) (by omega)] at d
 refine Rb ma mb ha hbc hl hl2 (by omega) (by omega) ?_
 intro A1 m1 c1 A2 m2 c2 h' l c b M1 M2
 exact ⟨_,_,_,_,_,_,rfl,hK _ _ _ _ _ _ _ l c b M1 M2⟩
end
def TZ(x k:Nat):Prop:=∃ m,x=2^k*(2*m+1)
def TZ.ex:∀ {x:Nat},x≠0->∃ k,TZ x k:=by
 intro x
 induction x using Nat.strongRecOn with
 | _ x ih=>
  intro h
  rcases Nat.mod_two_eq_zero_or_one x with a|a
  ·obtain ⟨k,m,b⟩:=ih (x/2) (by omega) (by omega)
   refine ⟨k+1,m,?_⟩
   rw [eS,eU (2^k),fI,<- b];omega
  ·exact ⟨0,x/2,by omega⟩
def TZ.lt{x k n:Nat}(h:TZ x k)(hx:x<2^n):k<n:=by
 obtain ⟨m,rfl⟩:=h
 have b:2^k*1<=2^k*(2*m+1):=eP _ (by omega)
 exact (gW (a:=2) (by decide)).1 (by omega)
def B31{a u v:Nat}:(2^a*u) ||| (2^a*v)=2^a*(u ||| v):=by
 apply Nat.eq_of_testBit_eq
 intro i
 simp only [Nat.testBit_or,gY,Bool.and_or_distrib_left]
def B9b{u v:Nat}(h:u%2=1\/v%2=1):(u ||| v)%2=1:=by simpa using h
def TZ.or'{x y a b:Nat}(hx:TZ x a)(hy:TZ y b)(hab:a<=b):TZ (x ||| y) a/\TZ (y ||| x) a:=by
 obtain ⟨m,rfl⟩:=hx
 obtain ⟨n,rfl⟩:=hy
 obtain ⟨d,rfl⟩:∃ d,b=a+d:=⟨b-a,by omega⟩
 rw [dQ,fI,B31,B31]
 have c:=B9b (u:=2*m+1) (v:=2^d*(2*n+1)) (.inl (by omega))
 have e:=B9b (u:=2^d*(2*n+1)) (v:=2*m+1) (.inr (by omega))
 exact ⟨⟨_/2,by rw [<- eJ (_ ||| _) 2,c]⟩,⟨_/2,by rw [<- eJ (_ ||| _) 2,e]⟩⟩
def TZ.or{x y a b:Nat}(hx:TZ x a)(hy:TZ y b):TZ (x ||| y) (min a b):=by
 by_cases h:a<=b
 ·rw [aJ h];exact (hx.or' hy h).1
 ·rw [fK (by omega)];exact (hy.or' hx (by omega)).2
def TZ.bit{x k:Nat}(h:TZ x k)(hx:x<2^64):x &&& (2^64-x)=2^k:=by
 obtain ⟨m,rfl⟩:=h
 have g:0<2^k:=cW (by decide)
 have f:2^k*(2*m+1)=2^k*(2*m)+(2^k-1)+1:=by rw [fY,cH];omega
 apply Nat.eq_of_testBit_eq
 intro i
 rw [Nat.testBit_and]
 have c:(2^64-2^k*(2*m+1)).testBit i=(decide (i<64) && !(2^k*(2*m)+(2^k-1)).testBit i):=by
  rw [f];exact Nat.testBit_two_pow_sub_succ (by omega) i
 rw [c,Nat.testBit_two_pow_mul_add _ (by omega),gY,Nat.testBit_two_pow]
 by_cases b:i<k
 ·simp [b,show ¬ i>=k by omega,show ¬ k=i by omega]
 ·by_cases e:i=k
  ·subst e
   have a:i<64:=TZ.lt ⟨m,rfl⟩ hx
   simp [a,Nat.testBit_zero]
  ·obtain ⟨d,hd⟩:∃ d,i-k=d+1:=⟨i-k-1,by omega⟩
   rw [iN b,hd,Nat.testBit_succ,Nat.testBit_succ,show (2*m+1)/2=m by omega,show 2*m/2=m by omega]
   simp only [show ¬ k=i by omega,decide_false]
   cases m.testBit d<;>simp
def Zz{o k:Nat}(h:o%2=1):Nat.Coprime (2^k) o:=Nat.Coprime.pow_left k (by unfold Nat.Coprime;rw [Nat.gcd_rec,h];rfl)
def C1e{x y a b m:Nat}(hx:x=2^a*(2*m+1))(hy:TZ y b):dZ x y=2^(min a b)*dZ (2*m+1) y:=by
 obtain ⟨n,rfl⟩:=hy
 subst hx
 have c:dZ (2*m+1) (2^b*(2*n+1))=dZ (2*m+1) (2*n+1):=dJ (2*n+1) (Zz (by omega))
 rw [c]
 by_cases h:a<=b
 ·obtain ⟨d,rfl⟩:∃ d,b=a+d:=⟨b-a,by omega⟩
  rw [aJ h,dQ,fI,Nat.gcd_mul_left,dJ _ (Zz (by omega))]
 ·obtain ⟨d,rfl⟩:∃ d,a=b+d:=⟨a-b,by omega⟩
  rw [fK (by omega),dQ,fI,Nat.gcd_mul_left,Nat.Coprime.gcd_mul_left_cancel _ (Zz (by omega))]
def A2i(k:Nat):Nat:=(2^k*285870213051353865%18446744073709551616)/2^58
def Gtz(h:bC):Prop:=∀ k,k<64->h.cell? (eG ⟨0,0,none⟩ (A2i k*1))=some (Y k)
def Gtz.mono{h h':bC}(g:Gtz h)(l:h.le h'):Gtz h':=fun k a=>B5 l (g k a)
section
variable {h g:bC} {K:VP} {A B:Option bH} {ac bc:Nat}
def Kw{x k:Nat}(gl:Gtz h)(tz:TZ x k)(hx:x<18446744073709551616)(hK:K (I k) h):aZ prog N2 #[U x] h K:=by
 have c:=tz.lt (n:=64) hx
 have a:x≠0:=by
  obtain ⟨m,rfl⟩:=tz
  have:0<2^k:=cW (by decide)
  have:=Nat.mul_pos this (show 0<2*m+1 by omega)
  omega
 refine Ml _ ?_
 unfold Hn
 refine E4 (fun e=>by omega) (fun _=>?_)
 have f:C1 (0-(x:Int))=((2^64-x:Nat):Int):=by
  rw [E7];omega
 have b:Rf .u64 (x:Int) ((2^64-x:Nat):Int)=((2^k:Nat):Int):=by
  rw [B4n (by omega) (by omega),aC,aC,tz.bit hx]
 have d:eF (C1 (((2^k:Nat):Int)*285870213051353865)) (2^(min ((58:Int)).toNat 64))=((A2i k:Nat):Int):=by
  show eF _ (2^(min 58 64))=_
  rw [B75 (by decide),E7]
  unfold A2i
  rw [dY,gO,cG]
  rfl
 rw [f,b,d,aC]
 have g:A2i k<64:=by
  unfold A2i
  have:(2^k*285870213051353865)%18446744073709551616<18446744073709551616:=eZ _ (by decide)
  exact Nat.div_lt_of_lt_mul (by omega)
 refine ⟨⟨by omega,by omega⟩,_,gl k c,?_⟩
 rw [B8 (by omega) (by omega)]
 exact hK
def A3t{x y:Nat}(gl:Gtz h)(hx:x<18446744073709551616)(hy:y<18446744073709551616)(hK:K (U (dZ x y:Nat)) h):aZ prog Qn #[U x,U y] h K:=by
 refine A7c _ _ ?_
 unfold A94
 refine E4 (fun e=>?_) (fun e=>?_)
 ·obtain rfl:x=0:=by omega
  rw [A73 (by omega) (by omega)]
  simpa using hK
 refine E4 (fun A=>?_) (fun A=>?_)
 ·obtain rfl:y=0:=by omega
  rw [A73 (by omega) (by omega)]
  simpa using hK
 obtain ⟨a,j⟩:=TZ.ex (x:=x) (by omega)
 obtain ⟨b,r⟩:=TZ.ex (x:=y) (by omega)
 have N:=j.lt (n:=64) hx
 have O:=r.lt (n:=64) hy
 rw [A73 (by omega) (by omega),aC,aC]
 have s:x ||| y<18446744073709551616:=Nat.or_lt_two_pow (n:=64) hx hy
 refine Kw gl (j.or r) s ⟨_,rfl,?_⟩
 refine Kw gl j hx ⟨_,rfl,?_⟩
 refine B7 (fun i=>by omega) (fun _=>?_)
 obtain ⟨m,p⟩:=j
 have M:=C1e p r
 have F:eF (x:Int) (2^(min ((a:Int)).toNat 64))=((2*m+1:Nat):Int):=by
  rw [aC,B75 (by omega),show ((2:Int)^a)=((2^a:Nat):Int) by simp,<- dY,p,gZ _ (cW (by decide))]
 rw [F]
 have z:2*m+1<=x:=by
  rw [p];exact iB _ (cW (by decide))
 refine ⟨fun l J=>J=h/\∃ u v:Nat,l=[U u,U v]/\u%2=1/\u<18446744073709551616/\v<18446744073709551616/\dZ u v=dZ (2*m+1) y,fun l _=>(iAt l 0+iAt l 1).toNat,⟨rfl,2*m+1,y,rfl,by omega,by omega,hy,rfl⟩,?_⟩
 rintro R S G ⟨rfl,u,v,w,E,D,g,d⟩
 simp only [bD,bY,and_true,true_and] at w
 obtain ⟨rfl,rfl⟩:=w
 refine J4 (fun i=>?_) (fun i=>?_)
 ·obtain ⟨c,o⟩:=TZ.ex (x:=v) (by omega)
  have Q:=o.lt (n:=64) g
  refine Kw gl o g ⟨_,rfl,?_⟩
  refine B7 (fun i=>by omega) (fun _=>?_)
  obtain ⟨n,k⟩:=o
  have C:eF (v:Int) (2^(min ((c:Int)).toNat 64))=((2*n+1:Nat):Int):=by
   rw [aC,B75 (by omega),show ((2:Int)^c)=((2^c:Nat):Int) by simp,<- dY,k,gZ _ (cW (by decide))]
  have t:2*n+1<=v:=by
   rw [k];exact iB _ (cW (by decide))
  have f:dZ u (2*n+1)=dZ u v:=by
   rw [k,dJ _ (Zz E)]
  rw [C]
  refine B7 (fun B=>?_) (fun B=>?_)
  ·have q:C1 ((u:Int)-((2*n+1:Nat):Int))=((u-(2*n+1):Nat):Int):=by rw [C3 (by omega) (by omega)];omega
   rw [q]
   refine ⟨⟨rfl,_,_,rfl,by omega,by omega,by omega,?_⟩,?_⟩
   ·rw [iC (by omega),iD,f,d]
   ·simp only [iAt,aF,aM];omega
  ·have q:C1 (((2*n+1:Nat):Int)-(u:Int))=((2*n+1-u:Nat):Int):=by rw [C3 (by omega) (by omega)];omega
   rw [q]
   refine ⟨⟨rfl,_,_,rfl,by omega,by omega,by omega,?_⟩,?_⟩
   ·rw [iC (by omega),f,d]
   ·simp only [iAt,aF,aM];omega
 ·refine B7 (fun i=>by omega) (fun _=>?_)
  obtain rfl:v=0:=by omega
  rw [Nat.gcd_zero_right] at d
  rw [aC,aJ (show min a b<=64 by omega)]
  have L:(u:Int)*2^(min a b)=((dZ x y:Nat):Int):=by
   rw [M,<- d,cG,aR];simp
  have H:dZ x y<=x:=Nat.le_of_dvd (by omega) (Nat.gcd_dvd_left x y)
  rw [L,C3 (by omega) (by omega)]
  exact hK
end
def B1w{xs:List Int}(d:Dig b64 xs){k s:Nat}(hl:xs.length<=k+2)(hs:s<=64):val b64 xs/(b64^k*2^(64-s))=xs.getD (k+1) 0*2^s+xs.getD k 0/2^(64-s):=by
 have c:=C4 b64 xs (k+1)
 have e:=C4 b64 xs k
 rw [aL (show xs.length<=k+1+1 by omega)] at c
 have f:=D7 (B:=b64) (by decide) k
 have i:0<(2:Int)^(64-s):=bK (by decide)
 have b:=Ac (s:=s) hs
 have g:=C7 (by decide) (d.take k)
 have m:=L5 (by decide) (d.take k)
 have l:=C9 (B:=b64) (by decide) (show (xs.take k).length<=k by rw [aG];omega)
 rw [<- fO (aN f)]
 have j:val b64 xs/b64^k=xs.getD k 0+18446744073709551616*xs.getD (k+1) 0:=by
  refine (A1h (a:=val b64 (xs.take k)) ?_ g (by omega)).1
  rw [c,e,aW]
  show _=val b64 (xs.take k)+_+b64^k*18446744073709551616*_
  grind
 rw [j,<- b,aR (2^s),cV,fX _ _ (by omega),aR (2^s)]
 omega
section
variable {h g:bC} {K:VP} {A B:Option bH} {ac bc:Nat}
def C2e(a b u0 u1 v0 v1:Int)(odd:Bool):Prop:=(0<=u0/\u0<18446744073709551616)/\(0<=u1/\u1<18446744073709551616)/\(0<=v0/\v0<18446744073709551616)/\(0<=v1/\v1<18446744073709551616)/\(v0≠0->Leh a b u0 v0 u1 v1 (Lc a b u0 v0 odd) (Lb a b u1 v1 odd))
def B74{a b F S W t20 t26 t33:Int}(hF:F=bor .u64 (C1 (t26*2^(min (C1 t20).toNat 64))) (eF t33 (2^(min (C1 ((64:Int)-(C1 t20))).toNat 64))))(hW:0<W)(hFa:F=a/W)(hSb:S=b/W)(hb0:0<=b)(hba:b<=a)(hF64:F<18446744073709551616)
 (hK:∀ u0 u1 v0 v1 odd,C2e a b u0 u1 v0 v1 odd->K (.agg #[U u0,U u1,U v0,U v1,.bool odd]) h):Je prog K t20 t26 t33 S h:=by
 have da:=aO a W
 have db:=aO b W
 have r:=aU a (b:=W) (by omega)
 have t:=aP a hW
 have s:=aU b (b:=W) (by omega)
 have x:=aP b hW
 have w:0<=S:=by rw [hSb];exact bZ hb0 (by omega)
 have u:S<=F:=by rw [hSb,hFa];exact Int.ediv_le_ediv hW hba
 unfold Je
 rw [<- hF]
 refine ⟨fun l z=>z=h/\∃ (first c g d u0 u1 v0 v1:Int) (odd:Bool),l=[U first,U c,U g,U d,U u0,U u1,U v0,U v1,.bool odd]/\LS F S first c u0 v0 u1 v1 g d odd/\C2e a b u0 u1 v0 v1 odd/\g<=F/\d<=(if F=0 then 1 else F),fun l _=>(iAt l 1).toNat,⟨rfl,_,_,_,_,_,_,_,_,_,rfl,LS.init w u,⟨by omega,by omega,by omega,by omega,fun e=>absurd rfl e⟩,by omega,by split<;>omega⟩,?_⟩
 rintro first c g d u0 u1 v0 v1 odd z ⟨rfl,p,k,C,M,V,N,G,H,B,A,o,q,L,X⟩
 simp only [bD,bY,Value.bool.injEq,and_true,true_and] at A
 obtain ⟨rfl,rfl,rfl,rfl,rfl,rfl,rfl,rfl,rfl⟩:=A
 have y:=o.v2pos
 have i:=o.ord
 have O:=o.hF
 refine B7 (fun h1=>?_) (fun _=>hK _ _ _ _ _ q)
 have m:1<=c:=by omega
 have J:=o.bound2 m
 have T:first<=F:=by
  have t1:1*first<=d*first:=aE (by omega) (by omega)
  have t2:=aT (show 0<=v1 by omega) i.1
  omega
 rw [C3 (n:=first-c) (by omega) (by omega),C3 (n:=v1+d) (by omega) (by omega)]
 refine B7 (fun Z=>?_) (fun _=>hK _ _ _ _ _ q)
 refine B7 (fun e=>by omega) (fun _=>?_)
 refine B7 (fun e=>by omega) (fun _=>?_)
 rw [bX (by omega),bJ (by omega)]
 have f:=o.step (by omega) (by omega)
 have R:=f.bound m
 have j:0<=first/c:=bZ (by omega) (by omega)
 have D:first/c<=first:=fN _ (by omega)
 have Q:=aT j (show 0<=g by omega)
 have E:=aT j (show 0<=d by omega)
 rw [C3 (n:=first/c) (by omega) (by omega),C3 (n:=first/c*g) (by omega) (by omega),C3 (n:=first/c*d) (by omega) (by omega),C3 (n:=u1+first/c*g) (by omega) (by omega),C3 (n:=v1+first/c*d) (by omega) (by omega)]
 refine ⟨⟨rfl,_,_,_,_,_,_,_,_,_,rfl,f,⟨⟨by omega,q.2.1.2⟩,⟨by omega,by omega⟩,⟨by omega,q.2.2.2.1.2⟩,⟨by omega,by omega⟩,fun e=>f.leh e hW (al:=a%W) (bl:=b%W) ?_ ?_ ⟨r,t⟩ ⟨s,x⟩⟩,by omega,by split<;>omega⟩,?_⟩
 ·rw [hFa,aR];omega
 ·rw [hSb,aR];omega
 ·have:=aP first (show 0<c by omega)
  have:=aU first (show c≠0 by omega)
  simp only [iAt,aM,aF];omega
set_option maxHeartbeats 1000000 in
def A07{a b:Int}{an bn:Nat}(ma:Mw h A an a)(mb:Mw h B bn b)(hba:b<=a)(hb2:2<=bn)(hl:an<=1000000000)
 (hK:∀ u0 u1 v0 v1 odd,C2e a b u0 u1 v0 v1 odd->K (.agg #[U u0,U u1,U v0,U v1,.bool odd]) h):aZ prog Lm #[.slice A an ac,.slice B bn bc] h K:=by
 have W:=mb.nonneg (by decide)
 have af:bn<=an:=mb.len_le (by decide) (cY hba (ma.lt (by decide)))
 obtain ⟨k,rfl⟩:∃ k,an=k+2:=⟨an-2,by omega⟩
 obtain ⟨x,i,M,D,nx,rfl⟩:=ma
 obtain ⟨f,p,O,R,ny,rfl⟩:=mb
 refine A4i _ _ _ _ _ _ ?_
 unfold A4j
 have e1:B6 (((k+2:Nat):Int)-1)=((k+1:Nat):Int):=by rw [B8 (by omega) (by omega)];omega
 have e2:B6 (((k+2:Nat):Int)-2)=(k:Int):=by rw [B8 (by omega) (by omega)];omega
 simp only [e1,e2]
 have gt:=N8 D (k+1)
 have S:=N8 D k
 have Q:=A2m (m:=k+1) i.symm nx
 obtain ⟨t,ht⟩:∃ t:Nat,x.getD (k+1) 0=t:=⟨(x.getD (k+1) 0).toNat,by omega⟩
 rw [i]
 refine M.load rfl (by omega) (by omega) ?_
 rw [aC,ht]
 rw [ht] at gt Q
 refine R6 (by omega) ⟨_,rfl,?_⟩
 obtain ⟨s,hs⟩:∃ s,s=64-N9 t:=⟨_,rfl⟩
 rw [<- hs]
 obtain ⟨Z,q,aa⟩:=Ym D i.symm ht (by omega) hs
 refine M.load rfl (by omega) (by omega) ?_
 simp only [aC,ht]
 have g:C1 (s:Int)=s:=C3 (by omega) (by omega)
 have c:C1 (64-(s:Int))=((64-s:Nat):Int):=by rw [C3 (by omega) (by omega)];omega
 refine B7 (fun e=>by rw [g] at e;omega) (fun _=>?_)
 refine M.load rfl (by omega) (by omega) ?_
 simp only [aC]
 refine B7 (fun e=>by rw [g,c] at e;omega) (fun _=>?_)
 have V:0<(2:Int)^s:=bK (by decide)
 have y:0<(2:Int)^(64-s):=bK (by decide)
 have o:=Ac (s:=s) (by omega)
 have J:=D7 (B:=b64) (by decide) k
 have H:0<b64^k*2^(64-s):=Int.mul_pos J y
 have r:=B1w D (k:=k) (s:=s) (by omega) (by omega)
 have d:=B1w R (k:=k) (s:=s) (by omega) (by omega)
 have n:val b64 x/(b64^k*2^(64-s))<18446744073709551616:=by
  apply bL H
  have E:18446744073709551616*(b64^k*2^(64-s))*2^s=18446744073709551616*b64^k*(2^s*2^(64-s)):=by grind
  rw [o] at E
  have N:b64^(k+1+1)=18446744073709551616*b64^k*18446744073709551616:=by
   rw [aW,aW]
   show b64^k*18446744073709551616*18446744073709551616=_
   grind
  rw [N,<- E] at q
  exact Int.lt_of_mul_lt_mul_right q (by omega)
 have ad:val b64 f/(b64^k*2^(64-s))<=val b64 x/(b64^k*2^(64-s)):=Int.ediv_le_ediv H hba
 have q1:∀ z:Int,0<=z/\z<18446744073709551616->0<=z/2^(64-s)/\z/2^(64-s)<2^s:=fun z G=>
  ⟨bZ G.1 (by omega),bL y (by rw [o];exact G.2)⟩
 have j:∀ u z:Int,0<=u->0<=z/\z<18446744073709551616->u*2^s+z/2^(64-s)<18446744073709551616->bor .u64 (C1 (u*2^(min (C1 (s:Int)).toNat 64))) (eF z (2^(min (C1 (64-C1 (s:Int))).toNat 64)))=u*2^s+z/2^(64-s):=by
  intro u z X G T
  have:=q1 z G
  have:=aT X (aN V)
  rw [g,c,aC,aC,B75 (by omega),aJ (show s<=64 by omega),C3 (by omega) (by omega),A4a X (by omega) T]
 have gy:=N8 R (k+1)
 have L:=N8 R k
 rw [ht] at r
 refine ⟨fun l hp=>hp=h/\l=[U (val b64 f/(b64^k*2^(64-s)))],?_,?_⟩
 ·refine E4 (fun e=>?_) (fun e=>?_)
  ·rw [p]
   refine O.load rfl (by omega) (by omega) ?_
   simp only [aC]
   refine B7 (fun e=>by rw [g] at e;omega) (fun _=>?_)
   refine O.load rfl (by omega) (by omega) ?_
   simp only [aC]
   refine B7 (fun e=>by rw [g,c] at e;omega) (fun _=>?_)
   rw [j _ _ gy.1 L (by omega),d]
   first|exact ⟨rfl,rfl⟩|exact ⟨trivial,rfl⟩
  ·refine E4 (fun e=>?_) (fun e=>?_)
   ·rw [p]
    refine O.load rfl (by omega) (by omega) ?_
    simp only [aC]
    refine B7 (fun e=>by rw [g,c] at e;omega) (fun _=>?_)
    have:f.getD (k+1) 0=0:=by simp [cN,cU (show f.length<=k+1 by omega)]
    rw [this,fP,dL] at d
    rw [g,c,aC,B75 (by omega),d]
    first|exact ⟨rfl,rfl⟩|exact ⟨trivial,rfl⟩
   ·have E:f.getD (k+1) 0=0:=by simp [cN,cU (show f.length<=k+1 by omega)]
    have N:f.getD k 0=0:=by simp [cN,cU (show f.length<=k by omega)]
    rw [E,N,fP,dL,Int.zero_ediv] at d
    rw [d]
    exact ⟨rfl,rfl⟩
 ·rintro C ae ⟨rfl,w⟩
  simp only [bD,bY,and_true,true_and] at w
  subst w
  exact B74 (F:=val b64 x/(b64^k*2^(64-s))) (by rw [j _ _ (by omega) S (by omega),r]) H rfl rfl W hba n hK
end
def Win.swap{k k':dX}{h g1 g:bC}{ba bb:Nat}{e e':bV}{A B:Option bH}{pa qa pb qb:List cZ}{us bs:List Int}(wa:Win k h g1 ba e A pa us qa)(wb:Win k' g1 g bb e' B pb bs qb):∃ g2,Win k' h g2 bb e' B pb bs qb/\Win k g2 g ba e A pa us qa:=by
 have a:ba≠bb:=by
  rintro rfl
  have:=wa.free
  rw [wb.eq,C0] at this
  cases this
 have b:g ba=none:=by
  have:=wa.free
  rwa [wb.eq,B9 _ _ a] at this
 refine ⟨g.put ba (.cells (pa++us.map (aY k)++qa).toArray e),⟨?_,?_,wb.at_⟩,⟨b,rfl,wa.at_⟩⟩
 ·rw [B9 _ _ a.symm];exact wb.free
 ·rw [wa.eq,wb.eq];exact Heap.put_comm _ _ _ a.symm
def A04{z y c:Int}(hz:0<=z/\z<18446744073709551616)(hy:0<=y/\y<18446744073709551616)(hc:0<=c/\c<=1):(z-y-c)%18446744073709551616=z-y-c+18446744073709551616*(if z-y-c<0 then 1 else 0):=by
 split<;>omega
def A3k(z:Int):z%18446744073709551616=z-18446744073709551616*(z/18446744073709551616):=by omega
def Nx{x y c:Int}(hx:0<=x/\x<18446744073709551616)(hy:0<=y/\y<18446744073709551616)(hc:0<=c/\c<18446744073709551616):0<=(x*y+c)/18446744073709551616/\(x*y+c)/18446744073709551616<18446744073709551616:=by
 have a:=aT hx.1 hy.1
 have b:x*y<=18446744073709551615*y:=aE (by omega) hy.1
 omega
def pin{v w B m:Int}(h:v=w+B*m)(hv:0<=v/\v<B)(hw:0<=w/\w<B):v=w:=by
 have a:0<B:=by omega
 by_cases b:m <= -1
 ·have:=aI b (aN a);omega
 ·by_cases c:1<=m
  ·have:=aI c (aN a);omega
  ·obtain rfl:m=0:=by omega
   omega
section
variable {h g g1:bC} {K:VP} {A B:Option bH} {ac bc an bn ba bb:Nat} {e:bV} {qa qb:List cZ}
set_option maxHeartbeats 1000000 in
def B0l{us bs:List Int}{u0 u1 v0 v1:Int}{odd:Bool}(wa:Win .u64 h g1 ba e A [] us qa)(wb:Win .u64 g1 g bb e B [] bs qb)(ha:an=us.length)(hb:bn=bs.length)(hab:us.length=bs.length)(da:Dig b64 us)(db:Dig b64 bs)(hl:us.length<=1000000000)(hu0:0<=u0/\u0<18446744073709551616)(hu1:0<=u1/\u1<18446744073709551616)(hv0:0<=v0/\v0<18446744073709551616)(hv1:0<=v1/\v1<18446744073709551616)
 (hX0:0<=Lc (val b64 us) (val b64 bs) u0 v0 odd/\Lc (val b64 us) (val b64 bs) u0 v0 odd<b64^us.length) (hX1:0<=Lb (val b64 us) (val b64 bs) u1 v1 odd/\Lb (val b64 us) (val b64 bs) u1 v1 odd<b64^us.length)
 (hK:∀ us' bs' h' g1',us'.length=us.length->bs'.length=us.length->Dig b64 us'->Dig b64 bs'->val b64 us'=Lc (val b64 us) (val b64 bs) u0 v0 odd->val b64 bs'=Lb (val b64 us) (val b64 bs) u1 v1 odd->Win .u64 h' g1' ba e A [] us' qa->Win .u64 g1' g bb e B [] bs' qb->K (.tuple #[]) h'):
 aZ prog A0t #[.agg #[U u0,U u1,U v0,U v1,.bool odd],.slice A an ac,.slice B bn bc] h K:=by
 subst ha hb
 refine B53 _ _ _ _ _ _ _ _ _ _ _ ?_
 unfold B9u
 refine ⟨fun l hp=>∃ (k:Nat) (d b f c Q T:Int) (D m:List Int) (g1:bC),l=[U d,U b,U f,U c,U Q,U T,I k]/\k<=us.length/\D.length=us.length/\m.length=us.length/\Dig b64 D/\Dig b64 m/\(0<=d/\d<18446744073709551616)/\(0<=b/\b<18446744073709551616)/\(0<=f/\f<18446744073709551616)/\(0<=c/\c<18446744073709551616)/\(0<=Q/\Q<=1)/\(0<=T/\T<=1)/\Win .u64 hp g1 ba e A [] D qa/\Win .u64 g1 g bb e B [] m qb/\D.drop k=us.drop k/\m.drop k=bs.drop k/\
  val b64 (D.take k)=Lc (val b64 (us.take k)) (val b64 (bs.take k)) u0 v0 odd+b64^k*((if odd then b-d else d-b)+Q)/\val b64 (m.take k)=Lb (val b64 (us.take k)) (val b64 (bs.take k)) u1 v1 odd+b64^k*((if odd then c-f else f-c)+T),fun l _=>us.length-(iAt l 6).toNat,⟨0,0,0,0,0,0,0,us,bs,g1,rfl,by omega,rfl,hab.symm,da,db,by omega,by omega,by omega,by omega,by omega,by omega,wa,wb,rfl,rfl,by simp [val,Lc],by simp [val,Lb]⟩,?_⟩
 rintro d b f c Q T i hp ⟨k,af,aj,ag,ae,ah,ai,D,m,g1,S,hk,a,s,N,O,hP,hQ,hR,hT,u,C,M,R,L,G,z,n⟩
 simp only [bD,bY,and_true,true_and] at S
 obtain ⟨rfl,rfl,rfl,rfl,rfl,rfl,rfl⟩:=S
 refine B7 (fun h1=>?_) (fun h1=>?_)
 ·have gx:=N8 N k
  have gy:=N8 O k
  have w:=E8 L
  have o:=E8 G
  have W:=C4 b64 us k
  have Z:=C4 b64 bs k
  obtain ⟨g2,aa,ad⟩:=M.swap R
  refine M.sl.load a.symm (by omega) (by omega) ?_
  refine aa.sl.load (by omega) (by omega) (by omega) ?_
  simp only [aC]
  obtain ⟨aA,hA,_⟩:=SlV.at M.sl (i:=k) (by simp;omega)
  obtain ⟨aB,hB,_⟩:=SlV.at R.sl (i:=k) (by simp;omega)
  generalize hx0:D.getD k 0=x at *
  generalize hy0:m.getD k 0=y at *
  refine S5 gx hu0 hP ⟨_,_,rfl,?_⟩
  refine S5 gy hv0 hQ ⟨_,_,rfl,?_⟩
  refine S5 gy hv1 hR ⟨_,_,rfl,?_⟩
  refine S5 gx hu1 hT ⟨_,_,rfl,?_⟩
  have bP:=Nx gx hu0 hP
  have bQ:=Nx gy hv0 hQ
  have bR:=Nx gy hv1 hR
  have bT:=Nx gx hu1 hT
  have mP:=Et (x*u0+d)
  have mQ:=Et (y*v0+b)
  have mR:=Et (y*v1+f)
  have X:=Et (x*u1+c)
  have kP:=A3k (x*u0+d)
  have kQ:=A3k (y*v0+b)
  have kR:=A3k (y*v1+f)
  have kT:=A3k (x*u1+c)
  have ek:B6 ((k:Int)+1)=((k+1:Nat):Int):=by rw [B8 (by omega) (by omega)];omega
  rw [ek]
  generalize (x*u0+d)/18446744073709551616=cP2 at *
  generalize (y*v0+b)/18446744073709551616=cQ2 at *
  generalize (y*v1+f)/18446744073709551616=cR2 at *
  generalize (x*u1+c)/18446744073709551616=cT2 at *
  generalize (x*u0+d)%18446744073709551616=p at *
  generalize (y*v0+b)%18446744073709551616=q at *
  generalize (y*v1+f)%18446744073709551616=r at *
  generalize (x*u1+c)%18446744073709551616=t at *
  have j:b64^(k+1)=b64^k*18446744073709551616:=aW _ _
  cases odd with
  | true=>
   refine Br.of (fun _=>?_) (fun e=>by cases e)
   refine Fu mP mQ u ⟨_,_,rfl,aA,hA,by omega,by omega,M.storeN F6 hA (by omega) ?_⟩
   intro h2 w2
   refine Fu mR X C ⟨_,_,rfl,aB,hB,by omega,by omega,?_⟩
   obtain ⟨g3,H,J⟩:=w2.swap R
   refine H.storeN F6 hB (by omega) ?_
   intro h4 w4
   obtain ⟨g5,E,F⟩:=w4.swap J
   refine ⟨⟨k+1,_,_,_,_,_,_,_,_,g5,rfl,by omega,by simpa using a,by simpa using s,N.set (Et _),O.set (Et _),bP,bQ,bR,bT,by split<;>omega,by split<;>omega,E,F,?_,?_,?_,?_⟩,by simp only [iAt,aF,aM];omega⟩
   ·rw [D5 (by omega)];exact D8 L
   ·rw [D5 (by omega)];exact D8 G
   ·rw [C8 (by omega),F1,aG,aJ (by omega),j,W,Z,<- w,<- o,z,A04 mP mQ u]
    simp only [Lc,if_true]
    grind
   ·rw [C8 (by omega),F1,aG,aJ (by omega),j,W,Z,<- w,<- o,n,A04 mR X C]
    simp only [Lb,if_true]
    grind
  | false=>
   refine Br.of (fun e=>by cases e) (fun _=>?_)
   refine Fu mQ mP u ⟨_,_,rfl,aA,hA,by omega,by omega,M.storeN F6 hA (by omega) ?_⟩
   intro h2 w2
   refine Fu X mR C ⟨_,_,rfl,aB,hB,by omega,by omega,?_⟩
   obtain ⟨g3,H,J⟩:=w2.swap R
   refine H.storeN F6 hB (by omega) ?_
   intro h4 w4
   obtain ⟨g5,E,F⟩:=w4.swap J
   refine ⟨⟨k+1,_,_,_,_,_,_,_,_,g5,rfl,by omega,by simpa using a,by simpa using s,N.set (Et _),O.set (Et _),bP,bQ,bR,bT,by split<;>omega,by split<;>omega,E,F,?_,?_,?_,?_⟩,by simp only [iAt,aF,aM];omega⟩
   ·rw [D5 (by omega)];exact D8 L
   ·rw [D5 (by omega)];exact D8 G
   ·rw [C8 (by omega),F1,aG,aJ (by omega),j,W,Z,<- w,<- o,z,A04 mQ mP u]
    simp only [Lc,fF,if_false]
    grind
   ·rw [C8 (by omega),F1,aG,aJ (by omega),j,W,Z,<- w,<- o,n,A04 X mR C]
    simp only [Lb,fF,if_false]
    grind
 ·obtain rfl:k=us.length:=by omega
  rw [aL (show D.length<=us.length by omega),bB,aL (show bs.length<=us.length by omega)] at z
  rw [aL (show m.length<=us.length by omega),bB,aL (show bs.length<=us.length by omega)] at n
  have bx:=L5 (by decide) N
  have V:=L5 (by decide) O
  rw [a] at bx
  rw [s] at V
  exact hK D m hp g1 a s N O (pin z ⟨C7 (by decide) N,bx⟩ hX0) (pin n ⟨C7 (by decide) O,V⟩ hX1) M R
end
def Win.priv{k:dX}{h g:bC}{b m c:Nat}{e:bV}{A:Option bH}{xs:List Int}{post:List cZ}(w:Win k h g b e A [] xs post)(hx:xs≠[])(hc:c=xs.length+post.length)(hm:m<=xs.length):dU h g e 1 A m c ((xs.take m).map (aY k)):=by
 refine ⟨by simp;omega,by omega,.inr ⟨b,xs.map (aY k)++post,?_,w.free,?_,by simp;omega,?_⟩⟩
 ·rcases w.at_ with a|a
  ·exact absurd a hx
  ·simpa using a
 ·have:=w.eq
  rwa [cM] at this
 ·rw [cH,cK (by simp;omega),List.map_take]
def Fk{k:dX}{h g:bC}{n c:Nat}{e:bV}{A:Option bH}{xs:List Int}(p:dU h g e 1 A n c (xs.map (aY k)))(hx:xs≠[]):∃ b post,Win k h g b e A [] xs post/\c=xs.length+post.length:=by
 obtain ⟨l,m,i⟩:=p
 rw [fV] at l
 rcases i with ⟨o,rfl⟩|⟨b,a,d,j,rfl,q,f⟩
 ·exact absurd (aK (by omega)) hx
 ·refine ⟨b,a.drop (n*1),⟨j,?_,.inr d⟩,?_⟩
  ·rw [cM,<- f,cR]
  ·rw [aQ];omega
def Priv.swap{h g1 g:bC}{e e':bV}{s s' n c m d:Nat}{A B:Option bH}{xs ys:List cZ}(pa:dU h g1 e s A n c xs)(pb:dU g1 g e' s' B m d ys):∃ g2,dU h g2 e' s' B m d ys/\dU g2 g e s A n c xs:=by
 obtain ⟨o,l,D⟩:=pa
 obtain ⟨q,k,t⟩:=pb
 rcases D with ⟨y,rfl⟩|⟨i,f,w,a,rfl,u⟩
 ·exact ⟨g,⟨q,k,t⟩,⟨o,l,.inl ⟨y,rfl⟩⟩⟩
 ·rcases t with ⟨x,rfl⟩|⟨r,p,C,j,rfl,z⟩
  ·exact ⟨_,⟨q,k,.inl ⟨x,rfl⟩⟩,⟨o,l,.inr ⟨i,f,w,a,rfl,u⟩⟩⟩
  ·have b:i≠r:=by
    rintro rfl
    rw [C0] at a;cases a
   rw [B9 _ _ b] at a
   refine ⟨g.put i (.cells f.toArray e),⟨q,k,.inr ⟨r,p,C,?_,Heap.put_comm _ _ _ b.symm,z⟩⟩,⟨o,l,.inr ⟨i,f,w,a,rfl,u⟩⟩⟩
   rw [B9 _ _ b.symm];exact j
abbrev Pw(h g:bC)(A:Option bH)(n c:Nat)(us:List Int):Prop:=dU h g C2 1 A n c (us.map (aY .u64))
def GI(h:bC)(G:Nat)(hp:bC)(A:Option bH)(n c:Nat)(B:Option bH)(m d:Nat):Prop:=∃ (us vs:List Int) (g1 g:bC),h.le g/\Pw hp g1 A n c us/\Pw g1 g B m d vs/\Dig b64 us/\Dig b64 vs/\gC us/\gC vs/\n=us.length/\m=vs.length/\val b64 vs<=val b64 us/\gK (val b64 us) (val b64 vs)=G/\us.length<=100000000
def B3i{a b:Int}(ha:0<=a)(hb:0<=b):gK b (a%b)=gK a b:=by
 obtain ⟨x,rfl⟩:=dS ha
 obtain ⟨y,rfl⟩:=dS hb
 rw [<- gO,dR,dR,iD x,iD y,<- Nat.gcd_rec]
section
variable {h g:bC} {K:VP} {A B:Option bH} {ac bc:Nat}
set_option maxHeartbeats 1000000 in
def B7h{G an bn:Nat}{hp:bC}(gl:Gtz h)(gi:GI h G hp A an ac B bn bc)(hK:∀ A' m c' h',h.le h'->m<=c'->Mw h' A' m (G:Int)->K (.slice A' m c') h'):Md prog K A an ac B bn bc hp:=by
 unfold Md
 refine ⟨fun l hp=>∃ (A B:Option bH) (n c m d:Nat),l=[.slice A n c,.slice B m d]/\GI h G hp A n c B m d,fun l hp=>match l with|[_,.slice B n _]=>B39 b64 hp B n|_=>0,⟨_,_,_,_,_,_,rfl,gi⟩,?_⟩
 rintro A1 V c1 B1 X d1 hp ⟨A,B,n,c,m,d,hl,q,o,g1,g,lg,J,W,du,dv,nu,nv,hn,T,O,a,bq⟩
 simp only [bD,bO,and_true] at hl
 obtain ⟨⟨rfl,rfl,rfl⟩,rfl,rfl,rfl⟩:=hl
 have Ma:Mw hp A1 V (val b64 q):=⟨q,hn,J.slV,du,nu,rfl⟩
 have Mb:Mw hp B1 X (val b64 o):=⟨o,T,SlV.mono J.le W.slV,dv,nv,rfl⟩
 have ae:=J.2.1
 have ay:=W.2.1
 have D:=C7 (by decide) du
 have a0:=C7 (by decide) dv
 have az:X<=V:=Mb.len_le (by decide) (cY O (Ma.lt (by decide)))
 have M:h.le hp:=B0 lg (B0 W.le J.le)
 have a3:=Mb.len_zero (by decide)
 refine B7 (fun h1=>?_) (fun h1=>?_)
 ·refine A07 Ma Mb O (by omega) (by omega) ?_
  intro u0 u1 v0 v1 bl st
  refine ⟨_,_,_,_,_,rfl,E4 (fun e=>?_) (fun e=>?_)⟩
  ·refine S8 Ma Mb ae ay (by omega) (by omega) (by omega) ?_
   intro A2 m2 c2 A3 m3 c3 h6 l6 p k3 M2 M3
   refine ⟨_,_,_,_,_,_,rfl,?_⟩
   have bo:m3<=X:=M3.len_le (by decide) (by have:=aP (val b64 q) (show 0<val b64 o by omega);have:=Mb.lt (by decide);omega)
   obtain ⟨ws,ax,be,S,aa,bf⟩:=M3
   refine Fd be ax (by omega) ?_
   intro A4 c4 h7 g7 l7 p7
   obtain ⟨g2,L,Q⟩:=J.swap W
   obtain ⟨g8,l8,a9⟩:=L.after (B0 l6 l7)
   obtain ⟨g9,aw,a8⟩:=Priv.swap p7 a9
   have bm:=aP (val b64 q) (show 0<val b64 o by omega)
   have Mn:Mw h7 A4 ws.length (val b64 ws):=⟨ws,rfl,p7.slV,S,aa,rfl⟩
   refine ⟨_,_,_,rfl,⟨_,_,_,_,_,_,rfl,o,ws,g9,g8,B0 lg (B0 Q.le l8),aw,a8,dv,S,nv,aa,T,rfl,by omega,?_,by omega⟩,?_⟩
   ·rw [bf,B3i D a0];exact a
   ·simp only [As Mn,As Mb]
    have:=C7 (by decide) S
    omega
  ·obtain ⟨ah,am,Z,al,lh⟩:=st
   have lh:=lh e
   unfold Sg
   obtain ⟨g2,L,Q⟩:=J.swap W
   refine ⟨fun l hp=>∃ (B:Option bH) (m d j:Nat) (g1 g:bC),l=[.slice B m d]/\h.le g/\Pw hp g1 B m d (o++aD j 0)/\Pw g1 g A1 V c1 q/\m=o.length+j/\m<=V,fun l _=>match l with|[.slice _ m _]=>V-m|_=>0,⟨B1,X,d1,0,g2,g,rfl,lg,by simpa using L,Q,by omega,az⟩,?_⟩
   rintro B2 m2 d2 bu ⟨B',m',d',j,g3,g4,ak,aq,ag,aj,br,bi⟩
   simp only [bD,bO,and_true] at ak
   obtain ⟨rfl,rfl,rfl⟩:=ak
   refine B7 (fun h2=>?_) (fun h2=>?_)
   ·refine Dv Q0 ag rfl rfl (by omega) (by omega) ?_
    intro A5 c5 h5 g5 l5 p5
    obtain ⟨g6,l6,au⟩:=aj.after l5
    refine ⟨⟨A5,m2+1,c5,j+1,g5,g6,rfl,B0 aq l6,?_,au,by omega,by omega⟩,by simp only;omega⟩
    have p6:=p5
    rw [<- gH (f:=aY .u64),<- dB,aS,<- eA] at p6
    exact p6
   ·obtain ⟨g5,a1,a5⟩:=ag.swap aj
    have s:(o++aD j (0:Int)).length=q.length:=by simp;omega
    have i:q≠[]:=by rintro rfl;simp at hn;omega
    have ad:o++aD j (0:Int)≠[]:=by intro h0;rw [h0] at s;simp at s;exact i (aK s.symm)
    obtain ⟨ba,qa,wa,bj⟩:=Fk a1 i
    obtain ⟨bb,qb,wb,bp⟩:=Fk a5 ad
    have av:=lh.gcd
    have bg:=lh.ord
    have a6:=lh.le
    have bh:val b64 o<b64^q.length:=by rw [<- hn];exact cY O (Ma.lt (by decide))
    refine B0l wa wb hn (by omega) s.symm du (dv.append (I3 (by decide) _)) (by omega) ah am Z al (by rw [Db];omega) (by rw [Db];omega) ?_
    intro x k h6 g6 y z a2 ai C u E ar
    rw [Db] at C u
    have R:x≠[]:=by rintro rfl;simp at y;exact i (aK y.symm)
    have N:k≠[]:=by rintro rfl;simp at z;exact i (aK z.symm)
    refine ⟨rfl,?_⟩
    rw [show V=x.length by omega]
    refine Eh E.sl (by omega) (by omega) ?_
    intro k1 a7 bd ap
    refine ⟨_,_,_,rfl,?_⟩
    rw [show m2=k.length by omega]
    refine Eh (SlV.mono E.le ar.sl) (by omega) (by omega) ?_
    intro p a4 af F
    have pA:=E.priv (m:=k1) (c:=c1) R (by omega) a7
    have pB:=ar.priv (m:=p) (c:=d2) N (by omega) a4
    have e1:(x.take k1).length=k1:=by rw [aG];omega
    have e2:(k.take p).length=p:=by rw [aG];omega
    have Mn:Mw h6 B2 p (val b64 (k.take p)):=⟨k.take p,e2.symm,SlV.mono pA.le pB.slV,ai.take _,af,rfl⟩
    refine ⟨_,_,_,rfl,⟨_,_,_,_,_,_,rfl,x.take k1,k.take p,_,_,aq,pA,pB,a2.take _,ai.take _,bd,af,e1.symm,e2.symm,?_,?_,by omega⟩,?_⟩
    ·rw [ap,F,C,u];omega
    ·rw [ap,F,C,u,av];exact a
    ·simp only [As Mn,As Mb]
     rw [F,u];omega
 ·refine E4 (fun h2=>?_) (fun h2=>?_)
  ·have h0:val b64 o=0:=a3.2 (by omega)
   rw [h0,Int.gcd_zero_right] at a
   refine hK _ _ _ _ M ae ?_
   rw [<- a,Int.natAbs_of_nonneg D];exact Ma
  ·have bt:X=1:=by omega
   obtain ⟨w,rfl⟩:∃ w,o=[w]:=by
    rcases o with _|⟨w,_|⟨w',r⟩⟩
    ·simp at T;omega
    ·exact ⟨w,rfl⟩
    ·simp at T;omega
   have hw:=dv w (by simp)
   rw [Co] at *
   obtain ⟨t,rfl⟩:∃ t:Nat,w=(t:Int):=dS hw.1
   have bk:(t:Int)<18446744073709551616:=hw.2
   have ao:0<t:=by omega
   have sb:SlI .u64 hp B1 [(t:Int)]:=SlV.mono J.le W.slV
   refine sb.load T (by omega) (by omega) ?_
   refine sb.load T (by omega) (by omega) ?_
   show aZ _ _ #[_,U ((t:Nat):Int)] _ _
   refine Np Ma ⟨ao,by omega⟩ (by omega) ⟨_,rfl,B4 _,?_⟩
   have r0:=aU (val b64 q) (b:=(t:Int)) (by omega)
   have r1:=aP (val b64 q) (show (0:Int)<(t:Int) by omega)
   have H:=B3i D (show (0:Int)<=(t:Int) by omega)
   obtain ⟨r,hr⟩:=dS r0
   rw [hr] at r1 H ⊢
   show aZ _ _ #[U ((t:Nat):Int),_] _ _
   refine A3t (gl.mono M) (by omega) (by omega) ⟨_,rfl,B4 _,?_⟩
   rw [dR] at H
   have a6:dZ t r<=t:=Nat.le_of_dvd ao (Nat.gcd_dvd_left t r)
   refine Bq (by omega) ?_
   intro A2 m2 c2 h2 l2 p M2
   rw [H,a] at M2
   exact ⟨_,_,_,rfl,l2,hK _ _ _ _ (B0 M l2) p M2⟩
def Od{x y:Int}{an bn:Nat}(gl:Gtz h)(ma:Mw h A an x)(mb:Mw h B bn y)(ha:an<=ac)(hb:bn<=bc)(hl:an<=100000000)(hl2:bn<=100000000)(hK:∀ A' m c' h',h.le h'->m<=c'->Mw h' A' m (gK x y:Int)->K (.slice A' m c') h'):aZ prog Gh #[.slice A an ac,.slice B bn bc] h K:=by
 refine A4m _ _ _ _ _ _ ?_
 unfold A4n
 refine ⟨fun l q=>q=h/\∃ (A B:Option bH) (n c m d:Nat) (f e:Int),l=[.slice A n c,.slice B m d]/\Mw h A n f/\Mw h B m e/\e<=f/\n<=c/\m<=d/\n<=100000000/\m<=100000000/\gK f e=gK x y,?_,?_⟩
 ·refine F9 ma mb (by omega) ⟨_,rfl,B7 (fun a=>?_) (fun a=>?_)⟩
  ·rw [Dm] at a
   exact ⟨rfl,_,_,_,_,_,_,_,_,rfl,mb,ma,by omega,hb,ha,hl2,hl,Int.gcd_comm _ _⟩
  ·rw [Dm] at a
   exact ⟨rfl,_,_,_,_,_,_,_,_,rfl,ma,mb,by omega,ha,hb,hl,hl2,rfl⟩
 ·rintro A1 T c1 B1 S Q q ⟨rfl,A2,B2,n,c,m,d,f,e,b,M1,M2,j,L,k2,Z,W,o⟩
  simp only [bD,bO,and_true] at b
  obtain ⟨⟨rfl,rfl,rfl⟩,rfl,rfl,rfl⟩:=b
  have g:=M1.nonneg (by decide)
  refine E4 (fun a=>?_) (fun a=>?_)
  ·have:e=0:=(M2.len_zero (by decide)).2 (by omega)
   subst this
   rw [Int.gcd_zero_right] at o
   refine hK _ _ _ _ (B4 _) L ?_
   rw [<- o,Int.natAbs_of_nonneg g];exact M1
  ·obtain ⟨F,k,O,N,M,rfl⟩:=M1
   obtain ⟨w,i,J,E,nv,rfl⟩:=M2
   refine Fd O k (by omega) ?_
   intro A3 c3 h3 g3 p r
   refine ⟨_,_,_,rfl,?_⟩
   refine Fd (SlV.mono (B0 p r.le) J) i (by omega) ?_
   intro A4 R X V z C
   refine ⟨_,_,_,rfl,?_⟩
   obtain ⟨D,u,s⟩:=r.after z
   obtain ⟨t,G,H⟩:=Priv.swap C s
   exact B7h gl ⟨F,w,t,D,B0 p u,G,H,N,E,M,nv,rfl,rfl,j,o,by omega⟩ hK
end
structure ZI (h:bC) (s:Bool) (A:Option bH) (n c:Nat) (z:Int):Prop where
 cap:n<=c
 mag:Mw h A n (z.natAbs:Int)
 sgn:s=decide (z<0)
def ZI.mono{h h':bC}{s:Bool}{A:Option bH}{n c:Nat}{z:Int}(i:ZI h s A n c z)(l:h.le h'):ZI h' s A n c z:=⟨i.cap,i.mag.mono l,i.sgn⟩
def ZI.zero{h:bC}{A:Option bH}:ZI h false A 0 0 0:=⟨bF _,Mag.zero,rfl⟩
def ZI.len{h:bC}{s:Bool}{A:Option bH}{n c m:Nat}{z:Int}(i:ZI h s A n c z)(hz:ZB m z)(hm:m<=6400000000):n<=100000000:=by
 obtain ⟨k,hk⟩:∃ k,k=100000000:=⟨_,rfl⟩
 rw [<- hk]
 refine i.mag.len_le (by decide) ?_
 rw [Kz]
 have a:(z.natAbs:Int)<2^m:=by
  have:((z.natAbs:Nat):Int)<((2^m:Nat):Int):=Int.ofNat_lt.2 hz
  simpa using this
 have b:=C9 (B:=2) (by decide) (show m<=64*k by omega)
 exact Int.lt_of_lt_of_le a b
def ZI.zeroIff{h:bC}{s:Bool}{A:Option bH}{n c:Nat}{z:Int}(i:ZI h s A n c z):z=0↔n=0:=by
 have:=i.mag.len_zero (by decide)
 omega
section
variable {h g:bC} {K:VP} {A B:Option bH} {s s':Bool} {an ac bn bc m:Nat} {x y:Int}
def O2{v:Nat}{n c:Nat}{neg:Bool}(M:Mw h A n (v:Int))(hc:n<=c)(hK:∀ s,ZI h s A n c (if neg then -(v:Int) else v)->K (.agg #[.bool s,.slice A n c]) h):aZ prog Q6 #[.bool neg,.slice A n c] h K:=by
 have a:=M.len_zero (by decide)
 refine B0s _ _ _ _ ?_
 unfold B4z
 cases neg with
 | true=>
  refine Br.of (fun _=>hK _ ⟨hc,?_,?_⟩) (fun e=>by cases e)
  ·simpa using M
  ·simp only [if_true,decide_eq_decide];omega
 | false=>
  refine Br.of (fun e=>by cases e) (fun _=>hK _ ⟨hc,?_,?_⟩)
  ·simpa using M
  ·simp
def U2(i:ZI h s A an ac x)(hK:∀ s',ZI h s' A an ac (-x)->K (.agg #[.bool s',.slice A an ac]) h):aZ prog Il #[.agg #[.bool s,.slice A an ac]] h K:=by
 refine C22 _ _ _ _ ?_
 unfold C6n
 refine O2 (neg:= !s) i.mag i.cap ?_
 intro c a
 have e:(if (!s)=true then -(x.natAbs:Int) else x.natAbs)= -x:=by
  have:=i.sgn
  by_cases b:x<0
  ·simp only [b,decide_true] at this;subst this;simp;omega
  ·simp only [b,decide_false] at this;subst this;simp;omega
 rw [e] at a
 exact ⟨_,_,_,_,rfl,hK _ a⟩
def Hu(i:ZI h s A an ac x)(j:ZI h s' B bn bc y)(hx:ZB m x)(hy:ZB m y)(hm:m<=6400000000)(hK:∀ s1 A' n' c' h',h.le h'->ZI h' s1 A' n' c' (x+y)->K (.agg #[.bool s1,.slice A' n' c']) h'):aZ prog Vi #[.agg #[.bool s,.slice A an ac],.agg #[.bool s',.slice B bn bc]] h K:=by
 have q:=i.len hx hm
 have p:=j.len hy hm
 have f:=i.sgn
 have a:=j.sgn
 refine C26 _ _ _ _ _ _ _ _ ?_
 unfold C6r
 refine Br.of (fun e=>?_) (fun e=>?_)
 ·have e:s=s':=by simpa using e
  subst e
  refine R9 i.mag j.mag i.cap j.cap (by omega) (by omega) ?_
  intro A1 o c1 b c l M1
  refine ⟨_,_,_,rfl,c,?_⟩
  rw [<- eM] at M1
  refine O2 (neg:=s) M1 l ?_
  intro s1 d
  refine ⟨_,_,_,_,rfl,B4 _,hK _ _ _ _ _ c ?_⟩
  have g:(if s=true then -((x.natAbs+y.natAbs:Nat):Int) else ((x.natAbs+y.natAbs:Nat):Int))=x+y:=by
   cases s with
   | true=>have b:=of_decide_eq_true f.symm;have k:=of_decide_eq_true a.symm;simp;omega
   | false=>have b:=of_decide_eq_false f.symm;have k:=of_decide_eq_false a.symm;simp;omega
  rw [g] at d
  exact d
 ·have e:s≠s':=by simpa using e
  refine F9 i.mag j.mag (by omega) ⟨_,rfl,B7 (fun b=>?_) (fun b=>?_)⟩
  ·have n:¬ (x.natAbs:Int)<y.natAbs:=by rw [<- Dm];omega
   refine H2 i.mag j.mag i.cap (by omega) (by omega) ?_
   intro A1 o c1 b c l M1
   refine ⟨_,_,_,rfl,c,?_⟩
   rw [show (x.natAbs:Int)-y.natAbs=((x.natAbs-y.natAbs:Nat):Int) by omega] at M1
   refine O2 (neg:=s) M1 l ?_
   intro s1 d
   refine ⟨_,_,_,_,rfl,B4 _,hK _ _ _ _ _ c ?_⟩
   have g:(if s=true then -((x.natAbs-y.natAbs:Nat):Int) else ((x.natAbs-y.natAbs:Nat):Int))=x+y:=by
    cases s with
    | true=>cases s' with
     | true=>exact absurd rfl e
     | false=>have b:=of_decide_eq_true f.symm;have k:=of_decide_eq_false a.symm;rw [iP rfl];omega
    | false=>cases s' with
     | true=>have b:=of_decide_eq_false f.symm;have k:=of_decide_eq_true a.symm;rw [iN (by simp)];omega
     | false=>exact absurd rfl e
   rw [g] at d
   exact d
  ·have n:(x.natAbs:Int)<y.natAbs:=by rw [<- Dm];omega
   refine H2 j.mag i.mag j.cap (by omega) (by omega) ?_
   intro A1 o c1 b c l M1
   refine ⟨_,_,_,rfl,c,?_⟩
   rw [show (y.natAbs:Int)-x.natAbs=((y.natAbs-x.natAbs:Nat):Int) by omega] at M1
   refine O2 (neg:=s') M1 l ?_
   intro s1 d
   refine ⟨_,_,_,_,rfl,B4 _,hK _ _ _ _ _ c ?_⟩
   have g:(if s'=true then -((y.natAbs-x.natAbs:Nat):Int) else ((y.natAbs-x.natAbs:Nat):Int))=x+y:=by
    cases s with
    | true=>cases s' with
     | true=>exact absurd rfl e
     | false=>have b:=of_decide_eq_true f.symm;have k:=of_decide_eq_false a.symm;rw [iN (by simp)];omega
    | false=>cases s' with
     | true=>have b:=of_decide_eq_false f.symm;have k:=of_decide_eq_true a.symm;rw [iP rfl];omega
     | false=>exact absurd rfl e
   rw [g] at d
   exact d
def B1e(i:ZI h s A an ac x)(j:ZI h s' B bn bc y)(hx:ZB m x)(hy:ZB m y)(hm:m<=6400000000)(hK:∀ s1 A' n' c' h',h.le h'->ZI h' s1 A' n' c' (x-y)->K (.agg #[.bool s1,.slice A' n' c']) h'):aZ prog B3r #[.agg #[.bool s,.slice A an ac],.agg #[.bool s',.slice B bn bc]] h K:=by
 refine C20 _ _ _ _ _ _ _ _ ?_
 unfold C6l
 refine U2 j ?_
 intro s1 b
 refine ⟨_,_,_,_,rfl,B4 _,Hu i b hx hy.neg hm ?_⟩
 intro f A2 d c2 e a c
 exact ⟨_,_,_,_,rfl,a,hK _ _ _ _ _ a (by rw [Int.sub_eq_add_neg];exact c)⟩
def L4(i:ZI h s A an ac x)(j:ZI h s' B bn bc y)(hx:ZB m x)(hy:ZB m y)(hm:m<=6400000000)(hK:∀ s1 A' n' c' h',h.le h'->ZI h' s1 A' n' c' (x*y)->K (.agg #[.bool s1,.slice A' n' c']) h'):aZ prog Bl #[.agg #[.bool s,.slice A an ac],.agg #[.bool s',.slice B bn bc]] h K:=by
 have l:=i.len hx hm
 have g:=j.len hy hm
 have b:=i.sgn
 have a:=j.sgn
 refine C23 _ _ _ _ _ _ _ _ ?_
 unfold C6o
 refine H8 i.mag j.mag i.cap j.cap (by omega) (by omega) ?_
 intro A1 k c1 n c f M1
 refine ⟨_,_,_,rfl,c,?_⟩
 rw [<- cG] at M1
 refine O2 (neg:= !(s==s')) M1 f ?_
 intro s1 d
 refine ⟨_,_,_,_,rfl,B4 _,hK _ _ _ _ _ c ?_⟩
 have e:(if (!(s==s'))=true then -((x.natAbs*y.natAbs:Nat):Int) else ((x.natAbs*y.natAbs:Nat):Int))=x*y:=by
  rw [cG]
  cases s with
  | true=>cases s' with
   | true=>rw [show (x.natAbs:Int)= -x by have:=of_decide_eq_true b.symm;omega,show (y.natAbs:Int)= -y by have:=of_decide_eq_true a.symm;omega];show -x * -y=x*y;exact Int.neg_mul_neg x y
   | false=>rw [show (x.natAbs:Int)= -x by have:=of_decide_eq_true b.symm;omega,show (y.natAbs:Int)=y by have:=of_decide_eq_false a.symm;omega];show -(-x*y)=x*y;rw [Int.neg_mul,Int.neg_neg]
  | false=>cases s' with
   | true=>rw [show (x.natAbs:Int)=x by have:=of_decide_eq_false b.symm;omega,show (y.natAbs:Int)= -y by have:=of_decide_eq_true a.symm;omega];show -(x * -y)=x*y;rw [Int.mul_neg,Int.neg_neg]
   | false=>rw [show (x.natAbs:Int)=x by have:=of_decide_eq_false b.symm;omega,show (y.natAbs:Int)=y by have:=of_decide_eq_false a.symm;omega];rfl
 rw [e] at d
 exact d
def Cm(gl:Gtz h)(i:ZI h s A an ac x)(j:ZI h s' B bn bc y)(hx:ZB m x)(hy:ZB m y)(hm:m<=6400000000)(hK:∀ A' n' c' h',h.le h'->ZI h' false A' n' c' (gK x y:Int)->K (.agg #[.bool false,.slice A' n' c']) h'):aZ prog Of #[.agg #[.bool s,.slice A an ac],.agg #[.bool s',.slice B bn bc]] h K:=by
 have d:=i.len hx hm
 have a:=j.len hy hm
 refine C25 _ _ _ _ _ _ _ _ ?_
 unfold C6q
 refine Od gl i.mag j.mag i.cap j.cap d a ?_
 intro A1 e c1 f c b M1
 refine ⟨_,_,_,rfl,hK _ _ _ _ c ⟨b,?_,?_⟩⟩
 ·rw [dR] at M1
  rw [fC]
  exact M1
 ·simp
def Ef(i:ZI h s A an ac x)(hK:K (I (Int.sign x)) h):aZ prog Lk #[.agg #[.bool s,.slice A an ac]] h K:=by
 have c:=i.zeroIff
 have b:=i.sgn
 refine B87 _ _ _ _ ?_
 unfold C4a
 refine E4 (fun e=>?_) (fun e=>?_)
 ·obtain rfl:x=0:=by omega
  simpa using hK
 ·refine Br.of (fun a=>?_) (fun a=>?_)
  ·subst a
   have:=of_decide_eq_true b.symm
   rw [fB this] at hK;exact hK
  ·subst a
   have:=of_decide_eq_false b.symm
   rw [fQ (by omega)] at hK;exact hK
def Mm(i:ZI h s A an ac x)(j:ZI h s' B bn bc y)(hx:ZB m x)(hy:ZB m y)(hm:m<=6400000000)(hK:K (I (Fc x y)) h):aZ prog Ka #[.agg #[.bool s,.slice A an ac],.agg #[.bool s',.slice B bn bc]] h K:=by
 have g:=i.len hx hm
 have f:=j.len hy hm
 have d:=i.sgn
 have a:=j.sgn
 refine A7b _ _ _ _ _ _ _ _ ?_
 unfold A93
 have c1:x<0->y<0->Fc (y.natAbs:Int) x.natAbs=Fc x y:=fun c b=>by unfold Fc;split<;>split<;>first|rfl|omega|(split<;>split<;>first|rfl|omega)|(split<;>first|rfl|omega)
 have c2:¬ x<0->¬ y<0->Fc (x.natAbs:Int) y.natAbs=Fc x y:=fun c b=>by rw [show (x.natAbs:Int)=x by omega,show (y.natAbs:Int)=y by omega]
 cases s with
 | true=>
  have c:=of_decide_eq_true d.symm
  refine Br.of (fun _=>?_) (fun e=>by cases e)
  cases s' with
  | true=>
   have b:=of_decide_eq_true a.symm
   refine Br.of (fun _=>?_) (fun e=>by cases e)
   exact F9 j.mag i.mag (by omega) ⟨_,rfl,by rw [c1 c b];exact hK⟩
  | false=>
   have b:=of_decide_eq_false a.symm
   refine Br.of (fun e=>by cases e) (fun _=>Br.of (fun _=>?_) (fun e=>by cases e))
   have:Fc x y= -1:=by unfold Fc;rw [iP (by omega)]
   rw [this] at hK;exact hK
 | false=>
  have c:=of_decide_eq_false d.symm
  refine Br.of (fun e=>by cases e) (fun _=>Br.of (fun e=>by cases e) (fun _=>?_))
  cases s' with
  | true=>
   have b:=of_decide_eq_true a.symm
   refine Br.of (fun _=>?_) (fun e=>by cases e)
   have:Fc x y=1:=by unfold Fc;rw [iN (by omega),iP (by omega)]
   rw [this] at hK;exact hK
  | false=>
   have b:=of_decide_eq_false a.symm
   refine Br.of (fun e=>by cases e) (fun _=>?_)
   exact F9 i.mag j.mag (by omega) ⟨_,rfl,by rw [c2 c b];exact hK⟩
end
section
variable {h g:bC} {K:VP} {A B:Option bH} {s s':Bool} {an ac bn bc m:Nat} {x y:Int}
def Af(hs:s=decide (x<0)):(s=true/\x= -(x.natAbs:Int))\/(s=false/\x=(x.natAbs:Int)):=by
 by_cases h:x<0
 ·left;exact ⟨by rw [hs];simpa using h,by omega⟩
 ·right;exact ⟨by rw [hs];simpa using h,by omega⟩
def B6r(a b:Nat):(a:Int).tdiv b=((a/b:Nat):Int)/\(-(a:Int)).tdiv (-(b:Int))=((a/b:Nat):Int)/\(-(a:Int)).tdiv b= -((a/b:Nat):Int)/\(a:Int).tdiv (-(b:Int))= -((a/b:Nat):Int):=by
 refine ⟨(cL a b).symm,?_,?_,?_⟩
 ·rw [Int.neg_tdiv,Int.tdiv_neg,Int.neg_neg,cL]
 ·rw [Int.neg_tdiv,cL]
 ·rw [Int.tdiv_neg,cL]
def A00(a b:Nat):(a:Int).tmod b=((a%b:Nat):Int)/\(-(a:Int)).tmod (-(b:Int))= -((a%b:Nat):Int)/\(-(a:Int)).tmod b= -((a%b:Nat):Int)/\(a:Int).tmod (-(b:Int))=((a%b:Nat):Int):=by
 refine ⟨(dH a b).symm,?_,?_,?_⟩
 ·rw [Int.neg_tmod,Int.tmod_neg,dH]
 ·rw [Int.neg_tmod,dH]
 ·rw [Int.tmod_neg,dH]
def Rn(i:ZI h s A an ac x)(j:ZI h s' B bn bc y)(hx:ZB m x)(hy:ZB m y)(hm:m<=6400000000)(hy0:y≠0)(hK:∀ s1 A1 n1 c1 s2 A2 n2 c2 h',h.le h'->ZI h' s1 A1 n1 c1 (x.tdiv y)->ZI h' s2 A2 n2 c2 (x.tmod y)->K (.tuple #[.agg #[.bool s1,.slice A1 n1 c1],.agg #[.bool s2,.slice A2 n2 c2]]) h'):aZ prog Oe #[.agg #[.bool s,.slice A an ac],.agg #[.bool s',.slice B bn bc]] h K:=by
 have q:=i.len hx hm
 have n:=j.len hy hm
 have l:=j.zeroIff
 have a:=Af i.sgn
 have d:=Af j.sgn
 refine B0p _ _ _ _ _ _ _ _ ?_
 unfold B4t
 refine E4 (fun e=>by omega) (fun _=>?_)
 refine S8 i.mag j.mag i.cap j.cap (by omega) (by omega) (by omega) ?_
 intro A1 o c1 A2 p c2 r g k f M1 M2
 refine ⟨_,_,_,_,_,_,rfl,?_⟩
 rw [<- dY] at M1
 rw [<- gO] at M2
 refine O2 (neg:= !(s==s')) M1 k ?_
 intro s1 b
 refine ⟨_,_,_,_,rfl,B4 _,?_⟩
 refine O2 (neg:=s) M2 f ?_
 intro s2 c
 refine ⟨_,_,_,_,rfl,B4 _,hK _ _ _ _ _ _ _ _ _ g ?_ ?_⟩
 ·have e:(if (!(s==s'))=true then -((x.natAbs/y.natAbs:Nat):Int) else ((x.natAbs/y.natAbs:Nat):Int))=x.tdiv y:=by
   have t:=B6r x.natAbs y.natAbs
   rcases a with ⟨rfl,hx'⟩|⟨rfl,hx'⟩<;>rcases d with ⟨rfl,hy'⟩|⟨rfl,hy'⟩<;>rw [<- hx',<- hy'] at t
   ·exact t.2.1.symm
   ·exact t.2.2.1.symm
   ·exact t.2.2.2.symm
   ·exact t.1.symm
  rw [e] at b;exact b
 ·have e:(if s=true then -((x.natAbs%y.natAbs:Nat):Int) else ((x.natAbs%y.natAbs:Nat):Int))=x.tmod y:=by
   have t:=A00 x.natAbs y.natAbs
   rcases a with ⟨rfl,hx'⟩|⟨rfl,hx'⟩<;>rcases d with ⟨rfl,hy'⟩|⟨rfl,hy'⟩<;>rw [<- hx',<- hy'] at t
   ·exact t.2.1.symm
   ·exact t.2.2.1.symm
   ·exact t.2.2.2.symm
   ·exact t.1.symm
  rw [e] at c;exact c
def G1(i:ZI h s A an ac x)(hK:K (.bool (decide (x=0))) h):aZ prog E9 #[.agg #[.bool s,.slice A an ac]] h K:=by
 have b:=i.zeroIff
 refine B0q _ _ _ _ ?_
 unfold B4u
 have:((an:Int)==0)=decide (x=0):=by
  by_cases a:x=0
  ·simp [a,b.1 a]
  ·have:¬ an=0:=fun e=>a (b.2 e)
   simp [a,this]
 rw [this];exact hK
def Q3(i:ZI h s A an ac x)(hK:K (.bool (decide (x=1))) h):aZ prog Z8 #[.agg #[.bool s,.slice A an ac]] h K:=by
 have f:=Af i.sgn
 have g:=i.zeroIff
 have M:=i.mag
 refine B4v _ _ _ _ ?_
 unfold B9p
 rcases f with ⟨rfl,k⟩|⟨rfl,k⟩
 ·refine Br.of (fun e=>by cases e) (fun _=>?_)
  rw [show decide (x=1)=false by simp;omega] at hK;exact hK
 ·refine Br.of (fun _=>?_) (fun e=>by cases e)
  obtain ⟨d,a,l,m,o,b⟩:=M
  refine E4 (fun e=>?_) (fun e=>?_)
  ·obtain ⟨w,rfl⟩:∃ w,d=[w]:=by
    rcases d with _|⟨w,_|⟨p,r⟩⟩
    ·simp at a;omega
    ·exact ⟨w,rfl⟩
    ·simp at a;omega
   refine l.load a (by omega) (by omega) ?_
   rw [Co] at b
   show K (.bool (w==1)) h
   have:(w==1)=decide (x=1):=by
    by_cases c:x=1
    ·have:w=1:=by omega
     simp [c,this]
    ·have:¬ w=1:=by omega
     simp [c,this]
   rw [this];exact hK
  ·have:¬ x=1:=by
    rintro rfl
    have c:=i.mag.len_le (j:=1) (by decide) (by decide)
    have n:¬ an=0:=fun e=>by have:=g.2 e;omega
    omega
   rw [show decide (x=1)=false by simp [this]] at hK;exact hK
def Q1(i:ZI h s A an ac x)(j:ZI h s' B bn bc y)(hx:ZB m x)(hy:ZB m y)(hm:m<=6400000000)(hy0:y≠0)(hK:∀ s1 A1 n1 c1 h',h.le h'->ZI h' s1 A1 n1 c1 (x.tdiv y)->K (.agg #[.bool s1,.slice A1 n1 c1]) h'):aZ prog Ev #[.agg #[.bool s,.slice A an ac],.agg #[.bool s',.slice B bn bc]] h K:=by
 refine C21 _ _ _ _ _ _ _ _ ?_
 unfold C6m
 refine Q3 j ⟨_,rfl,B7 (fun e=>?_) (fun e=>?_)⟩
 ·subst e
  exact hK _ _ _ _ _ (B4 _) (by rw [Int.tdiv_one];exact i)
 ·refine Rn i j hx hy hm hy0 ?_
  intro s1 A1 n1 c1 g A2 c c2 d a b f
  exact ⟨_,_,_,_,_,_,_,_,rfl,hK _ _ _ _ _ a b⟩
def A5g(i:ZI h s A an ac x)(j:ZI h s' B bn bc y)(hx:ZB m x)(hm:m<=6400000000)(hK:K (.bool (decide (x=y))) h):aZ prog A0s #[.agg #[.bool s,.slice A an ac],.agg #[.bool s',.slice B bn bc]] h K:=by
 have l:=i.len hx hm
 have f:=Af i.sgn
 have g:=Af j.sgn
 have c:=i.sgn
 have b:=j.sgn
 refine B4x _ _ _ _ _ _ _ _ ?_
 unfold B9r
 refine Br.of (fun e=>?_) (fun e=>?_)
 ·have e:s=s':=by simpa using e
  refine F9 i.mag j.mag (by omega) ⟨_,rfl,?_⟩
  have:(Fc (x.natAbs:Int) y.natAbs==0)=decide (x=y):=by
   by_cases d:x=y
   ·subst d;unfold Fc;simp
   ·have k:¬ x.natAbs=y.natAbs:=by
     rcases f with ⟨rfl,hx'⟩|⟨rfl,hx'⟩<;>rcases g with ⟨a,hy'⟩|⟨a,hy'⟩<;>(rw [<- e] at a)<;>first|omega|(cases a)
    unfold Fc
    by_cases a:(x.natAbs:Int)<y.natAbs
    ·rw [iP a];simp [d]
    ·rw [iN a,iP (by omega)];simp [d]
  rw [this];exact hK
 ·have e:s≠s':=by simpa using e
  have:¬ x=y:=by rintro rfl;exact e (c.trans b.symm)
  rw [show decide (x=y)=false by simp [this]] at hK;exact hK
def Eg{n:Int}(h1: -9223372036854775808<=n)(h2:n<=9223372036854775807)(hK:∀ s1 A1 n1 c1 h',h.le h'->ZI h' s1 A1 n1 c1 n->K (.agg #[.bool s1,.slice A1 n1 c1]) h'):aZ prog Rw #[I n] h K:=by
 refine C27 _ ?_
 unfold C6s
 refine B7 (fun b=>?_) (fun b=>?_)
 ·have e:C1 (0-C1 n)=(n.natAbs:Int):=by rw [E7,E7];omega
  rw [e]
  refine Bq (by omega) ?_
  intro A1 d c1 h1 c a M1
  exact ⟨_,_,_,rfl,hK _ _ _ _ _ c ⟨a,M1,by simpa using b⟩⟩
 ·have e:C1 n=(n.natAbs:Int):=by rw [E7];omega
  rw [e]
  refine Bq (by omega) ?_
  intro A1 d c1 h1 c a M1
  exact ⟨_,_,_,rfl,hK _ _ _ _ _ c ⟨a,M1,by simpa using b⟩⟩
end
def A9o{P:dE}{t d e:bV}(ht:P.underlying t=some .string)(hd:P.underlying d=some (.slice e))(he:P.underlying e=some (.int .u8)){h:bC}{l:List UInt8}{K:VP}
 (x:∀ A c h',h.le h'->l.length<=c->SlV h' A (yv l)->K (.slice A l.length c) h'):wpH P (convert t d (.string (bs l))) K h:=by
 unfold convert
 simp only [C5,F0 ht,F0 hd,F0 he]
 unfold Conv.stringToBytes
 simp only [C5]
 refine Jq rfl (fun o=>?_)
 have f:(bs l).size=l.length:=by simp [bs,fE]
 have a:l.length<=(Question.appendCap (bs l).size 0 e).cut o:=by
  rw [f];simp only [Question.cut];omega
 generalize (Question.appendCap (bs l).size 0 e).cut o=cap at *
 rw [O7]
 intro b q
 generalize hcs:((bs l).data.map (fun b=>aY .u8 b.toNat)++dP (cap-(bs l).size) (aY .u8 0))=cs
 have j:h.le (h.put b (.cells cs e (cs.size,cs.size+1))):=Heap.le_put _ q
 have m:(h.put b (.cells cs e)).freeze { block:=b,off:=cs.size } 1=h.put b (.cells cs e (cs.size,cs.size+1)):=by
  unfold Heap.freeze
  rw [iN (by decide)]
  funext k
  by_cases g:k=b
  ·subst g
   simp only [if_true,C0,gP]
   rfl
  ·rw [iN g,B9 _ _ g,B9 _ _ g]
 refine ⟨cs,e,_,C0 _ _ _,?_⟩
 refine ⟨⟨_,C0 _ _ _⟩,?_⟩
 show K (.slice (some ⟨b,0,none⟩) (bs l).size cap) ((h.put b (.cells cs e)).freeze { block:=b,off:=cs.size } 1)
 rw [m,f]
 refine x _ _ _ j a (.inr ⟨_,rfl,?_⟩)
 intro i v n
 have p:i<l.length:=by
  have:=(List.getElem?_eq_some_iff.1 n).1
  simpa [yv] using this
 have r:eG ⟨b,0,none⟩ i=⟨b,i,none⟩:=by rw [E6,eQ]
 rw [r,E5,<- hcs,Array.getElem?_append_left (by simp [bs];exact p)]
 rw [<- n]
 simp [yv,bs]
def A6j{x y:Int}(hy:0<y):(x.tmod y<0->x/y=x.tdiv y-1)/\(0<=x.tmod y->x/y=x.tdiv y):=by
 have e:=Int.mul_tdiv_add_tmod x y
 have d: -y<x.tmod y/\x.tmod y<y:=by
  have b:=eZ x.natAbs (show 0<y.natAbs by omega)
  have t:=A00 x.natAbs y.natAbs
  rw [show ((y.natAbs:Nat):Int)=y by omega] at t
  by_cases c:x<0
  ·rw [show -((x.natAbs:Nat):Int)=x by omega] at t
   have:=t.2.2.1
   omega
  ·rw [show ((x.natAbs:Nat):Int)=x by omega] at t
   have:=t.1
   omega
 refine ⟨fun h=>?_,fun h=>?_⟩
 ·refine (A1h (a:=x.tmod y+y) ?_ (by omega) (by omega)).1
  rw [Int.mul_sub];omega
 ·exact (A1h (a:=x.tmod y) (by omega) h (by omega)).1
def ZB.tdiv{m:Nat}{x y:Int}(h:ZB m x):ZB m (x.tdiv y):=by
 unfold ZB at *
 rw [Int.natAbs_tdiv]
 exact Nat.lt_of_le_of_lt (eI _ _) h
section
variable {h g:bC} {K:VP} {A B:Option bH} {s s':Bool} {an ac bn bc m:Nat} {x y:Int}
def Xb(i:ZI h s A an ac x)(j:ZI h s' B bn bc y)(hx:ZB m x)(hy:ZB m y)(hm:m+1<=6400000000)(hy0:0<y)(hK:∀ s1 A1 n1 c1 h',h.le h'->ZI h' s1 A1 n1 c1 (x/y)->K (.agg #[.bool s1,.slice A1 n1 c1]) h'):aZ prog Ll #[.agg #[.bool s,.slice A an ac],.agg #[.bool s',.slice B bn bc]] h K:=by
 have k:=A6j (x:=x) hy0
 refine A4g _ _ _ _ _ _ _ _ ?_
 unfold A4h
 refine Rn i j hx hy (by omega) (by omega) ?_
 intro s1 A1 n1 c1 H A2 u c2 r d f p
 refine ⟨_,_,_,_,_,_,_,_,rfl,?_⟩
 refine Ef p ⟨_,rfl,B4 _,?_⟩
 refine Ef (j.mono d) ⟨_,rfl,B4 _,?_⟩
 rw [fQ hy0,Int.mul_one]
 have w: -1<=Int.sign (x.tmod y)/\Int.sign (x.tmod y)<=1:=by
  rcases Int.lt_trichotomy (x.tmod y) 0 with h|h|h
  ·rw [fB h];omega
  ·rw [h];decide
  ·rw [fQ h];omega
 rw [B8 (by omega) (by omega)]
 refine B7 (fun e=>?_) (fun e=>?_)
 ·have b:x.tmod y<0:=Int.sign_neg_iff.1 e
  refine Eg (by omega) (by omega) ?_
  intro q A3 D F E c n
  refine ⟨_,_,_,_,rfl,c,?_⟩
  refine B1e (m:=m+1) (f.mono c) n (hx.tdiv.mono (by omega)) ?_ hm ?_
  ·unfold ZB
   have:1<=2^m:=Nat.one_le_two_pow
   rw [eS];simp;omega
  ·intro C A4 G t z g l
   rw [<- k.1 b] at l
   exact ⟨_,_,_,_,rfl,g,hK _ _ _ _ _ (B0 d (B0 c g)) l⟩
 ·have a:0<=x.tmod y:=by
   by_cases o:x.tmod y<0
   ·exact absurd (by rw [fB o];decide) e
   ·omega
  rw [<- k.2 a] at f
  exact hK _ _ _ _ _ d f
end
def B04{ws:List Int}{k:Nat}(d:Dig b64 ws)(hl:ws.length=k+1)(h:b64^k<=val b64 ws):gC ws:=by
 unfold gC
 intro e
 rw [gU,hl,gG] at e
 have:=(Ce (B:=b64) (by decide) d hl).1
 have a:ws.getD k 0=0:=by simp [cN,e]
 rw [a] at this
 omega
section
variable {h g:bC} {K:VP} {A B:Option bH} {ac bc:Nat}
def B7x{Invv:LP}{muv:LN}{d1:ByteArray}{n c:Nat}{chunk base:Int}{us:List Int}{hp hp2:bC}(p:Pw hp2 g A n c us)(hn:n=us.length)(du:Dig b64 us)(nu:gC us)(hl:n<=100000000)(hch:0<=chunk/\chunk<18446744073709551616)(hba:1<=base/\base<18446744073709551616)
 (hK:∀ A' n' c' us' h' g',g.le g'->Pw h' g' A' n' c' us'->n'=us'.length->n'<=n+1->Dig b64 us'->gC us'->val b64 us'=chunk+base*val b64 us->Invv [.string ((d1).extract ((B6 ((dM (B6 (((fE d1:Nat):Int)-(1:Int))) (19:Int))+(1:Int))).toNat) ((d1).size)),.slice A' n' c'] h'/\muv [.string ((d1).extract ((B6 ((dM (B6 (((fE d1:Nat):Int)-(1:Int))) (19:Int))+(1:Int))).toNat) ((d1).size)),.slice A' n' c'] h'<muv [.string d1,.slice A n c] hp):
 W9 prog Invv muv d1 A n c chunk base hp hp2:=by
 have G:=C7 (by decide) du
 unfold W9
 refine ⟨fun l o=>∃ (k:Nat) (j:Int) (d:List Int),l=[U j,I k]/\k<=n/\(0<=j/\j<18446744073709551616)/\d.length=us.length/\Dig b64 d/\Pw o g A n c d/\d.drop k=us.drop k/\val b64 (d.take k)+b64^k*j=chunk+base*val b64 (us.take k),fun l _=>n-(iAt l 1).toNat,⟨0,chunk,us,rfl,by omega,hch,rfl,du,p,rfl,by simp [val]⟩,?_⟩
 rintro j i o ⟨k,E,d,F,hk,s,e,y,pw,t,B⟩
 obtain ⟨rfl,rfl⟩:j=E/\i=(k:Int):=by simpa using F
 refine B7 (fun S=>?_) (fun S=>?_)
 ·have O:=N8 y k
  have H:=E8 t
  have vu:=C4 b64 us k
  have z:d≠[]:=by rintro rfl;simp at e;omega
  obtain ⟨b,L,w,Z⟩:=Fk pw z
  refine w.sl.load (by omega) (by omega) (by omega) ?_
  simp only [aC]
  generalize hx:d.getD k 0=x at *
  refine S5 O (by omega) s ⟨_,_,rfl,?_⟩
  obtain ⟨a,N,_⟩:=SlV.at w.sl (i:=k) (by simp;omega)
  refine ⟨a,N,by omega,by omega,w.storeN F6 N (by omega) ?_⟩
  intro h4 T
  have bP:=Nx O (show 0<=base/\base<18446744073709551616 by omega) s
  have W:=A3k (x*base+j)
  have ek:B6 ((k:Int)+1)=((k+1:Nat):Int):=by rw [B8 (by omega) (by omega)];omega
  rw [ek]
  have Q:=T.priv (m:=n) (c:=c) (by intro e0;have:=congrArg List.length e0;rw [bN,gQ] at this;exact z (aK this)) (by simpa using Z) (by simp;omega)
  rw [aL (by simp;omega)] at Q
  refine ⟨⟨k+1,_,_,rfl,by omega,bP,by simpa using e,y.set (Et _),Q,?_,?_⟩,by simp only [iAt,aF,aM];omega⟩
  ·rw [D5 (by omega)];exact D8 t
  ·rw [C8 (by omega),F1,aG,aJ (by omega),aW,vu,<- H,W]
   show _+b64^k*_+b64^k*18446744073709551616*_=_
   generalize (x*base+j)/18446744073709551616=q at *
   grind
 ·obtain rfl:k=n:=by omega
  rw [aL (show d.length<=k by omega),aL (show us.length<=k by omega)] at B
  refine J4 (fun D=>?_) (fun D=>?_)
  ·refine Dv Q0 pw rfl rfl (by omega) (by omega) ?_
   intro A5 R X g5 V J
   rw [<- gH (f:=aY .u64),<- dB] at J
   refine hK A5 (k+1) R (d++[j]) X g5 V J (by simp;omega) (by omega) (y.append (Dig.one s)) ?_ ?_
   ·unfold gC;simpa using D
   ·rw [F1,<- B,e,<- hn]
  ·subst D
   rw [fR,fS] at B
   refine hK A k c d o g (B4 _) pw (by omega) (by omega) y ?_ B
   rcases us with _|⟨u,r⟩
   ·have:d=[]:=aK (by simpa using e)
    rw [this];exact Norm.nil
   ·refine B04 (k:=r.length) y (by simpa using e) ?_
    have M:Mw hp2 A k (val b64 (u::r)):=⟨_,hn,p.slV,du,nu,rfl⟩
    have C:=M.ge (by decide) (by simp at hn;omega)
    rw [show k-1=r.length by simp at hn;omega] at C
    have:1*val b64 (u::r)<=base*val b64 (u::r):=aE hba.1 G
    omega
end
section
variable {h g:bC} {K:VP} {A B:Option bH} {ac bc:Nat}
def B94{k:Nat}(h:k<=19):10^k<=10000000000000000000:=eV (dF (by decide) h) (by decide)
def B0k{Invv:LP}{muv:LN}{d1:ByteArray}{n c tn:Nat}{T:Option bH}{l:List UInt8}{hp hp1:bC}(sv:SlV hp1 T (yv l))(ht:tn=l.length)(hd:∀ c∈l,J9 c)(h19:l.length<=19)
 (hK:(0<=B6 ((dM (B6 (((fE d1:Nat):Int)-(1:Int))) (19:Int))+(1:Int))/\B6 ((dM (B6 (((fE d1:Nat):Int)-(1:Int))) (19:Int))+(1:Int))<=(((d1).size:Nat):Int))/\W9 prog Invv muv d1 A n c (Q8 l:Int) ((10^l.length:Nat):Int) hp hp1):
 Eb prog Invv muv d1 A n c T tn hp1 hp:=by
 subst ht
 unfold Eb
 refine ⟨fun s hp=>hp=hp1/\∃ k:Nat,s=[U (Q8 (l.take k)),U ((10^k:Nat):Int),I k]/\k<=l.length,fun s _=>l.length-(iAt s 2).toNat,⟨rfl,0,by simp [Q8],by omega⟩,?_⟩
 rintro z x i w ⟨rfl,k,d,y⟩
 simp only [bD,bY,and_true,true_and] at d
 obtain ⟨rfl,rfl,rfl⟩:=d
 refine B7 (fun p=>?_) (fun p=>?_)
 ·have b:k<l.length:=by omega
  obtain ⟨a,m,f⟩:=SlV.at sv (i:=k) (by rw [Hv];omega)
  have g:=hd l[k] (fM b)
  have j:=Lw (l:=l.take k) (fun c f=>hd c (fZ f))
  rw [aG,aJ (by omega)] at j
  have r:=B94 (k:=k+1) (by omega)
  have e:10^(k+1)=10^k*10:=eS _ _
  refine ⟨a,m,by omega,by omega,((l[k].toNat:Nat):Int),?_,?_⟩
  ·rw [aC,cH,f];simp [yv]
  ·unfold J9 at g
   have u:C1 (wu8 (((l[k].toNat:Nat):Int)-48))=((l[k].toNat-48:Nat):Int):=by
    rw [A2d (by omega) (by omega),C3 (by omega) (by omega)];omega
   have o:C1 (C1 (10*((Q8 (l.take k):Nat):Int))+C1 (wu8 (((l[k].toNat:Nat):Int)-48)))=((Q8 (l.take (k+1)):Nat):Int):=by
    rw [u,C3 (n:=10*((Q8 (l.take k):Nat):Int)) (by omega) (by omega),C3 (by omega) (by omega),List.take_succ_eq_append_getElem b,Ox];omega
   have t:C1 (((10^k:Nat):Int)*10)=((10^(k+1):Nat):Int):=by rw [C3 (by omega) (by omega),e];simp
   have q:B6 ((k:Int)+1)=((k+1:Nat):Int):=by rw [B8 (by omega) (by omega)];omega
   rw [o,t,q]
   exact ⟨⟨rfl,k+1,rfl,by omega⟩,by simp only [iAt,aF,aM];omega⟩
 ·obtain rfl:k=l.length:=by omega
  rw [bB]
  exact hK
def Ss{l:List UInt8}(hd:∀ c∈l,J9 c)(hl:l.length<=100000000)(hK:∀ A n c h',h.le h'->n<=c->Mw h' A n (Q8 l:Int)->K (.slice A n c) h'):aZ prog N4 #[.string (bs l)] h K:=by
 refine Wg _ ?_
 unfold Se Kt
 refine ⟨fun s D=>∃ (f a:List UInt8) (e:List Int) (A:Option bH) (n c:Nat) (g:bC),s=[.string (bs a),.slice A n c]/\l=f++a/\h.le g/\Pw D g A n c e/\n=e.length/\Dig b64 e/\gC e/\val b64 e=(Q8 f:Int)/\n<=f.length,fun s _=>match s with|[.string d,_]=>d.size|_=>0,⟨[],l,[],none,0,0,h,rfl,rfl,B4 h,Priv.nil _ _ _ _,rfl,Dig.nil,Norm.nil,rfl,by omega⟩,?_⟩
 rintro d1 A1 n1 c1 D ⟨f,a,e,A2,n2,c2,g,F,b,B,p,z,J,H,G,L⟩
 simp only [bD,bO,Value.string.injEq,and_true] at F
 obtain ⟨rfl,rfl,rfl,rfl⟩:=F
 have C:l.length=f.length+a.length:=by rw [b,aH]
 rw [K0]
 refine B7 (fun M=>?_) (fun M=>?_)
 ·obtain ⟨sz,hsz⟩:∃ sz,sz=(a.length-1)%19+1:=⟨_,rfl⟩
  have t:B6 (dM (B6 ((a.length:Int)-1)) 19+1)=(sz:Int):=by
   rw [B8 (n:=(a.length:Int)-1) (by omega) (by omega),bX (by omega),B8 (by omega) (by omega)];omega
  rw [t,aC,P6]
  refine ⟨⟨by omega,by omega⟩,A9o T3 Ek.und Cp ?_⟩
  intro T tc h2 V Q E
  refine ⟨_,_,_,rfl,?_⟩
  have R:(a.drop 0).take (sz-0)=a.take sz:=by simp
  rw [R] at E ⊢
  have r:(a.take sz).length=sz:=by rw [aG];omega
  obtain ⟨g2,u,X⟩:=p.after V
  refine B0k E rfl (fun c q=>hd c (by rw [b];exact List.mem_append_right _ (fZ q))) (by omega) ?_
  rw [K0,t]
  refine ⟨⟨by omega,by omega⟩,?_⟩
  have x:=Lw (l:=a.take sz) (fun c q=>hd c (by rw [b];exact List.mem_append_right _ (fZ q)))
  rw [r] at x ⊢
  have ht:=B94 (k:=sz) (by omega)
  have Z:0<10^sz:=cW (by decide)
  refine B7x X z J H (by omega) (by omega) (by omega) ?_
  intro A' W S w h' O j N y aa i m o
  rw [K0,t,aC,P6,aL (by rw [aQ];omega)]
  refine ⟨⟨f++a.take sz,a.drop sz,w,A',W,S,O,rfl,by rw [aS,cR];exact b,B0 B (B0 u j),N,y,i,m,?_,by rw [aH,r];omega⟩,?_⟩
  ·rw [o,G,Lx,r,eM,cG,aR];omega
  ·simp only [K0,aQ];omega
 ·have:a=[]:=aK (by omega)
  subst this
  rw [bW] at b
  subst b
  exact hK _ _ _ _ (B0 B p.le) p.2.1 ⟨e,z,p.slV,J,H,G⟩
end
def zb(l:List UInt8):List Int:=l.map fun c=>(c.toNat:Int)
def Hs(l:List UInt8):(zb l).length=l.length:=by simp [zb]
def A2b(a b:List UInt8):zb (a++b)=zb a++zb b:=by simp [zb]
def C33(l:List UInt8):(zb l).map (aY .u8)=yv l:=by simp [zb,yv]
def A9s:∀ v,v<100->J1[2*v+1]? = some (dch (v%10))/\J1[2*v]? = some (dch (v/10)):=by decide +kernel
def A2n(a:Nat):dM (a:Int) 100=((a%100:Nat):Int):=(dH a 100).symm
def tm4(a:Nat):dM (a:Int) 10000=((a%10000:Nat):Int):=(dH a 10000).symm
def tm8(a:Nat):dM (a:Int) 100000000=((a%100000000:Nat):Int):=(dH a 100000000).symm
def A5s(a:Nat):cP (a:Int) 100=((a/100:Nat):Int):=(cL a 100).symm
def td4(a:Nat):cP (a:Int) 10000=((a/10000:Nat):Int):=(cL a 10000).symm
def td8(a:Nat):cP (a:Int) 100000000=((a/100000000:Nat):Int):=(cL a 100000000).symm
def Ho{a:Nat}(h:a<4294967296):G8 (a:Int)=a:=S9 (by omega) (by omega)
def Nu(a:Nat):(a:Int)*2=((2*a:Nat):Int):=by omega
def A7a(a:Nat):(a:Int)+1=((a+1:Nat):Int):=by omega
def FBI(g:bC)(b:Nat)(e:bV)(A:Option bH)(pre post:List cZ)(N u0 nd u:Nat)(hp:bC):Prop:=
 ∃ (ys:List Int) (t:List UInt8),Win .u8 hp g b e A pre (ys++zb t) post/\ys.length=nd/\nd+t.length=N/\pad N u0=pad nd u++t/\u<10^nd
section
variable {P:dE} {h g:bC} {K:VP} {A:Option bH} {b:Nat} {e:bV} {pre post:List cZ}
def La(one:P.cellsOf 5=1/\(P.info? 5).isSome=true){N u0 j u:Nat}(f:FBI g b e A pre post N u0 (j+2) u h){E1 E0 I1 I2:Int}(h1:E1=((2*(u%100)+1:Nat):Int))(h0:E0=((2*(u%100):Nat):Int))(hI1:I1=((j+1:Nat):Int))(hI2:I2=(j:Int)){C:bC->Prop}(hC:∀ h',FBI g b e A pre post N u0 j (u/100) h'->C h'):
 ∃ (t:UInt8),(0<=E1/\J1[E1.toNat]? = some t)/\∃ (t0:UInt8),(0<=E0/\J1[E0.toNat]? = some t0)/\∃ a1,A=some a1/\0<=I1/\I1<((N:Nat):Int)/\wpH P (dN 5 (.pointer (some (eG a1 (I1.toNat*1)))) (Y ((t.toNat:Nat):Int))) (fun _ hp1=>∃ a2,A=some a2/\0<=I2/\I2<((N:Nat):Int)/\wpH P (dN 5 (.pointer (some (eG a2 (I2.toNat*1)))) (Y ((t0.toNat:Nat):Int))) (fun _ hp2=>C hp2) hp1) h:=by
 subst h1 h0 hI1 hI2
 obtain ⟨c,t,w,B,D,o,i⟩:=f
 obtain ⟨r,q⟩:=A9s (u%100) (by omega)
 have n:∃ a,A=some a:=by
  rcases w.at_ with h0|h0
  ·have:=congrArg List.length h0
   rw [aH,gQ] at this;omega
  ·exact ⟨_,h0⟩
 obtain ⟨a,d⟩:=n
 have s:(c++zb t).length=N:=by rw [aH,Hs];omega
 refine ⟨_,⟨by omega,by rw [aC];exact r⟩,_,⟨by omega,by rw [aC];exact q⟩,a,d,by omega,by omega,?_⟩
 rw [aC]
 refine w.storeN one d (by omega) ?_
 intro z l
 refine ⟨a,d,by omega,by omega,?_⟩
 rw [aC]
 refine l.storeN one d (by rw [bN];omega) ?_
 intro p k
 refine hC p ⟨c.take j,[dch (u/10%10),dch (u%10)]++t,?_,by rw [aG];omega,by simp;omega,?_,?_⟩
 ·have y:((c++zb t).set (j+1) ((dch (u%100%10)).toNat:Int)).set j ((dch (u%100/10)).toNat:Int)=c.take j++zb ([dch (u/10%10),dch (u%10)]++t):=by
   have m:c=c.take j++[c[j]'(by omega),c[j+1]'(by omega)]:=by
    conv=>lhs;rw [<- cR j c]
    congr 1
    rw [cJ (by omega),cJ (by omega),aV (by omega)]
   have x:(c.take j).length=j:=by rw [aG];omega
   rw [m,show u%100%10=u%10 by omega,show u%100/10=u/10%10 by omega]
   generalize c[j]'_=y0
   generalize c[j+1]'_=y1
   rw [cK (by omega),aL (show (c.take j).length<=j by omega)]
   generalize c.take j=zs at *
   rw [aS,fW _ _ (by omega),fW _ _ (by omega),x,A2b]
   simp [zb]
  rw [y] at k;exact k
 ·rw [o,C15];simp
 ·rw [dQ] at i
  exact Nat.div_lt_of_lt_mul (by rw [eU];exact i)
end
section
variable {h g:bC} {K:VP} {A:Option bH} {b:Nat} {e:bV} {pre post:List cZ}
def Mz:prog.cellsOf 5=1/\(prog.info? 5).isSome=true:=A9r
def C3u{N u0 nd x:Nat}(hN:N<=24)(f:FBI g b e A pre post N u0 nd x h)(hn:nd<2)(hK:∀ h',Win .u8 h' g b e A pre (zb (pad N u0)) post->K (.tuple #[]) h'):Bf prog A N K nd x h:=by
 obtain ⟨j,t,w,i,hN,l,m⟩:=f
 unfold Bf
 refine B7 (fun s=>?_) (fun s=>?_)
 ·obtain rfl:nd=1:=by omega
  obtain ⟨y,rfl⟩:∃ y,j=[y]:=by
   rcases j with _|⟨y,_|⟨z,r⟩⟩
   ·simp at i
   ·exact ⟨y,rfl⟩
   ·simp at i
  have q:∃ a,A=some a:=by
   rcases w.at_ with d|d
   ·simp at d
   ·exact ⟨_,d⟩
  obtain ⟨a,k⟩:=q
  refine ⟨a,k,by omega,by omega,?_⟩
  rw [show ((0:Int)).toNat=0 from rfl]
  refine w.storeN Mz k (by simp) ?_
  intro p n
  refine hK p ?_
  have c:x<10:=by simpa using m
  have ev:wu8 (G8 (48+(x:Int)))=((dch x).toNat:Int):=by
   rw [S9 (by omega) (by omega),A2d (by omega) (by omega),Fb c];omega
  rw [ev] at n
  have o:pad 1 x=[dch x]:=by
   rw [Tj,B2y _ (by omega),show x%10=x by omega];rfl
  rw [l,o,A2b]
  simpa [zb] using n
 ·obtain rfl:nd=0:=by omega
  have:j=[]:=aK i
  subst this
  have c:x=0:=by simpa using m
  refine hK h ?_
  rw [l,B2y _ c]
  simpa using w
def C3t{N u0 nd x:Nat}(hN:N<=24)(f:FBI g b e A pre post N u0 nd x h)(hn:nd<4)(hK:∀ h',Win .u8 h' g b e A pre (zb (pad N u0)) post->K (.tuple #[]) h'):Bg prog A N K nd x h:=by
 unfold Bg
 have s:x<10000:=by
  obtain ⟨_,_,_,_,_,_,p⟩:=f
  exact fA p (eV (dF (by decide) (show nd<=4 by omega)) (by decide))
 refine ⟨fun l d=>∃ nd x:Nat,l=[I nd,U32 x]/\FBI g b e A pre post N u0 nd x d/\nd<2,B7 (fun o=>?_) (fun o=>?_),?_⟩
 ·obtain ⟨j,rfl⟩:∃ j,nd=j+2:=⟨nd-2,by omega⟩
  refine La Mz f ?_ ?_ (by rw [B8 (by omega) (by omega)];omega) (by rw [B8 (by omega) (by omega)];omega) ?_
  ·simp (disch:=omega) only [A2n,Ho,Nu,A7a]
  ·simp (disch:=omega) only [A2n,Ho,Nu]
  ·intro t r
   refine ⟨j,x/100,?_,r,by omega⟩
   rw [B8 (by omega) (by omega),A5s,Ho (by omega)]
   simp only [bD,bY,and_true,true_and];omega
 ·exact ⟨nd,x,rfl,f,by omega⟩
 ·rintro c m d ⟨q,i,n,k,a⟩
  obtain ⟨rfl,rfl⟩:c=(q:Int)/\m=(i:Int):=by simpa using n
  exact C3u hN k a hK
def Y2{u an ac:Nat}{xs:List Int}(w:Win .u8 h g b e A pre xs post)(hn:an=xs.length)(hN:an<=24)(hu:u<10^an)(hu2:u<18446744073709551616)(hK:∀ h',Win .u8 h' g b e A pre (zb (pad an u)) post->K (.tuple #[]) h'):aZ prog Q7 #[.slice A an ac,U (u:Int)] h K:=by
 refine Te _ _ _ _ ?_
 unfold Pn
 refine ⟨fun l d=>∃ a v:Nat,l=[U v,I a]/\FBI g b e A pre post an u a v d/\v<=u,fun l _=>(iAt l 1).toNat,⟨an,u,rfl,⟨xs,[],by simpa [zb] using w,hn.symm,by simp,by simp,hu⟩,bF _⟩,?_⟩
 rintro r n d ⟨a,v,E,f,N⟩
 obtain ⟨rfl,rfl⟩:r=(v:Int)/\n=(a:Int):=by simpa using E
 have G:a<=an:=by obtain ⟨_,_,_,_,hN,_,_⟩:=f;omega
 refine B7 (fun t=>?_) (fun t=>?_)
 ·obtain ⟨j,rfl⟩:∃ j,a=j+8:=⟨a-8,by omega⟩
  refine La (j:=j+6) Mz f ?_ ?_ (by rw [B8 (by omega) (by omega)];omega) (by rw [B8 (by omega) (by omega)];omega) ?_
  ·simp (disch:=omega) only [tm8,tm4,A2n,Ho,Nu,A7a];omega
  ·simp (disch:=omega) only [tm8,tm4,A2n,Ho,Nu];omega
  intro p J
  refine La (j:=j+4) Mz J ?_ ?_ (by rw [B8 (by omega) (by omega)];omega) (by rw [B8 (by omega) (by omega)];omega) ?_
  ·simp (disch:=omega) only [tm8,tm4,A5s,Ho,Nu,A7a];omega
  ·simp (disch:=omega) only [tm8,tm4,A5s,Ho,Nu];omega
  intro L c
  refine La (j:=j+2) Mz c ?_ ?_ (by rw [B8 (by omega) (by omega)];omega) (by rw [B8 (by omega) (by omega)];omega) ?_
  ·simp (disch:=omega) only [tm8,A2n,td4,Ho,Nu,A7a];omega
  ·simp (disch:=omega) only [tm8,A2n,td4,Ho,Nu];omega
  intro F o
  refine La (j:=j) Mz o ?_ ?_ (by rw [B8 (by omega) (by omega)];omega) (by rw [B8 (by omega) (by omega)];omega) ?_
  ·simp (disch:=omega) only [tm8,A5s,td4,Ho,Nu,A7a];omega
  ·simp (disch:=omega) only [tm8,A5s,td4,Ho,Nu];omega
  intro M s
  have C:B6 (((j+8:Nat):Int)-8)=(j:Int):=by rw [B8 (by omega) (by omega)];omega
  have z:C1 (cP (v:Int) 100000000)=((v/100/100/100/100:Nat):Int):=by
   rw [td8,C3 (by omega) (by omega)];omega
  rw [C,z]
  exact ⟨⟨j,_,rfl,s,by omega⟩,by simp only [iAt,aF,aM];omega⟩
 ·have B:v<100000000:=by
   obtain ⟨_,_,_,_,_,_,hu⟩:=f
   exact fA hu (eV (dF (by decide) (show a<=8 by omega)) (by decide))
  refine ⟨fun l d=>∃ a x:Nat,l=[I a,U32 x]/\FBI g b e A pre post an u a x d/\a<4,B7 (fun p=>?_) (fun p=>?_),?_⟩
  ·obtain ⟨j,rfl⟩:∃ j,a=j+4:=⟨a-4,by omega⟩
   refine La (j:=j+2) Mz f ?_ ?_ (by rw [B8 (by omega) (by omega)];omega) (by rw [B8 (by omega) (by omega)];omega) ?_
   ·simp (disch:=omega) only [tm4,A2n,Ho,Nu,A7a];omega
   ·simp (disch:=omega) only [tm4,A2n,Ho,Nu];omega
   intro L c
   refine La (j:=j) Mz c ?_ ?_ (by rw [B8 (by omega) (by omega)];omega) (by rw [B8 (by omega) (by omega)];omega) ?_
   ·simp (disch:=omega) only [tm4,A5s,Ho,Nu,A7a];omega
   ·simp (disch:=omega) only [tm4,A5s,Ho,Nu];omega
   intro F o
   refine ⟨j,v/100/100,?_,o,by omega⟩
   rw [B8 (by omega) (by omega),Ho (by omega),td4,Ho (by omega)]
   simp only [bD,bY,and_true,true_and];omega
  ·exact ⟨a,v,by rw [Ho (by omega)],f,by omega⟩
  ·rintro k y D ⟨H,q,i,c,m⟩
   obtain ⟨rfl,rfl⟩:k=(H:Int)/\y=(q:Int):=by simpa using i
   exact C3t hN c m hK
end
def Vg{P:dE}{h:bC}{l:List UInt8}{m:Nat}{ys:List cZ}(hy:ys=yv l)(hm:m=l.length){K:Array cZ->bC->Prop}(x:K ys.toArray h):wpH P (Builtin.firstCells 1 m (.string (bs l))) K h:=by
 subst hm hy
 show K _ h
 have e:((bs l).extract 0 l.length).data.map (fun b=>aY .u8 b.toNat)=(yv l).toArray:=by
  rw [P6]
  apply Array.toList_inj.1
  simp [bs,yv]
 rw [e];exact x
def Wc{P:dE}{t e e' ty:bV}{z:cZ}{bytes:Nat}(st:SliceT P t e z 1 bytes){h g:bC}{A:Option bH}{n c:Nat}{xs:List cZ}(p:dU h g e' 1 A n c xs)
 {B:Option bH} {m d:Nat} {ys:List cZ} (hy:ys.length=m) (hc:SlV h B ys) (h1:∀ v∈ys,A8e v=true) (hb:(2*(n+m)+192)*bytes<=281474976710656) (hm:n+m<=9223372036854775807) {K:VP}
 (x1:n+m<=c->∀ h',dU h' g e' 1 A (n+m) c (xs++ys)->K (.slice A (n+m) c) h') (x2:c<n+m->∀ A' c' h' g',g.le g'->dU h' g' e 1 A' (n+m) c' (xs++ys)->K (.slice A' (n+m) c') h'):
 wpH P (dO #[t,t] ty #[.slice A n c,.slice B m d]) K h:=by
 obtain ⟨i,E,hz,R,s⟩:=st.parts
 have N:=st.pos
 have F:=p.1
 rw [cH] at F
 unfold dO
 simp only [dC,aF,aM,C5,F0 st.und,L0 E,F8,fF,if_false,gF,R,Bool.not_false,if_true]
 by_cases f:n+m<=c
 ·simp only [f,if_true,C5]
  refine L9 (by omega) hc ?_
  rcases p.2.2 with ⟨V,hg⟩|⟨b,k,hA,L,Z,o,x⟩
  ·have T:n=0:=by omega
   have M:m=0:=by omega
   subst T;subst hg
   have r:ys=[]:=aK (by omega)
   have S:xs=[]:=aK (by omega)
   have D:K (.slice A (0+m) c) h:=x1 f h ⟨by rw [r,S,M];rfl,by omega,.inl ⟨V,rfl⟩⟩
   subst r
   cases A with
   | none=>exact D
   | some a=>exact D
  ·subst hA
   simp only [C5,E6,eQ]
   rw [Z]
   rw [cH] at o x ⊢
   refine J0 ys.toArray.toList n 0 k ?_ (fun v hv=>h1 v (by simpa using hv)) ?_
   ·simp only
    omega
   ·simp only [F8,dT]
    refine x1 f _ ⟨by rw [aH];omega,f,.inr ⟨b,_,rfl,L,rfl,?_,?_⟩⟩
    ·simp only [L6,aH,aG,aQ,o,hy];omega
    ·have C:(k.take n).length=n:=by rw [aG,o];omega
     unfold L6
     have t1:(k.take n).take (n+m)=k.take n:=aL (by rw [C];omega)
     have X:ys.take m=ys:=aL (by omega)
     rw [cH,aS,dK,C,cI,dK,t1,X,hy,gJ,List.take_zero,bW,x]
 ·have G:c<n+m:=by omega
  simp only [f,if_false,C5,I4 E,s]
  have Q:=Qg G
  have W:Builtin.nextslicecap (n+m) c*bytes<=281474976710656:=eV (Nat.mul_le_mul_right _ Q) hb
  rw [iN (by rintro ⟨h',_⟩;simp only [IntKind.max,IntKind.signed,IntKind.bits] at h';simp at h';omega)]
  simp only [C5,I4 E,s]
  rw [iN (by simp only [show (2^48:Nat)=281474976710656 from rfl];omega)]
  simp only [F8,C5]
  refine Jq rfl fun tt=>?_
  simp only [Fl,I4 E]
  have y:xs=[]\/∃ a,A=some a/\∀ j v,xs[j]? = some v->h.cell? (a.add j)=some v:=p.slV
  refine L9 p.1 y ?_
  refine L9 (by omega) hc ?_
  simp only [R3 E hz,O7]
  intro b l
  have w:∃ q,(Question.appendCap (n+m) c e).cut tt=q/\n+m<=q:=⟨_,rfl,by simp only [Question.cut];omega⟩
  obtain ⟨q,O,J⟩:=w
  rw [O]
  have u:=p.le
  refine x2 G _ q _ h u ⟨by rw [aH];omega,J,.inr ⟨b,xs++ys++(dD z.cells (q-(n+m))).toList,rfl,l,?_,?_,?_⟩⟩
  ·congr 1;simp
  ·have H:(dD z.cells (q-(n+m))).toList.length=q-(n+m):=by simp [dD,st.cells]
   rw [aH,aH,F,hy,H];omega
  ·rw [cH,cK (by rw [aH];omega),aL (by rw [aH];omega)]
def B0m{P:dE}{t e e' ty t2:bV}{z:cZ}{bytes:Nat}(st:SliceT P t e z 1 bytes)(hu:P.underlying t2=some .string){h g:bC}{A:Option bH}{n c:Nat}{xs:List cZ}(p:dU h g e' 1 A n c xs)
 {m:Nat} {l:List UInt8} {ys:List cZ} (hly:ys=yv l) (hm0:m=l.length) (hy:ys.length=m) (h1:∀ v∈ys,A8e v=true) (hb:(2*(n+m)+192)*bytes<=281474976710656) (hm:n+m<=9223372036854775807) {K:VP}
 (x1:n+m<=c->∀ h',dU h' g e' 1 A (n+m) c (xs++ys)->K (.slice A (n+m) c) h') (x2:c<n+m->∀ A' c' h' g',g.le g'->dU h' g' e 1 A' (n+m) c' (xs++ys)->K (.slice A' (n+m) c') h'):
 wpH P (dO #[t,t2] ty #[.slice A n c,.string (bs l)]) K h:=by
 obtain ⟨i,D,hz,O,s⟩:=st.parts
 have L:=st.pos
 have E:=p.1
 rw [cH] at E
 unfold dO
 simp only [dC,aF,aM,C5,F0 st.und,F0 hu,L0 D,F8,fF,if_false,gF,O,Bool.not_false,if_true,K0,<- hm0]
 by_cases d:n+m<=c
 ·simp only [d,if_true,C5]
  refine Vg hly hm0 ?_
  rcases p.2.2 with ⟨S,hg⟩|⟨b,f,hA,J,V,o,x⟩
  ·have R:n=0:=by omega
   have hm0:m=0:=by omega
   subst R;subst hg
   have r:ys=[]:=aK (by omega)
   have Q:xs=[]:=aK (by omega)
   have C:K (.slice A (0+m) c) h:=x1 d h ⟨by rw [r,Q,hm0];rfl,by omega,.inl ⟨S,rfl⟩⟩
   subst r
   cases A with
   | none=>exact C
   | some a=>exact C
  ·subst hA
   simp only [C5,E6,eQ]
   rw [V]
   rw [cH] at o x ⊢
   refine J0 ys.toArray.toList n 0 f ?_ (fun v W=>h1 v (by simpa using W)) ?_
   ·simp only
    omega
   ·simp only [F8,dT]
    refine x1 d _ ⟨by rw [aH];omega,d,.inr ⟨b,_,rfl,J,rfl,?_,?_⟩⟩
    ·simp only [L6,aH,aG,aQ,o,hy];omega
    ·have B:(f.take n).length=n:=by rw [aG,o];omega
     unfold L6
     have Z:(f.take n).take (n+m)=f.take n:=aL (by rw [B];omega)
     have t2:ys.take m=ys:=aL (by omega)
     rw [cH,aS,dK,B,cI,dK,Z,t2,hy,gJ,List.take_zero,bW,x]
 ·have F:c<n+m:=by omega
  simp only [d,if_false,C5,I4 D,s]
  have N:=Qg F
  have T:Builtin.nextslicecap (n+m) c*bytes<=281474976710656:=eV (Nat.mul_le_mul_right _ N) hb
  rw [iN (by rintro ⟨h',_⟩;simp only [IntKind.max,IntKind.signed,IntKind.bits] at h';simp at h';omega)]
  simp only [C5,I4 D,s]
  rw [iN (by simp only [show (2^48:Nat)=281474976710656 from rfl];omega)]
  simp only [F8,C5]
  refine Jq rfl fun X=>?_
  simp only [Fl,I4 D]
  have y:xs=[]\/∃ a,A=some a/\∀ j v,xs[j]? = some v->h.cell? (a.add j)=some v:=p.slV
  refine L9 p.1 y ?_
  refine Vg hly hm0 ?_
  simp only [R3 D hz,O7]
  intro b k
  have w:∃ q,(Question.appendCap (n+m) c e).cut X=q/\n+m<=q:=⟨_,rfl,by simp only [Question.cut];omega⟩
  obtain ⟨q,M,H⟩:=w
  rw [M]
  have u:=p.le
  refine x2 F _ q _ h u ⟨by rw [aH];omega,H,.inr ⟨b,xs++ys++(dD z.cells (q-(n+m))).toList,rfl,k,?_,?_,?_⟩⟩
  ·congr 1;simp
  ·have G:(dD z.cells (q-(n+m))).toList.length=q-(n+m):=by simp [dD,st.cells]
   rw [aH,aH,E,hy,G];omega
  ·rw [cH,cK (by rw [aH];omega),aL (by rw [aH];omega)]
def A0h(l:List UInt8):∀ v∈yv l,A8e v=true:=by
 intro v a
 simp only [yv,List.mem_map] at a
 obtain ⟨c,_,rfl⟩:=a
 rfl
def Dp{P:dE}{t:bV}{z v:cZ}(hz:(P.info? t).map (fun i=>i.zero)=some (some z)){K:VP}{h:bC}(x:∀ b,h b=none->K (.pointer (some ⟨b,0,none⟩)) (h.put b (.cells z.cells t))):wpH P (Instr.alloc t true v) K h:=by
 cases hi:P.info? t with
 | none=>rw [hi] at hz;cases hz
 | some i=>
  rw [hi] at hz
  simp only [gP,gI] at hz
  unfold Instr.alloc
  simp only [C5,R3 hi hz]
  unfold newVar
  simp only [O7,F8]
  exact x
def A92:(prog.info? Ud).map (fun i=>i.zero)=some (some (.agg (dP 24 (.int .u8 0)))):=by kernel_rfl
def Gp(h:bC):Prop:=∀ k,k<20->h.cell? (eG ⟨3,0,none⟩ (k*1))=some (U ((10^k:Nat):Int))
def Gp.mono{h h':bC}(g:Gp h)(l:h.le h'):Gp h':=fun k a=>B5 l (g k a)
section
variable {h g:bC} {K:VP}
def Yb{i:Nat}(hi:i<100)(hK:K (.string (bs (P7 i))) h):aZ prog Tp #[I i] h K:=by
 refine B5i _ ?_
 unfold C02
 have key:∀ i:Nat,i<100->(i<10->A0k.extract i (i+1)=bs (P7 i))/\(¬ i<10->J1.extract (2*i) (2*i+2)=bs (P7 i)):=by
  intro i hi
  have f:P7 i=if i<10 then [dch i] else [dch (i/10),dch (i%10)]:=by
   split
   ·by_cases a:i=0
    ·subst a;rfl
    ·rw [Ab a,U1 a,show i/10=0 by omega,I7,show i%10=i by omega];rfl
   ·rw [Ab (by omega),U1 (by omega),U1 (by omega),show i/10/10=0 by omega,I7,show i/10%10=i/10 by omega];rfl
  rw [f]
  revert i
  decide +kernel
 obtain ⟨e,d⟩:=key i hi
 refine B7 (fun g=>?_) (fun g=>?_)
 ·have b:B6 ((i:Int)+1)=((i+1:Nat):Int):=by rw [B8 (by omega) (by omega)];omega
  rw [b,aC,aC,e (by omega)]
  exact ⟨⟨by omega,by show _<=((36:Nat):Int);omega⟩,⟨by omega,by omega⟩,hK⟩
 ·have b:B6 ((i:Int)*2)=((2*i:Nat):Int):=by rw [B8 (by omega) (by omega)];omega
  have c:B6 (((2*i:Nat):Int)+2)=((2*i+2:Nat):Int):=by rw [B8 (by omega) (by omega)];omega
  rw [b,c,aC,aC,d (by omega)]
  exact ⟨⟨by omega,by show _<=((200:Nat):Int);omega⟩,⟨by omega,by omega⟩,hK⟩
def Dw{d:Nat}(gp:Gp h)(h0:d≠0)(hd:d<18446744073709551616)(hK:K (I ((dd d).length:Int)) h):aZ prog Ak #[U (d:Int)] h K:=by
 refine A1u _ ?_
 unfold Ze
 have c:N9 d<=64:=Iy hd
 obtain ⟨_,_,e⟩:=B9d (N9 d) (by omega)
 refine A8h hd ⟨_,rfl,A1v _ ?_⟩
 unfold Zf
 have b:eF (B6 ((N9 d:Int)*78913)) (2^(min ((18:Int)).toNat 64))=((ndg (N9 d):Nat):Int):=by
  rw [show (2:Int)^(min ((18:Int)).toNat 64)=262144 by decide,fD _ (by decide),B8 (by omega) (by omega)]
  unfold ndg;omega
 rw [b]
 refine ⟨_,rfl,⟨by omega,by omega⟩,_,by rw [aC];exact gp _ (by omega),B5j _ ?_⟩
 unfold C03
 rw [C3n h0 hd] at hK
 refine B7 (fun a=>⟨_,rfl,?_⟩) (fun a=>⟨_,rfl,?_⟩)
 ·rw [iP (by omega)] at hK
  rw [B8 (by omega) (by omega)]
  exact hK
 ·rw [iN (by omega)] at hK
  rw [B8 (by omega) (by omega)]
  exact hK
def Cz{e':bV}{A:Option bH}{n c i:Nat}{l:List UInt8}(gp:Gp h)(p:dU h g e' 1 A n c (yv l))(hi:i<18446744073709551616)(hn:n<=1000000000000)
 (hK:∀ A' c' e2 h' g',g.le g'->dU h' g' e2 1 A' (n+(P7 i).length) c' (yv (l++P7 i))->(n+(P7 i).length<=c->A'=A/\c'=c/\e2=e')->(e'=G0->e2=G0)->K (.slice A' (n+(P7 i).length:Nat) c') h'):aZ prog V8 #[.slice A n c,U (i:Int),I 10] h K:=by
 refine Xs _ _ _ _ _ ?_
 unfold Wt
 refine E4 (fun _=>?_) (fun e=>absurd rfl e)
 have t:(P7 i).length<=20:=(Oz (by decide)).2 (by show i<10^20;omega)
 refine B7 (fun F=>?_) (fun F=>?_)
 ·rw [B8 (by omega) (by omega)]
  refine Yb (by omega) ⟨_,rfl,?_⟩
  refine B0m Ek T3 p (l:=P7 i) rfl rfl (Hv _) (A0h _) (by omega) (by omega) ?_ ?_
  ·intro r h' a
   rw [<- U3] at a
   exact ⟨_,_,_,rfl,hK _ _ _ _ _ (B4 _) a (fun _=>⟨rfl,rfl,rfl⟩) id⟩
  ·intro r A' c' h' g' s a
   rw [<- U3] at a
   exact ⟨_,_,_,rfl,hK _ _ _ _ _ s a (fun e=>by omega) (fun _=>rfl)⟩
 ·refine Dp A92 ?_
  intro b f
  have L:(Value.agg (dP 24 (.int .u8 0))).cells=((aD 24 (0:Int)).map (aY .u8)).toArray:=by rfl
  rw [L]
  have E:Win .u8 (h.put b (.cells ((aD 24 (0:Int)).map (aY .u8)).toArray Ud)) h b Ud (some ⟨b,0,none⟩) [] (aD 24 (0:Int)) []:=⟨f,by simp,.inr rfl⟩
  generalize (h.put b (.cells ((aD 24 (0:Int)).map (aY .u8)).toArray Ud))=h1' at *
  refine ⟨_,rfl,Dw (gp.mono E.le) (by omega) hi ⟨_,rfl,?_⟩⟩
  have j:P7 i=dd i:=Ab (by omega)
  rw [j] at t hK
  refine ⟨⟨by omega,by omega⟩,?_⟩
  rw [aC,cC]
  have B:=E.sub (l:=0) (m:=(dd i).length) (c:=24) (by omega) (by simp;omega) (by simp)
  have y:((aD 24 (0:Int)).drop 0).take ((dd i).length-0)=aD (dd i).length 0:=by
   rw [cO,cD,cC,aJ (by omega)]
  rw [y] at B
  have x:i<10^(dd i).length:=Q9.1 (bF _)
  refine Y2 B (by simp) (by omega) x hi ?_
  intro C z
  refine ⟨rfl,⟨by omega,by omega⟩,?_⟩
  have u:pad (dd i).length i=dd i:=by simp [pad]
  rw [u] at z
  have H:SlV C (K5 (some ⟨b,0,none⟩) 24 0 1) (yv (dd i)):=by
   have:=z.sl
   unfold SlI at this
   rw [C33] at this
   exact this
  have q:=z.eq
  obtain ⟨o,ho⟩:∃ o,C=h.put b o:=⟨_,q⟩
  subst ho
  have J:=p.put f o
  have d:g.le (g.put b o):=by
   intro k G D
   have w:k≠b:=by
    rintro rfl
    rw [p.le k G D] at f;cases f
   rw [B9 _ _ w];exact D
  refine Wc Ek J (Hv _) H (A0h _) (by omega) (by omega) ?_ ?_
  ·intro r h' a
   rw [<- U3] at a
   exact ⟨_,_,_,rfl,hK _ _ _ _ _ d a (fun _=>⟨rfl,rfl,rfl⟩) id⟩
  ·intro r A' c' h' g' s a
   rw [<- U3] at a
   exact ⟨_,_,_,rfl,hK _ _ _ _ _ (B0 d s) a (fun e=>by omega) (fun _=>rfl)⟩
end
structure Ext (g:bC) (e':bV) (A:Option bH) (n c:Nat) (l t:List UInt8) (A':Option bH) (n' c':Nat) (e2:bV) (g' h':bC):Prop where
 le:g.le g'
 priv:dU h' g' e2 1 A' n' c' (yv (l++t))
 len:n'=n+t.length
 fit:n+t.length<=c->A'=A/\c'=c/\e2=e'
 tag:e'=G0->e2=G0
def Ext.trans{g g1 g2 h1 h2:bC}{e' e1 e2:bV}{A A1 A2:Option bH}{n c n1 c1 n2 c2:Nat}{l t s:List UInt8}(x:Ext g e' A n c l t A1 n1 c1 e1 g1 h1)(y:Ext g1 e1 A1 n1 c1 (l++t) s A2 n2 c2 e2 g2 h2):Ext g e' A n c l (t++s) A2 n2 c2 e2 g2 h2:=by
 refine ⟨B0 x.le y.le,?_,?_,?_,fun e=>y.tag (x.tag e)⟩
 ·have:=y.priv;rwa [aS] at this
 ·rw [y.len,x.len,aH];omega
 ·intro a
  rw [aH] at a
  obtain ⟨rfl,rfl,rfl⟩:=x.fit (by omega)
  have b:=x.len
  exact y.fit (by omega)
section
variable {h g:bC} {K:VP} {A:Option bH} {n c:Nat} {e':bV} {l:List UInt8}
def Hh{i:Nat}(gp:Gp h)(p:dU h g e' 1 A n c (yv l))(hi:i<18446744073709551616)(hn:n<=1000000000000)
 (hK:∀ A' n' c' e2 g' h',Ext g e' A n c l (P7 i) A' n' c' e2 g' h'->K (.slice A' n' c') h'):aZ prog Gu #[.slice A n c,U (i:Int),I 10] h K:=by
 refine Xx _ _ _ _ _ ?_
 unfold Wz
 refine Cz gp p hi hn ?_
 intro A' c' e2 h' g' e b d a
 exact ⟨_,_,_,rfl,hK _ _ _ _ _ _ ⟨e,b,rfl,d,a⟩⟩
def Gc{ch:UInt8}{v:Int}(hv:v=(ch.toNat:Int))(p:dU h g e' 1 A n c (yv l))(hn:n<=1000000000000){KK:Option bH->Nat->Nat->bC->Prop}
 (x:∀ A' n' c' e2 g' h',Ext g e' A n c l [ch] A' n' c' e2 g' h'->KK A' n' c' h'):
 wpH prog (Instr.buildSlice Hz 1 #[(0,Y v)]) (fun v1 hp1=>∃ (A1:Option bH) (n1 c1:Nat),v1= .slice A1 n1 c1/\wpH prog (dO #[Hz,Hz] Hz #[.slice A n c,.slice A1 n1 c1]) (fun v2 hp2=>∃ (A2:Option bH) (n2 c2:Nat),v2= .slice A2 n2 c2/\KK A2 n2 c2 hp2) hp1) h:=by
 subst hv
 refine Dx Ek rfl ?_
 intro b a
 refine ⟨_,_,_,rfl,?_⟩
 have w:=p.put a (.cells #[Y (ch.toNat:Int)] G0)
 have d:g.le (g.put b (.cells #[Y (ch.toNat:Int)] G0)):=by
  intro k y o
  have i:k≠b:=by
   rintro rfl
   rw [p.le k y o] at a;cases a
  rw [B9 _ _ i];exact o
 have r:SlV (h.put b (.cells #[Y (ch.toNat:Int)] G0)) (some ⟨b,0,none⟩) (yv [ch]):=by
  refine .inr ⟨_,rfl,fun j u q=>?_⟩
  rw [E6,E5]
  match j with
  | 0=>simpa [yv] using q
  | j+1=>simp [yv] at q
 refine Wc Ek w (m:=1) (ys:=yv [ch]) rfl r (A0h _) (by omega) (by omega) ?_ ?_
 ·intro s h' f
  rw [<- U3] at f
  exact ⟨_,_,_,rfl,x _ _ _ _ _ _ ⟨d,f,rfl,fun _=>⟨rfl,rfl,rfl⟩,id⟩⟩
 ·intro s A' c' h' g' t f
  rw [<- U3] at f
  exact ⟨_,_,_,rfl,x _ _ _ _ _ _ ⟨B0 d t,f,rfl,fun e=>by simp at e;omega,fun _=>rfl⟩⟩
def Th{i:Int}(h:i<0):Ia i=[45]++P7 i.natAbs:=by unfold Ia;rw [iP h];rfl
def Jt{i:Int}(h:¬ i<0):Ia i=P7 i.natAbs:=by unfold Ia;rw [iN h]
def Kq{i:Int}(gp:Gp g)(p:dU h g e' 1 A n c (yv l))(h1: -9223372036854775808<=i)(h2:i<9223372036854775808)(hn:n<=100000000000)
 (hK:∀ A' n' c' e2 g' h',Ext g e' A n c l (Ia i) A' n' c' e2 g' h'->K (.slice A' n' c') h'):aZ prog Dl #[.slice A n c,I i,I 10] h K:=by
 refine A29 _ _ _ _ _ ?_
 unfold Zu
 refine A1z _ _ _ _ _ ?_
 unfold Zj
 refine B7 (fun b=>?_) (fun b=>?_)
 ·rw [Th b] at hK
  refine Gc (ch:=45) rfl p (by omega) ?_
  intro A1 s c1 t r o a
  have e:C1 (0-C1 i)=((i.natAbs:Nat):Int):=by rw [E7,E7];omega
  rw [e]
  refine Cz (gp.mono (B0 a.le a.priv.le)) a.priv (by omega) (by have:=a.len;simp at this;omega) ?_
  intro A2 c2 e2 m q d j k f
  exact ⟨_,_,_,rfl,_,_,_,rfl,hK _ _ _ _ _ _ (a.trans ⟨d,j,rfl,k,f⟩)⟩
 ·rw [Jt b] at hK
  have e:C1 i=((i.natAbs:Nat):Int):=by rw [E7];omega
  rw [e]
  refine Cz (gp.mono p.le) p (by omega) (by omega) ?_
  intro A2 c2 e2 m q d j k f
  exact ⟨_,_,_,rfl,_,_,_,rfl,hK _ _ _ _ _ _ ⟨d,j,rfl,k,f⟩⟩
def A2e{b:Nat}{e:bV}{B:Option bH}{pre post:List cZ}{s:List UInt8}(w:Win .u8 h g b e B pre (zb s) post):SlV h B (yv s):=by
 have:=w.sl
 unfold SlI at this
 rw [C33] at this
 exact this
def Km{i:Int}(gp:Gp h)(h1: -9223372036854775808<=i)(h2:i<9223372036854775808)(hK:K (.string (bs (Ia i))) h):aZ prog Dk #[I i,I 10] h K:=by
 refine FCall.pure (A27 _ _ ?_)
 unfold Zs
 refine A1x _ _ ?_
 unfold Zh
 refine E4 (fun _=>?_) (fun e=>absurd rfl e)
 refine ⟨fun L g=>L=[.bool (decide (0<=i/\i<100))]/\g=h,B7 (fun o=>⟨by simp [o],rfl⟩) (fun o=>⟨by simp [o],rfl⟩),?_⟩
 rintro s g ⟨E,rfl⟩
 obtain rfl:s=decide (0<=i/\i<100):=by simpa using E
 refine B7 (fun o=>?_) (fun o=>?_)
 ·obtain ⟨k,rfl⟩:∃ k:Nat,i=k:=⟨i.toNat,by omega⟩
  refine Yb (by omega) ⟨_,rfl,⟨_,rfl,B4 _,?_⟩⟩
  rw [Jt (by omega)] at hK
  exact hK
 ·refine Dp A92 ?_
  intro b C
  have J:(Value.agg (dP 24 (.int .u8 0))).cells=((aD 24 (0:Int)).map (aY .u8)).toArray:=by rfl
  rw [J]
  have q:Win .u8 (g.put b (.cells ((aD 24 (0:Int)).map (aY .u8)).toArray Ud)) g b Ud (some ⟨b,0,none⟩) [] (aD 24 (0:Int)) []:=⟨C,by simp,.inr rfl⟩
  generalize (g.put b (.cells ((aD 24 (0:Int)).map (aY .u8)).toArray Ud))=hp1 at *
  refine ⟨_,rfl,?_⟩
  obtain ⟨u,hu⟩:∃ u:Nat,u=i.natAbs:=⟨_,rfl⟩
  have a:u≠0:=by omega
  have y:P7 u=dd u:=Ab a
  have H:(dd u).length<=20:=Q9.2 (by show u<10^20;omega)
  have A:B6 (1+(((dd u).length:Nat):Int))=((1+(dd u).length:Nat):Int):=by rw [B8 (by omega) (by omega)];omega
  have r:=q.sub (l:=1) (m:=1+(dd u).length) (c:=24) (by omega) (by simp;omega) (by simp)
  have x:((aD 24 (0:Int)).drop 1).take (1+(dd u).length-1)=aD (dd u).length 0:=by
   rw [bI,cD,aJ (by omega)];congr 1;omega
  rw [x] at r
  have p:u<10^(dd u).length:=Q9.1 (bF _)
  have j:pad (dd u).length u=dd u:=by simp [pad]
  have f:1+(dd u).length-1=(dd u).length:=by omega
  refine B7 (fun n=>?_) (fun n=>?_)
  ·rw [Th n,<- hu,y] at hK
   have e:C1 (0-C1 i)=(u:Int):=by rw [E7,E7];omega
   rw [e]
   refine Dw (gp.mono q.le) a (by omega) ⟨_,rfl,?_⟩
   rw [A,aC]
   refine ⟨⟨by omega,by omega⟩,⟨by omega,by omega⟩,?_⟩
   rw [show ((1:Int)).toNat=1 from rfl,f]
   refine Y2 r (by simp) (by omega) p (by omega) ?_
   intro t d
   rw [j] at d
   refine ⟨rfl,B7 (fun _=>?_) (fun w=>absurd n w)⟩
   have F:=q.whole (l:=1) (m:=1+(dd u).length) (by omega) (by simp;omega) (by rw [Hs];omega) d
   refine ⟨⟨by omega,by omega⟩,?_⟩
   rw [show ((0:Int)).toNat=0 from rfl]
   refine F.storeN Mz rfl (by simp) ?_
   intro G z
   refine ⟨⟨by omega,by omega⟩,?_⟩
   have B:=z.sub (l:=0) (m:=1+(dd u).length) (c:=24) (by omega) (by simp [Hs];omega) (by simp [Hs];omega)
   have D:((((aD 24 (0:Int)).take 1++zb (dd u)++(aD 24 (0:Int)).drop (1+(dd u).length)).set 0 45).drop 0).take (1+(dd u).length-0)=zb ([45]++dd u):=by
    rw [cO,cD,show min 1 24=1 from rfl,show aD 1 (0:Int)=[0] from rfl,aS,List.singleton_append,List.set_cons_zero,cC,Nat.add_comm 1,List.take_succ_cons,dA (Hs _)]
    rfl
   rw [D] at B
   refine Ju Ek.und Cp T3 (A2e B) (by simp;omega) ⟨_,rfl,_,rfl,?_,hK⟩
   exact z.le
  ·rw [Jt n,<- hu,y] at hK
   have e:C1 i=(u:Int):=by rw [E7];omega
   rw [e]
   refine Dw (gp.mono q.le) a (by omega) ⟨_,rfl,?_⟩
   rw [A,aC]
   refine ⟨⟨by omega,by omega⟩,⟨by omega,by omega⟩,?_⟩
   rw [show ((1:Int)).toNat=1 from rfl,f]
   refine Y2 r (by simp) (by omega) p (by omega) ?_
   intro t d
   rw [j] at d
   refine ⟨rfl,B7 (fun w=>absurd w n) (fun _=>?_)⟩
   refine ⟨⟨by omega,by omega⟩,⟨by omega,by omega⟩,?_⟩
   exact Ju Ek.und Cp T3 (A2e d) rfl ⟨_,rfl,_,rfl,d.le,hK⟩
def Xj{s q:List UInt8}(hK:K (.tuple #[.string (bs (if q <+: s then s.drop q.length else s)),.bool (decide (q <+: s))]) h):aZ prog It #[.string (bs s),.string (bs q)] h K:=by
 refine A28 _ _ ?_
 unfold Zt
 refine A1y _ _ ?_
 unfold Zi
 have b:aZ prog Io #[.string (bs s),.string (bs q)] h (fun r b=>r= .bool (decide (q <+: s))/\b=h):=by
  refine A1w _ _ ?_
  unfold Zg
  simp only [K0]
  refine B7 (fun a=>?_) (fun a=>?_)
  ·refine ⟨⟨by omega,by omega⟩,?_,trivial⟩
   rw [aC,P6,Sd]
   congr 1
   rw [decide_eq_decide,cO,cC,List.prefix_iff_eq_take]
   exact eq_comm
  ·refine ⟨?_,trivial⟩
   congr 1
   symm
   rw [decide_eq_false_iff_not]
   intro c
   have:=c.length_le
   omega
 refine b.mono ?_
 rintro r d ⟨rfl,rfl⟩
 refine ⟨_,rfl,R2 (B7 (fun a=>?_) (fun a=>?_))⟩
 ·rw [iP a,decide_eq_true a] at hK
  have:=a.length_le
  simp only [K0]
  refine ⟨⟨by omega,by omega⟩,_,_,rfl,?_⟩
  rw [aC,P6,aL (by rw [aQ];omega)]
  exact hK
 ·rw [iN a,decide_eq_false a] at hK
  exact ⟨_,_,rfl,hK⟩
end
abbrev cB:Int:=10000000000000000000
section
variable {h g:bC} {K:VP} {A B:Option bH} {ac bc:Nat}
def C48{Invv:LP}{muv:LN}{WA CA:Option bH}{wn wc cn cc:Nat}{us:List Int}{hp1 g1:bC}(p:Pw hp1 g1 WA wn wc us)(hne:us≠[])(hwn:wn=us.length)(du:Dig b64 us)(hl:wn<=100000000)
 (hK:∀ (ws:List Int) (m:Nat) (r:Int) (hp2:bC),Pw hp2 g1 WA m wc (ws.take m)->m=(ws.take m).length->m<=wn->gC (ws.take m)->Dig b64 (ws.take m)->val b64 us=val b64 (ws.take m)*cB+r->(0<=r/\r<cB)->
  wpH prog (Instr.buildSlice Z5 1 #[(0,U r)]) (fun v hp6=>∃ (t44A:Option bH) (t44n:Nat) (t44c:Nat),v= .slice t44A t44n t44c/\wpH prog (dO #[Z5,Z5] Z5 #[.slice CA cn cc,.slice t44A t44n t44c]) (fun v1 hp7=>∃ (t45A:Option bH) (t45n:Nat) (t45c:Nat),v1= .slice t45A t45n t45c/\Invv [.slice WA m wc,.slice t45A t45n t45c] hp7/\muv [.slice WA m wc,.slice t45A t45n t45c] hp7<muv [.slice WA wn wc,.slice CA cn cc] hp1) hp6) hp2):
 Da prog Invv muv WA wn wc CA cn cc hp1:=by
 obtain ⟨b,d,F,R⟩:=Fk p hne
 unfold Da
 refine ⟨fun s L=>∃ (k:Nat) (r:Int) (ws:List Int),s=[U r,I ((k:Int)-1)]/\k<=wn/\(0<=r/\r<cB)/\ws.length=us.length/\Dig b64 ws/\Win .u64 L g1 b C2 WA [] ws d/\ws.take k=us.take k/\val b64 (us.drop k)=val b64 (ws.drop k)*cB+r,fun s _=>(iAt s 1+1).toNat,⟨wn,0,us,by rw [B8 (by omega) (by omega)],by omega,by decide,rfl,du,F,rfl,by rw [aV (by omega)];simp [val]⟩,?_⟩
 rintro c i hp2 ⟨k,r,ws,M,Q,z,g,u,w,l,t⟩
 obtain ⟨rfl,rfl⟩:c=r/\i=(k:Int)-1:=by simpa using M
 refine B7 (fun D=>?_) (fun D=>?_)
 ·obtain ⟨j,rfl⟩:∃ j,k=j+1:=⟨k-1,by omega⟩
  have e:((j+1:Nat):Int)-1=(j:Int):=by omega
  rw [e]
  have N:=N8 u j
  refine w.sl.load (by omega) (by omega) (by omega) ?_
  rw [aC]
  refine Ty (y:=10000000000000000000) z N (by decide) ⟨_,_,rfl,?_⟩
  have G:us.getD j 0=ws.getD j 0:=by
   have n:(ws.take (j+1)).getD j 0=(us.take (j+1)).getD j 0:=by rw [l]
   simpa [cN,List.getElem?_take] using n.symm
  generalize hx:ws.getD j 0=x at *
  have C:0<=c/\c<10000000000000000000:=z
  have T:0<=c*18446744073709551616+x:=by omega
  have O:0<=(c*18446744073709551616+x)/10000000000000000000/\(c*18446744073709551616+x)/10000000000000000000<18446744073709551616:=by omega
  obtain ⟨a,A,_⟩:=SlV.at w.sl (i:=j) (by simp;omega)
  refine ⟨a,A,by omega,by omega,w.storeN F6 A (by omega) ?_⟩
  intro S E
  rw [B8 (by omega) (by omega)]
  refine ⟨⟨j,_,_,rfl,by omega,by show _/\_<(10000000000000000000:Int);omega,by simpa using g,u.set O,E,?_,?_⟩,by simp only [iAt,aF,aM];omega⟩
  ·rw [gD (by omega)]
   have n:=congrArg (List.take j) l
   rw [List.take_take,List.take_take,aJ (by omega)] at n
   exact n
  ·rw [W7 (by omega),My b64 (by omega),t,G]
   have:=aO (c*18446744073709551616+x) 10000000000000000000
   simp only [val]
   generalize (c*18446744073709551616+x)/10000000000000000000=q at *
   generalize (c*18446744073709551616+x)%10000000000000000000=s at *
   grind
 ·obtain rfl:k=0:=by omega
  rw [cO,cO] at t
  rw [show wn=ws.length by omega] at hK ⊢
  refine Eh w.sl (by omega) (by omega) ?_
  intro m B H o
  refine ⟨_,_,_,rfl,?_⟩
  have f:ws≠[]:=by intro J;apply hne;exact aK (by rw [<- g,J];rfl)
  exact hK ws m c hp2 (w.priv f (by omega) B) (by rw [aG];omega) B H (u.take m) (by rw [o];exact t) z
end
def nv:List Nat->Nat
 | []=>0
 | c::r=>c+10^19*nv r
def B34(ns:List Nat)(c:Nat):((nv (ns++[c]):Nat):Int)=(nv ns:Int)+cB^ns.length*(c:Int):=by
 induction ns with
 | nil=>simp [nv]
 | cons d r ih=>
  have e:((10^19:Nat):Int)=cB:=by decide
  simp only [List.cons_append,nv,fL,aW,eM,cG,ih,e]
  grind
def C5m{ns:List Nat}(h:∀ c∈ns,c<10^19):nv ns<10^(19*ns.length):=by
 induction ns with
 | nil=>simp [nv]
 | cons d r ih=>
  have b:=h d (by simp)
  have e:=ih fun c a=>h c (by simp [a])
  simp only [nv,fL]
  rw [show 19*(r.length+1)=19+19*r.length by omega,dQ]
  have:=eP (10^19) (show nv r+1<=10^(19*r.length) by omega)
  rw [fY] at this;omega
def C5l{ns:List Nat}(hne:ns≠[])(h:ns.getLast? ≠ some 0):nv ns≠0:=by
 induction ns with
 | nil=>exact absurd rfl hne
 | cons d r ih=>
  cases r with
  | nil=>simp at h;simp [nv];exact h
  | cons e s=>
   have:=ih (by simp) (by simpa [List.getLast?_cons_cons] using h)
   simp only [nv] at this ⊢
   have a:0<10^19*(e+10^19*nv s):=Nat.mul_pos (by decide) (by omega)
   omega
def B7c{c:Nat}:aD (19-(P7 c).length) 48++P7 c=pad 19 c:=by
 unfold P7 pad
 split
 ·rename_i h;subst h;rw [I7];rfl
 ·rfl
def B2z{c w:Nat}(h:c≠0):aD (w-(P7 c).length) 48++P7 c=pad w c:=by
 unfold P7 pad;rw [iN h]
def B02{w n k:Nat}(h:n<10^k):(pad w n).length<=w+k:=by
 unfold pad
 have:=Q9.2 h
 rw [aH,cF];omega
def B1c(W:Nat)(ns:List Nat)(k:Nat):List UInt8:=if k<ns.length then pad (W-19*k) (nv (ns.drop k)) else []
def B6n{W:Nat}{ns:List Nat}(h:∀ c∈ns,c<10^19)(k:Nat):(B1c W ns k).length<=W+19*ns.length:=by
 unfold B1c
 split
 ·have:=B02 (w:=W-19*k) (C5m (ns:=ns.drop k) fun c a=>h c (List.mem_of_mem_drop a))
  rw [aQ] at this;omega
 ·simp
def B1v{W:Nat}{ns:List Nat}(hb:∀ c∈ns,c<10^19)(ht:ns.getLast? ≠ some 0){j:Nat}(hj:j<ns.length):B1c W ns j=B1c W ns (j+1)++(aD ((if j+1=ns.length then max (P7 ns[j]).length (W-19*j) else 19)-(P7 ns[j]).length) 48++P7 ns[j]):=by
 have e:ns.drop j=ns[j]::ns.drop (j+1):=cJ hj
 unfold B1c
 rw [iP hj,e]
 by_cases h:j+1=ns.length
 ·rw [iN (by omega),iP h,cM,aV (by omega)]
  have d:ns[j]≠0:=by
   intro a
   apply ht
   rw [gU,<- h,gG,List.getElem?_eq_getElem hj,a]
  rw [show max (P7 ns[j]).length (W-19*j)-(P7 ns[j]).length=(W-19*j)-(P7 ns[j]).length by omega,B2z d]
  simp [nv]
 ·rw [iP (by omega),iN h,B7c]
  have f:nv (ns.drop (j+1))≠0:=by
   apply C5l
   ·intro b;have:=congrArg List.length b;rw [aQ] at this;simp at this;omega
   ·rw [List.getLast?_drop,iN (by omega)];exact ht
  have:=A3d (w:=W-19*j) (h:=nv (ns.drop (j+1))) (l:=ns[j]) (k:=19) (hb _ (fM hj)) (.inl f)
  rw [Nat.sub_sub] at this
  rw [show 19*(j+1)=19*j+19 by omega,<- this]
  congr 1
  simp only [nv];rw [eU];omega
def Priv.clear{h g:bC}{e:bV}{A:Option bH}{n c:Nat}{xs:List cZ}(p:dU h g e 1 A n c xs):dU h g e 1 A 0 c []:=by
 obtain ⟨m,l,d⟩:=p
 refine ⟨by simp,by omega,?_⟩
 rcases d with d|⟨b,a,i,j,k,f,o⟩
 ·exact .inl d
 ·exact .inr ⟨b,a,i,j,k,f,by simp⟩
def nz(ns:List Nat):List Int:=ns.map fun (x:Nat)=>(x:Int)
def Bx(g:bC)(eT:bV)(A:Option bH)(n c:Nat)(l:List UInt8)(p:bH)(CA:Option bH)(ns:List Nat)(bl t:List UInt8)(tA:Option bH)(tn tc:Nat)(hp:bC):Prop:=
 ∃ e2 gA gB,Ext g eT A n c l t tA tn tc e2 gA hp/\dU gA gB B1r 1 (some p) bl.length 20 (yv bl)/\g.le gB/\SlI .u64 gB CA (nz ns)
section
variable {h g:bC} {K:VP} {A CA:Option bH} {n c:Nat} {eT:bV} {l:List UInt8} {p:bH} {ns:List Nat}
def A7v{bl t s:List UInt8}{tA tA':Option bH}{tn tc tn' tc':Nat}{e2 e3:bV}{gA gB g' hp hp':bC}(x:Ext g eT A n c l t tA tn tc e2 gA hp)(q:dU gA gB B1r 1 (some p) bl.length 20 (yv bl))(lg:g.le gB)(sc:SlI .u64 gB CA (nz ns))(y:Ext gA e2 tA tn tc (l++t) s tA' tn' tc' e3 g' hp'):Bx g eT A n c l p CA ns bl (t++s) tA' tn' tc' hp':=by
 obtain ⟨a,b,d⟩:=q.after y.le
 exact ⟨e3,g',a,x.trans y,d,B0 lg b,sc.mono b⟩
def B82{Invv2:LP}{muv2:LN}{tA:Option bH}{tn tc q:Nat}{first:Bool}{i1 size:Int}{bl t:List UInt8}{hp9 hp11:bC}(x:Bx g eT A n c l p CA ns bl t tA tn tc hp11)(hq:B6 (size-((bl.length:Nat):Int))=(q:Int))(hb:n+t.length+q+bl.length<=100000000000)
 (hK:∀ tA' tn' tc' hp',Bx g eT A n c l p CA ns bl (t++(aD q 48++bl)) tA' tn' tc' hp'->Invv2 [.slice tA' tn' tc',.bool false,I (B6 (i1-1))] hp'/\muv2 [.slice tA' tn' tc',.bool false,I (B6 (i1-1))] hp'<muv2 [.slice tA tn tc,.bool first,I i1] hp9):
 Bc prog Invv2 muv2 tA tn tc first i1 (some p) bl.length 20 size hp9 hp11:=by
 unfold Bc
 rw [hq]
 refine ⟨fun s m=>∃ (k:Nat) (tA:Option bH) (tn tc:Nat),s=[.slice tA tn tc,I k]/\k<=q/\Bx g eT A n c l p CA ns bl (t++aD k 48) tA tn tc m,fun s _=>q-(iAt s 1).toNat,⟨0,tA,tn,tc,rfl,by omega,by simpa using x⟩,?_⟩
 rintro O R H M u ⟨k,z,V,C,d,W,Z,X,gB,ex,f,j,o⟩
 simp only [bD,bO,bY,and_true,true_and] at d
 obtain ⟨⟨rfl,rfl,rfl⟩,rfl⟩:=d
 have b:=ex.len
 rw [aH,cF] at b
 refine B7 (fun D=>?_) (fun D=>?_)
 ·refine Gc (ch:=48) rfl ex.priv (by omega) ?_
  intro A' n' G e3 F r y
  rw [B8 (by omega) (by omega)]
  refine ⟨⟨k+1,_,_,_,rfl,by omega,?_⟩,by simp only [iAt,aF,aM];omega⟩
  have:=A7v ex f j o y
  rwa [aS,<- eA] at this
 ·obtain rfl:k=q:=by omega
  refine ⟨fun s m=>∃ (tA:Option bH) (tn tc:Nat),s=[.slice tA tn tc]/\Bx g eT A n c l p CA ns bl (t++(aD k 48++bl)) tA tn tc m,?_,?_⟩
  ·refine Wc Ek ex.priv (Hv bl) (SlV.mono ex.priv.le f.slV) (A0h _) (by omega) (by omega) ?_ ?_
   ·intro J r a
    rw [<- U3] at a
    refine ⟨_,_,_,rfl,_,_,_,rfl,?_⟩
    have:=A7v ex f j o (s:=bl) ⟨B4 _,a,rfl,fun _=>⟨rfl,rfl,rfl⟩,id⟩
    rwa [aS] at this
   ·intro J A' G r F i a
    rw [<- U3] at a
    refine ⟨_,_,_,rfl,_,_,_,rfl,?_⟩
    have:=A7v ex f j o (s:=bl) ⟨i,a,rfl,fun e=>by omega,fun _=>rfl⟩
    rwa [aS] at this
  ·rintro L Q T w ⟨B,N,E,d,S⟩
   simp only [bD,bO,and_true] at d
   obtain ⟨rfl,rfl,rfl⟩:=d
   exact hK _ _ _ _ S
def B80{W tn tc:Nat}{tA:Option bH}{t:List UInt8}{e2:bV}{gA hp9:bC}(x:Ext g eT A n c l t tA tn tc e2 gA hp9)(hW:W<=10000000000)(hb:tn<=10000000000)(hK:∀ A' n' c' e3 g' h',Ext g eT A n c l (t++aD W 48) A' n' c' e3 g' h'->K (.slice A' n' c') h'):Bb prog (W:Int) K tA tn tc hp9:=by
 unfold Bb
 refine ⟨fun s i=>∃ (k:Nat) (tA:Option bH) (tn' tc:Nat) (e3:bV) (g':bC),s=[.slice tA tn' tc,I k]/\k<=W/\tn'=tn+k/\Ext g eT A n c l (t++aD k 48) tA tn' tc e3 g' i,fun s _=>W-(iAt s 1).toNat,⟨0,tA,tn,tc,e2,gA,rfl,by omega,rfl,by simpa using x⟩,?_⟩
 rintro e u j o b ⟨k,d,f,p,e3,g',a,z,w,ex⟩
 simp only [bD,bO,bY,and_true,true_and] at a
 obtain ⟨⟨rfl,rfl,rfl⟩,rfl⟩:=a
 refine B7 (fun r=>?_) (fun r=>?_)
 ·refine Gc (ch:=48) rfl ex.priv (by omega) ?_
  intro A' n' c' q m h' y
  rw [B8 (by omega) (by omega)]
  refine ⟨⟨k+1,_,_,_,q,m,rfl,by omega,?_,?_⟩,by simp only [iAt,aF,aM];omega⟩
  ·have:=y.len;simp at this;omega
  ·have:=ex.trans y
   rwa [aS,<- eA] at this
 ·obtain rfl:k=W:=by omega
  exact hK _ _ _ _ _ _ ex
def B81{W cn:Nat}{tA:Option bH}{tn tc:Nat}{hp8:bC}{b:Nat}(gp:Gp g)(hp:p=⟨b,0,none⟩)(x:Bx g eT A n c l p CA ns [] [] tA tn tc hp8)(hcn:cn=ns.length)(hb:∀ c∈ns,c<10^19)(ht:ns.getLast? ≠ some 0)(hW:W<=1000000000)(hn:n<=1000000000)(hnl:ns.length<=1000000000)
 (hK:∀ A' n' c' e3 g' h',Ext g eT A n c l (pad W (nv ns)) A' n' c' e3 g' h'->K (.slice A' n' c') h'):Be prog tA tn tc (W:Int) K CA cn p hp8:=by
 subst hcn
 have f:K5 (some p) 20 0 1=some p:=by rw [hp];rfl
 unfold Be
 refine ⟨fun s hp=>∃ (k:Nat) (tA:Option bH) (tn tc:Nat) (F:List UInt8),s=[.slice tA tn tc,.bool (decide (k=ns.length)),I ((k:Int)-1)]/\k<=ns.length/\Bx g eT A n c l p CA ns F (B1c W ns k) tA tn tc hp,fun s _=>(iAt s 2+1).toNat,⟨ns.length,tA,tn,tc,[],by rw [B8 (by omega) (by omega)];simp,bF _,by unfold B1c;rw [iN (by omega)];exact x⟩,?_⟩
 rintro w C r first i1 aa ⟨k,S,ae,X,F,N,hk,J,V,gB,ex,z,t,Q⟩
 simp only [bD,bO,bY,Value.bool.injEq,and_true,true_and] at N
 obtain ⟨⟨rfl,rfl,rfl⟩,rfl,rfl⟩:=N
 have M:=ex.len
 have ac:=B6n (W:=W) hb k
 refine B7 (fun Z=>?_) (fun Z=>?_)
 ·obtain ⟨j,rfl⟩:∃ j,k=j+1:=⟨k-1,by omega⟩
  have e:((j+1:Nat):Int)-1=(j:Int):=by omega
  rw [e]
  have E:j<ns.length:=by omega
  refine ⟨⟨by omega,by omega⟩,?_⟩
  refine (Q.mono (B0 z.le ex.priv.le)).load (by simp [nz]) (by omega) (by simp;omega) ?_
  have hz:(nz ns).getD (j:Int).toNat 0=((ns[j]:Nat):Int):=by
   rw [aC];simp [nz,cN,E]
  rw [hz,f,show ((0:Int)).toNat-0=0 from rfl,show 20-0=20 from rfl]
  have a:=hb ns[j] (fM E)
  have ad:(P7 ns[j]).length<=20:=(Oz (by decide)).2 (fA a (by decide))
  refine ex.priv.call ?_
  refine Hh (l:=[]) (gp.mono (B0 t z.le)) z.clear (fA a (by decide)) (by omega) ?_
  intro A' n' c' e3 g' h0 y h' pt
  obtain ⟨rfl,rfl,rfl⟩:=y.fit (by omega)
  have R:=y.len
  rw [eQ] at R
  subst R
  refine ⟨_,_,_,rfl,?_⟩
  have x2:Bx g eT A n c l p CA ns (P7 ns[j]) (B1c W ns (j+1)) w C r h':=
   ⟨J,h0,g',⟨B0 t (B0 y.le y.priv.le),pt,ex.len,ex.fit,ex.tag⟩,by simpa using y.priv,B0 t y.le,Q.mono y.le⟩
  refine ⟨fun s hp=>s=[I (((if j+1=ns.length then max (P7 ns[j]).length (W-19*j) else 19):Nat):Int)]/\hp=h',B7 (fun d=>⟨?_,rfl⟩) (fun d=>⟨by rw [iN d];rfl,rfl⟩),?_⟩
  ·rw [iP d,B8 (n:=19*(j:Int)) (by omega) (by omega),B8 (by omega) (by omega)]
   simp only [bD,bY,and_true,true_and]
   by_cases L:(W:Int)-19*(j:Int)>(((P7 ns[j]).length:Nat):Int)
   ·rw [iP L];omega
   ·rw [iN L];omega
  ·rintro i G ⟨B,rfl⟩
   obtain rfl:i=(((if j+1=ns.length then max (P7 ns[j]).length (W-19*j) else 19):Nat):Int):=by simpa using B
   have O:(P7 ns[j]).length<=19:=(Oz (by decide)).2 a
   generalize hsz:(if j+1=ns.length then max (P7 ns[j]).length (W-19*j) else 19)=sz at *
   have H:(P7 ns[j]).length<=sz/\sz<=W+20:=by
    rw [<- hsz];split<;>omega
   refine B82 (q:=sz-(P7 ns[j]).length) x2 (by rw [B8 (by omega) (by omega)];omega) (by have:=ex.len;omega) ?_
   intro u o m af T
   rw [B8 (by omega) (by omega)]
   refine ⟨⟨j,u,o,m,P7 ns[j],?_,by omega,?_⟩,by simp only [iAt,aF,aM];omega⟩
   ·rw [show decide (j=ns.length)=false by simp;omega]
   ·rw [B1v hb ht E,hsz];exact T
 ·obtain rfl:k=0:=by omega
  refine B7 (fun d=>?_) (fun d=>?_)
  ·have D:ns=[]:=aK d.symm
   subst D
   refine B80 ex (by omega) (by omega) ?_
   intro A' n' c' e3 g' h' y
   refine hK _ _ _ e3 g' _ ?_
   have:B1c W [] 0++aD W 48=pad W (nv []):=by simp [B1c,nv,pad,I7]
   rwa [this] at y
  ·refine hK _ _ _ J V _ ?_
   ·have:B1c W ns 0=pad W (nv ns):=by unfold B1c;rw [iP (by omega)];simp
    rw [<- this];exact ex
end
def B86:(prog.info? B1r).map (fun i=>i.zero)=some (some (.agg (dP 20 (.int .u8 0)))):=by kernel_rfl
def C16(ns:List Nat)(c:Nat):nz (ns++[c])=nz ns++[(c:Int)]:=by simp [nz]
section
variable {h g:bC} {K:VP} {A XA:Option bH} {n c:Nat} {eT:bV} {l:List UInt8}
def Fg{xn xc v W:Nat}(gp:Gp g)(p:dU h g eT 1 A n c (yv l))(M:Mw g XA xn (v:Int))(hx:xn<=10000000)(hW:W<=1000000000)(hn:n<=1000000000)
 (hK:∀ A' n' c' e3 g' h',Ext g eT A n c l (pad W v) A' n' c' e3 g' h'->K (.slice A' n' c') h'):aZ prog V4 #[.slice A n c,.slice XA xn xc,I (W:Int)] h K:=by
 obtain ⟨xs,O,sx,dx,nx,Q⟩:=M
 refine Td _ _ _ _ _ _ _ ?_
 unfold Pm
 refine p.call ?_
 refine Fd sx O (by omega) ?_
 intro WA T h0 g0 l0 pw h1 S
 obtain ⟨C,ad,al⟩:=S.swap pw
 refine ⟨_,_,_,rfl,?_⟩
 unfold Jj
 have ap:(v:Int)<2^(64*xn):=by
  have:=L5 (B:=b64) (by decide) dx
  rw [Q,<- O,Kz] at this;exact this
 refine ⟨fun s hp=>∃ (d:List Int) (ns:List Nat) (WA CA:Option bH) (wn T cn cc:Nat) (C g2 g3:bC),s=[.slice WA wn T,.slice CA cn cc]/\Pw hp C WA wn T d/\Pw C g2 CA cn cc (nz ns)/\dU g2 g3 eT 1 A n c (yv l)/\g.le g3/\wn=d.length/\cn=ns.length/\wn<=xn/\Dig b64 d/\gC d/\(∀ c∈ns,c<10^19)/\(v:Int)=val b64 d*cB^ns.length+(nv ns:Int)/\(d=[]->ns.getLast? ≠ some 0),fun s hp=>match s with|[.slice A n _,_]=>B39 b64 hp A n|_=>0,⟨xs,[],WA,none,xs.length,T,0,0,C,C,g0,rfl,ad,Priv.nil _ _ _ _,al,l0,rfl,rfl,by omega,dx,nx,by simp,by simp [nv,Q],by simp⟩,?_⟩
 rintro WA1 R am CA1 ao ax G ⟨d,ns,WA2,CA2,ar,ay,az,a0,C,g2,g3,hs,pw,pc,S,lg,y,an,au,du,nu,hb,hv,t⟩
 simp only [bD,bO,and_true] at hs
 obtain ⟨⟨rfl,rfl,rfl⟩,rfl,rfl,rfl⟩:=hs
 have aq:=C7 (B:=b64) (by decide) du
 have Mu:Mw G WA1 R (val b64 d):=⟨d,y,pw.slV,du,nu,rfl⟩
 refine B7 (fun h2=>?_) (fun h2=>?_)
 ·have af:d≠[]:=by rintro rfl;simp at y;omega
  have J:0<val b64 d:=by
   have:=Mu.len_zero (by decide)
   omega
  have u:ns.length<=64*xn:=by
   by_cases V:ns.length<=64*xn
   ·exact V
   ·exfalso
    have h3:(2:Int)^(64*xn)<=2^ns.length:=C9 (by decide) (by omega)
    have h4:(2:Int)^ns.length<=cB^ns.length:=by
     have:∀ k:Nat,(2:Int)^k<=cB^k:=by
      intro k
      induction k with
      | zero=>simp
      | succ k ih=>
       rw [aW,aW]
       exact dI ih (by decide) (by decide) (aN (bK (by decide)))
     exact this _
    have h5:1*cB^ns.length<=val b64 d*cB^ns.length:=aE J (aN (bK (by decide)))
    omega
  refine C48 pw af y du (by omega) ?_
  intro z m r aw X hm av nw dw a hr
  obtain ⟨q,Z,ah⟩:=X.swap pc
  refine Dv Q0 Z rfl rfl (by omega) (by omega) ?_
  intro CA' ae h' g' ai i
  obtain ⟨w,l2,j⟩:=ah.after ai
  obtain ⟨g4,F,ac⟩:=i.swap j
  obtain ⟨g5,l5,ag⟩:=S.after l2
  obtain ⟨c0,e⟩:∃ c0:Nat,r=(c0:Int):=⟨r.toNat,by omega⟩
  have E:c0<10^19:=by
   have L:r<10000000000000000000:=hr.2
   show c0<10000000000000000000
   omega
  have aa:=C7 (B:=b64) (by decide) dw
  refine ⟨⟨z.take m,ns++[c0],WA1,CA',m,am,ao+1,ae,g4,w,g5,rfl,F,?_,ag,B0 lg l5,hm,by simp;omega,by omega,dw,nw,?_,?_,?_⟩,?_⟩
  ·have h9:=ac
   rw [<- gH (f:=aY .u64),<- dB,e,<- C16] at h9
   exact h9
  ·intro c V
   rcases List.mem_append.1 V with L|L
   ·exact hb c L
   ·rw [List.mem_singleton.1 L];exact E
  ·rw [B34,hv,a,aH,cT,aW,e];grind
  ·intro he
   rw [List.getLast?_append]
   simp only [hG,Option.some_or,ne_eq,gI]
   intro e0
   rw [he] at a
   simp [val] at a
   omega
  ·show B39 b64 h' WA1 m<B39 b64 G WA1 R
   have Mw2:Mw h' WA1 m (val b64 (z.take m)):=⟨z.take m,hm,F.slV,dw,nw,rfl⟩
   rw [As Mw2,As Mu]
   have L:1*val b64 (z.take m)<=cB*val b64 (z.take m):=aE (by decide) aa
   have h7:val b64 d=10000000000000000000*val b64 (z.take m)+r:=by rw [a,aR]
   omega
 ·have H:d=[]:=aK (by omega)
  subst H
  obtain ⟨w,ak,i⟩:=pc.swap S
  obtain ⟨q,N,j⟩:=pw.swap ak
  have aj:v=nv ns:=by
   simp [val] at hv;omega
  have u:ns.length<=1000000000:=by
   by_cases e:ns=[]
   ·subst e;simp
   ·have h7:=t rfl
    obtain ⟨ms,c0,rfl⟩:∃ ms c0,ns=ms++[c0]:=⟨ns.dropLast,ns.getLast e,(List.dropLast_concat_getLast e).symm⟩
    rw [List.getLast?_append] at h7
    simp only [hG,Option.some_or,ne_eq,gI] at h7
    have h8:=B34 ms c0
    by_cases V:ms.length<=64*xn
    ·simp;omega
    ·exfalso
     have h3:(2:Int)^(64*xn)<=2^ms.length:=C9 (by decide) (by omega)
     have h4:(2:Int)^ms.length<=cB^ms.length:=by
      have:∀ k:Nat,(2:Int)^k<=cB^k:=by
       intro k
       induction k with
       | zero=>simp
       | succ k ih=>
        rw [aW,aW]
        exact dI ih (by decide) (by decide) (aN (bK (by decide)))
      exact this _
     have h5:cB^ms.length*1<=cB^ms.length*(c0:Int):=aI (by omega) (aN (bK (by decide)))
     omega
  refine Dp B86 ?_
  intro b x
  refine ⟨_,rfl,?_⟩
  have hz:(Value.agg (dP 20 (.int .u8 0))).cells=(aD 20 (aY .u8 0)).toArray:=by rfl
  rw [hz]
  have D:q b=none:=by
   cases hx1:q b with
   | none=>rfl
   | some o=>rw [N.le b o hx1] at x;cases x
  refine B81 (ns:=ns) gp rfl ⟨eT,_,q,⟨?_,?_,by simp,fun _=>⟨rfl,rfl,rfl⟩,id⟩,⟨by simp [yv],by simp,.inr ⟨b,aD 20 (aY .u8 0),rfl,D,rfl,by simp,by simp [yv]⟩⟩,?_,?_⟩ an hb (t rfl) hW hn u (by rw [<- aj];exact hK)
  ·exact B0 lg (B0 i.le (B0 j.le (Heap.le_put _ D)))
  ·rw [bW];exact N.put x _
  ·exact B0 lg (B0 i.le j.le)
  ·exact (show SlI .u64 w CA1 (nz ns) from i.slV).mono j.le
end
