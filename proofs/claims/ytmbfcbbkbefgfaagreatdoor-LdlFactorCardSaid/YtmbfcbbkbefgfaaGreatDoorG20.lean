/- A part. -/
import Derived.Test.YtmbfcbbkbefgfaaGreatDoorG18
import Derived.Test.YtmbfcbbkbefgfaaGreatDoorG19
import Derived.Test.YtmbfcbbkbefgfaaGreatDoorG10
open Go.Proofs.Tryz
set_option linter.all false
open _root_.Go.Addr renaming add->eM
open _root_.Array renaming replicate->fV
open Bool renaming false_eq_true->fE
open _root_.Go.Builtin renaming zeroCells->dH,append_->dR,copy_->fI,lenOf->gG
open _root_.ByteArray renaming size->fD
open _root_.Go.Extern.MathBitsCarry renaming m64->aX,pair->gV
open _root_.Go.Instr renaming storeAt->dP
open Int renaming toNat_natCast->aC,mul_le_mul_of_nonneg_right->aE,mul_le_mul_of_nonneg_left->aK,mul_ediv_add_emod->aO,emod_lt_of_pos->aP,le_of_lt->aQ,mul_comm->aS,mul_nonneg->aT,emod_nonneg->aU,pow_succ->bF,pow_add->bG,tdiv_eq_ediv_of_nonneg->bJ,ediv_lt_of_lt_mul->bK,pow_pos->bM,mul_lt_mul_of_pos_right->bN,ediv_eq_zero_of_lt->bU,tmod_eq_emod_of_nonneg->bY,natCast_mul->cD,ediv_nonneg->cF,ofNat_tdiv->cP,tdiv->cT,natAbs_natCast->cU,mul_lt_mul_of_pos_left->cV,mul_assoc->cZ,mul_add->dB,lt_of_le_of_lt->dC,ofNat_tmod->dK,zero_add->dN,tmod->dO,gcd_natCast_natCast->dT,eq_ofNat_of_zero_le->dU,natCast_ediv->eE,fdiv->eK,natCast_add->eS,mul_le_mul->fB,fdiv_eq_ediv_of_nonneg->fC,ediv_le_self->fM,ediv_ediv_of_nonneg->fN,zero_mul->fP,mul_zero->fQ,add_zero->fR,add_mul_ediv_right->fS,add_comm->fT,add_mul_ediv_left->fX,mul_ediv_cancel->gF,gcd->gK,emod_eq_of_lt->gL,natCast_emod->gN,add_mul_emod_self_right->gR,zero_emod->gY,toNat_pow_of_nonneg->hO,pow_zero->iH
open List renaming replicate->aD,length_take->aF,getElem?_cons_zero->aG,length_append->aH,getElem?_cons_succ->aI,take_of_length_le->aL,eq_nil_of_length_eq_zero->aM,length_drop->aN,append_assoc->aR,drop_of_length_le->aV,take_length->aW,drop_replicate->bI,length_set->bO,append_nil->cC,drop_eq_getElem_cons->cG,take_replicate->cH,length_replicate->cI,take_append_drop->cL,take_append_of_le_length->cN,drop_zero->cO,nil_append->cQ,getD->cR,getElem?_eq_none->cW,getElem?_eq_getElem->cY,take_left'->dE,length_singleton->dF,getElem?_toArray->dG,drop_drop->dJ,take_append->dM,map_append->dQ,take_succ_eq_append_getElem->dX,replicate_append_replicate->dY,getElem_mem->eC,replicate_succ'->eG,drop_append_of_le_length->eI,drop_left'->eR,length_cons->fK,drop_length->fL,length_map->fU,set_append_right->fW,mem_of_mem_take->fZ,take_set_of_le->gD,drop_append->gM,length->gO,length_nil->gQ,getElem?_append_right->gS,getLast?_eq_getElem?->gU,take_add->gX,getElem?_set_self->iG
open List.cons renaming injEq->bD
open Nat renaming min_eq_left->aJ,le_refl->aY,pow_le_pow_right->bL,sub_zero->bX,mul_one->cJ,add_sub_cancel_left->cK,lt_of_lt_of_le->cM,pow_pos->cX,pow_add->dS,add_zero->dV,gcd->eF,div_le_self->eP,div_add_mod->eQ,pow_le_pow_left->eU,mul_le_mul_left->eV,zero_add->eW,pow_succ->eX,mul_comm->eZ,le_trans->fA,one_mul->fF,add_mul->fG,mul_assoc->fH,min_eq_right->fJ,mod_lt->fO,mul_add->fY,add_sub_cancel->gH,sub_self->gJ,pow_lt_pow_iff_right->gW,testBit_two_pow_mul->gZ,mul_div_cancel_left->hG,zero_mul->iA,le_mul_of_pos_left->iB,gcd_sub_self_right->iC,gcd_comm->iE,div_div_eq_div_mul->iF
open Nat.Coprime renaming gcd_mul_left_cancel_right->dL
open Option renaming map_some->gP
open Option.some renaming injEq->gI
open _root_.Go.Value renaming int->bC
open _root_.Go.Value.int renaming injEq->bZ
open _root_.Go.Value.slice renaming injEq->bW
open _root_.Go renaming Addr->bH,TypeId->bV,Value->dD,Program->dI,IntKind->dZ
open _root_.Go.Proofs.YtmbfcbbkbefgfaaGreatDoor renaming FCall->aZ,Heap->bB,Priv->eO,Norm->gC
namespace Go.Proofs.YtmbfcbbkbefgfaaGreatDoor
set_option maxRecDepth 20000
open Go
def Em:prog.underlying H0=some (.int .u8):=by kernel_rfl
def Z2:prog.underlying B1k=some .string:=by kernel_rfl
def pv:List Nat->Nat
 | []=>0
 | d::r=>d+1000000000*pv r
def C1b(ps:List Nat)(d:Nat):pv (ps++[d])=pv ps+10^(9*ps.length)*d:=by
 induction ps with
 | nil=>simp [pv]
 | cons p ps ih=>
  simp only [List.cons_append,pv,ih,fK]
  rw [show 9*(ps.length+1)=9*ps.length+9 by omega,dS,show 10^9=1000000000 by decide]
  grind
def A9s(ps:List Nat)(k:Nat):pv (ps.drop k)<=pv ps:=by
 induction ps generalizing k with
 | nil=>simp
 | cons p ps ih=>
  cases k with
  | zero=>simp
  | succ k=>have:=ih k;simp only [List.drop_succ_cons,pv];omega
def C1c{ps:List Nat}{k:Nat}(h:k<ps.length):pv (ps.drop k)=ps[k]+1000000000*pv (ps.drop (k+1)):=by
 rw [cG h];rfl
def pw(e:Nat):Nat:=if e=0 then 0 else 10^(e-1)
def A0h(e:Nat):pw (e+1)=10^e:=by simp [pw]
def B2b(e:Nat):pw (e+1)/10=pw e:=by
 rw [A0h]
 cases e with
 | zero=>simp [pw]
 | succ e=>rw [A0h,eX,Nat.mul_div_cancel _ (by decide)]
def C1w(V d:Nat)(hd:d<10):dd (10*V+d)=if V≠0\/d≠0 then dd V++[dch d] else dd V:=by
 by_cases h:10*V+d=0
 ·have a:V=0:=by omega
  have b:d=0:=by omega
  subst a b
  simp
 ·rw [iP (by omega),By h,show (10*V+d)/10=V by omega,show (10*V+d)%10=d by omega]
def B0e(n:Nat):(dd n).length=0↔n=0:=by
 constructor
 ·intro h
  by_cases a:n=0
  ·exact a
  ·exact absurd (aM h) (B7u a)
 ·rintro rfl;rw [K7];rfl
section
variable {h h':bB} {K:VP} {A B:Option bH} {n c n' c':Nat} {s s':Bool} {x y z:Int} {m:Nat} {p q:Rat} {a b w:QV}
def Vu(i:NI h s A n c z)(hz:ZB m z)(hm:m<=1000000000)(hK:K (.string (bs (O9 z.natAbs))) h):aZ prog Oj #[.agg #[.bool s,.slice A n c]] h K:=by
 have h0:=i.zero_iff
 have ao:=i.len hz hm
 refine FCall.pure (B0z _ _ _ _ ?_)
 unfold B5k
 refine E5 (fun e=>?_) (fun e=>?_)
 ·have:z=0:=h0.1 (by omega)
  subst this
  exact ⟨B5 h,hK⟩
 ·have ba:z≠0:=fun e1=>e (by have:=h0.2 e1;omega)
  generalize hZ:z.natAbs=Z at *
  have a8:Z<2^m:=by rw [<- hZ];exact hz
  rw [Ao (show Z≠0 by omega)] at hK
  have y:=i.mag
  rw [hZ] at y
  refine ⟨fun l p=>∃ (b:List Nat) (X:Nat) (A B:Option bH) (c J mc:Nat) (g:bB),l=[.slice A b.length c,.slice B J mc]/\h.le g/\eO p g C6 1 A b.length c (b.map fun (d:Nat)=>U32 (d:Int))/\Mg g B J X/\J<=100000000/\(∀ d∈b,d<1000000000)/\Z=pv b+10^(9*b.length)*X/\29*b.length<=m+29,fun l p=>match l with|[_,.slice B n _]=>B2v b32 p B n|_=>0,⟨[],Z,none,A,0,n,c,h,rfl,B5 h,Priv.nil _ _ _ _,y,ao,by simp,by simp [pv],by simp⟩,?_⟩
  rintro A1 n1 c1 B1 J mc p ⟨b,X,A1',B1',aj,ap,az,g,hl,L,P1,M1,q1,S,q,a3⟩
  obtain ⟨⟨rfl,rfl,rfl⟩,rfl,rfl,rfl⟩:(A1=A1'/\n1=b.length/\c1=aj)/\B1=B1'/\J=ap/\mc=az:=by simpa using hl
  have a9:=M1.len_zero (by decide)
  refine B8 (fun h1=>?_) (fun h1=>?_)
  ·have hX:X≠0:=by omega
   have a4:29*b.length<m:=by
    have h2:2^(29*b.length)<=10^(9*b.length):=by
     rw [Nat.pow_mul,Nat.pow_mul]
     exact eU (by decide) _
    have h3:10^(9*b.length)*1<=10^(9*b.length)*X:=eV _ (by omega)
    exact (gW (a:=2) (by decide)).1 (by omega)
   refine P1.call ?_
   refine Nh M1 (by decide) q1 ?_
   intro A2 m2 c2 h2 l2 k2 k3 M2 h3 P3
   refine ⟨_,_,_,_,rfl,?_⟩
   have R:((X:Int)%1000000000)=((X%1000000000:Nat):Int):=by omega
   have O:((X:Int)/1000000000)=((X/1000000000:Nat):Int):=by omega
   rw [O] at M2
   rw [R]
   refine Ea Ps P3 rfl rfl (by omega) (by omega) ?_
   intro A4 c4 W g4 l4 P4
   have M4:Mg g4 A2 m2 ((X/1000000000:Nat):Int):=M2.mono l4
   refine ⟨⟨b++[X%1000000000],X/1000000000,A4,A2,c4,m2,c2,g4,by simp,B0 L (B0 l2 l4),by simpa using P4,M4,by omega,?_,?_,?_⟩,?_⟩
   ·intro d hd
    rcases List.mem_append.1 hd with w|w
    ·exact S d w
    ·rw [List.mem_singleton.1 w];exact fO _ (by decide)
   ·rw [C1b,aH,dF,fY,dS,q,Nat.add_assoc,fH,<- fY,show 10^(9*1)=1000000000 by decide,Nat.mod_add_div]
   ·rw [aH,dF];omega
   ·show B2v b32 W A2 m2<B2v b32 p B1 J
    rw [Bh (M4.mono P4.le),Bh (M1.mono P1.le)]
    simp only [aC]
    exact Nat.div_lt_self (by omega) (by decide)
  ·have hX:X=0:=by omega
   subst hX
   rw [Nat.mul_zero,dV] at q
   have ac:SlV p A1 (b.map fun (d:Nat)=>U32 (d:Int)):=P1.slV
   have a7:b.length≠0:=by
    intro e0
    rw [aM e0] at q
    simp [pv] at q;omega
   have a2:∀ V,V<=Z->(dd V).length<=m:=by
    intro V hV
    apply S4.2
    have:2^m<=10^m:=eU (by decide) _
    omega
   have e1:B7 ((b.length:Int)-1)=(b.length:Int)-1:=C0 (by omega) (by omega)
   rw [e1]
   refine ⟨fun l W=>∃ (k:Nat) (A:Option bH) (n c:Nat) (g:bB),l=[.slice A n c,I ((k:Int)-1)]/\k<=b.length/\p.le g/\n=(dd (pv (b.drop k))).length/\eO W g H0 1 A n c (yv (dd (pv (b.drop k)))),fun l _=>(iAt l 1+1).toNat,⟨b.length,none,0,0,p,rfl,aY _,B5 p,by simp [pv,K7],by simpa [pv,K7,yv] using Priv.nil _ _ _ _⟩,?_⟩
   rintro A2 n2 c2 i2 W ⟨k,A2',au,aw,g4,ar,hk,lg,G,P2⟩
   obtain ⟨⟨rfl,rfl,rfl⟩,rfl⟩:(A2=A2'/\n2=au/\c2=aw)/\i2=(k:Int)-1:=by simpa using ar
   refine B8 (fun h2=>?_) (fun h2=>?_)
   ·obtain ⟨j,rfl⟩:∃ j,k=j+1:=⟨k-1,by omega⟩
    have ej:((j+1:Nat):Int)-1=(j:Int):=by omega
    rw [ej]
    have hj:j<b.length:=by omega
    have al:=C1c hj
    have H:b[j]<1000000000:=S _ (eC hj)
    have a5:=A9s b j
    refine ⟨fun l w=>∃ (e:Nat) (A:Option bH) (n c:Nat) (g:bB),l=[.slice A n c,U32 (pw e:Int)]/\e<=9/\p.le g/\n=(dd (pv (b.drop (j+1))*10^(9-e)+b[j]/10^e)).length/\eO w g H0 1 A n c (yv (dd (pv (b.drop (j+1))*10^(9-e)+b[j]/10^e))),fun l _=>(iAt l 1).toNat,⟨9,A2,n2,c2,g4,rfl,by omega,lg,?_,?_⟩,?_⟩
    ·rw [Nat.div_eq_of_lt (by simpa using H)];simpa using G
    ·rw [Nat.div_eq_of_lt (by simpa using H)];simpa using P2
    rintro A5 n5 c5 d w ⟨e,A5',an,ak,g5,av,he,r,t,P5⟩
    obtain ⟨⟨rfl,rfl,rfl⟩,rfl⟩:(A5=A5'/\n5=an/\c5=ak)/\d=(pw e:Int):=by simpa using av
    generalize hV:pv (b.drop (j+1))*10^(9-e)+b[j]/10^e=V at *
    refine B8 (fun Q=>?_) (fun Q=>?_)
    ·obtain ⟨f,rfl⟩:∃ f,e=f+1:=by
      cases e with
      | zero=>simp [pw] at Q
      | succ f=>exact ⟨f,rfl⟩
     have F:pw (f+1)=10^f:=A0h f
     have ay:0<10^f:=cX (by decide)
     have a6:10^f<=100000000:=by
      have:10^f<=10^8:=bL (by decide) (by omega)
      simpa using this
     have E:pv (b.drop (j+1))*10^(9-f)+b[j]/10^f=10*V+b[j]/10^f%10:=by
      rw [<- hV,show 9-f=(9-(f+1))+1 by omega,eX,eX,<- iF,fY]
      have:=eQ (b[j]/10^f) 10
      grind
     have M:10*V+b[j]/10^f%10<=Z:=by
      rw [<- E]
      have t1:10^(9-f)*10^f=1000000000:=by rw [<- dS,show 9-f+f=9 by omega]
      have t2:10^(9-f)<=1000000000:=by rw [<- t1];exact Nat.le_mul_of_pos_right _ ay
      have t3:pv (b.drop (j+1))*10^(9-f)<=pv (b.drop (j+1))*1000000000:=eV _ t2
      have t4:=eP b[j] (10^f)
      omega
     have ec:wu8 (G9 ((48:Int)+dO (G9 (cT (b[j]:Int) ((pw (f+1):Nat):Int))) 10))=((48+b[j]/10^f%10:Nat):Int):=by
      rw [F]
      have t1:cT (b[j]:Int) ((10^f:Nat):Int)=((b[j]/10^f:Nat):Int):=by rw [<- cP]
      rw [t1]
      have t2:b[j]/10^f<1000000000:=Nat.lt_of_le_of_lt (eP _ _) H
      clear t1
      generalize b[j]/10^f=D at t2 ⊢
      rw [P0 (n:=(D:Int)) (by omega) (by omega)]
      have t3:dO (D:Int) 10=((D%10:Nat):Int):=by
       rw [bY (by omega)];omega
      rw [t3,P0 (by omega) (by omega),A2o (by omega) (by omega)];omega
     have u:b[j]/10^f%10<10:=fO _ (by decide)
     have N:SlV w A1 (b.map fun (d:Nat)=>U32 (d:Int)):=ac.mono (B0 r P5.le)
     refine ⟨fun l Q=>∃ (A:Option bH) (n c:Nat) (g:bB),l=[.slice A n c]/\p.le g/\n=(dd (10*V+b[j]/10^f%10)).length/\eO Q g H0 1 A n c (yv (dd (10*V+b[j]/10^f%10))),?_,?_⟩
     ·obtain ⟨ad,af,C⟩:=SlV.at N (i:=j) (by simpa using hj)
      refine ⟨ad,af,by omega,by omega,(b[j]:Int),by rw [aC,cJ,C];simp,?_⟩
      refine B8 (fun e0=>absurd e0 (by omega)) (fun _=>?_)
      rw [ec]
      have o:=C1w V (b[j]/10^f%10) u
      have aq:=B0e V
      refine ⟨fun l T=>l=[.bool (decide (V≠0\/b[j]/10^f%10≠0))]/\T=w,B8 (fun T=>⟨?_,rfl⟩) (fun T=>⟨?_,rfl⟩),?_⟩
      ·have:V≠0:=by omega
       simp [this]
      ·have:V=0:=by omega
       have e2:∀ D:Nat,(((48+D:Nat):Int) != 48)=decide (V≠0\/D≠0):=by
        intro D
        rw [Bool.eq_iff_iff,bne_iff_ne,decide_eq_true_iff];omega
       rw [e2]
      rintro tb T ⟨ax,rfl⟩
      obtain rfl:tb=decide (V≠0\/b[j]/10^f%10≠0):=by simpa using ax
      refine B8 (fun h8=>?_) (fun h8=>?_)
      ·rw [iP h8] at o
       have ag:=a2 _ M
       rw [o,aH,dF] at ag
       refine Ea Ha P5 rfl rfl (by omega) (by omega) ?_
       intro A9 c9 h9 g9 l9 P9
       refine ⟨A9,n5+1,c9,g9,rfl,B0 r l9,by rw [o,aH,t];rfl,?_⟩
       rw [o,V9]
       have:yv [dch (b[j]/10^f%10)]=[Y ((48+b[j]/10^f%10:Nat):Int)]:=by
        simp only [yv,List.map_cons,List.map_nil,Fb u]
       rw [this];exact P9
      ·rw [iN h8] at o
       exact ⟨A5,n5,c5,g5,rfl,r,by rw [o];exact t,by rw [o];exact P5⟩
     ·rintro A9 n9 c9 h9 ⟨A9',ab,aa,g9,a1,am,a0,P9⟩
      obtain ⟨rfl,rfl,rfl⟩:A9=A9'/\n9=ab/\c9=aa:=by simpa using a1
      have ed:G9 (cT ((pw (f+1):Nat):Int) 10)=((pw f:Nat):Int):=by
       have t1:cT ((pw (f+1):Nat):Int) 10=((pw (f+1)/10:Nat):Int):=by rw [eE,bJ (by omega)];rfl
       rw [t1,B2b,P0 (by omega) (by have:=B2b f;rw [F] at this;omega)]
      rw [ed]
      refine ⟨⟨f,A9,n9,c9,g9,rfl,by omega,am,by rw [E];exact a0,by rw [E];exact P9⟩,?_⟩
      simp only [iAt,aG,aI,aC]
      have:=B2b f
      rw [F] at this ⊢
      omega
    ·have ai:e=0:=by
      cases e with
      | zero=>rfl
      | succ f=>rw [A0h] at Q;have:0<10^f:=cX (by decide);omega
     subst ai
     have ah:V=pv (b.drop j):=by rw [<- hV,al];simp;omega
     rw [ah] at P5 t
     rw [C0 (by omega) (by omega)]
     exact ⟨⟨j,A5,n5,c5,g5,rfl,by omega,r,t,P5⟩,by simp only [iAt,aG,aI];omega⟩
   ·have ae:k=0:=by omega
    subst ae
    rw [cO,<- q] at P2 G
    refine Nb Ha.und Em Z2 P2.slV G ?_
    exact ⟨_,rfl,B0 L (B0 P1.le (B0 lg P2.le)),hK⟩
end
def Za(a:Array UInt8):({ data:=a }:ByteArray)=bs a.toList:=by simp [bs]
def Dh{l:List UInt8}(h:∀ c∈l,J2 c):N8 l<2^(4*l.length):=by
 have b:=Qq h
 have d:10^l.length<=16^l.length:=eU (by decide) _
 have a:16^l.length=2^(4*l.length):=by rw [Nat.pow_mul]
 omega
def B9b{h:bB}{A:Option bH}{n m:Nat}{X:Nat}(M:Mg h A n X)(hx:X<2^m)(hm:m<=1000000000):n<=100000000:=by
 have:=B32 (j:=32) (by decide) M (m:=m) (by have:((X:Nat):Int)<((2^m:Nat):Int):=by omega
                                            simpa using this)
 omega
section
variable {h h':bB} {K:VP} {A B:Option bH} {n c n' c':Nat} {s s':Bool} {x y z:Int} {m:Nat} {p q:Rat} {a b w:QV} {l:List UInt8}
def If(hl:l.length<=200000000)(hK:∀ s A n c ok h',h.le h'->(ok=true->(∀ c∈l,J2 c)/\l≠[]/\NI h' s A n c (N8 l))->(ok=false->¬ ((∀ c∈l,J2 c)/\l≠[]))->K (.tuple #[.agg #[.bool s,.slice A n c],.bool ok]) h'):aZ prog Ch #[.string (bs l)] h K:=by
 refine Xx _ ?_
 unfold Wy
 simp only [L6]
 refine ⟨fun L E=>∃ (i:Nat) (A:Option bH) (n c:Nat),L=[.slice A n c,I i,.bool false,.slice none 0 0]/\i<=l.length/\h.le E/\(∀ c∈l.take i,J2 c)/\Mg E A n (N8 (l.take i))/\n<=c,fun L _=>l.length-(iAt L 1).toNat,⟨0,none,0,0,rfl,by omega,B5 h,by simp,Mag.zero,aY _⟩,?_⟩
 rintro A1 n1 c1 R ab A2 n2 c2 E ⟨i,A1',ag,T,hL,hi,u,d,M,C⟩
 obtain ⟨⟨rfl,rfl,rfl⟩,rfl,rfl,rfl,rfl,rfl⟩:(A1=A1'/\n1=ag/\c1=T)/\R=(i:Int)/\ab=false/\A2=none/\n2=0/\c2=0:=by simpa using hL
 refine B8 (fun h1=>?_) (fun h1=>?_)
 ·refine ⟨fun L S=>∃ (k:Nat),L=[I ((i+k:Nat):Int),U32 (N8 ((l.drop i).take k):Nat),U32 ((10^k:Nat):Int),.bool false,.slice none 0 0]/\0<k/\k<=9/\i+k<=l.length/\S=E/\(∀ c∈(l.drop i).take k,J2 c),?_,?_⟩
  ·refine ⟨fun L S=>∃ (k:Nat),L=[I ((i+k:Nat):Int),U32 (N8 ((l.drop i).take k):Nat),U32 ((10^k:Nat):Int),I k,.bool false,.slice none 0 0]/\k<=9/\i+k<=l.length/\S=E/\(∀ c∈(l.drop i).take k,J2 c),fun L _=>9-(iAt L 3).toNat,⟨0,by simp [N8],by omega,by omega,rfl,by simp⟩,?_⟩
   rintro Z v f k2 y A3 W c3 V ⟨k,r,w,o,rfl,a⟩
   obtain ⟨rfl,rfl,rfl,rfl,rfl,rfl,rfl,rfl⟩:Z=((i+k:Nat):Int)/\v=((N8 ((l.drop i).take k):Nat):Int)/\f=((10^k:Nat):Int)/\k2=(k:Int)/\y=false/\A3=none/\W=0/\c3=0:=by simpa using r
   refine B8 (fun h2=>B8 (fun h3=>?_) (fun h3=>?_)) (fun h2=>?_)
   ·have D:i+k<l.length:=by omega
    have g:(bs l)[((i+k:Nat):Int).toNat]? = some l[i+k]:=by rw [aC,Ry,cY D]
    have q:¬ J2 l[i+k]->∀ s A n c,K (.tuple #[.agg #[.bool s,.slice A n c],.bool false]) V:=by
     intro hb s A n c
     exact hK _ _ _ _ _ _ u (fun e=>by cases e) (fun _ ⟨F,_⟩=>hb (F _ (eC D)))
    refine ⟨l[i+k],⟨by omega,g⟩,B8 (fun J=>?_) (fun J=>?_)⟩
    ·exact q (fun hd=>by unfold J2 at hd;omega) _ _ _ _
    ·refine ⟨l[i+k],⟨by omega,g⟩,B8 (fun F=>?_) (fun F=>?_)⟩
     ·exact q (fun hd=>by unfold J2 at hd;omega) _ _ _ _
     ·have O:J2 l[i+k]:=by unfold J2;omega
      refine ⟨l[i+k],⟨by omega,g⟩,?_⟩
      have j:(l.drop i).take (k+1)=(l.drop i).take k++[l[i+k]]:=by
       rw [dX (by rw [aN];omega)];simp
      have X:N8 ((l.drop i).take k)<10^k:=by
       have:=Qq a
       rwa [aF,aN,aJ (by omega)] at this
      have af:10^k<=100000000:=by
       have:10^k<=10^8:=bL (by decide) (by omega)
       simpa using this
      have z:B7 (((i+k:Nat):Int)+1)=((i+(k+1):Nat):Int):=by rw [C0 (by omega) (by omega)];omega
      have e2:B7 ((k:Int)+1)=((k+1:Nat):Int):=by rw [C0 (by omega) (by omega)];omega
      have e3:G9 (((10^k:Nat):Int)*10)=((10^(k+1):Nat):Int):=by rw [eX,P0 (by omega) (by omega)];omega
      have N:G9 (G9 (((N8 ((l.drop i).take k):Nat):Int)*10)+G9 (wu8 ((l[i+k].toNat:Int)-48)))=((N8 ((l.drop i).take (k+1)):Nat):Int):=by
       rw [j,Oq,A2o (by omega) (by omega),P0 (n:=(l[i+k].toNat:Int)-48) (by omega) (by omega),P0 (n:=((N8 ((l.drop i).take k):Nat):Int)*10) (by omega) (by omega),P0 (by omega) (by omega)];omega
      rw [z,e2,e3,N]
      refine ⟨⟨k+1,rfl,by omega,by omega,rfl,?_⟩,by simp only [iAt,aG,aI];omega⟩
      rw [j]
      intro c C
      rcases List.mem_append.1 C with p|p
      ·exact a c p
      ·rw [List.mem_singleton.1 p];exact O
   ·exact ⟨k,rfl,by omega,w,o,rfl,a⟩
   ·exact ⟨k,rfl,by omega,w,o,rfl,a⟩
  ·rintro Z v f B A3 W c3 t ⟨k,r,ai,w,o,rfl,a⟩
   obtain ⟨rfl,rfl,rfl,rfl,rfl,rfl,rfl⟩:Z=((i+k:Nat):Int)/\v=((N8 ((l.drop i).take k):Nat):Int)/\f=((10^k:Nat):Int)/\B=false/\A3=none/\W=0/\c3=0:=by simpa using r
   have X:N8 ((l.drop i).take k)<10^k:=by
    have:=Qq a
    rwa [aF,aN,aJ (by omega)] at this
   have af:0<10^k/\10^k<=1000000000:=by
    have:10^k<=10^9:=bL (by decide) (by omega)
    exact ⟨cX (by decide),by simpa using this⟩
   have ad:((l.drop i).take k).length=k:=by rw [aF,aN];omega
   have j:l.take (i+k)=l.take i++(l.drop i).take k:=gX
   have G:∀ c∈l.take (i+k),J2 c:=by
    rw [j];intro c C
    rcases List.mem_append.1 C with p|p
    ·exact d c p
    ·exact a c p
   have Q:N8 (l.take (i+k))=N8 (l.take i)*10^k+N8 ((l.drop i).take k):=by rw [j,Gt,ad]
   have ae:N8 (l.take i)<2^(4*l.length):=cM (Dh d) (bL (by decide) (by rw [aF];omega))
   have aj:N8 (l.take (i+k))<2^(4*l.length):=cM (Dh G) (bL (by decide) (by rw [aF];omega))
   have ah:=B9b M ae (by omega)
   refine Bi Ps rfl ?_
   intro H ac
   refine ⟨_,_,_,rfl,?_⟩
   have lf:=Heap.le_put (h:=t) (b:=H) (.cells #[U32 ((10^k:Nat):Int)] C6) ac
   have Mf:Mg (t.put H (.cells #[U32 ((10^k:Nat):Int)] C6)) (some ⟨H,0,none⟩) 1 ((10^k:Nat):Int):=
    ⟨[((10^k:Nat):Int)],rfl,SlI.new t H [((10^k:Nat):Int)] C6 _,Dig.one ⟨by omega,by show _<(4294967296:Int);omega⟩,by simp only [gC,List.getLast?_singleton,ne_eq,gI];omega,Z1 _ _⟩
   refine Up (M.mono lf) Mf ah (by omega) ?_
   intro A4 m4 c4 J l4 k4 M4
   refine ⟨_,_,_,rfl,?_⟩
   refine Bi Ps rfl ?_
   intro bv aa
   refine ⟨_,_,_,rfl,?_⟩
   have lv:=Heap.le_put (h:=J) (b:=bv) (.cells #[U32 ((N8 ((l.drop i).take k):Nat):Int)] C6) aa
   refine Ak (xs:=[((N8 ((l.drop i).take k):Nat):Int)]) (SlI.new J bv _ C6 _) (Dig.one ⟨by omega,by show _<(4294967296:Int);omega⟩) (aY _) (by simp) ?_
   intro m5 k5 M5
   refine ⟨_,_,_,rfl,?_⟩
   rw [Z1] at M5
   have N:((N8 (l.take i):Nat):Int)*((10^k:Nat):Int)=((N8 (l.take i)*10^k:Nat):Int):=by rw [cD]
   rw [N] at M4
   refine Wi (M4.mono lv) M5 (B9b M4 (m:=4*l.length) (by omega) (by omega)) (by simp at k5;omega) ?_
   intro A6 m6 c6 p l6 k6 M6
   have e6:((N8 (l.take i)*10^k:Nat):Int)+((N8 ((l.drop i).take k):Nat):Int)=((N8 (l.take (i+k)):Nat):Int):=by rw [Q];omega
   rw [e6] at M6
   exact ⟨_,_,_,rfl,⟨i+k,A6,m6,c6,rfl,o,B0 u (B0 lf (B0 l4 (B0 lv l6))),G,M6,k6⟩,by simp only [iAt,aG,aI];omega⟩
 ·have:i=l.length:=by omega
  subst this
  rw [aW] at d M
  refine O5 M C ?_
  intro s1 R
  refine ⟨_,_,_,_,rfl,?_⟩
  have e:(!((bs l).toList==({ data:=#[] }:ByteArray).toList))=decide (l≠[]):=by
   rw [Za,Ow];simp
  rw [e]
  refine hK _ _ _ _ _ _ u (fun z=>⟨d,by simpa using z,R⟩) (fun z=>?_)
  have:l=[]:=by simpa using z
  rintro ⟨_,F⟩;exact F this
def Di{n m:Nat}(h:n<2^m):(O9 n).length<=m+1:=by
 rw [Tp (by omega)]
 have:2^m<=10^(m+1):=fA (eU (by decide) m) (bL (by decide) (by omega))
 omega
def A2x(i:NQ h w q)(hq:Sz m q)(hm:m<=1000000000)(hK:K (.string (bs (K9 q))) h):aZ prog Qj #[w.v] h K:=by
 have f:=i.num.sg
 have c:=i.den_zero
 refine B8d _ _ _ _ _ _ _ _ ?_
 unfold C4c
 have o:=Di hq.num
 have p:=Di (n:=q.den) (m:=m) (by have:=hq.den;unfold ZB at this;simpa using this)
 refine Vu i.num hq.num hm ⟨_,rfl,?_⟩
 refine ⟨fun l g=>l=[.string (bs (Mz q.num))]/\g=h,Br.of (fun e=>?_) (fun e=>?_),?_⟩
 ·have a:q.num<0:=by rw [f] at e;simpa using e
  refine ⟨?_,?_,rfl⟩
  ·rw [Za,L6,L6];simp;omega
  ·rw [Za,Ox];unfold Mz;rw [iP a];rfl
 ·have a:¬ q.num<0:=by rw [f] at e;simpa using e
  exact ⟨by unfold Mz;rw [iN a],rfl⟩
 rintro t s ⟨j,rfl⟩
 obtain rfl:t=bs (Mz q.num):=by simpa using j
 have r:(Mz q.num).length<=m+2:=by
  unfold Mz;split
  ·rw [fK];omega
  ·omega
 refine B8 (fun e=>?_) (fun e=>?_)
 ·have d:¬ q.den=1:=fun k=>by have:=c.2 k;omega
  have b:=i.den
  rw [iN d] at b
  refine Vu b hq.den hm ⟨_,rfl,?_,?_,?_⟩
  ·rw [Za,L6,L6,cU];simp;omega
  ·rw [Za,Ox,L6,L6,cU];simp;omega
  ·rw [Za,Ox,Ox,cU]
   unfold K9 at hK
   rw [iN d] at hK
   exact hK
 ·have d:q.den=1:=c.1 (by omega)
  unfold K9 at hK
  rw [iP d,cC] at hK
  exact hK
def C11{t a r a' r':List UInt8}(h1:t=a++r)(h2:∀ c∈a,c≠47)(h3:r=[]\/r.head? = some 47)(g1:t=a'++r')(g2:∀ c∈a',c≠47)(g3:r'=[]\/r'.head? = some 47):a=a'/\r=r':=by
 induction a generalizing t a' with
 | nil=>
  cases a' with
  | nil=>simp at h1 g1;exact ⟨rfl,h1.symm.trans g1⟩
  | cons c a'=>
   exfalso
   subst h1
   rcases h3 with h3|h3
   ·subst h3;simp at g1
   ·rw [g1] at h3
    simp at h3
    exact g2 c (by simp) h3
 | cons c a ih=>
  cases a' with
  | nil=>
   exfalso
   subst g1
   rcases g3 with g3|g3
   ·subst g3;simp at h1
   ·rw [h1] at g3
    simp at g3
    exact h2 c (by simp) g3
  | cons c' a'=>
   subst h1
   simp at g1
   obtain ⟨rfl,g1⟩:=g1
   obtain ⟨e,d⟩:=ih rfl (fun x b=>h2 x (by simp [b])) g1 (fun x b=>g2 x (by simp [b]))
   exact ⟨by rw [e],d⟩
def B1n(q:Rat):K9 q=(if q.num<0 then [45] else [])++(O9 q.num.natAbs++(if q.den=1 then [] else 47::O9 q.den)):=by
 unfold K9 Mz;split<;>simp
def B46(n:Nat):∀ c∈O9 n,c≠47:=fun c a=>(A85 (Ov n c a)).2
def Vn{neg:Bool}{q:Rat}(h:neg=decide (q.num<0)):Rat.divInt (if neg=true then -((q.num.natAbs:Nat):Int) else ((q.num.natAbs:Nat):Int)) q.den=q:=by
 have:(if neg=true then -((q.num.natAbs:Nat):Int) else ((q.num.natAbs:Nat):Int))=q.num:=by
  rw [h]
  by_cases a:q.num<0
  ·rw [iP (by simpa using a)];omega
  ·rw [iN (by simpa using a)];omega
 rw [this,Rat.num_divInt_den]
def A3f(hl:l.length<=100000000)(hK1:∀ q,l=K9 q->∀ w h',h.le h'->NQ h' w q->K (.tuple #[w.v,.bool true]) h')(hK0:¬ IsNum l->∀ (w:QV) h',h.le h'->K (.tuple #[w.v,.bool false]) h'):aZ prog A19 #[.string (bs l)] h K:=by
 refine B8f _ ?_
 unfold C4e
 simp only [L6]
 refine ⟨fun L h'=>L=[.bool (l.head? == some 45)]/\h'=h,B8 (fun D=>?_) (fun D=>?_),?_⟩
 ·cases l with
  | nil=>simp at D
  | cons c r=>
   refine ⟨c,⟨by omega,by rw [Ry];rfl⟩,?_,rfl⟩
   have:((c.toNat:Int)==45)=((c::r).head? == some 45):=by
    rw [Bool.eq_iff_iff,beq_iff_eq,beq_iff_eq,List.head?_cons,gI]
    constructor
    ·intro e;apply UInt8.toNat_inj.1;show c.toNat=45;omega
    ·rintro rfl;rfl
   rw [this]
 ·have:l=[]:=aM (by omega)
  subst this;exact ⟨rfl,rfl⟩
 rintro neg hp ⟨hL,rfl⟩
 obtain rfl:neg=(l.head? == some 45):=by simpa using hL
 refine ⟨fun L h'=>L=[.string (bs (if (l.head? == some 45) then l.drop 1 else l))]/\h'=hp,Br.of (fun e=>?_) (fun e=>?_),?_⟩
 ·have ah:1<=l.length:=by
   cases l with
   | nil=>simp at e
   | cons _ _=>simp
  refine ⟨⟨by omega,by omega⟩,?_,rfl⟩
  rw [iP e,O7,aL (by rw [aN];show _<=l.length-1;exact aY _)];rfl
 ·rw [iN (by rw [e];simp)];exact ⟨rfl,rfl⟩
 rintro t0 H ⟨ad,rfl⟩
 generalize ht:(if (l.head? == some 45) then l.drop 1 else l)=t at *
 obtain rfl:t0=bs t:=by simpa using ad
 have aj:t.length<=l.length:=by rw [<- ht];split<;>simp
 have ae:l=(if (l.head? == some 45) then [45] else [])++t:=by
  rw [<- ht]
  cases l with
  | nil=>simp
  | cons c r=>
   by_cases p:c=45
   ·subst p;simp
   ·simp [p]
 have d:∀ q,l=K9 q->(l.head? == some 45)=decide (q.num<0)/\t=O9 q.num.natAbs++(if q.den=1 then [] else 47::O9 q.den):=by
  intro q e
  have f:=Hq q
  rw [<- e] at f
  have hh:=f.head
  refine ⟨hh.symm,?_⟩
  have o:=ae
  rw [<- hh,e,B1n q] at o
  by_cases A:q.num<0
  ·simp [A] at o;exact o.symm
  ·simp [A] at o;exact o.symm
 refine ⟨fun L h'=>∃ a:Nat,L=[I a]/\h'=H/\a<=t.length/\(∀ c∈t.take a,c≠47)/\(t.drop a=[]\/(t.drop a).head? = some 47),?_,?_⟩
 ·simp only [L6]
  refine ⟨fun L h'=>∃ i:Nat,L=[I t.length,I i]/\h'=H/\i<=t.length/\(∀ c∈t.take i,c≠47),fun L _=>t.length-(iAt L 1).toNat,⟨0,rfl,rfl,by omega,by simp⟩,?_⟩
  rintro ac i1 ak ⟨i,ab,rfl,hi,k⟩
  obtain ⟨rfl,rfl⟩:ac=(t.length:Int)/\i1=(i:Int):=by simpa using ab
  refine B8 (fun D=>?_) (fun D=>?_)
  ·have C:i<t.length:=by omega
   refine ⟨t[i],⟨by omega,by rw [aC,Ry,cY C]⟩,E5 (fun h2=>?_) (fun h2=>?_)⟩
   ·refine ⟨i,rfl,rfl,hi,k,.inr ?_⟩
    rw [List.head?_drop,cY C]
    congr 1
    apply UInt8.toNat_inj.1
    show t[i].toNat=47
    omega
   ·rw [C0 (by omega) (by omega)]
    refine ⟨⟨i+1,rfl,rfl,by omega,?_⟩,by simp only [iAt,aG,aI];omega⟩
    rw [dX C]
    intro c p
    rcases List.mem_append.1 p with O|O
    ·exact k c O
    ·rw [List.mem_singleton.1 O]
     intro e;rw [e] at h2;exact h2 rfl
  ·have:i=t.length:=by omega
   subst this
   exact ⟨t.length,rfl,rfl,aY _,k,.inl (by simp)⟩
 rintro ai W ⟨a,Z,rfl,an,k,n⟩
 obtain rfl:=sI1 Z
 simp only [L6,O7,aC,cO,bX]
 refine ⟨⟨by omega,by omega⟩,?_⟩
 have g:t=t.take a++t.drop a:=(cL a t).symm
 have b:∀ q,l=K9 q->t.take a=O9 q.num.natAbs/\t.drop a=(if q.den=1 then [] else 47::O9 q.den):=by
  intro q e
  refine C11 g k n (d q e).2 (B46 _) ?_
  split
  ·left;rfl
  ·right;rfl
 refine If (by rw [aF];omega) ?_
 intro s1 A1 n1 c1 am D M k1 k0
 refine ⟨_,_,_,_,_,rfl,Br.not (Br.of (fun e=>?_) (fun e=>?_))⟩
 ·obtain ⟨dg,ao,iN⟩:=k1 e
  have G:ZB (4*l.length) (N8 (t.take a):Int):=by
   unfold ZB
   rw [cU]
   exact cM (Dh dg) (bL (by decide) (by rw [aF];omega))
  have im:=iN.mag
  rw [cU] at im
  refine O5 im iN.cap ?_
  intro s2 i2
  refine ⟨_,_,_,_,rfl,?_⟩
  have m:ZB (4*l.length) (if (l.head? == some 45)=true then -((N8 (t.take a):Nat):Int) else ((N8 (t.take a):Nat):Int)):=by
   split
   ·exact G.neg
   ·exact G
  have N:∀ (E:Rat) (w:QV) (s:bB),W.le s->NQ s w E->Sz (4*l.length+1) E->(∀ q,l=K9 q->q=E)->
   aZ prog Qj #[w.v] s (fun r5 J=>∃ (t79:ByteArray),r5= .string t79/\Heap.le s J/\K (.tuple #[w.v,.bool (ByteArray.toList t79==ByteArray.toList (bs l))]) J):=by
   intro E w s Q R aa X
   refine A2x R aa (by omega) ⟨_,rfl,B5 _,?_⟩
   rw [Ow]
   by_cases p:K9 E=l
   ·rw [decide_eq_true p]
    exact hK1 E p.symm w s Q R
   ·rw [decide_eq_false p]
    refine hK0 ?_ w s Q
    rintro ⟨q,e⟩
    exact p (by rw [<- X q e];exact e.symm)
  refine B8 (fun o=>?_) (fun o=>?_)
  ·have e3:B7 ((a:Int)+1)=((a+1:Nat):Int):=by rw [C0 (by omega) (by omega)];omega
   rw [e3]
   refine ⟨⟨by omega,by omega⟩,?_⟩
   rw [aC,aL (show (t.drop (a+1)).length<=t.length-(a+1) by rw [aN];omega)]
   have hb:t.drop a=47::t.drop (a+1):=by
    rcases n with A|A
    ·have:=congrArg gO A;rw [aN] at this;simp at this;omega
    ·rw [List.head?_drop] at A
     have z:a<t.length:=by omega
     rw [cY z] at A
     rw [cG z]
     congr 1
     simpa using A
   refine If (by rw [aN];omega) ?_
   intro s3 A3 n3 c3 al O S j1 j0
   have j:∀ q,l=K9 q->q.den≠1/\t.drop (a+1)=O9 q.den:=by
    intro q e
    have:=(b q e).2
    rw [hb] at this
    by_cases B:q.den=1
    ·simp [B] at this
    ·simp [B] at this;exact ⟨B,this⟩
   refine ⟨_,_,_,_,_,rfl,Br.not (Br.of (fun V=>?_) (fun V=>?_))⟩
   ·obtain ⟨af,ag,iD⟩:=j1 V
    refine A37 iD ⟨_,rfl,E5 (fun e5=>?_) (fun e5=>?_)⟩
    ·refine hK0 ?_ ⟨false,none,0,0,false,none,0,0⟩ _ (B0 M S)
     rintro ⟨q,e⟩
     have T:=(j q e).2
     have h7:((N8 (t.drop (a+1)):Nat):Int)=0:=Int.sign_eq_zero_iff_zero.1 e5
     rw [T,Bb] at h7
     exact q.den_nz (by omega)
    ·have u:((N8 (t.drop (a+1)):Nat):Int)≠0:=fun e6=>e5 (by rw [e6];rfl)
     have y:ZB (4*l.length) (N8 (t.drop (a+1)):Int):=by
      unfold ZB
      rw [cU]
      exact cM (Dh af) (bL (by decide) (by rw [aN];omega))
     refine Nz (i2.mono S) iD u m y (by omega) ?_
     intro w s Q R
     refine ⟨_,_,_,_,_,_,_,_,rfl,?_⟩
     refine N _ w s (B0 M (B0 S Q)) R ((U3 u m y).mono (by omega)) ?_
     intro q e
     rw [(b q e).1,(j q e).2,Bb,Bb]
     exact (Vn (d q e).1).symm
   ·refine hK0 ?_ ⟨false,none,0,0,false,none,0,0⟩ _ (B0 M S)
    rintro ⟨q,e⟩
    exact j0 V (by rw [(j q e).2];exact ⟨Ov _,Vt _⟩)
  ·have F:a=t.length:=by omega
   refine N _ ⟨s2,A1,n1,c1,false,none,0,0⟩ D M (NQ.whole i2) (Sz.int (m.mono (by omega)) (by omega)) ?_
   intro q e
   have T:=(b q e).2
   rw [F,fL] at T
   have B:q.den=1:=by
    by_cases B:q.den=1
    ·exact B
    ·simp [B] at T
   rw [(b q e).1,Bb]
   have:=Vn (d q e).1
   rw [B] at this
   rw [<- Ke]
   exact this.symm
 ·refine hK0 ?_ ⟨false,none,0,0,false,none,0,0⟩ _ M
  rintro ⟨q,o⟩
  exact k0 e (by rw [(b q o).1];exact ⟨Ov _,Vt _⟩)
def A7z(hl:l.length<=100000000)(hK:∀ w h',h.le h'->NQ h' w (rv l)->K w.v h'):aZ prog A8b #[.string (bs l)] h K:=by
 refine C2i _ ?_
 unfold C7d
 refine A3f hl ?_ ?_
 ·intro q e w b a d
  refine ⟨_,_,_,_,_,_,_,_,_,rfl,Br.not ?_⟩
  refine hK w b a ?_
  rw [e,Hx];exact d
 ·intro c w b a
  refine ⟨_,_,_,_,_,_,_,_,_,rfl,Br.not ?_⟩
  refine hK ⟨false,none,0,0,false,none,0,0⟩ b a ?_
  rw [B25 c];exact NQ.zero
end
def ndg(x:Nat):Nat:=x*78913/262144
def B99:∀ x,x<65->2^x<=10^(ndg x+1)/\(ndg x=0\/10^(ndg x-1)<=2^(x-1))/\ndg x<=19:=by decide
def A47{n k:Nat}(h1:10^k<=n)(h2:n<10^(k+1)):(dd n).length=k+1:=by
 have a:=(S4 (n:=n) (k:=k+1)).2 h2
 have b:¬ (dd n).length<=k:=fun e=>by have:=S4.1 e;omega
 omega
def C3k{d:Nat}(h0:d≠0)(h:d<2^64):(dd d).length=ndg (O8 d)+(if 10^ndg (O8 d)<=d then 1 else 0):=by
 have f:=Iw h
 obtain ⟨j,g⟩:=Ff h0
 obtain ⟨e,b,i⟩:=B99 (O8 d) (by omega)
 split
 ·rename_i a
  exact A47 a (by omega)
 ·rename_i a
  rcases b with b|b
  ·rw [b] at a;simp at a;omega
  ·obtain ⟨k,hk⟩:∃ k,ndg (O8 d)=k+1:=by
    by_cases c:ndg (O8 d)=0
    ·rw [c] at a;simp at a;omega
    ·exact ⟨ndg (O8 d)-1,by omega⟩
   rw [hk] at a b ⊢
   rw [gH] at b
   rw [dV]
   exact A47 (by omega) (by omega)
def C1d(w n:Nat):pad (w+2) n=pad w (n/100)++[dch (n/10%10),dch (n%10)]:=by
 rw [Tc,Tc,iF];simp
def B2i(n:Nat)(h:n=0):pad 0 n=[]:=by subst h;simp [pad,K7]
abbrev b64:Int:=18446744073709551616
abbrev Mw(h:bB)(A:Option bH)(len:Nat)(n:Int):Prop:=Mag .u64 b64 h A len n
structure Win (k:dZ) (h g:bB) (b:Nat) (e:bV) (A:Option bH) (pre:List dD) (xs:List Int) (post:List dD):Prop where
 free:g b=none
 eq:h=g.put b (.cells (pre++xs.map (bC k)++post).toArray e)
 at_:xs=[]\/A=some ⟨b,pre.length,none⟩
section
variable {k:dZ} {h g:bB} {b:Nat} {e:bV} {A:Option bH} {pre post:List dD} {xs:List Int}
def Win.le(w:Win k h g b e A pre xs post):g.le h:=by rw [w.eq];exact Heap.le_put _ w.free
def Win.sl(w:Win k h g b e A pre xs post):SlI k h A xs:=by
 rcases w.at_ with rfl|f
 ·exact SlI.nil
 ·right
  refine ⟨_,f,fun i v a=>?_⟩
  rw [w.eq,E6,E9]
  have d:i<(xs.map (bC k)).length:=by
   by_cases c:i<(xs.map (bC k)).length
   ·exact c
   ·rw [cW (by omega)] at a;cases a
  simp only [dG]
  rw [aR,gS (by omega),cK,List.getElem?_append_left d]
  exact a
def Win.store{P:dI}{t:bV}(one:P.cellsOf t=1/\(P.info? t).isSome=true)(w:Win k h g b e A pre xs post){a:bH}(ha:A=some a){i v:Int}(h0:0<=i)(h1:i<xs.length){K:Unit->bB->Prop}
 (x:∀ h',Win k h' g b e A pre (xs.set i.toNat v) post->K () h'):wpH P (dP t (.pointer (some (eM a (i.toNat*1)))) (.int k v)) K h:=by
 have d:i.toNat<xs.length:=by omega
 have c:A=some ⟨b,pre.length,none⟩:=by
  rcases w.at_ with rfl|c
  ·simp at d
  ·exact c
 rw [ha] at c
 cases c
 rw [w.eq,E6,cJ]
 refine Eo one.1 one.2 rfl rfl (by simp;omega) ?_
 refine x _ ⟨w.free,?_,.inr ha⟩
 have:(pre++xs.map (bC k)++post).toArray.setIfInBounds (pre.length+i.toNat) (.int k v)=(pre++(xs.set i.toNat v).map (bC k)++post).toArray:=by
  rw [List.map_set]
  simp only [List.setIfInBounds_toArray,aR]
  congr 1
  rw [fW _ _ (by omega),cK,List.set_append_left _ _ (by simpa using d)]
 rw [this]
def Win.storeN{P:dI}{t:bV}(one:P.cellsOf t=1/\(P.info? t).isSome=true)(w:Win k h g b e A pre xs post){a:bH}(ha:A=some a){i:Nat}{v:Int}(h1:i<xs.length){K:Unit->bB->Prop}
 (x:∀ h',Win k h' g b e A pre (xs.set i v) post->K () h'):wpH P (dP t (.pointer (some (eM a (i*1)))) (.int k v)) K h:=by
 have:=w.store one ha (i:=(i:Int)) (v:=v) (K:=K) (by omega) (by omega) (by simpa using x)
 simpa using this
def Win.call{P:dI}{f:FuncId}{args:Array dD}(w:Win k h g b e A pre xs post){K:VP}(x:aZ P f args g (fun r h0=>∀ h',Win k h' h0 b e A pre xs post->K r h')):aZ P f args h K:=by
 rw [w.eq]
 exact FCall.frame w.free x fun r h0 a c=>c _ ⟨a,rfl,w.at_⟩
def Win.blk(k:dZ)(e:bV){g:bB}{b:Nat}(hb:g b=none)(zs:List Int):Win k (Go.Proofs.YtmbfcbbkbefgfaaGreatDoor.blk k e g b zs) g b e (some ⟨b,0,none⟩) [] zs []:=
 ⟨hb,by simp [Go.Proofs.YtmbfcbbkbefgfaaGreatDoor.blk],.inr rfl⟩
def Win.sub(w:Win k h g b e A pre xs post){l m c:Nat}(hl:l<=m)(hm:m<=xs.length)(hc:xs.length<=c):
 Win k h g b e (H9 A c l 1) (pre++(xs.take l).map (bC k)) ((xs.drop l).take (m-l)) ((xs.drop m).map (bC k)++post):=by
 refine ⟨w.free,?_,?_⟩
 ·rw [w.eq]
  congr 3
  have:xs=xs.take l++((xs.drop l).take (m-l)++xs.drop m):=by
   have a:xs.drop m=(xs.drop l).drop (m-l):=by rw [dJ];congr 1;omega
   rw [a,cL,cL]
  conv=>lhs;rw [this]
  simp [dQ,aR]
 ·by_cases f:m-l=0
  ·left;simp [f]
  ·right
   rcases w.at_ with rfl|d
   ·simp at hm;omega
   ·unfold H9
    rw [iN (by omega),d]
    simp only [gP,E6,cJ,aH,fU,aF]
    rw [aJ (by omega)]
def Win.whole{h' g':bB}(w:Win k h g b e A pre xs post){l m:Nat}(hl:l<=m)(hm:m<=xs.length){B:Option bH}{ys:List Int}(hy:ys.length=m-l)(v:Win k h' g' b e B (pre++(xs.take l).map (bC k)) ys ((xs.drop m).map (bC k)++post)):
 Win k h' g' b e A pre (xs.take l++ys++xs.drop m) post:=by
 refine ⟨v.free,?_,?_⟩
 ·rw [v.eq]
  congr 3
  simp [dQ,aR]
 ·rcases w.at_ with rfl|a
  ·left
   simp at hm
   have:ys=[]:=aM (by omega)
   simp [this]
  ·exact .inr a
def Priv.win{n c:Nat}(p:eO h g e 1 A n c (xs.map (bC k)))(hx:xs≠[]):∃ b post,Win k h g b e A [] xs post:=by
 obtain ⟨j,q,i⟩:=p
 rcases i with ⟨m,rfl⟩|⟨b,a,l,d,rfl,o,f⟩
 ·simp at j
  exact absurd (aM (by omega)) hx
 ·refine ⟨b,a.drop (n*1),d,?_,.inr l⟩
  rw [cQ,<- f,cL]
end
def Fe{P:dI}{t:bV}(one:P.cellsOf t=1/\(P.info? t).isSome=true){k:dZ}{n:Int}{i:Nat}{g:bB}{b:Nat}{e:bV}{zs:List Int}(hi:i<zs.length){K:Unit->bB->Prop}
 (x:K () (blk k e g b (zs.set i n))):wpH P (dP t (.pointer (some (eM ⟨b,0,none⟩ (i*1)))) (.int k n)) K (blk k e g b zs):=by
 have:=S5 (P:=P) (t:=t) one (k:=k) (n:=n) (i:=(i:Int)) (g:=g) (b:=b) (e:=e) (zs:=zs) (K:=K) (by simpa using hi) (by simpa using x)
 simpa using this
def Gu{P:dI}{t e e' ty:bV}{k:dZ}{bytes:Nat}(s:SliceT P t e' (.int k 0) 1 bytes){h g:bB}{b:Nat}{A:Option bH}{pre post:List dD}{xs:List Int}{n c m d:Nat}(w:Win k h g b e A pre xs post)(hn:n=xs.length){B:Option bH}{ys:List Int}(sy:SlI k h B ys)(hm:m=ys.length)(hle:ys.length<=xs.length){K:VP}
 (x:∀ h',Win k h' g b e A pre (ys++xs.drop ys.length) post->K (I ys.length) h'):wpH P (fI #[t,t] ty #[.slice A n c,.slice B m d]) K h:=by
 subst hn hm
 obtain ⟨i,p,r,l,q⟩:=s.parts
 unfold fI
 simp only [dG,aG,aI,C8,F4 s.und,M0 p,H1,gG,l]
 have j:Nat.min ys.length xs.length=ys.length:=aJ hle
 rw [j]
 refine N5 (s:=1) (cs:=ys.map (bC k)) (by simp) sy ?_
 cases A with
 | none=>
  rcases w.at_ with f|f
  ·subst f
   have:ys=[]:=aM (by simpa using hle)
   subst this
   exact x h (by simpa using w)
  ·cases f
 | some a=>
  simp only [C8]
  rcases w.at_ with f|f
  ·subst f
   have:ys=[]:=aM (by simpa using hle)
   subst this
   exact x h (by simpa using w)
  ·cases f
   rw [w.eq]
   refine J8 (ys.map (bC k)) pre.length 0 (pre++xs.map (bC k)++post) (by simp;omega) (fun v o=>?_) ?_
   ·obtain ⟨u,_,rfl⟩:=List.mem_map.1 o;rfl
   ·refine x _ ⟨w.free,?_,?_⟩
    ·congr 3
     unfold L4
     rw [dV,aR pre,dE rfl,fU]
     rw [gM,aV (show pre.length<=pre.length+ys.length by omega),cK,cQ]
     rw [eI (by simpa using hle),<- List.map_drop,dQ]
     simp only [aR]
    ·right;rfl
def A7n{P:dI}{nm:String}{x y c:Int}(hc:0<=c/\c<=1){f:Nat × Nat × Nat->dD}:Pv P (Extern.MathBitsCarry.three nm #[U x,U y,U c] >>= fun p=>pure (f p))=some (f (x.toNat,y.toNat,c.toNat)):=by
 obtain rfl|rfl:c=0\/c=1:=by omega
 ·rfl
 ·rfl
def B33:aX=18446744073709551616:=by decide
def Dv{h:bB}{K:VP}{x y c:Int}(hx:0<=x/\x<18446744073709551616)(hy:0<=y/\y<18446744073709551616)(hc:0<=c/\c<=1)(hK:K (.tuple #[U ((x+y+c)%18446744073709551616),U ((x+y+c)/18446744073709551616)]) h):ECall prog U5 #[U x,U y,U c] h K:=by
 refine B9l B19 (A7n (P:=prog) hc (f:=fun p=>gV ((p.1+p.2.1+p.2.2)%aX) ((p.1+p.2.1+p.2.2)/aX))) ?_
 have a:((x.toNat+y.toNat+c.toNat)%aX:Nat)=(((x+y+c)%18446744073709551616:Int)):=by
  rw [B33]
  omega
 have b:((x.toNat+y.toNat+c.toNat)/aX:Nat)=(((x+y+c)/18446744073709551616:Int)):=by
  rw [B33]
  omega
 show K (.tuple #[U ((x.toNat+y.toNat+c.toNat)%aX:Nat),U ((x.toNat+y.toNat+c.toNat)/aX:Nat)]) h
 rw [a,b];exact hK
def Fs{h:bB}{K:VP}{x y c:Int}(hx:0<=x/\x<18446744073709551616)(hy:0<=y/\y<18446744073709551616)(hc:0<=c/\c<=1)(hK:K (.tuple #[U ((x-y-c)%18446744073709551616),U (if x-y-c<0 then 1 else 0)]) h):ECall prog Ck #[U x,U y,U c] h K:=by
 refine B9l B17 (A7n (P:=prog) hc (f:=fun p=>gV ((p.1+aX-p.2.1-p.2.2)%aX) (if p.1<p.2.1+p.2.2 then 1 else 0))) ?_
 have a:((x.toNat+aX-y.toNat-c.toNat)%aX:Nat)=(((x-y-c)%18446744073709551616:Int)):=by
  rw [B33]
  omega
 have b:(((if x.toNat<y.toNat+c.toNat then 1 else 0:Nat):Nat):Int)=(if x-y-c<0 then 1 else 0):=by
  split<;>split<;>omega
 show K (.tuple #[U ((x.toNat+aX-y.toNat-c.toNat)%aX:Nat),U ((if x.toNat<y.toNat+c.toNat then 1 else 0:Nat):Nat)]) h
 rw [a,b];exact hK
def Xd(x y:Int):Int:=if x<y then -1 else if x>y then 1 else 0
def B2u{h:bB}{K:VP}{x:Int}(hK:K (.bool false) h):aZ prog Jx #[I x] h K:=by
 refine A7a _ ?_
 unfold A93
 have:(x != x)=false:=by simp
 rw [this];exact hK
def B2t{h:bB}{K:VP}{x:Int}(hK:K (.bool false) h):aZ prog Cj #[U x] h K:=by
 refine Xz _ ?_
 unfold Xa
 have:(x != x)=false:=by simp
 rw [this];exact hK
def B4c{h:bB}{K:VP}{x y:Int}(hK:K (I (Xd x y)) h):aZ prog A1i #[I x,I y] h K:=by
 refine B65 _ _ ?_
 unfold C0m
 refine B2u ⟨_,rfl,B2u ⟨_,rfl,?_⟩⟩
 unfold Xd at hK
 refine B8 (fun a=>?_) (fun a=>B8 (fun b=>?_) (fun b=>?_))
 ·rw [iP a] at hK;exact hK
 ·rw [iN a,iP b] at hK;exact hK
 ·rw [iN a,iN b] at hK;exact hK
def B4b{h:bB}{K:VP}{x y:Int}(hK:K (I (Xd x y)) h):aZ prog Lx #[U x,U y] h K:=by
 refine A56 _ _ ?_
 unfold A57
 refine B2t ⟨_,rfl,B2t ⟨_,rfl,?_⟩⟩
 unfold Xd at hK
 refine B8 (fun a=>?_) (fun a=>B8 (fun b=>?_) (fun b=>?_))
 ·rw [iP a] at hK;exact hK
 ·rw [iN a,iP b] at hK;exact hK
 ·rw [iN a,iN b] at hK;exact hK
def Ns{h:bB}{K:VP}{x y:Int}(hx:0<=x/\x<18446744073709551616)(hy:0<=y/\y<18446744073709551616)(hK:K (.tuple #[U (x*y/18446744073709551616),U (x*y%18446744073709551616)]) h):aZ prog Gr #[U x,U y] h K:=by
 refine B67 _ _ ?_
 unfold C0n
 rw [Cs hx,Cs hy]
 simp only [Xf]
 obtain ⟨b,d,e,c,a⟩:=A6a hx hy (x1:=x/4294967296) (x0:=x%4294967296) (y1:=y/4294967296) (y0:=y%4294967296) (by omega) (by omega) (by omega) (by omega)
 generalize x/4294967296*(y/4294967296)=p11 at *
 generalize x/4294967296*(y%4294967296)=p10 at *
 generalize x%4294967296*(y/4294967296)=p01 at *
 generalize x%4294967296*(y%4294967296)=p00 at *
 rw [C5 (n:=p00) (by omega) (by omega),C5 (n:=p10) (by omega) (by omega),C5 (n:=p01) (by omega) (by omega),C5 (n:=p11) (by omega) (by omega)]
 rw [C5 (n:=p10+p00/4294967296) (by omega) (by omega),Cs (by omega)]
 rw [C5 (n:=(p10+p00/4294967296)%4294967296+p01) (by omega) (by omega)]
 rw [C5 (n:=p11+(p10+p00/4294967296)/4294967296) (by omega) (by omega),C5 (by omega) (by omega),F6]
 have:p11+(p10+p00/4294967296)/4294967296+((p10+p00/4294967296)%4294967296+p01)/4294967296=x*y/18446744073709551616:=by
  rw [a];omega
 rw [this];exact hK
def U2{h:bB}{K:VP}{x y c:Int}(hx:0<=x/\x<18446744073709551616)(hy:0<=y/\y<18446744073709551616)(hc:0<=c/\c<18446744073709551616)(hK:K (.tuple #[U ((x*y+c)%18446744073709551616),U ((x*y+c)/18446744073709551616)]) h):aZ prog O1 #[U x,U y,U c] h K:=by
 have d:0<=x*y/\x*y<=18446744073709551615*18446744073709551615:=⟨aT hx.1 hy.1,fB (by omega) (by omega) hy.1 (by decide)⟩
 refine Wn _ _ _ ?_
 unfold Sb
 refine Ns hx hy ⟨_,_,rfl,?_⟩
 refine Dv (by omega) hc (by omega) ⟨_,_,rfl,?_⟩
 rw [C5 (by omega) (by omega)]
 have a:(x*y%18446744073709551616+c+0)%18446744073709551616=(x*y+c)%18446744073709551616:=by omega
 have b:x*y/18446744073709551616+(x*y%18446744073709551616+c+0)/18446744073709551616=(x*y+c)/18446744073709551616:=by omega
 rw [a,b];exact hK
def C1y(a:Array UInt8):({ data:=a }:ByteArray)=bs a.toList:=by simp [bs]
def B35:List UInt8:=[0,1,2,2,3,3,3,3,4,4,4,4,4,4,4,4,5,5,5,5,5,5,5,5,5,5,5,5,5,5,5,5]++aD 32 6++aD 64 7++aD 128 8
def B01:∀ i,i<256->(B35[i]?).map UInt8.toNat=some (O8 i):=by decide
def A1u{x s:Nat}(h:2^s<=x):O8 x=s+O8 (x/2^s):=by
 have a:0<2^s:=cX (by decide)
 have b:x/2^s≠0:=by
  have:=Nat.div_pos h a;omega
 have:=Zb (l:=x%2^s) (t:=x/2^s) (j:=s) (fO _ a) b
 rw [Nat.mod_add_div] at this
 exact this
def A82{h:bB}{K:VP}{x:Nat}(hx:x<18446744073709551616)(hK:K (I (O8 x)) h):aZ prog Tl #[U x] h K:=by
 refine B69 _ ?_
 unfold C0p
 have o:∀ (y s:Nat),s<=64->eK (y:Int) (2^(min ((s:Int)).toNat 64))=((y/2^s:Nat):Int):=by
  intro y s r
  rw [aC,aJ r,fC _ (aQ (bM (by decide)))]
  simp
 refine ⟨fun l d=>∃ (y n:Nat),l=[U y,I n]/\d=h/\y<4294967296/\O8 x=n+O8 y/\n<=32,B8 (fun i=>?_) (fun i=>?_),?_⟩
 ·refine ⟨x/2^32,32,?_,rfl,by omega,A1u (by omega),by omega⟩
  rw [show (32:Int)=((32:Nat):Int) from rfl,o x 32 (by omega)]
 ·exact ⟨x,0,rfl,rfl,by omega,by omega,by omega⟩
 rintro g f d ⟨y,n,b,rfl,e,a,q⟩
 obtain ⟨rfl,rfl⟩:g=(y:Int)/\f=(n:Int):=by simpa using b
 refine ⟨fun l m=>∃ (y n:Nat),l=[U y,I n]/\m=d/\y<65536/\O8 x=n+O8 y/\n<=48,B8 (fun i=>?_) (fun i=>?_),?_⟩
 ·refine ⟨y/2^16,n+16,?_,rfl,by omega,by rw [a,A1u (x:=y) (s:=16) (by omega)];omega,by omega⟩
  rw [show (16:Int)=((16:Nat):Int) from rfl,o y 16 (by omega),C0 (by omega) (by omega)];rfl
 ·exact ⟨y,n,rfl,rfl,by omega,a,by omega⟩
 clear a e b
 rintro g f d ⟨y,n,b,rfl,e,a,q⟩
 obtain ⟨rfl,rfl⟩:g=(y:Int)/\f=(n:Int):=by simpa using b
 refine ⟨fun l m=>∃ (y n:Nat),l=[U y,I n]/\m=d/\y<256/\O8 x=n+O8 y/\n<=56,B8 (fun i=>?_) (fun i=>?_),?_⟩
 ·refine ⟨y/2^8,n+8,?_,rfl,by omega,by rw [a,A1u (x:=y) (s:=8) (by omega)];omega,by omega⟩
  rw [show (8:Int)=((8:Nat):Int) from rfl,o y 8 (by omega),C0 (by omega) (by omega)];rfl
 ·exact ⟨y,n,rfl,rfl,by omega,a,by omega⟩
 clear a e b
 rintro g f d ⟨y,n,b,rfl,e,a,q⟩
 obtain ⟨rfl,rfl⟩:g=(y:Int)/\f=(n:Int):=by simpa using b
 rw [A2o (by omega) (by omega),aC]
 have j:=B01 y e
 cases hc:B35[y]? with
 | none=>rw [hc] at j;cases j
 | some c=>
  rw [hc] at j
  have p:c.toNat=O8 y:=by simpa using j
  refine ⟨c,⟨by omega,?_⟩,?_⟩
  ·try unfold A81
   rw [C1y,Ry];exact hc
  ·have t:O8 y<=8:=Iw (k:=8) (by omega)
   rw [p,C0 (n:=((O8 y:Nat):Int)) (by omega) (by omega),C0 (by omega) (by omega),<- eS,<- a]
   exact hK
def S8{h:bB}{K:VP}{x:Nat}(hx:x<18446744073709551616)(hK:K (I ((64-O8 x:Nat):Int)) h):aZ prog L0 #[U x] h K:=by
 refine Pm _ ?_
 unfold Jj
 refine A82 hx ⟨_,rfl,?_⟩
 have a:O8 x<=64:=Iw (k:=64) (by omega)
 rw [C0 (by omega) (by omega)]
 have:(64:Int)-((O8 x:Nat):Int)=((64-O8 x:Nat):Int):=by omega
 rw [this];exact hK
def A48{a b:Int}{s:Nat}(ha:0<=a)(hb:0<=b/\b<2^s)(hab:a*2^s+b<18446744073709551616):bor .u64 (a*2^s) b=a*2^s+b:=by
 have d:0<(2:Int)^s:=bM (by decide)
 have f:0<=a*2^s:=aT ha (by omega)
 rw [A6s (by omega) (by omega)]
 have e:(a*2^s).toNat=2^s*a.toNat:=by
  rw [Int.toNat_mul ha (by omega),eZ,hO (by decide)];rfl
 have c:b.toNat<2^s:=by
  have:((2^s:Nat):Int)=(2:Int)^s:=by simp
  omega
 rw [e,A7y c,<- e];omega
def Au{s:Nat}(hs:s<=64):(2:Int)^s*2^(64-s)=18446744073709551616:=by
 rw [<- bG,show s+(64-s)=64 by omega];decide
def B75{x:Int}{s:Nat}(hs:s<=64):eK x (2^(min s 64))=x/2^s:=by
 rw [aJ hs];exact fC x (aQ (bM (by decide)))
def Est.exact{B top u2 v1 v2 U V:Int}(e:Est B 1 top u2 0 v1 v2 0 U V){q:Int}(h:q*(v1*B+v2)<=top*B+u2):q*V<=U:=by
 have c:=e.hU
 have d:=e.hV
 have a:U=top*B+u2:=by rw [c];omega
 have b:V=v1*B+v2:=by rw [d];omega
 rw [a,b];exact h
section
variable {h:bB} {K:VP}
def B47{T u2 v1 v2 X Y:Int}{hp:bB}{J:Int->bB->Prop}(es:Est 4294967296 1 T u2 0 v1 v2 0 X Y)(_hT:T<18446744073709551616)
 (hJ:∀ q,0<=q->q*Y<=X->X<(q+1)*Y->J q hp):
 ∃ (Inv:Int->Int->bB->Prop) (mu:Int->Int->bB->Nat),Inv (T/v1) (T%v1) hp/\
  ∀ q r hp1,Inv q r hp1->(q>=4294967296->Inv q r hp1)/\0<=q/\q<=4294967297/\0<=r/\r<4294967296/\hp1=hp/\
   (q<4294967296->¬ (q*v2>4294967296*r+u2)->J q hp1)/\
   ((q>=4294967296\/q*v2>4294967296*r+u2)->1<=q/\(r+v1>=4294967296->J (q-1) hp1)/\(r+v1<4294967296->Inv (q-1) (r+v1) hp1/\mu (q-1) (r+v1) hp1<mu q r hp1)):=by
 obtain ⟨H,F⟩:=es.first
 have l:=es.init
 have y:=es.V0
 have E:=es.U0
 have D:=es.v1r
 have m:=es.v2r
 have z:=es.u2r
 have d:=es.top0
 have o:0<=T/v1:=cF d (by omega)
 have k:=aO T v1
 have n:=aU T (show v1≠0 by omega)
 have C:=aP T (show 0<v1 by omega)
 refine ⟨fun q r hp1=>hp1=hp/\0<=q/\q<=4294967297/\0<=r/\r<4294967296/\q*v1+r=T/\X<(q+1)*Y,fun q _ _=>q.toNat,⟨rfl,o,by omega,n,by omega,by rw [aS];exact k,l⟩,?_⟩
 rintro q r hp1 ⟨rfl,i,s,u,t,c,e⟩
 have key:q*(v1*4294967296+v2)=(T-r)*4294967296+q*v2:=by rw [<- c];grind
 refine ⟨fun _=>⟨rfl,i,s,u,t,c,e⟩,i,s,u,t,rfl,fun g G=>hJ q i (es.exact (by omega)) e,fun f=>?_⟩
 have p:X<q*Y:=by
  rcases f with g|g
  ·exact es.big g
  ·exact es.low i (by omega)
 have j:1<=q:=by
  by_cases B:1<=q
  ·exact B
  ·have:q=0:=by omega
   subst this;omega
 have b:X<(q-1+1)*Y:=by rw [Int.sub_add_cancel];exact p
 have a:(q-1)*v1+(r+v1)=T:=by grind
 refine ⟨j,fun A=>?_,fun A=>⟨⟨rfl,by omega,by omega,by omega,by omega,a,b⟩,by show (q-1).toNat<q.toNat;omega⟩⟩
 have w:(q-1)*(v1*4294967296+v2)=(T-(r+v1))*4294967296+(q-1)*v2:=by rw [<- a];grind
 have g:(q-1)*v2<=4294967296*v2:=aE (by omega) m.1
 exact hJ (q-1) (by omega) (es.exact (by omega)) b
def To{hi lo:Int}{y:Nat}(hhi:0<=hi/\hi<y)(hlo:0<=lo/\lo<18446744073709551616)(hy:y<18446744073709551616)
 (hK:K (.tuple #[U ((hi*18446744073709551616+lo)/y),U ((hi*18446744073709551616+lo)%y)]) h):aZ prog Gs #[U hi,U lo,U y] h K:=by
 refine B6a _ _ _ ?_
 unfold C0q
 refine E5 (fun e=>absurd e (by omega)) (fun _=>?_)
 refine B8 (fun e=>absurd e (by omega)) (fun _=>?_)
 refine E5 (fun e=>?_) (fun a8=>?_)
 ·refine B8 (fun e=>absurd e (by omega)) (fun _=>?_)
  refine B8 (fun e=>absurd e (by omega)) (fun _=>?_)
  subst e
  rw [fP,dN] at hK
  rw [bJ hlo.1,bY hlo.1,C5 (cF hlo.1 (by omega)) (dC (fM _ hlo.1) hlo.2)]
  exact hK
 refine S8 hy ⟨_,rfl,?_⟩
 have M:y≠0:=by omega
 obtain ⟨bc,a5⟩:=Ff M
 have ay:O8 y<=64:=Iw (k:=64) (by omega)
 have bb:1<=O8 y:=by unfold O8;rw [iN M];omega
 obtain ⟨s,hs⟩:∃ s,s=64-O8 y:=⟨_,rfl⟩
 rw [<- hs]
 have az:s<64:=by omega
 have o:0<(2:Int)^s:=bM (by decide)
 have A:=Au (s:=s) (by omega)
 have ak:0<(2:Int)^(64-s):=bM (by decide)
 have F:O8 y=64-s:=by omega
 have aj:(y:Int)<2^(64-s):=by
  rw [<- F]
  have:((y:Nat):Int)<((2^O8 y:Nat):Int):=by omega
  simpa using this
 have aq:(2:Int)^(63-s)<=y:=by
  have:((2^(O8 y-1):Nat):Int)<=((y:Nat):Int):=by omega
  rw [show O8 y-1=63-s by omega] at this
  simpa using this
 have W:(2:Int)^s*2^(63-s)=9223372036854775808:=by
  rw [<- bG,show s+(63-s)=63 by omega];decide
 have am:C3 (s:Int)=(s:Int):=C5 (by omega) (by omega)
 have ap:C3 ((64:Int)-s)=((64-s:Nat):Int):=by rw [C5 (by omega) (by omega)];omega
 have N:(y:Int)*2^s<18446744073709551616:=by
  rw [<- A,aS];exact cV aj o
 have ax:9223372036854775808<=(y:Int)*2^s:=by
  rw [<- W,aS (y:Int)];exact aK aq (by omega)
 have eY:C3 ((y:Int)*2^(min s 64))=(y:Int)*2^s:=by rw [aJ (by omega),C5 (by omega) N]
 have a7:hi*2^s+2^s<=(y:Int)*2^s:=by
  have:=aE (show hi+1<=(y:Int) by omega) (aQ o)
  rw [Int.add_mul] at this;omega
 have S:0<=hi*2^s:=aT hhi.1 (by omega)
 have ai:0<=lo/2^(64-s)/\lo/2^(64-s)<2^s:=by
  refine ⟨cF hlo.1 (by omega),bK ak ?_⟩
  rw [A];exact hlo.2
 have eT:bor .u64 (C3 (hi*2^(min s 64))) (eK lo (2^(min (64-s) 64)))=hi*2^s+lo/2^(64-s):=by
  rw [aJ (show s<=64 by omega),C5 S (by omega),B75 (by omega),A48 hhi.1 ai (by omega)]
 have eL:C3 (lo*2^(min s 64))=lo*2^s%18446744073709551616:=by rw [aJ (by omega),F6]
 have ba:0<=lo*2^s%18446744073709551616/\lo*2^s%18446744073709551616<18446744073709551616:=⟨aU _ (by decide),aP _ (by decide)⟩
 have hN:(hi*18446744073709551616+lo)*2^s=(hi*2^s+lo/2^(64-s))*18446744073709551616+lo*2^s%18446744073709551616:=by
  have d1:lo*2^s/18446744073709551616=lo/2^(64-s):=by
   rw [<- A,aS lo,Int.mul_ediv_mul_of_pos _ _ o]
  have d2:=aO (lo*2^s) 18446744073709551616
  rw [d1] at d2
  grind
 generalize hTT:hi*2^s+lo/2^(64-s)=T at *
 generalize hLL:lo*2^s%18446744073709551616=L at *
 generalize hYY:(y:Int)*2^s=Y at *
 have t:0<=T/\T<Y:=by omega
 unfold A59 A5b A58 A5a
 simp only [am,ap,aC,eY,eT,eL,Xf]
 rw [Cs (by omega),Cs (by omega)]
 have e1:Est 4294967296 1 T (L/4294967296) 0 (Y/4294967296) (Y%4294967296) 0 (T*4294967296+L/4294967296) Y:=
  ⟨by decide,by decide,by omega,by omega,by omega,by omega,by omega,by omega,t.1,by omega,by omega⟩
 refine B8 (fun e=>absurd e (by omega)) (fun _=>?_)
 refine B8 (fun e=>absurd e (by omega)) (fun _=>?_)
 refine B8 (fun e=>absurd e (by omega)) (fun _=>?_)
 refine B8 (fun e=>absurd e (by omega)) (fun _=>?_)
 refine B8 (fun e=>absurd e (by omega)) (fun _=>?_)
 have bm:∀ {q w:Int},0<=q->q<=4294967296->0<=w->w<4294967296->0<=q*w/\q*w<18446744073709551616:=by
  intro q w a b c d
  refine ⟨aT a c,?_⟩
  have:=fB b (show w<=4294967295 by omega) c (by decide)
  omega
 refine ⟨fun l hp=>∃ q,l=[U q]/\hp=h/\0<=q/\q*Y<=T*4294967296+L/4294967296/\T*4294967296+L/4294967296<(q+1)*Y,?_,?_⟩
 ·obtain ⟨Inv,mu,i0,st⟩:=B47 (hp:=h) (J:=fun q hp=>∃ i,[U q]=[U i]/\hp=h/\0<=i/\i*Y<=T*4294967296+L/4294967296/\T*4294967296+L/4294967296<(i+1)*Y) e1 (by omega) (fun q a b c=>⟨q,rfl,rfl,a,b,c⟩)
  refine ⟨fun l hp=>∃ q r,l=[U q,U r]/\Inv q r hp,fun l hp=>mu (iAt l 0) (iAt l 1) hp,⟨T/(Y/4294967296),T%(Y/4294967296),?_,i0⟩,?_⟩
  ·have dm:=aO T (Y/4294967296)
   have O:=cF t.1 (show 0<=Y/4294967296 by omega)
   have d1:T/(Y/4294967296)<=T:=fM _ t.1
   have d2:=aU T (show Y/4294967296≠0 by omega)
   rw [bJ t.1,C5 (n:=T/(Y/4294967296)) O (by omega),aS (T/(Y/4294967296))]
   have d3:=aT (show 0<=Y/4294967296 by omega) O
   rw [C5 (n:=Y/4294967296*(T/(Y/4294967296))) d3 (by omega),C5 (by omega) (by omega)]
   have:T-Y/4294967296*(T/(Y/4294967296))=T%(Y/4294967296):=by omega
   rw [this]
  rintro q r m ⟨i,r',hl,hI⟩
  obtain ⟨rfl,rfl⟩:q=i/\r=r':=by simpa using hl
  obtain ⟨_,f,g,r0,r1,rfl,ok,E⟩:=st q r m hI
  have H:=bm (q:=4294967296) (w:=r) (by omega) (by omega) r0 r1
  refine ⟨fun l hp=>l=[]/\hp=m/\(q>=4294967296\/q*(Y%4294967296)>4294967296*r+L/4294967296),B8 (fun V=>⟨rfl,rfl,.inl V⟩) (fun V=>?_),?_⟩
  ·have G:=bm (q:=q) (w:=Y%4294967296) f (by omega) (by omega) (by omega)
   rw [C5 G.1 G.2,C5 H.1 H.2,C5 (n:=4294967296*r+L/4294967296) (by omega) (by omega)]
   exact B8 (fun z=>⟨rfl,rfl,.inr z⟩) (fun z=>ok (by omega) z)
  ·rintro aa ⟨_,rfl,j⟩
   obtain ⟨g1,g2,Q⟩:=E j
   rw [C5 (n:=r+Y/4294967296) (by omega) (by omega),C5 (n:=q-1) (by omega) (by omega)]
   exact B8 (fun X=>g2 X) (fun X=>⟨⟨_,_,rfl,(Q (by omega)).1⟩,(Q (by omega)).2⟩)
 rintro g B ⟨ac,ab,rfl,an,a4,bd⟩
 obtain rfl:g=ac:=by simpa using ab
 have a0:g<4294967296:=by
  by_cases C:g<4294967296
  ·exact C
  ·have:=aE (show 4294967296<=g by omega) (show 0<=Y by omega);omega
 have a9:(g+1)*Y=g*Y+Y:=by grind
 have au:0<=g*Y:=aT an (by omega)
 have ao:C3 (C3 (C3 (T*4294967296)+L/4294967296)-C3 (g*Y))=T*4294967296+L/4294967296-g*Y:=by
  simp only [F6];omega
 simp only [ao]
 generalize hRR:T*4294967296+L/4294967296-g*Y=R at *
 have p:0<=R/\R<Y:=by omega
 refine B8 (fun e=>absurd e (by omega)) (fun _=>?_)
 have e2:Est 4294967296 1 R (L%4294967296) 0 (Y/4294967296) (Y%4294967296) 0 (R*4294967296+L%4294967296) Y:=
  ⟨by decide,by decide,by omega,by omega,by omega,by omega,by omega,by omega,p.1,by omega,by omega⟩
 refine ⟨fun l hp=>∃ q,l=[U q]/\hp=B/\0<=q/\q*Y<=R*4294967296+L%4294967296/\R*4294967296+L%4294967296<(q+1)*Y,?_,?_⟩
 ·obtain ⟨Inv,mu,i0,st⟩:=B47 (hp:=B) (J:=fun q hp=>∃ i,[U q]=[U i]/\hp=B/\0<=i/\i*Y<=R*4294967296+L%4294967296/\R*4294967296+L%4294967296<(i+1)*Y) e2 (by omega) (fun q a b c=>⟨q,rfl,rfl,a,b,c⟩)
  refine ⟨fun l hp=>∃ q r,l=[U r,U q]/\Inv q r hp,fun l hp=>mu (iAt l 1) (iAt l 0) hp,⟨R/(Y/4294967296),R%(Y/4294967296),?_,i0⟩,?_⟩
  ·have dm:=aO R (Y/4294967296)
   have O:=cF p.1 (show 0<=Y/4294967296 by omega)
   have d1:R/(Y/4294967296)<=R:=fM _ p.1
   have d2:=aU R (show Y/4294967296≠0 by omega)
   rw [bJ p.1,C5 (n:=R/(Y/4294967296)) O (by omega),aS (R/(Y/4294967296))]
   have d3:=aT (show 0<=Y/4294967296 by omega) O
   rw [C5 (n:=Y/4294967296*(R/(Y/4294967296))) d3 (by omega),C5 (by omega) (by omega)]
   have:R-Y/4294967296*(R/(Y/4294967296))=R%(Y/4294967296):=by omega
   rw [this]
  rintro r q m ⟨i,r',hl,hI⟩
  obtain ⟨rfl,rfl⟩:r=r'/\q=i:=by simpa using hl
  obtain ⟨_,f,g,r0,r1,rfl,ok,E⟩:=st q r m hI
  have H:=bm (q:=4294967296) (w:=r) (by omega) (by omega) r0 r1
  refine ⟨fun l hp=>l=[]/\hp=m/\(q>=4294967296\/q*(Y%4294967296)>4294967296*r+L%4294967296),B8 (fun V=>⟨rfl,rfl,.inl V⟩) (fun V=>?_),?_⟩
  ·have G:=bm (q:=q) (w:=Y%4294967296) f (by omega) (by omega) (by omega)
   rw [C5 G.1 G.2,C5 H.1 H.2,C5 (n:=4294967296*r+L%4294967296) (by omega) (by omega)]
   exact B8 (fun z=>⟨rfl,rfl,.inr z⟩) (fun z=>ok (by omega) z)
  ·rintro aa ⟨_,rfl,j⟩
   obtain ⟨g1,g2,Q⟩:=E j
   rw [C5 (n:=r+Y/4294967296) (by omega) (by omega),C5 (n:=q-1) (by omega) (by omega)]
   exact B8 (fun X=>g2 X) (fun X=>⟨⟨_,_,rfl,(Q (by omega)).1⟩,(Q (by omega)).2⟩)
 rintro f a3 ⟨af,ag,rfl,ah,a2,a6⟩
 obtain rfl:f=af:=by simpa using ag
 refine B8 (fun e=>absurd e (by omega)) (fun _=>?_)
 have av:f<4294967296:=by
  by_cases C:f<4294967296
  ·exact C
  ·have:=aE (show 4294967296<=f by omega) (show 0<=Y by omega);omega
 have a1:(f+1)*Y=f*Y+Y:=by grind
 have aw:0<=f*Y:=aT ah (by omega)
 have ad:C3 (C3 (C3 (R*4294967296)+L%4294967296)-C3 (f*Y))=R*4294967296+L%4294967296-f*Y:=by
  simp only [F6];omega
 rw [ad,C5 (n:=g*4294967296) (by omega) (by omega),C5 (n:=g*4294967296+f) (by omega) (by omega),B75 (by omega)]
 have ar:(hi*18446744073709551616+lo)*2^s=(g*4294967296+f)*(y*2^s)+(R*4294967296+L%4294967296-f*Y):=by
  rw [hN,hYY]
  have:T*18446744073709551616+L=(T*4294967296+L/4294967296)*4294967296+L%4294967296:=by omega
  rw [this]
  have:T*4294967296+L/4294967296=R+g*Y:=by omega
  rw [this];grind
 have D:R*4294967296+L%4294967296-f*Y=(hi*18446744073709551616+lo-(g*4294967296+f)*y)*2^s:=by grind
 rw [D,gF _ (show (2:Int)^s≠0 by omega)]
 have al:0<=hi*18446744073709551616+lo-(g*4294967296+f)*y:=by
  by_cases C:0<=hi*18446744073709551616+lo-(g*4294967296+f)*y
  ·exact C
  ·have:=aE (show hi*18446744073709551616+lo-(g*4294967296+f)*y <= -1 by omega) (aQ o);omega
 have ae:hi*18446744073709551616+lo-(g*4294967296+f)*y<y:=by
  by_cases C:hi*18446744073709551616+lo-(g*4294967296+f)*y<y
  ·exact C
  ·have:=aE (show (y:Int)<=hi*18446744073709551616+lo-(g*4294967296+f)*y by omega) (aQ o);omega
 have u:(hi*18446744073709551616+lo)/y=g*4294967296+f:=by
  have:hi*18446744073709551616+lo=(hi*18446744073709551616+lo-(g*4294967296+f)*y)+(g*4294967296+f)*y:=by omega
  rw [this,fS _ _ (by omega),bU al ae,dN]
 have Z:(hi*18446744073709551616+lo)%y=hi*18446744073709551616+lo-(g*4294967296+f)*y:=by
  rw [Int.emod_def,u,aS (y:Int)]
 rw [u,Z] at hK
 exact hK
end
def O6{xs:List Int}(d:Dig b64 xs)(i:Nat):0<=xs.getD i 0/\xs.getD i 0<18446744073709551616:=d.getD (by decide) i
def Eu(c:Int):0<=c%18446744073709551616/\c%18446744073709551616<b64:=⟨aU _ (by decide),aP _ (by decide)⟩
section
variable {h g:bB} {K:VP} {A B:Option bH} {ac bc:Nat}
def Ej{xs:List Int}(s:SlI .u64 h A xs)(hc:xs.length<=ac)(hl:xs.length<=10000000000)(hK:∀ m,m<=xs.length->gC (xs.take m)->val b64 (xs.take m)=val b64 xs->K (.slice A m ac) h):aZ prog J5 #[.slice A xs.length ac] h K:=by
 refine B87 _ _ _ ?_
 unfold C47
 refine ⟨fun l f=>∃ m:Nat,l=[I m]/\m<=xs.length/\f=h/\val b64 (xs.take m)=val b64 xs,fun l _=>(iAt l 0).toNat,⟨xs.length,rfl,aY _,rfl,by rw [aW]⟩,?_⟩
 rintro n o ⟨m,a,g,rfl,d⟩
 obtain rfl:=sI1 a
 refine B8 (fun k=>?_) (fun k=>?_)
 ·obtain ⟨j,rfl⟩:∃ j,m=j+1:=⟨m-1,by omega⟩
  have e:B7 (((j+1:Nat):Int)-1)=(j:Int):=by rw [C0 (by omega) (by omega)];omega
  rw [e]
  have b:=P8 b64 (xs:=xs) (i:=j) (by omega)
  refine s.load rfl (by omega) (by omega) ?_
  rw [aC]
  refine E5 (fun c=>?_) (fun c=>?_)
  ·exact ⟨⟨j,rfl,by omega,rfl,by rw [c] at b;omega⟩,by simp only [iAt,aG];omega⟩
  ·refine ⟨⟨by omega,by omega⟩,?_⟩
   rw [J0,aC,bX,bX]
   refine hK (j+1) g ?_ d
   rw [Hs (by omega)];exact A3m c
 ·have:m=0:=by omega
  subst this
  refine ⟨⟨by omega,by omega⟩,?_⟩
  rw [J0,aC,bX,bX]
  exact hK 0 (by omega) Norm.nil d
def R7{xs:List Int}(s:SlI .u64 h A xs)(hd:Dig b64 xs)(hc:xs.length<=ac)(hl:xs.length<=10000000000)(hK:∀ m,m<=xs.length->Mw h A m (val b64 xs)->K (.slice A m ac) h):aZ prog J5 #[.slice A xs.length ac] h K:=by
 refine Ej s hc hl ?_
 intro m a b d
 refine hK m a ⟨xs.take m,by simp;omega,?_,hd.take m,b,d⟩
 have:=s.cut (c:=ac) (l:=0) (m:=m) (by omega) a hc
 simpa [J0] using this
def Cc{w:Int}(hw:0<=w/\w<18446744073709551616)(hK:∀ A m c h',h.le h'->m<=c->Mw h' A m w->K (.slice A m c) h'):aZ prog Ac #[U w] h K:=by
 refine A4k _ ?_
 unfold A4l
 refine E5 (fun e=>?_) (fun e=>?_)
 ·subst e;exact hK none 0 0 h (B5 h) (aY _) Mag.zero
 ·refine Bi R4 rfl ?_
  intro b a
  exact ⟨_,_,_,rfl,hK _ _ _ _ (Heap.le_put _ a) (aY _) ⟨[w],rfl,SlI.new h b [w] C4 _,Dig.one hw,by simpa [gC] using e,Z1 _ _⟩⟩
def J7{x y:Int}{an bn:Nat}(ma:Mw h A an x)(mb:Mw h B bn y)(hl:an<=10000000000)(hK:K (I (Xd x y)) h):aZ prog I9 #[.slice A an ac,.slice B bn bc] h K:=by
 obtain ⟨a,rfl,r,f,w,rfl⟩:=ma
 obtain ⟨b,rfl,s,g,z,rfl⟩:=mb
 refine Su _ _ _ _ _ _ ?_
 unfold Pi
 refine I4 (fun t=>?_) (fun t=>?_)
 ·refine B4c ⟨_,rfl,?_⟩
  have:Xd (a.length:Int) (b.length:Int)=Xd (val b64 a) (val b64 b):=by
   unfold Xd
   by_cases o:a.length<b.length
   ·have:=Jn (by decide) f g z o
    rw [iP (by omega),iP this]
   ·have:=Jn (by decide) g f w (by omega)
    rw [iN (by omega),iP (by omega),iN (by omega),iP (by omega)]
  rw [this];exact hK
 ·have c:a.length=b.length:=by omega
  refine ⟨fun l u=>∃ k:Nat,l=[I ((k:Int)-1)]/\k<=a.length/\u=h/\a.drop k=b.drop k,fun l _=>(iAt l 0+1).toNat,⟨a.length,?_,aY _,rfl,?_⟩,?_⟩
  ·rw [C0 (by omega) (by omega)]
  ·rw [fL,c,fL]
  rintro i D ⟨k,m,C,rfl,d⟩
  obtain rfl:i=(k:Int)-1:=by simpa using m
  refine B8 (fun o=>?_) (fun o=>?_)
  ·obtain ⟨j,rfl⟩:∃ j,k=j+1:=⟨k-1,by omega⟩
   have e:((j+1:Nat):Int)-1=(j:Int):=by omega
   rw [e]
   refine r.load rfl (by omega) (by omega) ?_
   refine s.load rfl (by omega) (by omega) ?_
   rw [aC]
   refine I4 (fun q=>?_) (fun q=>?_)
   ·refine r.load rfl (by omega) (by omega) ?_
    refine s.load rfl (by omega) (by omega) ?_
    rw [aC]
    refine B4b ⟨_,rfl,B5 _,?_⟩
    have:Xd (a.getD j 0) (b.getD j 0)=Xd (val b64 a) (val b64 b):=by
     unfold Xd
     by_cases p:a.getD j 0<b.getD j 0
     ·have:=Jm (by decide) f g (i:=j) (by omega) (by omega) d p
      rw [iP p,iP this]
     ·have:=Jm (by decide) g f (i:=j) (by omega) (by omega) d.symm (by omega)
      rw [iN p,iP (by omega),iN (by omega),iP (by omega)]
    rw [this];exact hK
   ·rw [C0 (by omega) (by omega)]
    refine ⟨⟨j,rfl,by omega,rfl,?_⟩,by simp only [iAt,aG];omega⟩
    rw [cG (show j<a.length by omega),cG (show j<b.length by omega),d]
    congr 1
    simpa [cR,show j<a.length by omega,show j<b.length by omega] using q
  ·have n:k=0:=by omega
   subst n
   simp at d
   subst d
   have:Xd (val b64 a) (val b64 a)=0:=by unfold Xd;rw [iN (by omega),iN (by omega)]
   rw [this] at hK;exact hK
def Fc{xs:List Int}{an:Nat}(s:SlI .u64 h A xs)(hn:an=xs.length)(hl:xs.length<=10000000000)(hK:∀ A' c' h' g',h.le g'->eO h' g' C4 1 A' xs.length c' (xs.map (bC .u64))->K (.slice A' xs.length c') h'):aZ prog Gh #[.slice A an ac] h K:=by
 subst hn
 refine B4y _ _ _ ?_
 unfold B9z
 refine Br.of (fun e=>?_) (fun e=>?_)
 ·have m:A=none:=by simpa using e
  have g:xs=[]:=by
   rcases s with k|⟨a,f,_⟩
   ·simpa using k
   ·rw [m] at f;cases f
  subst g
  exact hK none 0 h h (B5 h) (by simpa using Priv.nil _ _ _ _)
 ·refine Qb R4 ?_
  intro b j
  refine ⟨_,_,_,rfl,?_⟩
  have c:=Heap.le_put (h:=h) (b:=b) (.cells #[] C4) j
  refine Oy R4 (Priv.nil _ _ _ _) (ys:=xs.map (bC .u64)) (by simp) (SlI.mono c s) (fun v i=>?_) (by omega) (by omega) ?_
  ·obtain ⟨a,_,rfl⟩:=List.mem_map.1 i;rfl
  ·intro A' c' h' g' l d
   simp only [eW,cQ] at d ⊢
   exact ⟨_,_,_,rfl,hK _ _ _ _ (B0 c l) d⟩
variable {b:Nat} {e:bV} {pre post:List dD}
def Iy{xs ys:List Int}{an bn:Nat}(w:Win .u64 h g b e A pre xs post)(hn:an=xs.length)(sy:SlI .u64 g B ys)(hm:bn=ys.length)(dx:Dig b64 xs)(dy:Dig b64 ys)(hle:ys.length<=xs.length)(hfit:val b64 xs+val b64 ys<b64^xs.length)(hl:xs.length<=10000000000)
 (hK:∀ xs' h',xs'.length=xs.length->Dig b64 xs'->val b64 xs'=val b64 xs+val b64 ys->Win .u64 h' g b e A pre xs' post->K (.tuple #[]) h'):aZ prog V7 #[.slice A an ac,.slice B bn bc] h K:=by
 subst hn hm
 refine A70 _ _ _ _ _ _ ?_
 unfold A8t
 refine ⟨fun l t=>∃ (k:Nat) (c:Int) (zs:List Int),l=[U c,I k]/\k<=ys.length/\zs.length=xs.length/\Dig b64 zs/\(0<=c/\c<=1)/\Win .u64 t g b e A pre zs post/\zs.drop k=xs.drop k/\val b64 (zs.take k)+c*b64^k=val b64 (xs.take k)+val b64 (ys.take k),fun l _=>ys.length-(iAt l 1).toNat,⟨0,0,xs,rfl,by omega,rfl,dx,by omega,w,rfl,by simp [val]⟩,?_⟩
 rintro c i t ⟨k,F,zs,r,J,d,p,y,j,f,u⟩
 obtain ⟨rfl,rfl⟩:c=F/\i=(k:Int):=by simpa using r
 refine B8 (fun C=>?_) (fun C=>?_)
 ·have L:=O6 dy k
  have gz:=O6 p k
  have s:=E8 f
  have D:=C7 b64 xs k
  have O:=C7 b64 ys k
  refine (sy.mono j.le).load rfl (by omega) (by omega) ?_
  refine j.sl.load d.symm (by omega) (by omega) ?_
  simp only [aC]
  refine Dv gz L y ⟨_,_,rfl,?_⟩
  obtain ⟨a,z,_⟩:=SlV.at j.sl (i:=k) (by simp;omega)
  refine ⟨a,z,by omega,by omega,j.storeN G7 z (by omega) ?_⟩
  intro h' H
  rw [C0 (n:=(k:Int)+1) (by omega) (by omega)]
  refine ⟨⟨k+1,_,_,rfl,by omega,by simpa using d,p.set (Eu _),by omega,H,?_,?_⟩,by simp only [iAt,aG,aI];omega⟩
  ·rw [D7 (by omega)];exact D9 f
  ·rw [D3 (by omega),F7,aF,aJ (by omega),bF,Cq,D,O,<- s]
   grind
 ·have q:k=ys.length:=by omega
  subst q
  rw [aW] at u
  refine ⟨fun l t=>∃ (k:Nat) (c:Int) (zs:List Int),l=[U c,I k]/\ys.length<=k/\k<=xs.length/\zs.length=xs.length/\Dig b64 zs/\(0<=c/\c<=1)/\Win .u64 t g b e A pre zs post/\zs.drop k=xs.drop k/\val b64 (zs.take k)+c*b64^k=val b64 (xs.take k)+val b64 ys,fun l _=>xs.length-(iAt l 1).toNat,⟨ys.length,c,zs,rfl,by omega,by omega,d,p,y,j,f,u⟩,?_⟩
  clear u f j p d y J C
  rintro c i t ⟨k,F,zs,r,M,J,d,p,y,j,f,u⟩
  obtain ⟨rfl,rfl⟩:c=F/\i=(k:Int):=by simpa using r
  have o:=G1 b64 zs (i:=k) (by omega)
  have m:=G1 b64 xs (i:=k) (by omega)
  refine I4 (fun N=>B8 (fun C=>?_) (fun C=>?_)) (fun N=>?_)
  ·have gz:=O6 p k
   have s:=E8 f
   have D:=C7 b64 xs k
   refine j.sl.load d.symm (by omega) (by omega) ?_
   simp only [aC]
   refine Dv gz (by omega) y ⟨_,_,rfl,?_⟩
   obtain ⟨a,z,_⟩:=SlV.at j.sl (i:=k) (by simp;omega)
   refine ⟨a,z,by omega,by omega,j.storeN G7 z (by omega) ?_⟩
   intro h' H
   rw [C0 (n:=(k:Int)+1) (by omega) (by omega)]
   refine ⟨⟨k+1,_,_,rfl,by omega,by omega,by simpa using d,p.set (Eu _),by omega,H,?_,?_⟩,by simp only [iAt,aG,aI];omega⟩
   ·rw [D7 (by omega)];exact D9 f
   ·rw [D3 (by omega),F7,aF,aJ (by omega),bF,Cq,D,<- s]
    grind
  ·exfalso
   have q:k=xs.length:=by omega
   subst q
   have G:c=1:=by omega
   subst G
   rw [aW] at u
   have:=C9 (by decide) (p.take xs.length)
   omega
  ·have E:c=0:=by omega
   subst E
   refine hK zs t d p ?_ j
   rw [o,m,f];omega
def En{xs ys:List Int}{an bn:Nat}(w:Win .u64 h g b e A pre xs post)(hn:an=xs.length)(sy:SlI .u64 g B ys)(hm:bn=ys.length)(dx:Dig b64 xs)(dy:Dig b64 ys)(hle:ys.length<=xs.length)(hfit:val b64 ys<=val b64 xs)(hl:xs.length<=10000000000)
 (hK:∀ xs' h',xs'.length=xs.length->Dig b64 xs'->val b64 xs'=val b64 xs-val b64 ys->Win .u64 h' g b e A pre xs' post->K (.tuple #[]) h'):aZ prog W8 #[.slice A an ac,.slice B bn bc] h K:=by
 subst hn hm
 refine So _ _ _ _ _ _ ?_
 unfold Pb
 have key:∀ {z y c:Int},(0<=z/\z<18446744073709551616)->(0<=y/\y<18446744073709551616)->(0<=c/\c<=1)->(z-y-c)%18446744073709551616=z-y-c+18446744073709551616*(if z-y-c<0 then 1 else 0):=by
  intro z y c T S q;split<;>omega
 refine ⟨fun l C=>∃ (k:Nat) (c:Int) (zs:List Int),l=[U c,I k]/\k<=ys.length/\zs.length=xs.length/\Dig b64 zs/\(0<=c/\c<=1)/\Win .u64 C g b e A pre zs post/\zs.drop k=xs.drop k/\val b64 (zs.take k)=val b64 (xs.take k)-val b64 (ys.take k)+c*b64^k,fun l _=>ys.length-(iAt l 1).toNat,⟨0,0,xs,rfl,by omega,rfl,dx,by omega,w,rfl,by simp [val]⟩,?_⟩
 rintro c i C ⟨k,H,zs,t,N,d,p,q,j,f,s⟩
 obtain ⟨rfl,rfl⟩:c=H/\i=(k:Int):=by simpa using t
 refine B8 (fun E=>?_) (fun E=>?_)
 ·have M:=O6 dy k
  have gz:=O6 p k
  have u:=E8 f
  have F:=C7 b64 xs k
  have O:=C7 b64 ys k
  refine (sy.mono j.le).load rfl (by omega) (by omega) ?_
  refine j.sl.load d.symm (by omega) (by omega) ?_
  simp only [aC]
  refine Fs gz M q ⟨_,_,rfl,?_⟩
  obtain ⟨a,D,_⟩:=SlV.at j.sl (i:=k) (by simp;omega)
  refine ⟨a,D,by omega,by omega,j.storeN G7 D (by omega) ?_⟩
  intro h' L
  rw [C0 (n:=(k:Int)+1) (by omega) (by omega)]
  refine ⟨⟨k+1,_,_,rfl,by omega,by simpa using d,p.set (Eu _),by split<;>omega,L,?_,?_⟩,by simp only [iAt,aG,aI];omega⟩
  ·rw [D7 (by omega)];exact D9 f
  ·rw [D3 (by omega),F7,aF,aJ (by omega),bF,F,O,<- u,s,key gz M q]
   grind
 ·have r:k=ys.length:=by omega
  subst r
  rw [aW] at s
  refine ⟨fun l C=>∃ (k:Nat) (c:Int) (zs:List Int),l=[U c,I k]/\ys.length<=k/\k<=xs.length/\zs.length=xs.length/\Dig b64 zs/\(0<=c/\c<=1)/\Win .u64 C g b e A pre zs post/\zs.drop k=xs.drop k/\val b64 (zs.take k)=val b64 (xs.take k)-val b64 ys+c*b64^k,fun l _=>xs.length-(iAt l 1).toNat,⟨ys.length,c,zs,rfl,by omega,by omega,d,p,q,j,f,s⟩,?_⟩
  clear s f j p d q N E
  rintro c i C ⟨k,H,zs,t,Q,N,d,p,q,j,f,s⟩
  obtain ⟨rfl,rfl⟩:c=H/\i=(k:Int):=by simpa using t
  have o:=G1 b64 zs (i:=k) (by omega)
  have m:=G1 b64 xs (i:=k) (by omega)
  refine I4 (fun R=>B8 (fun E=>?_) (fun E=>?_)) (fun R=>?_)
  ·have gz:=O6 p k
   have u:=E8 f
   have F:=C7 b64 xs k
   refine j.sl.load d.symm (by omega) (by omega) ?_
   simp only [aC]
   refine Fs gz (by omega) q ⟨_,_,rfl,?_⟩
   obtain ⟨a,D,_⟩:=SlV.at j.sl (i:=k) (by simp;omega)
   refine ⟨a,D,by omega,by omega,j.storeN G7 D (by omega) ?_⟩
   intro h' L
   rw [C0 (n:=(k:Int)+1) (by omega) (by omega)]
   refine ⟨⟨k+1,_,_,rfl,by omega,by omega,by simpa using d,p.set (Eu _),by split<;>omega,L,?_,?_⟩,by simp only [iAt,aG,aI];omega⟩
   ·rw [D7 (by omega)];exact D9 f
   ·rw [D3 (by omega),F7,aF,aJ (by omega),bF,F,<- u,s,key gz (y:=0) (by omega) q]
    grind
  ·exfalso
   have r:k=xs.length:=by omega
   subst r
   have J:c=1:=by omega
   subst J
   rw [aW] at s
   have:=N4 (by decide) (p.take xs.length)
   rw [aF,aJ (by omega)] at this
   omega
  ·have G:c=0:=by omega
   subst G
   refine hK zs C d p ?_ j
   rw [o,m,f];omega
def A1w{x y:Int}{an bn:Nat}(ma:Mw h A an x)(mb:Mw h B bn y)(hab:bn<=an)(hl:an<=4000000000)(hb0:bn≠0)(hK:∀ A' m c' h',h.le h'->m<=c'->Mw h' A' m (x+y)->K (.slice A' m c') h'):
 wpH prog (Instr.makeSlice Aj (I (B7 ((an:Int)+1))) (I (B7 ((an:Int)+1)))) (fun v hp1=>∃ (t20A:Option bH) (t20n:Nat) (t20c:Nat),v= .slice t20A t20n t20c/\∀ ty,wpH prog (fI #[Aj,Aj] ty #[.slice t20A t20n t20c,.slice A an ac]) (fun v1 hp2=>∃ (t23:Int),v1=I t23/\aZ prog V7 #[.slice t20A t20n t20c,.slice B bn bc] hp2 (fun r hp3=>r= .tuple #[]/\aZ prog J5 #[.slice t20A t20n t20c] hp3 (fun r1 hp4=>∃ (t28A:Option bH) (t28n:Nat) (t28c:Nat),r1= .slice t28A t28n t28c/\K (.slice t28A t28n t28c) hp4))) hp1) h:=by
 obtain ⟨a,rfl,D,n,H,rfl⟩:=ma
 obtain ⟨J,rfl,F,q,M,rfl⟩:=mb
 have u:B7 ((a.length:Int)+1)=((a.length+1:Nat):Int):=by rw [C0 (by omega) (by omega)];omega
 rw [u]
 refine K8 R4 (by omega) (by omega) (by omega) ?_
 intro b t
 rw [aC]
 refine ⟨_,_,_,rfl,fun ty=>?_⟩
 have l:=Win.blk .u64 C4 t (aD (a.length+1) 0)
 refine Gu R4 l (by simp) (SlI.mono l.le D) rfl (by simp) ?_
 intro G p
 refine ⟨_,rfl,?_⟩
 have c:(aD (a.length+1) (0:Int)).drop a.length=[0]:=by rw [bI];simp [cK]
 rw [c] at p
 have e:val b64 (a++[0])=val b64 a:=by rw [F7];omega
 have C:=N4 (by decide) n
 have z:=N4 (by decide) q
 have s:=D4 (B:=b64) (by decide) hab
 have j:b64^(a.length+1)=b64^a.length*18446744073709551616:=bF _ _
 have E:=D8 (B:=b64) (by decide) a.length
 refine Iy p (by simp) F rfl (n.append (Dig.one (by decide))) q (by simp;omega) ?_ (by simp;omega) ?_
 ·rw [e,aH,dF,j];omega
 intro zs L g f i o
 refine ⟨rfl,?_⟩
 have d:zs.length=a.length+1:=by rw [g];simp
 rw [<- d]
 refine R7 o.sl f (by omega) (by omega) ?_
 intro m w k
 rw [i,e] at k
 exact ⟨_,_,_,rfl,hK _ _ _ _ o.le w k⟩
def T4{x y:Int}{an bn:Nat}(ma:Mw h A an x)(mb:Mw h B bn y)(ha:an<=ac)(hb:bn<=bc)(hl:an<=4000000000)(hl2:bn<=4000000000)(hK:∀ A' m c' h',h.le h'->m<=c'->Mw h' A' m (x+y)->K (.slice A' m c') h'):aZ prog Q4 #[.slice A an ac,.slice B bn bc] h K:=by
 refine A4o _ _ _ _ _ _ ?_
 unfold A4p
 refine ⟨fun l h'=>h'=h/\∃ (A1 B1:Option bH) (c d c1 c2:Nat) (k n:Int),l=[.slice A1 c c1,.slice B1 d c2]/\Mw h A1 c k/\Mw h B1 d n/\d<=c/\c<=4000000000/\c<=c1/\k+n=x+y,B8 (fun r=>?_) (fun r=>?_),?_⟩
 ·exact ⟨rfl,_,_,_,_,_,_,y,x,rfl,mb,ma,by omega,hl2,hb,fT _ _⟩
 ·exact ⟨rfl,_,_,_,_,_,_,x,y,rfl,ma,mb,by omega,hl,ha,rfl⟩
 ·rintro A1 c c1 B1 d c2 z ⟨rfl,A1',B1',i,a,f,b,k,n,j,p,q,u,e,g,o⟩
  obtain ⟨⟨rfl,rfl,rfl⟩,rfl,rfl,rfl⟩:(A1=A1'/\c=i/\c1=f)/\B1=B1'/\d=a/\c2=b:=by simpa using j
  rw [<- o] at hK
  refine E5 (fun w=>?_) (fun w=>?_)
  ·have:=(q.len_zero (by decide)).2 (by omega)
   subst this
   rw [fR] at hK
   exact hK _ _ _ _ (B5 _) g p
  ·refine Jk _ (A1w (ac:=c1) (bc:=c2) p q u e (by omega) hK) ?_
   rintro v h' ⟨A2,a,b,t,s⟩
   exact ⟨A2,a,b,t,s _⟩
def I6{x y:Int}{an bn:Nat}(ma:Mw h A an x)(mb:Mw h B bn y)(ha:an<=ac)(hl:an<=4000000000)(hxy:y<=x)(hK:∀ A' m c' h',h.le h'->m<=c'->Mw h' A' m (x-y)->K (.slice A' m c') h'):aZ prog I3 #[.slice A an ac,.slice B bn bc] h K:=by
 have a:bn<=an:=mb.len_le (by decide) (dC hxy (ma.lt (by decide)))
 refine Qz _ _ _ _ _ _ ?_
 unfold Kp
 refine E5 (fun p=>?_) (fun p=>?_)
 ·have:=(mb.len_zero (by decide)).2 (by omega)
  subst this
  rw [Int.sub_zero] at hK
  exact hK _ _ _ _ (B5 _) ha ma
 ·obtain ⟨t,rfl,n,l,z,rfl⟩:=ma
  obtain ⟨C,rfl,o,q,E,rfl⟩:=mb
  refine Fc n rfl (by omega) ?_
  intro A1 c1 u s j d
  refine ⟨_,_,_,rfl,?_⟩
  obtain ⟨b,i,r⟩:=d.win (by rintro rfl;rw [gQ] at a;omega)
  refine En r rfl (o.mono j) rfl l q a hxy (by omega) ?_
  intro zs D e c f k
  refine ⟨rfl,?_⟩
  rw [<- e]
  refine R7 k.sl c (by have:=d.2.1;omega) (by omega) ?_
  intro m w g
  rw [f] at g
  exact ⟨_,_,_,rfl,hK _ _ _ _ (B0 j k.le) (by have:=d.2.1;omega) g⟩
def Ix{zs xs:List Int}{an bn:Nat}{wd:Int}(w:Win .u64 h g b e A pre zs post)(hn:an=zs.length)(sx:SlI .u64 g B xs)(hm:bn=xs.length)(dz:Dig b64 zs)(dx:Dig b64 xs)(hle:zs.length=xs.length)(hw:0<=wd/\wd<18446744073709551616)(hl:xs.length<=10000000000)
 (hK:∀ zs' c h',zs'.length=zs.length->Dig b64 zs'->(0<=c/\c<18446744073709551616)->val b64 zs'+c*b64^zs.length=val b64 zs+val b64 xs*wd->Win .u64 h' g b e A pre zs' post->K (U c) h'):aZ prog Cf #[.slice A an ac,.slice B bn bc,U wd] h K:=by
 subst hn hm
 refine Xs _ _ _ _ _ _ _ ?_
 unfold Wr
 refine ⟨fun l p=>∃ (k:Nat) (c:Int) (d:List Int),l=[U c,I k]/\k<=xs.length/\d.length=zs.length/\Dig b64 d/\(0<=c/\c<18446744073709551616)/\Win .u64 p g b e A pre d post/\d.drop k=zs.drop k/\val b64 (d.take k)+c*b64^k=val b64 (zs.take k)+val b64 (xs.take k)*wd,fun l _=>xs.length-(iAt l 1).toNat,⟨0,0,zs,rfl,by omega,rfl,dz,by omega,w,rfl,by simp [val]⟩,?_⟩
 rintro c i p ⟨k,F,d,q,H,f,r,u,j,m,t⟩
 obtain ⟨rfl,rfl⟩:c=F/\i=(k:Int):=by simpa using q
 refine B8 (fun D=>?_) (fun D=>?_)
 ·have y:=O6 dx k
  have gz:=O6 r k
  have s:=E8 m
  have E:=C7 b64 xs k
  have C:=C7 b64 zs k
  have hm:0<=xs.getD k 0*wd/\xs.getD k 0*wd<=18446744073709551615*18446744073709551615:=⟨aT y.1 hw.1,fB (by omega) (by omega) hw.1 (by decide)⟩
  refine (sx.mono j.le).load rfl (by omega) (by omega) ?_
  rw [aC]
  refine Ns y hw ⟨_,_,rfl,?_⟩
  generalize hmm:xs.getD k 0*wd=mm at *
  refine Dv (by omega) u (by omega) ⟨_,_,rfl,?_⟩
  refine j.sl.load f.symm (by omega) (by omega) ?_
  rw [aC]
  refine Dv gz (by omega) (by omega) ⟨_,_,rfl,?_⟩
  obtain ⟨a,z,_⟩:=SlV.at j.sl (i:=k) (by simp;omega)
  refine ⟨a,z,by omega,by omega,j.storeN G7 z (by omega) ?_⟩
  intro h' G
  rw [C0 (n:=(k:Int)+1) (by omega) (by omega)]
  rw [C5 (n:=mm/18446744073709551616+(mm%18446744073709551616+c+0)/18446744073709551616) (by omega) (by omega)]
  rw [C5 (by omega) (by omega)]
  refine ⟨⟨k+1,_,_,rfl,by omega,by simpa using f,r.set (Eu _),by omega,G,?_,?_⟩,by simp only [iAt,aG,aI];omega⟩
  ·rw [D7 (by omega)];exact D9 m
  ·rw [D3 (by omega),F7,aF,aJ (by omega),bF,E,C,<- s]
   have key:(d.getD k 0+(mm%18446744073709551616+c+0)%18446744073709551616+0)%18446744073709551616+18446744073709551616*(mm/18446744073709551616+(mm%18446744073709551616+c+0)/18446744073709551616+(d.getD k 0+(mm%18446744073709551616+c+0)%18446744073709551616+0)/18446744073709551616)=d.getD k 0+mm+c:=by omega
   generalize (d.getD k 0+(mm%18446744073709551616+c+0)%18446744073709551616+0)%18446744073709551616=dg at *
   generalize mm/18446744073709551616+(mm%18446744073709551616+c+0)/18446744073709551616+(d.getD k 0+(mm%18446744073709551616+c+0)%18446744073709551616+0)/18446744073709551616=cn at *
   rw [<- hmm] at key
   grind
 ·have o:k=xs.length:=by omega
  subst o
  rw [aW,<- hle,aW,<- f,aW] at t
  exact hK d c p f r u (by rw [<- f];exact t) j
def Kj{zs xs:List Int}{an bn:Nat}{wd:Int}(w:Win .u64 h g b e A pre zs post)(hn:an=zs.length)(sx:SlI .u64 g B xs)(hm:bn=xs.length)(dz:Dig b64 zs)(dx:Dig b64 xs)(hle:zs.length=xs.length)(hw:0<=wd/\wd<18446744073709551616)(hl:xs.length<=10000000000)
 (hK:∀ zs' c h',zs'.length=zs.length->Dig b64 zs'->(0<=c/\c<18446744073709551616)->val b64 zs'=val b64 zs-val b64 xs*wd+c*b64^zs.length->Win .u64 h' g b e A pre zs' post->K (U c) h'):aZ prog W7 #[.slice A an ac,.slice B bn bc,U wd] h K:=by
 subst hn hm
 refine Ly _ _ _ _ _ _ _ ?_
 unfold Hg
 refine ⟨fun l q=>∃ (k:Nat) (c:Int) (f:List Int),l=[U c,I k]/\k<=xs.length/\f.length=zs.length/\Dig b64 f/\(0<=c/\c<18446744073709551616)/\Win .u64 q g b e A pre f post/\f.drop k=zs.drop k/\val b64 (f.take k)=val b64 (zs.take k)-val b64 (xs.take k)*wd+c*b64^k,fun l _=>xs.length-(iAt l 1).toNat,⟨0,0,zs,rfl,by omega,rfl,dz,by omega,w,rfl,by simp [val]⟩,?_⟩
 rintro c i q ⟨k,F,f,r,H,d,s,u,j,m,p⟩
 obtain ⟨rfl,rfl⟩:c=F/\i=(k:Int):=by simpa using r
 refine B8 (fun D=>?_) (fun D=>?_)
 ·have y:=O6 dx k
  have gz:=O6 s k
  have t:=E8 m
  have E:=C7 b64 xs k
  have C:=C7 b64 zs k
  have hm:0<=xs.getD k 0*wd/\xs.getD k 0*wd<=18446744073709551615*18446744073709551615:=⟨aT y.1 hw.1,fB (by omega) (by omega) hw.1 (by decide)⟩
  refine (sx.mono j.le).load rfl (by omega) (by omega) ?_
  rw [aC]
  refine Ns y hw ⟨_,_,rfl,?_⟩
  generalize hmm:xs.getD k 0*wd=mm at *
  refine Dv (by omega) u (by omega) ⟨_,_,rfl,?_⟩
  refine j.sl.load d.symm (by omega) (by omega) ?_
  rw [aC]
  refine Fs gz (by omega) (by omega) ⟨_,_,rfl,?_⟩
  obtain ⟨a,z,_⟩:=SlV.at j.sl (i:=k) (by simp;omega)
  refine ⟨a,z,by omega,by omega,j.storeN G7 z (by omega) ?_⟩
  intro h' G
  rw [C0 (n:=(k:Int)+1) (by omega) (by omega)]
  rw [C5 (n:=mm/18446744073709551616+(mm%18446744073709551616+c+0)/18446744073709551616) (by omega) (by omega)]
  rw [C5 (by split<;>omega) (by split<;>omega)]
  refine ⟨⟨k+1,_,_,rfl,by omega,by simpa using d,s.set (Eu _),by split<;>omega,G,?_,?_⟩,by simp only [iAt,aG,aI];omega⟩
  ·rw [D7 (by omega)];exact D9 m
  ·rw [D3 (by omega),F7,aF,aJ (by omega),bF,E,C,<- t,p]
   have key:(f.getD k 0-(mm%18446744073709551616+c+0)%18446744073709551616-0)%18446744073709551616=f.getD k 0-mm-c+18446744073709551616*(mm/18446744073709551616+(mm%18446744073709551616+c+0)/18446744073709551616+(if f.getD k 0-(mm%18446744073709551616+c+0)%18446744073709551616-0<0 then 1 else 0)):=by split<;>omega
   rw [key]
   generalize mm/18446744073709551616+(mm%18446744073709551616+c+0)/18446744073709551616+(if f.getD k 0-(mm%18446744073709551616+c+0)%18446744073709551616-0<0 then 1 else 0)=cn at *
   rw [<- hmm]
   grind
 ·have o:k=xs.length:=by omega
  subst o
  rw [aW,<- hle,aW,<- d,aW] at p
  exact hK f c q d s u (by rw [<- d];exact p) j
end
def Ym{x z:Int}{s:Nat}(hs:s<=64)(_hx:0<=x/\x<18446744073709551616)(hz:0<=z/\z<(2:Int)^s):
 bor .u64 z (x*2^s%18446744073709551616)=z+x*2^s%18446744073709551616/\z+x*2^s%18446744073709551616<18446744073709551616/\x*2^s%18446744073709551616=2^s*(x%2^(64-s)):=by
 have k:=Au hs
 have d:0<(2:Int)^s:=bM (by decide)
 have j:0<(2:Int)^(64-s):=bM (by decide)
 have a:z<18446744073709551616:=by
  have:(2:Int)^s*1<=2^s*2^(64-s):=aK (by omega) (by omega)
  omega
 have g:x*2^s%18446744073709551616=2^s*(x%2^(64-s)):=by
  rw [<- k,aS x,Int.mul_emod_mul_of_pos _ _ d]
 have e:=Eu (x*2^s)
 have f:0<=x%2^(64-s):=aU _ (by omega)
 have i:(x*2^s%18446744073709551616).toNat=2^s*(x%2^(64-s)).toNat:=by
  rw [g,Int.toNat_mul (by omega) f]
  rw [hO (by decide)];rfl
 have c:z.toNat<2^s:=by
  have:((2^s:Nat):Int)=(2:Int)^s:=by simp
  omega
 have b:bor .u64 z (x*2^s%18446744073709551616)=z+x*2^s%18446744073709551616:=by
  rw [A6s ⟨hz.1,a⟩ e,i,Nat.or_comm,A7y c,<- i]
  omega
 refine ⟨b,?_,g⟩
 rw [<- b,A6s ⟨hz.1,a⟩ e]
 have:z.toNat ||| (x*2^s%18446744073709551616).toNat<2^64:=Nat.or_lt_two_pow (by omega) (by have:=e.2;show _<_;omega)
 omega
def Kz(k:Nat):b64^k=(2:Int)^(64*k):=by
 rw [show b64=(2:Int)^64 by decide,<- Int.pow_mul]
section
variable {h g:bB} {K:VP} {A B:Option bH} {ac bc:Nat}
def W4{x:Int}{an s:Nat}(ma:Mw h A an x)(ha:an<=ac)(hl:an<=1000000000)(hs:s<=10000000000)(hK:∀ A' m c' h',h.le h'->m<=c'->Mw h' A' m (x*2^s)->K (.slice A' m c') h'):aZ prog V5 #[.slice A an ac,U s] h K:=by
 have C:=ma.len_zero (by decide)
 refine A1x _ _ _ _ ?_
 unfold Zf
 refine E5 (fun h0=>?_) (fun h0=>E5 (fun j=>?_) (fun j=>?_))
 ·have:=C.2 (by omega)
  subst this
  rw [fP] at hK
  exact hK _ _ _ _ (B5 _) ha ma
 ·have:s=0:=by omega
  subst this
  rw [iH,Int.mul_one] at hK
  exact hK _ _ _ _ (B5 _) ha ma
 ·obtain ⟨a,rfl,sx,V,nx,rfl⟩:=ma
  obtain ⟨k0,hk0⟩:∃ k0,k0=s/64:=⟨_,rfl⟩
  obtain ⟨r,hr⟩:∃ r,r=s%64:=⟨_,rfl⟩
  have M:B7 (C3 (cT (s:Int) 64))=(k0:Int):=by
   rw [bJ (by omega),C5 (by omega) (by omega),C0 (by omega) (by omega)];omega
  have em:dO (s:Int) 64=(r:Int):=by rw [bY (by omega)];omega
  have R:C3 ((64:Int)-(r:Int))=((64-r:Nat):Int):=by rw [C5 (by omega) (by omega)];omega
  simp only [M,em,R,aC]
  have N:B7 (B7 ((a.length:Int)+k0)+1)=((a.length+k0+1:Nat):Int):=by rw [C0 (n:=(a.length:Int)+k0) (by omega) (by omega),C0 (by omega) (by omega)];omega
  rw [N]
  refine K8 R4 (by omega) (by omega) (by omega) ?_
  intro b E
  rw [aC]
  refine ⟨_,_,_,rfl,?_⟩
  have z:0<(2:Int)^r:=bM (by decide)
  have g:0<(2:Int)^(64-r):=bM (by decide)
  have f:=Au (s:=r) (by omega)
  refine ⟨fun l h'=>∃ (k:Nat) (zs:List Int),l=[I k]/\k<=a.length/\zs.length=a.length+k0+1/\Dig b64 zs/\h'=blk .u64 C4 h b zs/\zs.drop (k+k0+1)=aD (a.length-k) 0/\zs.getD (k+k0) 0<2^r/\val b64 (zs.take (k+k0+1))=val b64 (a.take k)*2^s,fun l _=>a.length-(iAt l 0).toNat,⟨0,_,rfl,by omega,by simp,J1 (by decide) _,rfl,?_,?_,?_⟩,?_⟩
  ·rw [bI];congr 1;omega
  ·have:(aD (a.length+k0+1) (0:Int)).getD (0+k0) 0=0:=by simp [cR,List.getElem?_replicate];split<;>rfl
   rw [this];exact z
  ·rw [cH,Cy];simp [val]
  rintro i hp ⟨k,zs,w,hk,c,D,rfl,u,L,d⟩
  obtain rfl:=sI1 w
  have q:=Y7 (k:=.u64) (e:=C4) E zs
  refine B8 (fun j=>?_) (fun j=>?_)
  ·have p:=O6 V k
   have gz:=O6 D (k+k0)
   have O:=C7 b64 a k
   have J:=C7 b64 zs (k+k0)
   have T:B7 ((k:Int)+k0)=((k+k0:Nat):Int):=by rw [C0 (by omega) (by omega)];omega
   have X:B7 (((k+k0:Nat):Int)+1)=((k+k0+1:Nat):Int):=by rw [C0 (by omega) (by omega)];omega
   rw [T,X]
   refine (sx.mono q).load rfl (by omega) (by omega) ?_
   refine (Dt .u64 C4 h b zs).load c.symm (by omega) (by omega) ?_
   simp only [aC]
   refine B8 (fun e=>absurd e (by omega)) (fun _=>?_)
   refine ⟨_,rfl,by omega,by omega,?_⟩
   obtain ⟨o1,H,S⟩:=Ym (s:=r) (by omega) p ⟨gz.1,L⟩
   rw [aJ (show r<=64 by omega),F6,o1,B75 (show 64-r<=64 by omega)]
   have aa:=Eu (a.getD k 0*2^r)
   refine Fe (zs:=zs) (i:=k+k0) G7 (by first|omega|(rw [bO];omega)) ?_
   refine B8 (fun e=>absurd e (by omega)) (fun _=>?_)
   refine ⟨_,rfl,by omega,by omega,?_⟩
   refine Fe (zs:=zs.set (k+k0) (zs.getD (k+k0) 0+a.getD k 0*2^r%18446744073709551616)) (i:=k+k0+1) G7 (by first|omega|(rw [bO];omega)) ?_
   have G:0<=a.getD k 0/2^(64-r)/\a.getD k 0/2^(64-r)<2^r:=⟨cF p.1 (by omega),bK g (by rw [f];exact p.2)⟩
   have Z:(2:Int)^r<=9223372036854775808:=by
    have:=D4 (B:=2) (by decide) (show r<=63 by omega)
    have e:(2:Int)^63=9223372036854775808:=by decide
    omega
   rw [C0 (n:=(k:Int)+1) (by omega) (by omega)]
   refine ⟨⟨k+1,(zs.set (k+k0) (zs.getD (k+k0) 0+a.getD k 0*2^r%18446744073709551616)).set (k+k0+1) (a.getD k 0/2^(64-r)),rfl,by omega,by simpa using c,(D.set ⟨by omega,H⟩).set ⟨G.1,by show _<(18446744073709551616:Int);omega⟩,rfl,?_,?_,?_⟩,by simp only [iAt,aG];omega⟩
   ·rw [show k+1+k0+1=(k+k0+1)+1 by omega,D7 (by omega),D7 (by omega),<- dJ,u,bI]
    congr 1
   ·rw [show k+1+k0=k+k0+1 by omega]
    have:((zs.set (k+k0) (zs.getD (k+k0) 0+a.getD k 0*2^r%18446744073709551616)).set (k+k0+1) (a.getD k 0/2^(64-r))).getD (k+k0+1) 0=a.getD k 0/2^(64-r):=by
     rw [cR,iG (by rw [bO];omega)];rfl
    rw [this];exact G.2
   ·rw [show k+1+k0+1=(k+k0+1)+1 by omega,D3 (by rw [bO];omega),F7,D3 (by omega),F7]
    simp only [aF,aH,dF]
    rw [aJ (show k+k0<=zs.length by omega),bF,O]
    rw [J] at d
    have y:(2:Int)^s=b64^k0*2^r:=by
     rw [Kz,<- bG];congr 1;omega
    have t:b64^(k+k0)=b64^k*b64^k0:=bG _ _ _
    have Q:=aO (a.getD k 0) (2^(64-r))
    have key:a.getD k 0*2^r%18446744073709551616+18446744073709551616*(a.getD k 0/2^(64-r))=a.getD k 0*2^r:=by
     rw [S,<- f,cZ,<- dB]
     have:a.getD k 0%2^(64-r)+2^(64-r)*(a.getD k 0/2^(64-r))=a.getD k 0:=by omega
     rw [this,aS]
    generalize a.getD k 0*2^r%18446744073709551616=lo at *
    generalize a.getD k 0/2^(64-r)=hi at *
    rw [y] at d ⊢
    rw [t] at d ⊢
    have e5:(val b64 (a.take k)+b64^k*a.getD k 0)*(b64^k0*2^r)=val b64 (a.take k)*(b64^k0*2^r)+b64^k*b64^k0*(a.getD k 0*2^r):=by grind
    rw [e5,<- d,<- key]
    grind
  ·have o:k=a.length:=by omega
   subst o
   rw [aW,aL (by omega)] at d
   rw [<- c]
   refine R7 (Dt _ _ _ _ _) D (aY _) (by omega) ?_
   intro m W F
   rw [d] at F
   exact ⟨_,_,_,rfl,hK _ _ _ _ (Y7 E _) W F⟩
def Gz{x:Int}{an s:Nat}(ma:Mw h A an x)(hl:an<=1000000000)(hs:s<=1000000000000)(hK:∀ A' m c' h',h.le h'->m<=c'->Mw h' A' m (x/2^s)->K (.slice A' m c') h'):aZ prog Ce #[.slice A an ac,U s] h K:=by
 have L:=ma.nonneg (by decide)
 have ag:=ma.lt (by decide)
 refine Xo _ _ _ _ ?_
 unfold Wj
 obtain ⟨k0,hk0⟩:∃ k0,k0=s/64:=⟨_,rfl⟩
 obtain ⟨r,hr⟩:∃ r,r=s%64:=⟨_,rfl⟩
 have N:C3 (cT (s:Int) 64)=(k0:Int):=by
  rw [bJ (by omega),C5 (by omega) (by omega)];omega
 have D:B7 (k0:Int)=(k0:Int):=C0 (by omega) (by omega)
 have em:dO (s:Int) 64=(r:Int):=by rw [bY (by omega)];omega
 have er:C3 ((64:Int)-(r:Int))=((64-r:Nat):Int):=by rw [C5 (by omega) (by omega)];omega
 have en:C3 (an:Int)=(an:Int):=C5 (by omega) (by omega)
 simp only [N,D,em,er,en,aC]
 have n:(2:Int)^s=b64^k0*2^r:=by
  rw [Kz,<- bG];congr 1;omega
 refine B8 (fun h1=>?_) (fun h1=>?_)
 ·have:x/2^s=0:=by
   apply bU L
   rw [n]
   have t1:=D4 (B:=b64) (by decide) (show an<=k0 by omega)
   have X:b64^k0*1<=b64^k0*2^r:=aK (by have:0<(2:Int)^r:=bM (by decide);omega) (aQ (D8 (by decide) _))
   omega
  rw [this] at hK
  exact hK _ _ _ _ (B5 _) (aY _) Mag.zero
 ·obtain ⟨a,rfl,W,p,nx,rfl⟩:=ma
  have C:B7 ((a.length:Int)-k0)=((a.length-k0:Nat):Int):=by rw [C0 (by omega) (by omega)];omega
  rw [C]
  refine K8 R4 (by omega) (by omega) (by omega) ?_
  intro b Q
  rw [aC]
  refine ⟨_,_,_,rfl,?_⟩
  have V:0<(2:Int)^r:=bM (by decide)
  have d:=Au (s:=r) (by omega)
  have u:0<(2:Int)^(64-r):=bM (by decide)
  have ae:(a.drop k0).length=a.length-k0:=aN
  have f:∀ i,(a.drop k0).getD i 0=a.getD (k0+i) 0:=fun i=>A3w
  refine ⟨fun l h'=>∃ (k:Nat) (zs:List Int),l=[I k]/\k<=a.length-k0/\zs.length=a.length-k0/\Dig b64 zs/\h'=blk .u64 C4 h b zs/\2^r*val b64 (zs.take k)+(a.drop k0).getD 0 0%2^r=val b64 ((a.drop k0).take k)+b64^k*((a.drop k0).getD k 0%2^r),fun l _=>a.length-(iAt l 0).toNat,⟨0,_,rfl,by omega,by simp,J1 (by decide) _,rfl,by simp [val]⟩,?_⟩
  rintro i ab ⟨k,zs,J,hk,c,O,rfl,S⟩
  obtain rfl:=sI1 J
  have g:∀ zs,h.le (blk .u64 C4 h b zs):=fun zs=>Y7 (k:=.u64) (e:=C4) Q zs
  have gz:=O6 (p.drop k0) k
  refine B8 (fun h2=>?_) (fun h2=>?_)
  ·have e2:B7 ((k:Int)+k0)=((k0+k:Nat):Int):=by rw [C0 (by omega) (by omega)];omega
   have e3:B7 (((k0+k:Nat):Int)+1)=((k0+(k+1):Nat):Int):=by rw [C0 (by omega) (by omega)];omega
   rw [e2,e3]
   refine (W.mono (g zs)).load rfl (by omega) (by omega) ?_
   refine B8 (fun e=>absurd e (by omega)) (fun _=>?_)
   refine ⟨_,rfl,by omega,by omega,?_⟩
   simp only [aC]
   rw [<- f k,B75 (show r<=64 by omega)]
   have j:0<=(a.drop k0).getD k 0/2^r:=cF gz.1 (by omega)
   have t:(a.drop k0).getD k 0/2^r<2^(64-r):=by
    apply bK V
    rw [aS,d];exact gz.2
   have T:(2:Int)^(64-r)<=18446744073709551616:=by
    rw [<- d]
    have:=aE (show 1<=(2:Int)^r by omega) (aQ u);omega
   refine Fe (zs:=zs) (i:=k) G7 (by first|omega|(rw [bO];omega)) ?_
   have d1:Dig b64 (zs.set k ((a.drop k0).getD k 0/2^r)):=O.set ⟨j,by show _<(18446744073709551616:Int);omega⟩
   have l1:(zs.set k ((a.drop k0).getD k 0/2^r)).length=a.length-k0:=by rw [bO];exact c
   have g1:(zs.set k ((a.drop k0).getD k 0/2^r)).getD k 0=(a.drop k0).getD k 0/2^r:=by simp [cR,show k<zs.length by omega]
   have vr:=C7 b64 (a.drop k0) k
   have o:∀ z:Int,2^r*z=(a.drop k0).getD k 0-(a.drop k0).getD k 0%2^r+18446744073709551616*((a.drop k0).getD (k+1) 0%2^r)->
    2^r*val b64 ((zs.set k z).take (k+1))+(a.drop k0).getD 0 0%2^r=val b64 ((a.drop k0).take (k+1))+b64^(k+1)*((a.drop k0).getD (k+1) 0%2^r):=by
    intro z ez
    rw [D3 (by omega),F7,aF,aJ (by omega),vr,bF]
    have C:2^r*(val b64 (zs.take k)+b64^k*z)=2^r*val b64 (zs.take k)+b64^k*(2^r*z):=by grind
    rw [C,ez]
    grind
   have ad:=aO ((a.drop k0).getD k 0) (2^r)
   have E:B7 ((k:Int)+1)=((k+1:Nat):Int):=by rw [C0 (by omega) (by omega)];omega
   rw [E]
   refine B8 (fun h3=>?_) (fun h3=>?_)
   ·have ld:=(Dt .u64 C4 h b (zs.set k ((a.drop k0).getD k 0/2^r)))
    obtain ⟨aa,y,G⟩:=SlV.at ld (i:=k) (by simp;omega)
    refine ⟨aa,y,by omega,by omega,(a.drop k0).getD k 0/2^r,?_,?_⟩
    ·rw [cJ,G]
     congr 1
     simp only [List.getElem_map]
     congr 1
     simp
    refine (W.mono (g _)).load rfl (by omega) (by omega) ?_
    refine B8 (fun e=>absurd e (by omega)) (fun _=>?_)
    refine ⟨_,rfl,by omega,by omega,?_⟩
    simp only [aC]
    rw [<- f (k+1)]
    have gr:=O6 (p.drop k0) (k+1)
    obtain ⟨o1,Z,o3⟩:=Ym (s:=64-r) (by omega) gr ⟨j,t⟩
    rw [aJ (show 64-r<=64 by omega),F6,o1]
    refine Fe (zs:=zs.set k ((a.drop k0).getD k 0/2^r)) (i:=k) G7 (by first|omega|(rw [bO];omega)) ?_
    rw [List.set_set]
    have af:=Eu ((a.drop k0).getD (k+1) 0*2^(64-r))
    refine ⟨⟨k+1,zs.set k ((a.drop k0).getD k 0/2^r+(a.drop k0).getD (k+1) 0*2^(64-r)%18446744073709551616),rfl,by omega,by simpa using c,O.set ⟨by omega,Z⟩,rfl,o _ ?_⟩,by simp only [iAt,aG];omega⟩
    rw [o3,show 64-(64-r)=r by omega,dB,<- cZ,d]
    omega
   ·have q:(a.drop k0).getD (k+1) 0=0:=by simp only [cR,cW (show (a.drop k0).length<=k+1 by omega)];rfl
    refine ⟨⟨k+1,zs.set k ((a.drop k0).getD k 0/2^r),rfl,by omega,l1,d1,rfl,o _ ?_⟩,by simp only [iAt,aG];omega⟩
    rw [q,gY,fQ,fR];omega
  ·have F:k=a.length-k0:=by omega
   subst F
   have q:(a.drop k0).getD (a.length-k0) 0=0:=by simp only [cR,cW (show (a.drop k0).length<=a.length-k0 by omega)];rfl
   rw [q,gY,fQ,fR,aL (by omega),aL (by omega)] at S
   have M:=aU ((a.drop k0).getD 0 0) (show (2:Int)^r≠0 by omega)
   have w:=aP ((a.drop k0).getD 0 0) V
   have H:val b64 a/2^s=val b64 zs:=by
    have sp:=G1 b64 a (i:=k0) (by omega)
    have t1:=N4 (by decide) (p.take k0)
    have X:=C9 (by decide) (p.take k0)
    rw [aF,aJ (by omega)] at t1
    rw [n,<- fN (aQ (D8 (by decide) _)),sp,fX _ _ (by have:=D8 (B:=b64) (by decide) k0;omega),bU X t1,dN,<- S,fT,fX _ _ (by omega),bU M w,dN]
   rw [<- c]
   refine R7 (Dt _ _ _ _ _) O (aY _) (by omega) ?_
   intro m hm R
   rw [<- H] at R
   exact ⟨_,_,_,rfl,hK _ _ _ _ (Y7 Q _) hm R⟩
end
def Dm(B:Int)(xs:List Int)(n:Nat):val B (xs++aD n 0)=val B xs:=by rw [H2,Cy];omega
def Nr{xs:List Int}{k:Nat}(h:gC xs)(hk:k<xs.length):gC (xs.drop k):=by
 unfold gC at *
 rwa [List.getLast?_drop,iN (by omega)]
def Mw.of{h:bB}{A:Option bH}{xs:List Int}(s:SlI .u64 h A xs)(d:Dig b64 xs)(n:gC xs):Mw h A xs.length (val b64 xs):=⟨xs,rfl,s,d,n,rfl⟩
def A1q{k:dZ}{h:bB}{A:Option bH}{xs:List Int}(s:SlI k h A xs){c l:Nat}(hl:l<=xs.length)(hc:xs.length<=c):SlI k h (H9 A c l 1) (xs.drop l):=by
 have:=s.cut (c:=c) (l:=l) (m:=xs.length) hl (aY _) hc
 rwa [aL (by rw [aN];omega)] at this
def Kf{k:dZ}{h:bB}{A:Option bH}{xs:List Int}(s:SlI k h A xs){c m:Nat}(hm:m<=xs.length)(hc:xs.length<=c):SlI k h A (xs.take m):=by
 have:=s.cut (c:=c) (l:=0) (m:=m) (by omega) hm hc
 simpa [J0] using this
def Bz{h:bB}{K:VP}{A:Option bH}{ac n:Nat}{v:Int}{xs:List Int}(s:SlI .u64 h A xs)(hd:Dig b64 xs)(hn:n=xs.length)(hv:val b64 xs=v)(hc:n<=ac)(hl:n<=10000000000)(hK:∀ m,m<=n->Mw h A m v->K (.slice A m ac) h):aZ prog J5 #[.slice A n ac] h K:=by
 subst hn hv
 exact R7 s hd hc hl hK
def C4o(N:Nat):Prop:=∀ {h:bB} {K:VP} {A B:Option bH} {ac bc an bn:Nat} {x y:Int},an+bn<=N->Mw h A an x->Mw h B bn y->an<=ac->bn<=bc->an<=1000000000->bn<=1000000000->
 (∀ A' m c' h',h.le h'->m<=c'->Mw h' A' m (x*y)->K (.slice A' m c') h')->aZ prog D6 #[.slice A an ac,.slice B bn bc] h K
section
variable {h g:bB} {K:VP} {A B:Option bH} {ac bc:Nat}
def C3g{xs ys:List Int}{b:Nat}(hb:h b=none)(sx:SlI .u64 h A xs)(dx:Dig b64 xs)(sy:SlI .u64 h B ys)(dy:Dig b64 ys)(hl:xs.length<=1000000000)(hl2:ys.length<=1000000000)
 (hK:∀ A' m c' h',h.le h'->m<=c'->Mw h' A' m (val b64 xs*val b64 ys)->K (.slice A' m c') h'):
 Af prog K A xs.length ac B ys.length (some ⟨b,0,none⟩) (xs.length+ys.length) (xs.length+ys.length) (blk .u64 C4 h b (aD (xs.length+ys.length) 0)):=by
 unfold Af
 refine ⟨fun l D=>∃ (k:Nat) (zs:List Int),l=[I k]/\k<=ys.length/\zs.length=xs.length+ys.length/\Dig b64 zs/\Win .u64 D h b C4 (some ⟨b,0,none⟩) [] zs []/\zs.drop (k+xs.length)=aD (ys.length-k) 0/\val b64 (zs.take (k+xs.length))=val b64 xs*val b64 (ys.take k),fun l _=>ys.length-(iAt l 0).toNat,⟨0,_,rfl,by omega,by simp,J1 (by decide) _,Win.blk .u64 C4 hb _,?_,?_⟩,?_⟩
 ·rw [bI];congr 1;omega
 ·rw [cH,Cy];simp [val]
 rintro i D ⟨k,zs,y,Q,r,g,w,u,q⟩
 obtain rfl:=sI1 y
 refine B8 (fun G=>?_) (fun G=>?_)
 ·have F:=O6 dy k
  have O:=C7 b64 ys k
  have E:B7 ((k:Int)+xs.length)=((k+xs.length:Nat):Int):=by rw [C0 (by omega) (by omega)];omega
  rw [E]
  refine (sy.mono w.le).load rfl (by omega) (by omega) ?_
  simp only [aC]
  refine ⟨⟨by omega,by omega⟩,⟨by omega,by omega⟩,?_⟩
  have a:((zs.drop k).take (k+xs.length-k)).length=xs.length:=by rw [aF,aN];omega
  refine Ix (w.sub (l:=k) (m:=k+xs.length) (c:=xs.length+ys.length) (by omega) (by omega) (by omega)) (by rw [a];omega) sx rfl ((g.drop k).take _) dx a F (by omega) ?_
  intro f c h' d e H s M
  rw [a] at d
  have N:=w.whole (l:=k) (m:=k+xs.length) (by omega) (by omega) (by omega) M
  refine ⟨_,rfl,_,rfl,by omega,by omega,?_⟩
  have o:(zs.take k++f++zs.drop (k+xs.length)).length=xs.length+ys.length:=by
   simp only [aH,aF,aN];omega
  refine N.storeN (i:=k+xs.length) G7 rfl (by omega) ?_
  intro R L
  rw [C0 (n:=(k:Int)+1) (by omega) (by omega)]
  have t:(zs.take k++f++zs.drop (k+xs.length)).take (k+xs.length)=zs.take k++f:=by
   apply dE
   simp only [aH,aF];omega
  have j:(zs.take k++f++zs.drop (k+xs.length)).drop (k+xs.length)=zs.drop (k+xs.length):=by
   apply eR
   simp only [aH,aF];omega
  refine ⟨⟨k+1,_,rfl,by omega,by rw [bO];exact o,(((g.take k).append e).append (g.drop _)).set H,L,?_,?_⟩,by simp only [iAt,aG];omega⟩
  ·rw [show k+1+xs.length=(k+xs.length)+1 by omega,D7 (by omega),<- dJ,j,u,bI]
   congr 1
  ·rw [show k+1+xs.length=(k+xs.length)+1 by omega,D3 (by omega),t,F7,H2,O]
   simp only [aH,aF]
   rw [aJ (by omega),d,bG]
   have z:val b64 (zs.take (k+xs.length))=val b64 (zs.take k)+b64^k*val b64 ((zs.drop k).take (k+xs.length-k)):=by
    rw [show k+xs.length-k=xs.length by omega,gX,H2,aF,aJ (by omega)]
   rw [a] at s
   rw [z] at q
   grind
 ·have p:k=ys.length:=by omega
  subst p
  rw [aW,aL (by omega)] at q
  rw [<- r]
  refine R7 w.sl g (aY _) (by omega) ?_
  intro m J C
  rw [q] at C
  exact ⟨_,_,_,rfl,hK _ _ _ _ w.le J C⟩
def Py{x y:Int}{an bn N:Nat}(ih:C4o N)(hN:2*bn<=N)(ma:Mw h A an x)(mb:Mw h B bn y)(ha:an<=ac)(hbc:bn<=bc)(hl:an<=1000000000)(hb0:0<bn)(hba:bn<=an)(hK:∀ A' m c' h',h.le h'->m<=c'->Mw h' A' m (x*y)->K (.slice A' m c') h'):aZ prog Dc #[.slice A an ac,.slice B bn bc] h K:=by
 have ai:=mb.nonneg (by decide)
 have u:=mb.lt (by decide)
 obtain ⟨a,rfl,sx,O,nx,rfl⟩:=ma
 refine Sp _ _ _ _ _ _ ?_
 unfold Pc
 have e1:B7 ((a.length:Int)+bn)=((a.length+bn:Nat):Int):=by rw [C0 (by omega) (by omega)];omega
 rw [e1]
 refine K8 R4 (by omega) (by omega) (by omega) ?_
 intro b hb
 rw [aC]
 refine ⟨_,_,_,rfl,?_⟩
 refine ⟨fun l G=>∃ (k:Nat) (zs:List Int) (g:bB),l=[I k]/\k<=a.length+bn/\h.le g/\zs.length=a.length+bn/\Dig b64 zs/\Win .u64 G g b C4 (some ⟨b,0,none⟩) [] zs []/\val b64 zs=val b64 (a.take k)*y,fun l _=>a.length+bn-(iAt l 0).toNat,⟨0,_,h,rfl,by omega,B5 h,by simp,J1 (by decide) _,Win.blk .u64 C4 hb _,by rw [Cy];simp [val]⟩,?_⟩
 rintro i G ⟨k,zs,g,ah,hk,M,aa,t,w,W⟩
 obtain rfl:=sI1 ah
 refine B8 (fun h1=>?_) (fun h1=>?_)
 ·have e2:B7 ((k:Int)+bn)=((k+bn:Nat):Int):=by rw [C0 (by omega) (by omega)];omega
  rw [e2]
  obtain ⟨en,hen⟩:∃ en,en=min a.length (k+bn):=⟨_,rfl⟩
  have e3:(if (a.length:Int)<((k+bn:Nat):Int) then (a.length:Int) else ((k+bn:Nat):Int))=(en:Int):=by split<;>omega
  rw [e3]
  simp only [aC]
  refine ⟨⟨by omega,by omega⟩,⟨by omega,by omega⟩,⟨by omega,by omega⟩,?_⟩
  have ad:((a.drop k).take (en-k)).length=en-k:=by rw [aF,aN];omega
  have sp:SlI .u64 g (H9 A ac k 1) ((a.drop k).take (en-k)):=(sx.mono M).cut (c:=ac) (l:=k) (m:=en) (by omega) (by omega) ha
  have dp:Dig b64 ((a.drop k).take (en-k)):=(O.drop k).take _
  have aq:=C9 (by decide) O
  have F:∀ m,m<=en-k->gC (((a.drop k).take (en-k)).take m)->val b64 (((a.drop k).take (en-k)).take m)=val b64 ((a.drop k).take (en-k))->
   aZ prog D6 #[.slice (H9 A ac k 1) m (ac-k),.slice B bn bc] G (fun V d=>∃ (t38A:Option bH) (t38n:Nat) (t38c:Nat),V= .slice t38A t38n t38c/\Heap.le G d/\aZ prog V7 #[.slice (H9 (some ⟨b,0,none⟩) (a.length+bn) k 1) (a.length+bn-k) (a.length+bn-k),.slice t38A t38n t38c] d (fun r2 p=>r2= .tuple #[]/\(∃ (k_1:Nat) (zs:List Int) (g:bB),[I ((k+bn:Nat):Int)]=[I k_1]/\k_1<=a.length+bn/\h.le g/\zs.length=a.length+bn/\Dig b64 zs/\Win .u64 p g b C4 (some ⟨b,0,none⟩) [] zs []/\val b64 zs=val b64 (a.take k_1)*y)/\a.length+bn-(iAt [I ((k+bn:Nat):Int)] 0).toNat<a.length+bn-(iAt [I k] 0).toNat)):=by
   intro m Z q s
   have Mp:Mw g (H9 A ac k 1) m (val b64 ((a.drop k).take (en-k))):=⟨((a.drop k).take (en-k)).take m,by rw [aF];omega,Kf sp (c:=ac) (by omega) (by omega),dp.take m,q,s⟩
   refine w.call ?_
   refine ih (by omega) Mp (mb.mono M) (by omega) hbc (by omega) (by omega) ?_
   intro A' m' c' g2 l2 ap M2 h3 w3
   refine ⟨_,_,_,rfl,?_,?_⟩
   ·rw [w.eq,w3.eq]
    intro kk o e
    by_cases z:kk=b
    ·subst z;rw [C2] at e ⊢;exact e
    ·rw [B9 _ _ z] at e ⊢;exact l2 kk o e
   obtain ⟨f,L,D,J,ag,R⟩:=M2
   have af:=G1 b64 zs (i:=k) (by omega)
   have ar:=C9 (by decide) (t.take k)
   have ab:a.take en=a.take k++(a.drop k).take (en-k):=by
    have:=gX (l:=a) (i:=k) (j:=en-k)
    rwa [show k+(en-k)=en by omega] at this
   have T:val b64 (a.take en)=val b64 (a.take k)+b64^k*val b64 ((a.drop k).take (en-k)):=by
    rw [ab,H2,aF,aJ (by omega)]
   have H:val b64 zs+b64^k*val b64 f=val b64 (a.take en)*y:=by
    rw [W,R,T];grind
   have am:val b64 (a.take en)*y<b64^(a.length+bn):=by
    have t1:=N4 (by decide) (O.take en)
    have t2:=C9 (by decide) (O.take en)
    rw [aF,aJ (by omega)] at t1
    have t3:val b64 (a.take en)*y<=b64^en*y:=aE (by omega) ai
    have t4:b64^en*y<b64^en*b64^bn:=cV u (D8 (by decide) en)
    rw [<- bG] at t4
    have t5:=D4 (B:=b64) (by decide) (show en+bn<=a.length+bn by omega)
    omega
   have C:val b64 (zs.drop k)+val b64 f<b64^(a.length+bn-k):=by
    have e5:b64^(a.length+bn)=b64^k*b64^(a.length+bn-k):=by rw [<- bG];congr 1;omega
    by_cases Q:val b64 (zs.drop k)+val b64 f<b64^(a.length+bn-k)
    ·exact Q
    ·have:=aK (show b64^(a.length+bn-k)<=val b64 (zs.drop k)+val b64 f by omega) (aQ (D8 (B:=b64) (by decide) k))
     rw [dB] at this
     omega
   have ak:=C9 (by decide) (t.drop k)
   have ao:f.length<=a.length+bn-k:=by
    have Mps:Mw g2 A' f.length (val b64 f):=⟨f,rfl,D,J,ag,rfl⟩
    exact Mps.len_le (by decide) (by omega)
   have ws:=w3.sub (l:=k) (m:=a.length+bn) (c:=a.length+bn) (by omega) (by omega) (by omega)
   have aj:(zs.drop k).take (a.length+bn-k)=zs.drop k:=aL (by rw [aN];omega)
   have E:(zs.drop k).length=a.length+bn-k:=by rw [aN];omega
   rw [aj] at ws
   refine Iy ws E.symm D L (t.drop k) J (by omega) (by rw [E];exact C) (by omega) ?_
   intro us h5 al X ae w5
   have w6:=w3.whole (l:=k) (m:=a.length+bn) (by omega) (by omega) (by omega) w5
   refine ⟨rfl,⟨k+bn,_,g2,rfl,by omega,B0 M l2,?_,((t.take k).append X).append (t.drop _),w6,?_⟩,by simp only [iAt,aG];omega⟩
   ·simp only [aH,aF,aN];omega
   ·rw [aV (by omega),cC,H2,aF,aJ (by omega),ae]
    have:a.take (k+bn)=a.take en:=by
     rw [hen]
     by_cases Q:a.length<=k+bn
     ·rw [aJ Q,aW,aL Q]
     ·rw [fJ (by omega)]
    rw [this,<- H,af];grind
  have tr:=Ej (K:=fun r n=>∃ (t36A:Option bH) (t36n:Nat) (t36c:Nat),r= .slice t36A t36n t36c/\Heap.le G n/\aZ prog D6 #[.slice t36A t36n t36c,.slice B bn bc] n (fun V d=>∃ (t38A:Option bH) (t38n:Nat) (t38c:Nat),V= .slice t38A t38n t38c/\Heap.le n d/\aZ prog V7 #[.slice (H9 (some ⟨b,0,none⟩) (a.length+bn) k 1) (a.length+bn-k) (a.length+bn-k),.slice t38A t38n t38c] d (fun r2 p=>r2= .tuple #[]/\(∃ (k_1:Nat) (zs:List Int) (g:bB),[I ((k+bn:Nat):Int)]=[I k_1]/\k_1<=a.length+bn/\h.le g/\zs.length=a.length+bn/\Dig b64 zs/\Win .u64 p g b C4 (some ⟨b,0,none⟩) [] zs []/\val b64 zs=val b64 (a.take k_1)*y)/\a.length+bn-(iAt [I ((k+bn:Nat):Int)] 0).toNat<a.length+bn-(iAt [I k] 0).toNat))) (ac:=ac-k) (sp.mono w.le) (by omega) (by omega) (fun m Z q s=>⟨_,_,_,rfl,B5 _,F m (by omega) q s⟩)
  rw [ad] at tr
  exact tr
 ·have S:a.take k=a:=aL (by omega)
  rw [S] at W
  rw [<- aa]
  refine R7 w.sl t (aY _) (by omega) ?_
  intro m Z hM
  rw [W] at hM
  exact ⟨_,_,_,rfl,hK _ _ _ _ (B0 M w.le) Z hM⟩
def C7q{X0 X1 Y0 Y1 P:Int}(hx0:0<=X0)(hx1:0<=X1)(hy0:0<=Y0)(hy1:0<=Y1):
 X0*Y0<=(X0+X1)*(Y0+Y1)/\X1*Y1<=(X0+X1)*(Y0+Y1)-X0*Y0/\(X0+P*X1)*(Y0+P*Y1)=X0*Y0+P*((X0+X1)*(Y0+Y1)-X0*Y0-X1*Y1)+P*P*(X1*Y1):=by
 have a:=aT hx0 hy0
 have b:=aT hx0 hy1
 have c:=aT hx1 hy0
 have d:=aT hx1 hy1
 have e:(X0+X1)*(Y0+Y1)=X0*Y0+X0*Y1+X1*Y0+X1*Y1:=by grind
 refine ⟨by omega,by omega,?_⟩
 rw [e];grind
def C5u:∀ N,C4o N:=by
 intro N
 induction N with
 | zero=>
  intro h K A B ac bc an bn x y hN ma mb ha M hl u C
  have h0:=ma.len_zero (by decide)
  have hx:x=0:=h0.2 (by omega)
  subst hx
  rw [fP] at C
  refine Fh _ _ _ _ _ _ ?_
  unfold Eg
  refine ⟨fun l h'=>h'=h/\l=[.slice A an ac,.slice B bn bc],B8 (fun e=>absurd e (by omega)) (fun _=>⟨rfl,rfl⟩),?_⟩
  rintro A1 s c1 B1 D c2 hp ⟨rfl,hl⟩
  obtain ⟨⟨rfl,rfl,rfl⟩,rfl,rfl,rfl⟩:(A1=A/\s=an/\c1=ac)/\B1=B/\D=bn/\c2=bc:=by simpa using hl
  refine E5 (fun _=>C none 0 0 _ (B5 _) (aY _) Mag.zero) (fun e=>absurd (by omega) e)
 | succ N ih=>
  intro h K A B ac bc an bn x y hN ma mb ha M hl u C
  refine Fh _ _ _ _ _ _ ?_
  unfold Eg
  refine ⟨fun l h'=>h'=h/\∃ (A1 B1:Option bH) (s D c1 c2:Nat) (x1 y1:Int),l=[.slice A1 s c1,.slice B1 D c2]/\Mw h A1 s x1/\Mw h B1 D y1/\D<=s/\s<=1000000000/\s<=c1/\D<=c2/\s+D<=N+1/\x1*y1=x*y,B8 (fun h1=>?_) (fun h1=>?_),?_⟩
  ·exact ⟨rfl,_,_,_,_,_,_,y,x,rfl,mb,ma,by omega,u,M,ha,by omega,aS _ _⟩
  ·exact ⟨rfl,_,_,_,_,_,_,x,y,rfl,ma,mb,by omega,hl,ha,M,by omega,rfl⟩
  clear ma mb ha M hl u hN
  rintro A1 s c1 B1 D c2 hp ⟨rfl,A1',B1',bj,bw,bo,bz,x1,y1,a6,m1,m2,hn,ah,G,W,ce,a0⟩
  obtain ⟨⟨rfl,rfl,rfl⟩,rfl,rfl,rfl⟩:(A1=A1'/\s=bj/\c1=bo)/\B1=B1'/\D=bw/\c2=bz:=by simpa using a6
  rw [<- a0] at C
  clear a6 a0
  have hz:=m2.len_zero (by decide)
  refine E5 (fun h0=>?_) (fun h0=>?_)
  ·have:y1=0:=hz.2 (by omega)
   subst this
   rw [fQ] at C
   exact C none 0 0 _ (B5 _) (aY _) Mag.zero
  ·refine ⟨fun l h'=>∃ t:Bool,h'=hp/\l=[.bool t]/\(t=true->y1=1),E5 (fun h1=>?_) (fun h1=>⟨false,rfl,rfl,fun e=>by cases e⟩),?_⟩
   ·obtain ⟨f,T,sy,Q,ny,be⟩:=m2
    refine sy.load T (by omega) (by omega) ⟨_,rfl,rfl,fun e=>?_⟩
    have e1:f.getD 0 0=1:=by simpa using e
    obtain ⟨d,rfl⟩:∃ d,f=[d]:=by
     cases f with
     | nil=>simp at T;omega
     | cons d r=>
      cases r with
      | nil=>exact ⟨d,rfl⟩
      | cons _ _=>simp at T;omega
    rw [<- be,Z1];simpa using e1
   rintro tb Z ⟨t',rfl,u,L⟩
   obtain rfl:tb=t':=by simpa using u
   refine Br.of (fun e=>?_) (fun _=>?_)
   ·rw [L e,Int.mul_one] at C
    exact C _ _ _ _ (B5 _) G m1
   clear L u
   have eL:B7 ((s:Int)+D)=((s+D:Nat):Int):=by rw [C0 (by omega) (by omega)];omega
   refine B8 (fun h2=>?_) (fun h2=>?_)
   ·obtain ⟨g,rfl,sx,R,nx,rfl⟩:=m1
    obtain ⟨f,rfl,sy,Q,ny,rfl⟩:=m2
    rw [eL]
    refine K8 R4 (by omega) (by omega) (by omega) ?_
    intro b M
    rw [aC]
    exact ⟨_,_,_,rfl,C3g M sx R sy Q ah (by omega) C⟩
   ·obtain ⟨H,hH⟩:∃ H,H=(s+1)/2:=⟨_,rfl⟩
    have eH:B7 (cT (B7 ((s:Int)+1)) 2)=(H:Int):=by
     rw [C0 (n:=(s:Int)+1) (by omega) (by omega),bJ (by omega),C0 (by omega) (by omega)];omega
    have bt:B7 ((2:Int)*(H:Int))=((2*H:Nat):Int):=by rw [C0 (by omega) (by omega)];omega
    simp only [eH,eL,bt,aC]
    refine B8 (fun h3=>?_) (fun h3=>?_)
    ·refine Py ih (by omega) m1 m2 G W ah (by omega) (by omega) ?_
     intro A' m c' h' l' k' M'
     exact ⟨_,_,_,rfl,C _ _ _ _ l' k' M'⟩
    ·have b4:=m1.nonneg (by decide)
     have ao:=m1.lt (by decide)
     have a1:=m2.lt (by decide)
     have bm:=m2.nonneg (by decide)
     obtain ⟨g,rfl,sx,R,nx,rfl⟩:=m1
     obtain ⟨f,rfl,sy,Q,ny,rfl⟩:=m2
     have a9:H<g.length:=by omega
     have bu:H<f.length:=by omega
     have af:=C9 (by decide) (R.take H)
     have ai:=C9 (by decide) (R.drop H)
     have a4:=C9 (by decide) (Q.take H)
     have au:=C9 (by decide) (Q.drop H)
     have bi:=G1 b64 g (i:=H) (by omega)
     have bx:=G1 b64 f (i:=H) (by omega)
     have ar:=N4 (by decide) (R.take H)
     have ag:=N4 (by decide) (Q.take H)
     rw [aF,aJ (by omega)] at ar ag
     have z:Mw Z (H9 A1 c1 H 1) (g.length-H) (val b64 (g.drop H)):=by
      have:=Mw.of (A1q sx (c:=c1) (l:=H) (by omega) G) (R.drop H) (Nr nx a9)
      rwa [aN] at this
     have w:Mw Z (H9 B1 c2 H 1) (f.length-H) (val b64 (f.drop H)):=by
      have:=Mw.of (A1q sy (c:=c2) (l:=H) (by omega) W) (Q.drop H) (Nr ny bu)
      rwa [aN] at this
     obtain ⟨ka,kb,kc⟩:=C7q (P:=b64^H) af ai a4 au
     rw [<- bi,<- bx] at kc
     generalize hX0:val b64 (g.take H)=X0 at *
     generalize hX1:val b64 (g.drop H)=X1 at *
     generalize hY0:val b64 (f.take H)=Y0 at *
     generalize hY1:val b64 (f.drop H)=Y1 at *
     rw [J0,J0,bX,bX,bX]
     refine ⟨⟨by omega,by omega⟩,⟨by omega,by omega⟩,?_⟩
     refine Bz (Kf sx (c:=c1) (m:=H) (by omega) G) (R.take H) (by rw [aF];omega) hX0 (by omega) (by omega) ?_
     intro mx cj MX0
     refine ⟨_,_,_,rfl,B5 _,⟨by omega,by omega⟩,⟨by omega,by omega⟩,?_⟩
     refine Bz (Kf sy (c:=c2) (m:=H) (by omega) W) (Q.take H) (by rw [aF];omega) hY0 (by omega) (by omega) ?_
     intro my cn MY0
     refine ⟨_,_,_,rfl,B5 _,?_⟩
     refine ih (by omega) MX0 MY0 (by omega) (by omega) (by omega) (by omega) ?_
     intro A3 n3 c3 g3 l3 k3 M3
     refine ⟨_,_,_,rfl,?_⟩
     refine ih (by omega) (z.mono l3) (w.mono l3) (by omega) (by omega) (by omega) (by omega) ?_
     intro A4 n4 c4 g4 l4 k4 M4
     refine ⟨_,_,_,rfl,?_⟩
     have E:=B0 l3 l4
     refine T4 (MX0.mono E) (z.mono E) (by omega) (by omega) (by omega) (by omega) ?_
     intro A5 n5 c5 g5 l5 k5 M5
     refine ⟨_,_,_,rfl,?_⟩
     have ay:=B0 E l5
     refine T4 (MY0.mono ay) (w.mono ay) (by omega) (by omega) (by omega) (by omega) ?_
     intro A6 n6 c6 g6 l6 k6 M6
     refine ⟨_,_,_,rfl,?_⟩
     have ax:=z.lt (by decide)
     have ap:=w.lt (by decide)
     have bb:=D8 (B:=b64) (by decide) H
     have b8:b64^(H+1)=b64^H*18446744073709551616:=bF _ _
     have b6:n5<=H+1:=by
      refine M5.len_le (by decide) ?_
      have:=D4 (B:=b64) (by decide) (show g.length-H<=H by omega)
      omega
     have cc:n6<=H+1:=by
      refine M6.len_le (by decide) ?_
      have:=D4 (B:=b64) (by decide) (show f.length-H<=H by omega)
      omega
     refine ih (by omega) (M5.mono l6) M6 k5 k6 (by omega) (by omega) ?_
     intro A7 n7 c7 g7 l7 k7 M7
     refine ⟨_,_,_,rfl,?_⟩
     have X:=B0 (B0 l5 l6) l7
     have k:∀ {p q:Int} {i j:Nat},0<=p->p<b64^i->0<=q->q<b64^j->p*q<b64^(i+j):=by
      intro p q i j a b c d
      rw [bG]
      have t1:p*q<=b64^i*q:=aE (by omega) c
      have t2:b64^i*q<b64^i*b64^j:=cV d (D8 (by decide) i)
      omega
     have cd:n7<=n5+n6:=M7.len_le (by decide) (k (M5.nonneg (by decide)) (M5.lt (by decide)) (M6.nonneg (by decide)) (M6.lt (by decide)))
     refine I6 M7 (M3.mono (B0 l4 X)) k7 (by omega) ka ?_
     intro A8 n8 c8 g8 l8 k8 M8
     refine ⟨_,_,_,rfl,?_⟩
     have cb:n8<=n7:=M8.len_le (by decide) (by have:=M7.lt (by decide);have:=M3.nonneg (by decide);omega)
     refine I6 M8 (M4.mono (B0 X l8)) k8 (by omega) kb ?_
     intro A9 n9 c9 g9 l9 k9 M9
     refine ⟨_,_,_,rfl,?_⟩
     have V:=B0 X (B0 l8 l9)
     have a3:Z.le g9:=B0 E V
     refine K8 R4 (by omega) (by omega) (by omega) ?_
     intro b M
     rw [aC]
     refine ⟨_,_,_,rfl,?_⟩
     have w0:=Win.blk .u64 C4 M (aD (g.length+f.length) 0)
     have b7:n3<=H+H:=M3.len_le (by decide) (k af ar a4 ag)
     have b9:n4<=(g.length-H)+(f.length-H):=M4.len_le (by decide) (k ai ax au ap)
     obtain ⟨o,a7,b5,bh,ch,al⟩:=M3.mono (B0 l4 V)
     obtain ⟨hi,am,ba,bl,cm,a5⟩:=M4.mono V
     obtain ⟨O,ad,a2,aw,b0,aj⟩:=M9
     refine Gu R4 w0 (by simp) (b5.mono w0.le) a7 (by simp;omega) ?_
     intro cf S
     refine ⟨_,rfl,⟨by omega,by omega⟩,?_⟩
     have br:o++(aD (g.length+f.length) (0:Int)).drop o.length=o++aD (g.length+f.length-o.length) 0:=by rw [bI]
     rw [br] at S
     have ab:=S.sub (l:=2*H) (m:=g.length+f.length) (c:=g.length+f.length) (by omega) (by simp;omega) (by simp;omega)
     have b1:((o++aD (g.length+f.length-o.length) (0:Int)).drop (2*H)).take (g.length+f.length-2*H)=aD (g.length+f.length-2*H) 0:=by
      rw [gM,aV (by omega),cQ,bI,cH]
      congr 1;omega
     rw [b1] at ab
     refine Gu R4 ab (by simp) (ba.mono ab.le) am (by simp;omega) ?_
     intro cg ae
     refine ⟨_,rfl,⟨by omega,by omega⟩,?_⟩
     rw [bI] at ae
     have F:=S.whole (l:=2*H) (m:=g.length+f.length) (by omega) (by simp;omega) (by simp;omega) ae
     have bp:(o++aD (g.length+f.length-o.length) (0:Int)).take (2*H)=o++aD (2*H-o.length) 0:=by
      rw [dM,aL (by omega),cH]
      congr 2;omega
     have a8:(o++aD (g.length+f.length-o.length) (0:Int)).drop (g.length+f.length)=[]:=by
      apply aV;simp;omega
     rw [bp,a8,cC] at F
     generalize hzs:o++aD (2*H-o.length) (0:Int)++(hi++aD (g.length+f.length-2*H-hi.length) 0)=zs at F
     have ci:zs.length=g.length+f.length:=by
      rw [<- hzs];simp;omega
     have J:Dig b64 zs:=by
      rw [<- hzs]
      exact (bh.append (J1 (by decide) _)).append (bl.append (J1 (by decide) _))
     have bv:val b64 zs=X0*Y0+b64^H*b64^H*(X1*Y1):=by
      rw [<- hzs,H2,Dm,Dm,al,a5]
      have:(o++aD (2*H-o.length) (0:Int)).length=H+H:=by simp;omega
      rw [this,bG]
     have aq:=F.sub (l:=H) (m:=g.length+f.length) (c:=g.length+f.length) (by omega) (by omega) (by omega)
     have b2:(zs.drop H).take (g.length+f.length-H)=zs.drop H:=aL (by rw [aN];omega)
     have av:(zs.drop H).length=g.length+f.length-H:=by rw [aN];omega
     rw [b2] at aq
     have bk:=G1 b64 zs (i:=H) (by omega)
     have cr:=C9 (by decide) (J.take H)
     have ca:=C9 (by decide) (J.drop H)
     have ck:val b64 g*val b64 f<b64^(g.length+f.length):=k b4 ao bm a1
     have az:val b64 zs+b64^H*val b64 O=val b64 g*val b64 f:=by rw [kc,bv,aj];grind
     have ak:val b64 (zs.drop H)+val b64 O<b64^(g.length+f.length-H):=by
      have e5:b64^(g.length+f.length)=b64^H*b64^(g.length+f.length-H):=by rw [<- bG];congr 1;omega
      by_cases hc:val b64 (zs.drop H)+val b64 O<b64^(g.length+f.length-H)
      ·exact hc
      ·have:=aK (show b64^(g.length+f.length-H)<=val b64 (zs.drop H)+val b64 O by omega) (aQ bb)
       rw [dB] at this
       omega
     have co:O.length<=g.length+f.length-H:=by
      have Mmi:Mw g9 A9 O.length (val b64 O):=⟨O,rfl,a2,aw,b0,rfl⟩
      exact Mmi.len_le (by decide) (by omega)
     refine Iy aq av.symm a2 ad (J.drop H) aw (by omega) (by rw [av];exact ak) (by omega) ?_
     intro us cl cq bd b3 bf
     refine ⟨rfl,?_⟩
     have aa:=F.whole (l:=H) (m:=g.length+f.length) (by omega) (by omega) (by omega) bf
     rw [aV (show zs.length<=g.length+f.length by omega),cC] at aa
     have bq:(zs.take H++us).length=g.length+f.length:=by
      simp only [aH,aF];omega
     rw [<- bq]
     refine R7 aa.sl ((J.take H).append bd) (by omega) (by omega) ?_
     intro m hm hM
     have bg:val b64 (zs.take H++us)=val b64 g*val b64 f:=by
      rw [H2,aF,aJ (by omega),b3,<- az,bk];grind
     rw [bg] at hM
     exact ⟨_,_,_,rfl,C _ _ _ _ (B0 a3 aa.le) hm hM⟩
def I7{x y:Int}{an bn:Nat}(ma:Mw h A an x)(mb:Mw h B bn y)(ha:an<=ac)(hb:bn<=bc)(hl:an<=1000000000)(hl2:bn<=1000000000)(hK:∀ A' m c' h',h.le h'->m<=c'->Mw h' A' m (x*y)->K (.slice A' m c') h'):aZ prog D6 #[.slice A an ac,.slice B bn bc] h K:=
 C5u _ (aY _) ma mb ha hb hl hl2 hK
end
section
variable {h g:bB} {K:VP} {A B:Option bH} {ac bc:Nat}
def B44{hi lo y:Int}(hhi:0<=hi/\hi<y)(hlo:0<=lo/\lo<18446744073709551616)(hy:y<18446744073709551616)
 (hK:K (.tuple #[U ((hi*18446744073709551616+lo)/y),U ((hi*18446744073709551616+lo)%y)]) h):aZ prog Gs #[U hi,U lo,U y] h K:=by
 obtain ⟨n,rfl⟩:∃ n:Nat,y=n:=⟨y.toNat,by omega⟩
 exact To hhi hlo (by omega) hK
def Vr{x:Int}{an w:Nat}(ma:Mw h A an x)(hw:0<w/\w<18446744073709551616)(hl:an<=1000000000)(hK:∀ A' m c' h',h.le h'->m<=c'->m<=an->Mw h' A' m (x/w)->K (.tuple #[.slice A' m c',U (x%w)]) h'):aZ prog Gg #[.slice A an ac,U w] h K:=by
 obtain ⟨a,rfl,E,B,H,rfl⟩:=ma
 refine Xr _ _ _ _ ?_
 unfold Wp
 refine K8 R4 (by omega) (by omega) (by omega) ?_
 intro b s
 rw [aC]
 refine ⟨_,_,_,rfl,?_⟩
 refine ⟨fun l h'=>∃ (k:Nat) (r:Int) (zs:List Int),l=[U r,I ((k:Int)-1)]/\k<=a.length/\zs.length=a.length/\Dig b64 zs/\(0<=r/\r<w)/\h'=blk .u64 C4 h b zs/\val b64 (a.drop k)=val b64 (zs.drop k)*w+r,fun l _=>(iAt l 1+1).toNat,⟨a.length,0,_,by rw [C0 (by omega) (by omega)],by omega,by simp,J1 (by decide) _,by omega,rfl,by simp [val]⟩,?_⟩
 rintro r i J ⟨k,y,zs,q,G,d,u,c,rfl,f⟩
 obtain ⟨rfl,rfl⟩:r=y/\i=(k:Int)-1:=by simpa using q
 have o:=Y7 (k:=.u64) (e:=C4) s zs
 refine B8 (fun z=>?_) (fun z=>?_)
 ·obtain ⟨j,rfl⟩:∃ j,k=j+1:=⟨k-1,by omega⟩
  have e:((j+1:Nat):Int)-1=(j:Int):=by omega
  rw [e]
  have D:=O6 B j
  refine (E.mono o).load rfl (by omega) (by omega) ?_
  rw [aC]
  refine To c D hw.2 ⟨_,_,rfl,?_⟩
  have F:0<=r*18446744073709551616+a.getD j 0:=by omega
  have g:0<=(r*18446744073709551616+a.getD j 0)/w/\(r*18446744073709551616+a.getD j 0)/w<18446744073709551616:=by
   constructor
   ·exact cF F (by omega)
   ·apply bK (by omega)
    have:(r+1)*18446744073709551616<=(w:Int)*18446744073709551616:=aE (by omega) (by decide)
    omega
  refine ⟨_,rfl,by omega,by omega,?_⟩
  refine Fe (zs:=zs) (i:=j) G7 (by omega) ?_
  rw [C0 (by omega) (by omega)]
  refine ⟨⟨j,_,zs.set j ((r*18446744073709551616+a.getD j 0)/w),rfl,by omega,by simpa using d,u.set g,⟨aU _ (by omega),aP _ (by omega)⟩,rfl,?_⟩,by simp only [iAt,aG,aI];omega⟩
  rw [Y6 (by omega),Mq b64 (by omega),f]
  have:=aO (r*18446744073709551616+a.getD j 0) w
  simp only [val]
  grind
 ·have n:k=0:=by omega
  subst n
  rw [cO,cO] at f
  rw [<- d]
  refine R7 (Dt _ _ _ _ _) u (aY _) (by omega) ?_
  intro m C t
  have g:val b64 a/w=val b64 zs:=by
   rw [f,fT,fS _ _ (by omega),bU c.1 c.2,dN]
  have p:val b64 a%w=r:=by
   rw [f,fT,gR,gL c.1 c.2]
  rw [<- g] at t
  rw [<- p]
  exact ⟨_,_,_,rfl,hK _ _ _ _ (Y7 s _) C (by omega) t⟩
def Nn{x:Int}{an w:Nat}(ma:Mw h A an x)(hw:0<w/\w<18446744073709551616)(hl:an<=1000000000)(hK:K (U (x%w)) h):aZ prog Bj #[.slice A an ac,U w] h K:=by
 obtain ⟨a,rfl,p,o,t,rfl⟩:=ma
 refine Ra _ _ _ _ ?_
 unfold Kq
 refine ⟨fun l n=>∃ (k:Nat) (r:Int) (Q:Int),l=[U r,I ((k:Int)-1)]/\k<=a.length/\(0<=r/\r<w)/\n=h/\val b64 (a.drop k)=Q*w+r,fun l _=>(iAt l 1+1).toNat,⟨a.length,0,0,by rw [C0 (by omega) (by omega)],by omega,by omega,rfl,by simp [val]⟩,?_⟩
 rintro r i y ⟨k,m,Q,f,u,b,rfl,c⟩
 obtain ⟨rfl,rfl⟩:r=m/\i=(k:Int)-1:=by simpa using f
 refine B8 (fun s=>?_) (fun s=>?_)
 ·obtain ⟨j,rfl⟩:∃ j,k=j+1:=⟨k-1,by omega⟩
  have e:((j+1:Nat):Int)-1=(j:Int):=by omega
  rw [e]
  have q:=O6 o j
  refine p.load rfl (by omega) (by omega) ?_
  rw [aC]
  refine To b q hw.2 ⟨_,_,rfl,?_⟩
  rw [C0 (by omega) (by omega)]
  refine ⟨⟨j,_,b64*Q+(r*18446744073709551616+a.getD j 0)/w,rfl,by omega,⟨aU _ (by omega),aP _ (by omega)⟩,rfl,?_⟩,by simp only [iAt,aG,aI];omega⟩
  rw [Mq b64 (by omega),c]
  have:=aO (r*18446744073709551616+a.getD j 0) w
  show _+(18446744073709551616:Int)*_=((18446744073709551616:Int)*_+_)*_+_
  grind
 ·have g:k=0:=by omega
  subst g
  rw [cO] at c
  have d:val b64 a%w=r:=by
   rw [c,fT,gR,gL b.1 b.2]
  rw [d] at hK;exact hK
def A1l{us vs:List Int}{m wn dn:Nat}{X Y:Int}(su:SlI .u64 h A us)(sv:SlI .u64 h B vs)(hwn:wn=us.length)(hdn:dn=vs.length)(du:Dig b64 us)(dv:Dig b64 vs)(hu:us.length=m+3)(hv:vs.length=m+2)(hl:m<=10000000000)(h1:b64<=2*vs.getD (m+1) 0)(hX:val b64 us=X)(hY:val b64 vs=Y)(hlt:X<Y*b64)
 (hK:∀ q,0<=q->q<18446744073709551616->X<(q+1)*Y->(q-1)*Y<=X->K (U q) h):aZ prog Lp #[.slice A wn ac,.slice B dn bc] h K:=by
 subst hwn hdn
 have b:=B9m (B:=b64) (by decide) du dv hu hv h1 (by rw [hX,hY];exact hlt)
 rw [hX,hY] at b
 have gu:=O6 du (m+2)
 have p:=O6 du (m+1)
 have W:=O6 dv (m+1)
 have k:=b.v1r
 have a:=b.v2r
 have Q:=b.u2r
 have M:=b.V0
 have ad:=b.U0
 refine A4m _ _ _ _ _ _ ?_
 unfold A4n
 have O:B7 ((vs.length:Int)-1)=((m+1:Nat):Int):=by rw [C0 (by omega) (by omega)];omega
 have Z:B7 ((vs.length:Int)-2)=(m:Int):=by rw [C0 (by omega) (by omega)];omega
 have e3:((vs.length:Nat):Int)=((m+2:Nat):Int):=by omega
 rw [O,Z,e3]
 refine sv.load (by omega) (by omega) (by omega) ?_
 refine sv.load (by omega) (by omega) (by omega) ?_
 refine su.load rfl (by omega) (by omega) ?_
 simp only [aC]
 refine B8 (fun J=>?_) (fun J=>?_)
 ·have H:=b.top (by
   have:vs.getD (m+1) 0*b64<=us.getD (m+2) 0*b64:=aE J (by decide)
   omega)
  exact hK 18446744073709551615 (by omega) (by omega) H.2 H.1
 ·refine su.load rfl (by omega) (by omega) ?_
  refine su.load rfl (by omega) (by omega) ?_
  simp only [aC]
  refine B44 (by omega) p W.2 ⟨_,_,rfl,B5 h,?_⟩
  generalize hT:us.getD (m+2) 0*b64+us.getD (m+1) 0=T at b
  have V:us.getD (m+2) 0*18446744073709551616+us.getD (m+1) 0=T:=hT
  have F:0<=T:=b.top0
  have D:=b.init
  have w:=aO T (vs.getD (m+1) 0)
  have ab:=aU T (show vs.getD (m+1) 0≠0 by omega)
  have aa:=aP T (show 0<vs.getD (m+1) 0 by omega)
  have E:0<=T/vs.getD (m+1) 0:=cF F (by omega)
  have g:T/vs.getD (m+1) 0<18446744073709551616:=by
   apply bK (by omega)
   have:(us.getD (m+2) 0+1)*18446744073709551616<=vs.getD (m+1) 0*18446744073709551616:=aE (by omega) (by decide)
   have:=p.2
   have:18446744073709551616*vs.getD (m+1) 0=vs.getD (m+1) 0*18446744073709551616:=aS _ _
   omega
  refine ⟨fun l h'=>∃ q r:Int,l=[U q,U r]/\h'=h/\(0<=q/\q<18446744073709551616)/\(0<=r/\r<18446744073709551616)/\q*vs.getD (m+1) 0+r=T/\X<(q+1)*Y,fun l _=>(iAt l 0).toNat,⟨_,_,rfl,rfl,⟨E,g⟩,by omega,by rw [aS];exact w,D⟩,?_⟩
  rintro q r t ⟨S,N,z,rfl,i,hr,u,o⟩
  obtain ⟨rfl,rfl⟩:q=S/\r=N:=by simpa using z
  have hm:0<=q*vs.getD m 0/\q*vs.getD m 0<=18446744073709551615*18446744073709551615:=⟨aT i.1 a.1,fB (by omega) (by have:=(O6 dv m).2;omega) a.1 (by decide)⟩
  have key:q*(vs.getD (m+1) 0*b64+vs.getD m 0)=(T-r)*18446744073709551616+q*vs.getD m 0:=by
   rw [<- u];show q*(vs.getD (m+1) 0*(18446744073709551616:Int)+vs.getD m 0)=_;grind
  have c:q*vs.getD m 0<=r*18446744073709551616+us.getD m 0->K (U q) t:=by
   intro R
   refine hK q i.1 i.2 o (b.up (by show q<=(18446744073709551616:Int);omega) ?_)
   rw [key];show _<=T*(18446744073709551616:Int)+_;omega
  have e:¬ (q*vs.getD m 0<=r*18446744073709551616+us.getD m 0)->Br (decide (C3 (r+vs.getD (m+1) 0)<vs.getD (m+1) 0)) (K (U (C3 (q-1))) t) ((∃ q_1 r_1:Int,[U (C3 (q-1)),U (C3 (r+vs.getD (m+1) 0))]=[U q_1,U r_1]/\t=t/\(0<=q_1/\q_1<18446744073709551616)/\(0<=r_1/\r_1<18446744073709551616)/\q_1*vs.getD (m+1) 0+r_1=T/\X<(q_1+1)*Y)/\(iAt [U (C3 (q-1)),U (C3 (r+vs.getD (m+1) 0))] 0).toNat<(iAt [U q,U r] 0).toNat):=by
   intro hf
   have G:X<q*Y:=b.low i.1 (by rw [key];show T*(18446744073709551616:Int)+_<_;omega)
   have g:1<=q:=by
    by_cases C:1<=q
    ·exact C
    ·have:q=0:=by omega
     subst this;omega
   have f:X<(q-1+1)*Y:=by rw [Int.sub_add_cancel];exact G
   have d:(q-1)*vs.getD (m+1) 0+(r+vs.getD (m+1) 0)=T:=by grind
   rw [C5 (n:=q-1) (by omega) (by omega)]
   refine B8 (fun j=>?_) (fun j=>?_)
   ·rw [F6] at j
    have hb:(q-1)*vs.getD m 0<=18446744073709551616*vs.getD m 0:=aE (by omega) a.1
    have s:(q-1)*(vs.getD (m+1) 0*b64+vs.getD m 0)=(T-(r+vs.getD (m+1) 0))*18446744073709551616+(q-1)*vs.getD m 0:=by
     rw [<- d];show (q-1)*(vs.getD (m+1) 0*(18446744073709551616:Int)+vs.getD m 0)=_;grind
    refine hK (q-1) (by omega) (by omega) f (b.up (by show q-1<=(18446744073709551616:Int);omega) ?_)
    rw [s]
    have:=a.2
    show _<=T*(18446744073709551616:Int)+_
    have:vs.getD m 0<18446744073709551616:=a.2
    omega
   ·have y:r+vs.getD (m+1) 0<18446744073709551616:=by
     by_cases C:r+vs.getD (m+1) 0<18446744073709551616
     ·exact C
     ·rw [F6] at j;have:=k.2;have:vs.getD (m+1) 0<18446744073709551616:=k.2;omega
    rw [C5 (n:=r+vs.getD (m+1) 0) (by omega) y]
    exact ⟨⟨q-1,r+vs.getD (m+1) 0,rfl,rfl,by omega,by omega,d,f⟩,by simp only [iAt,aG];omega⟩
  refine Ns i (by have:=a.2;exact ⟨a.1,this⟩) ⟨_,_,rfl,?_⟩
  have L:0<=us.getD m 0/\us.getD m 0<18446744073709551616:=O6 du m
  refine B8 (fun j=>c (by omega)) (fun j=>?_)
  refine E5 (fun h4=>?_) (fun h4=>e (by omega))
  refine su.load rfl (by omega) (by omega) ?_
  rw [aC]
  exact B8 (fun h5=>c (by omega)) (fun h5=>e (by omega))
end
section
variable {h g:bB} {K:VP} {bu bq:Nat} {pre qs:List Int} {VA:Option bH} {vs:List Int}
def C43{n N:Nat}{ws:List Int}{q:Int}{J:LP}(hu:g bu=none)(hq:g bq=none)(hne:bu≠bq)(sv:SlI .u64 g VA vs)(dv:Dig b64 vs)(hn:n=vs.length)(dw:Dig b64 ws)(hN:N=(pre++ws).length)(hl:n<ws.length)(hbig:N<=4000000000)
 (hD:val b64 (ws.take n)+val b64 vs<2*b64^n) (hD0:b64^n<=val b64 (ws.take n)+val b64 vs) (htop:ws.getD n 0=18446744073709551615)
 (hJ:∀ ws',ws'.length=ws.length->Dig b64 ws'->ws'.drop (n+1)=ws.drop (n+1)->ws'.getD n 0=0->val b64 (ws'.take n)=val b64 (ws.take n)+val b64 vs-b64^n->J [U (C3 (q-1))] (Be .u64 C4 g bu (pre++ws') bq qs)):
 Bm prog n VA n (some ⟨bu,0,none⟩) N (pre.length:Int) q J (Be .u64 C4 g bu (pre++ws) bq qs):=by
 unfold Bm
 refine ⟨fun l L=>∃ (k:Nat) (c:Int) (zs:List Int),l=[U c,I k]/\k<=n/\zs.length=ws.length/\Dig b64 zs/\(0<=c/\c<=1)/\L=Be .u64 C4 g bu (pre++zs) bq qs/\zs.drop k=ws.drop k/\val b64 (zs.take k)+c*b64^k=val b64 (ws.take k)+val b64 (vs.take k),fun l _=>n-(iAt l 1).toNat,⟨0,0,ws,rfl,by omega,rfl,dw,by omega,rfl,rfl,by simp [val]⟩,?_⟩
 rintro c i V ⟨k,R,zs,C,T,b,p,M,rfl,a,G⟩
 obtain ⟨rfl,rfl⟩:c=R/\i=(k:Int):=by simpa using C
 have u:g.le (Be .u64 C4 g bu (pre++zs) bq qs):=Qw hu hq hne
 have D:SlI .u64 (Be .u64 C4 g bu (pre++zs) bq qs) (some ⟨bu,0,none⟩) (pre++zs):=Wb hne
 have d:N=(pre++zs).length:=by rw [hN,aH,aH,b]
 have O:N=pre.length+zs.length:=by rw [d,aH]
 have z:B7 ((pre.length:Int)+k)=((k+pre.length:Nat):Int):=by rw [C0 (by omega) (by omega)];omega
 have r:B7 ((pre.length:Int)+n)=((n+pre.length:Nat):Int):=by rw [C0 (by omega) (by omega)];omega
 refine B8 (fun F=>?_) (fun F=>?_)
 ·have H:=O6 dv k
  have gz:=O6 p k
  have f:=E8 a
  have S:=C7 b64 vs k
  have Q:=C7 b64 ws k
  rw [z]
  refine (sv.mono u).load hn (by omega) (by omega) ?_
  refine D.load d (by omega) (by omega) ?_
  simp only [aC,Gb]
  refine Dv gz H M ⟨_,_,rfl,?_⟩
  refine ⟨_,rfl,by omega,by omega,?_⟩
  have j:=Q5 (P:=prog) (t:=C4) (k:=.u64) (e:=C4) (g:=g) (bu:=bu) (bq:=bq) (us:=pre++zs) (qs:=qs) (i:=((k+pre.length:Nat):Int)) (n:=(zs.getD k 0+vs.getD k 0+c)%18446744073709551616) G7 hne (by rw [aC];omega)
   (K:=fun _ m=>(∃ (k_1:Nat) (c_1:Int) (zs_1:List Int),[U ((zs.getD k 0+vs.getD k 0+c)/18446744073709551616),I (B7 ((k:Int)+1))]=[U c_1,I k_1]/\k_1<=n/\zs_1.length=ws.length/\Dig b64 zs_1/\(0<=c_1/\c_1<=1)/\m=Be .u64 C4 g bu (pre++zs_1) bq qs/\zs_1.drop k_1=ws.drop k_1/\val b64 (zs_1.take k_1)+c_1*b64^k_1=val b64 (ws.take k_1)+val b64 (vs.take k_1))/\n-(iAt [U ((zs.getD k 0+vs.getD k 0+c)/18446744073709551616),I (B7 ((k:Int)+1))] 1).toNat<n-(iAt [U c,I k] 1).toNat)
  rw [aC] at j
  refine j ?_
  rw [Kx,C0 (n:=(k:Int)+1) (by omega) (by omega)]
  refine ⟨⟨k+1,_,zs.set k ((zs.getD k 0+vs.getD k 0+c)%18446744073709551616),rfl,by omega,by simpa using b,p.set (Eu _),by omega,rfl,?_,?_⟩,by simp only [iAt,aG,aI];omega⟩
  ·rw [D7 (by omega)];exact D9 a
  ·rw [D3 (by omega),F7,aF,aJ (by omega),bF,Cq,S,Q,<- f]
   grind
 ·have s:k=n:=by omega
  subst s
  have f:=E8 a
  rw [r]
  refine D.load d (by omega) (by omega) ?_
  rw [aC,Gb,f,htop]
  refine ⟨_,rfl,by omega,by omega,?_⟩
  have A:vs.take k=vs:=by rw [hn,aW]
  rw [A] at G
  have w:=N4 (by decide) (p.take k)
  rw [aF,aJ (by omega)] at w
  have W:=C9 (by decide) (p.take k)
  have B:c=1:=by
   by_cases y:c=0
   ·subst y;omega
   ·omega
  subst B
  have E:C3 (18446744073709551615+1)=0:=by rw [F6];omega
  rw [E]
  have j:=Q5 (P:=prog) (t:=C4) (k:=.u64) (e:=C4) (g:=g) (bu:=bu) (bq:=bq) (us:=pre++zs) (qs:=qs) (i:=((k+pre.length:Nat):Int)) (n:=0) G7 hne (by rw [aC];omega) (K:=fun _ o=>J [U (C3 (q-1))] o)
  rw [aC] at j
  refine j ?_
  rw [Kx]
  refine hJ (zs.set k 0) (by simpa using b) (p.set (by decide)) (by rw [D7 (by omega)];exact D9 a) (by simp [cR,show k<zs.length by omega]) ?_
  rw [gD (by omega)]
  omega
end
def B6i{g h':bB}{e:bV}{bu bq:Nat}{A:Option bH}{us qs:List Int}(hne:bu≠bq)(w:Win .u64 h' (blk .u64 e g bq qs) bu e A [] us []):h'=Be .u64 e g bu us bq qs:=by
 rw [Iv hne,w.eq]
 simp [blk]
def B7z{g:bB}{e:bV}{bu bq:Nat}{us qs:List Int}(hu:g bu=none)(hne:bu≠bq):Win .u64 (Be .u64 e g bu us bq qs) (blk .u64 e g bq qs) bu e (some ⟨bu,0,none⟩) [] us []:=by
 rw [Iv hne]
 refine Win.blk .u64 e ?_ us
 unfold blk;rw [B9 _ _ hne];exact hu
def A49{P:dI}{t:bV}{k:dZ}{e:bV}{g:bB}{bu bq:Nat}{us qs:List Int}(one:P.cellsOf t=1/\(P.info? t).isSome=true)(hne:bu≠bq){n:Int}{i:Nat}(hi:i<us.length){K:Unit->bB->Prop}
 (x:K () (Be k e g bu (us.set i n) bq qs)):wpH P (dP t (.pointer (some (eM ⟨bu,0,none⟩ (i*1)))) (.int k n)) K (Be k e g bu us bq qs):=by
 have:=Q5 (P:=P) (t:=t) (k:=k) (e:=e) (g:=g) (bu:=bu) (bq:=bq) (us:=us) (qs:=qs) (i:=(i:Int)) (n:=n) (K:=K) one hne (by simpa using hi) (by simpa using x)
 simpa using this
def A4a{P:dI}{t:bV}{k:dZ}{e:bV}{g:bB}{bu bq:Nat}{us qs:List Int}(one:P.cellsOf t=1/\(P.info? t).isSome=true){n:Int}{i:Nat}(hi:i<qs.length){K:Unit->bB->Prop}
 (x:K () (Be k e g bu us bq (qs.set i n))):wpH P (dP t (.pointer (some (eM ⟨bq,0,none⟩ (i*1)))) (.int k n)) K (Be k e g bu us bq qs):=by
 have:=Wc (P:=P) (t:=t) (k:=k) (e:=e) (g:=g) (bu:=bu) (bq:=bq) (us:=us) (qs:=qs) (i:=(i:Int)) (n:=n) (K:=K) one (by simpa using hi) (by simpa using x)
 simpa using this
section
variable {h g:bB} {K:VP} {bu bq:Nat} {VA:Option bH} {vs us0:List Int}
set_option maxHeartbeats 1000000 in
def A5u{s mm N nq vc xn:Nat}{a b Y:Int}(hu:g bu=none)(hq:g bq=none)(hne:bu≠bq)(sv:SlI .u64 g VA vs)(dv:Dig b64 vs)(hn:vs.length=mm+2)(hv1:b64<=2*vs.getD (mm+1) 0)(hs:s<64)(hY:val b64 vs=Y)(hYb:Y=b*2^s)(du:Dig b64 us0)(hN:us0.length=N)(hua:val b64 us0=a*2^s)(hxn:N=xn+1)(hnq:N=nq+(mm+2))(hnq1:1<=nq)(hbig:N<=1000000001)(htop:val b64 (us0.drop nq)<Y)
 (hK:∀ A1 m1 c1 A2 m2 c2 h',g.le h'->m1<=c1->m2<=c2->Mw h' A1 m1 (a/b)->Mw h' A2 m2 (a%b)->K (.tuple #[.slice A1 m1 c1,.slice A2 m2 c2]) h'):
 Bn prog xn (mm+2) K (s:Int) VA (mm+2) vc (some ⟨bu,0,none⟩) N N (some ⟨bq,0,none⟩) nq nq (Be .u64 C4 g bu us0 bq (aD nq 0)):=by
 have hp:0<(2:Int)^s:=bM (by decide)
 have a2:Y<b64^(mm+2):=by rw [<- hY,<- hn];exact N4 (by decide) dv
 have a7:0<Y:=by have:=C9 (by decide) (du.drop nq);omega
 have e0:B7 ((xn:Int)-((mm+2:Nat):Int))=(nq:Int)-1:=by rw [C0 (by omega) (by omega)];omega
 unfold Bn
 refine ⟨fun l h'=>∃ (k:Nat) (us qs:List Int),l=[I ((k:Int)-1)]/\k<=nq/\us.length=N/\qs.length=nq/\Dig b64 us/\Dig b64 qs/\h'=Be .u64 C4 g bu us bq qs/\val b64 (us.drop k)<Y/\val b64 us0=val b64 (qs.drop k)*Y*b64^k+val b64 us,fun l _=>(iAt l 0+1).toNat,⟨nq,us0,_,by rw [e0],by omega,hN,by simp,du,J1 (by decide) _,rfl,htop,by simp [val]⟩,?_⟩
 rintro j a6 ⟨k,us,qs,az,hk,H,af,t,ab,rfl,aj,hv⟩
 obtain rfl:j=(k:Int)-1:=by simpa using az
 have Q:g.le (Be .u64 C4 g bu us bq qs):=Qw hu hq hne
 have su:SlI .u64 (Be .u64 C4 g bu us bq qs) (some ⟨bu,0,none⟩) us:=Wb hne
 unfold Hh
 refine B8 (fun h1=>?_) (fun h1=>?_)
 ·obtain ⟨j,rfl⟩:∃ j,k=j+1:=⟨k-1,by omega⟩
  have ej:((j+1:Nat):Int)-1=(j:Int):=by omega
  rw [ej]
  have e1:B7 ((j:Int)+((mm+2:Nat):Int))=((j+(mm+2):Nat):Int):=by rw [C0 (by omega) (by omega)];omega
  have e2:B7 (((j+(mm+2):Nat):Int)+1)=((j+(mm+3):Nat):Int):=by rw [C0 (by omega) (by omega)];omega
  simp only [e1,e2,aC]
  have w:=t.drop j
  have G:(us.drop j).length=N-j:=by rw [aN,H]
  have y:val b64 ((us.drop j).drop (mm+3))=0:=by
   have:=Dy (B:=b64) (by decide) (n:=mm+2) (t.drop (j+1)) (by omega)
   rw [dJ] at this ⊢
   rw [show j+(mm+3)=j+1+(mm+2) by omega];exact this
  have ar:=A2s b64 us j
  have au:val b64 (us.drop j)<Y*b64:=by
   have a8:=O6 t j
   rw [ar]
   have t1:b64*(val b64 (us.drop (j+1))+1)<=b64*Y:=aK (by omega) (by decide)
   have t2:b64*(val b64 (us.drop (j+1))+1)=b64*val b64 (us.drop (j+1))+18446744073709551616:=by show (18446744073709551616:Int)*_=_;grind
   have t3:Y*b64=b64*Y:=aS _ _
   omega
  have F:=G1 b64 (us.drop j) (i:=mm+3) (by omega)
  rw [y,fQ,fR] at F
  have aq:=H8 b64 (us.drop j) (mm+2)
  have hX:val b64 (us.drop j)=val b64 ((us.drop j).take (mm+2))+b64^(mm+2)*(us.drop j).getD (mm+2) 0:=by rw [F];exact aq
  refine ⟨⟨by omega,by omega⟩,⟨by omega,by omega⟩,?_⟩
  have sw:SlI .u64 (Be .u64 C4 g bu us bq qs) (H9 (some ⟨bu,0,none⟩) N j 1) ((us.drop j).take (mm+3)):=by
   have:=su.cut (c:=N) (l:=j) (m:=j+(mm+3)) (by omega) (by omega) (by omega)
   rwa [show j+(mm+3)-j=mm+3 by omega] at this
  generalize hXX:val b64 (us.drop j)=X at *
  refine A1l (m:=mm) (X:=X) (Y:=Y) sw (sv.mono Q) (by rw [aF,G];omega) hn.symm (w.take _) dv (by rw [aF,G];omega) hn (by omega) hv1 F.symm hY au ?_
  intro q q0 q1 q2 q3
  refine ⟨_,rfl,⟨by omega,by omega⟩,⟨by omega,by omega⟩,?_⟩
  have w0:=B7z (e:=C4) (us:=us) (qs:=qs) hu hne
  have ap:SlI .u64 (blk .u64 C4 g bq qs) VA vs:=sv.mono (Y7 hq qs)
  have hW:(us.drop j).take (j+(mm+2)-j)=(us.drop j).take (mm+2):=by rw [show j+(mm+2)-j=mm+2 by omega]
  have w1:=w0.sub (l:=j) (m:=j+(mm+2)) (c:=N) (by omega) (by omega) (by omega)
  rw [hW] at w1
  have D:((us.drop j).take (mm+2)).length=mm+2:=by rw [aF,G];omega
  refine Kj w1 (by rw [D];omega) ap hn.symm (w.take _) dv (by rw [D,hn]) ⟨q0,q1⟩ (by omega) ?_
  intro W c h2 p L u M w2
  rw [D] at p M
  refine ⟨_,rfl,?_⟩
  have w3:=w0.whole (l:=j) (m:=j+(mm+2)) (by omega) (by omega) (by omega) w2
  have R:=B6i hne w3
  have f:(us.take j).length=j:=by rw [aF,H];omega
  have al:us.drop (j+(mm+2))=(us.drop j).drop (mm+2):=by rw [dJ]
  rw [aR,al] at R
  subst R
  generalize hws:us.drop j=ws at *
  have o:(W++ws.drop (mm+2)).length=ws.length:=by rw [aH,aN];omega
  have dW:Dig b64 (W++ws.drop (mm+2)):=L.append (w.drop _)
  have V:(W++ws.drop (mm+2)).getD (mm+2) 0=ws.getD (mm+2) 0:=by
   simp only [cR]
   rw [gS (by omega),p,gJ,List.getElem?_drop,dV]
  have T:=O6 w (mm+2)
  have an:(us.take j++(W++ws.drop (mm+2))).length=N:=by rw [aH,o,f];omega
  have ax:SlI .u64 (Be .u64 C4 g bu (us.take j++(W++ws.drop (mm+2))) bq qs) (some ⟨bu,0,none⟩) (us.take j++(W++ws.drop (mm+2))):=Wb hne
  have ag:j+(mm+2)=(mm+2)+(us.take j).length:=by omega
  refine ax.load an.symm (by omega) (by omega) ?_
  rw [aC,ag,Gb,V]
  refine ⟨_,rfl,by omega,by omega,?_⟩
  refine A49 (i:=mm+2+(us.take j).length) G7 hne (by omega) ?_
  rw [Kx]
  have hP:0<b64^(mm+2):=D8 (by decide) _
  have ao:=N4 (by decide) L
  have a1:=C9 (by decide) L
  rw [p] at ao
  rw [hY] at M
  have hD:X-q*Y=val b64 W+(ws.getD (mm+2) 0-c)*b64^(mm+2):=by rw [M,hX];grind
  have aa:X-q*Y<Y:=by
   have:(q+1)*Y=q*Y+Y:=by grind
   omega
  have a4: -Y<=X-q*Y:=by
   have:(q-1)*Y=q*Y-Y:=by grind
   omega
  have bb:0<=X:=by
   have t1:=C9 (by decide) (w.take (mm+2))
   have t2:=aT (aQ hP) T.1
   omega
  have a5:ws.getD (mm+2) 0-c=0\/ws.getD (mm+2) 0-c= -1:=by
   have t2:ws.getD (mm+2) 0-c<1:=by
    by_cases u:ws.getD (mm+2) 0-c<1
    ·exact u
    ·have:=aE (show 1<=ws.getD (mm+2) 0-c by omega) (aQ hP);omega
   have t3: -2<ws.getD (mm+2) 0-c:=by
    by_cases u: -2<ws.getD (mm+2) 0-c
    ·exact u
    ·have:=aE (show ws.getD (mm+2) 0-c <= -2 by omega) (aQ hP);omega
   omega
  have z:∀ v,((W++ws.drop (mm+2)).set (mm+2) v).take (mm+2)=W:=by
   intro v
   rw [gD (by omega),dE p]
  have Z:∀ v,((W++ws.drop (mm+2)).set (mm+2) v).getD (mm+2) 0=v:=by
   intro v
   rw [cR,iG (by omega)];rfl
  have ac:∀ v,((W++ws.drop (mm+2)).set (mm+2) v).drop (mm+3)=ws.drop (mm+3):=by
   intro v
   rw [D7 (by omega),show mm+3=(mm+2)+1 by omega,<- dJ,eR p,dJ]
  refine ⟨fun l h'=>∃ d r,l=[U r]/\h'=Be .u64 C4 g bu (us.take j++d) bq qs/\d.length=ws.length/\Dig b64 d/\d.drop (mm+3)=ws.drop (mm+3)/\d.getD (mm+2) 0=0/\val b64 (d.take (mm+2))=X-r*Y/\0<=X-r*Y/\X-r*Y<Y/\0<=r/\r<18446744073709551616,B8 (fun h3=>?_) (fun h3=>?_),?_⟩
  ·have C:ws.getD (mm+2) 0-c= -1:=by omega
   rw [C] at hD ⊢
   have ae:C3 (-1)=18446744073709551615:=by rw [F6];omega
   rw [ae]
   have aw:1<=q:=by
    by_cases u:1<=q
    ·exact u
    ·have:q=0:=by omega
     subst this;omega
   have e5:(q-1)*Y=q*Y-Y:=by grind
   have bk:=C43 (g:=g) (bu:=bu) (bq:=bq) (pre:=us.take j) (qs:=qs) (VA:=VA) (vs:=vs) (n:=mm+2) (N:=N) (ws:=(W++ws.drop (mm+2)).set (mm+2) 18446744073709551615) (q:=q)
    (J:=fun l h'=>∃ d r,l=[U r]/\h'=Be .u64 C4 g bu (us.take j++d) bq qs/\d.length=ws.length/\Dig b64 d/\d.drop (mm+3)=ws.drop (mm+3)/\d.getD (mm+2) 0=0/\val b64 (d.take (mm+2))=X-r*Y/\0<=X-r*Y/\X-r*Y<Y/\0<=r/\r<18446744073709551616)
    hu hq hne sv dv hn.symm (dW.set (by decide)) (by rw [aH,bO,o,f];omega) (by rw [bO,o];omega) (by omega) (by rw [z,hY];omega) (by rw [z,hY];omega) (Z _) ?_
   ·rw [f] at bk;exact bk
   ·intro d g1 g2 g3 g4 g5
    rw [z,hY] at g5
    rw [C5 (n:=q-1) (by omega) (by omega)]
    refine ⟨d,q-1,rfl,rfl,by rw [g1,bO,o],g2,by rw [g3,ac],g4,by omega,by omega,by omega,by omega,by omega⟩
  ·have E:ws.getD (mm+2) 0-c=0:=by omega
   rw [E] at hD ⊢
   have ay:C3 0=0:=by rw [F6];omega
   rw [ay]
   exact ⟨(W++ws.drop (mm+2)).set (mm+2) 0,q,rfl,rfl,by rw [bO,o],dW.set (by decide),ac _,Z _,by rw [z];omega,by omega,aa,q0,q1⟩
  ·rintro q4 a0 ⟨d,r,ah,rfl,g1,g2,g3,g4,g5,g6,g7,g8,g9⟩
   obtain rfl:q4=r:=by simpa using ah
   refine ⟨_,rfl,by omega,by omega,?_⟩
   refine A4a (i:=j) G7 (by omega) ?_
   rw [C0 (by omega) (by omega)]
   have S:val b64 d=X-q4*Y:=by
    have z1:=G1 b64 d (i:=mm+3) (by omega)
    rw [g3,y,H8,g4,g5] at z1
    simp at z1
    omega
   refine ⟨⟨j,us.take j++d,qs.set j q4,rfl,by omega,by rw [aH,g1,f];omega,by simpa using af,(t.take j).append g2,ab.set ⟨g8,g9⟩,rfl,?_,?_⟩,by simp only [iAt,aG];omega⟩
   ·rw [eR f,S];exact g7
   ·have O:=G1 b64 us (i:=j) (by omega)
    rw [hws,hXX] at O
    rw [hv,Y6 (by omega),H2,f,S,O,bF]
    simp only [val]
    grind
 ·have ai:k=0:=by omega
  subst ai
  simp at aj hv
  have ba:0<b:=by
   by_cases u:0<b
   ·exact u
   ·have:=aE (show b<=0 by omega) (aQ hp);omega
  have a3:=C9 (by decide) t
  have hR:val b64 us=(a-val b64 qs*b)*2^s:=by
   rw [hua,hYb] at hv
   grind
  have av:0<=a-val b64 qs*b:=by
   by_cases u:0<=a-val b64 qs*b
   ·exact u
   ·have:=aE (show a-val b64 qs*b <= -1 by omega) (aQ hp);omega
  have am:a-val b64 qs*b<b:=by
   by_cases u:a-val b64 qs*b<b
   ·exact u
   ·have:=aE (show b<=a-val b64 qs*b by omega) (aQ hp);omega
  have A:a/b=val b64 qs:=by
   have:a=(a-val b64 qs*b)+val b64 qs*b:=by omega
   rw [this,fS _ _ (by omega),bU av am,dN]
  have ad:a%b=a-val b64 qs*b:=by
   have:=Int.emod_def a b
   rw [this,A,aS]
  rw [A,ad] at hK
  rw [<- af]
  refine R7 B9u ab (aY _) (by omega) ?_
  intro m1 ae M1
  refine ⟨_,_,_,rfl,?_⟩
  rw [<- H]
  refine R7 su t (aY _) (by omega) ?_
  intro m2 a9 M2
  refine ⟨_,_,_,rfl,?_⟩
  rw [C5 (by omega) (by omega)]
  refine Gz M2 (by have:=M2.len_le (by decide) (j:=mm+2) (by omega);omega) (by omega) ?_
  intro A3 m3 c3 h3 l3 k3 M3
  have ak:val b64 us/2^s=a-val b64 qs*b:=by rw [hR,gF _ (by omega)]
  rw [ak] at M3
  exact ⟨_,_,_,rfl,hK _ _ _ _ _ _ _ (B0 Q l3) (by omega) k3 (M1.mono l3) M3⟩
end
section
variable {h g:bB} {K:VP} {A B:Option bH} {ac bc:Nat}
set_option maxHeartbeats 1000000 in
def Fa{x y:Int}{an bn:Nat}(ma:Mw h A an x)(mb:Mw h B bn y)(ha:an<=ac)(hbc:bn<=bc)(hy:y≠0)(hl:an<=1000000000)(hl2:bn<=1000000000)
 (hK:∀ A1 m1 c1 A2 m2 c2 h',h.le h'->m1<=c1->m2<=c2->Mw h' A1 m1 (x/y)->Mw h' A2 m2 (x%y)->K (.tuple #[.slice A1 m1 c1,.slice A2 m2 c2]) h'):aZ prog K0 #[.slice A an ac,.slice B bn bc] h K:=by
 have T:=ma.nonneg (by decide)
 have af:=mb.nonneg (by decide)
 have a4:=mb.len_zero (by decide)
 have q:=ma.lt (by decide)
 have a7:=mb.lt (by decide)
 refine Sr _ _ _ _ _ _ ?_
 unfold Pe
 refine J7 ma mb (by omega) ⟨_,rfl,B8 (fun u=>?_) (fun u=>E5 (fun h2=>?_) (fun h2=>?_))⟩
 ·have C:x<y:=by
   unfold Xd at u
   by_cases c:x<y
   ·exact c
   ·rw [iN c] at u
    by_cases M:x>y
    ·rw [iP M] at u;omega
    ·rw [iN M] at u;omega
  rw [bU T C,gL T C] at hK
  exact hK none 0 0 _ _ _ _ (B5 h) (aY _) ha Mag.zero ma
 ·obtain ⟨a,rfl,sy,Z,ny,rfl⟩:=mb
  have J:a.length=1:=by omega
  obtain ⟨d,rfl⟩:∃ d,a=[d]:=by
   cases a with
   | nil=>simp at J
   | cons d r=>
    cases r with
    | nil=>exact ⟨d,rfl⟩
    | cons _ _=>simp at J
  rw [Z1] at hy af hK
  have hd:=Z d (by simp)
  obtain ⟨w,rfl⟩:∃ w:Nat,d=w:=⟨d.toNat,by omega⟩
  refine sy.load rfl (by omega) (by simp) ?_
  show aZ _ _ #[_,U (w:Int)] _ _
  have hw:w<18446744073709551616:=by have:=hd.2;have:(w:Int)<18446744073709551616:=this;omega
  refine Vr ma ⟨by omega,hw⟩ hl ?_
  intro A' m c' h' ab hm a6 hM
  refine ⟨_,_,_,_,rfl,?_⟩
  refine Cc ⟨aU _ (by omega),by have:=aP x (show (0:Int)<w by omega);omega⟩ ?_
  intro A2 m2 c2 h3 L k3 M3
  exact ⟨_,_,_,rfl,hK _ _ _ _ _ _ _ (B0 ab L) hm k3 (hM.mono L) M3⟩
 ·have ah:y<=x:=by
   unfold Xd at u
   by_cases c:x<y
   ·rw [iP c] at u;omega
   ·omega
  have a3:bn<=an:=mb.len_le (by decide) (dC ah q)
  have ao:=mb
  have ak:=ma
  obtain ⟨a,rfl,sy,Z,ny,rfl⟩:=mb
  obtain ⟨mm,hmm⟩:∃ mm,a.length=mm+2:=⟨a.length-2,by omega⟩
  have gt:=O6 Z (mm+1)
  have aa:=A2v (m:=mm+1) hmm ny
  obtain ⟨Q,p⟩:=Cn (B:=b64) (by decide) Z (m:=mm+1) hmm
  have e1:B7 ((a.length:Int)-1)=((mm+1:Nat):Int):=by rw [C0 (by omega) (by omega)];omega
  rw [e1]
  refine sy.load rfl (by omega) (by omega) ?_
  rw [aC]
  obtain ⟨t,ht⟩:∃ t:Nat,a.getD (mm+1) 0=t:=⟨(a.getD (mm+1) 0).toNat,by omega⟩
  rw [ht] at gt aa Q p ⊢
  have l:t≠0:=by omega
  refine S8 (by omega) ⟨_,rfl,?_⟩
  obtain ⟨ax,a0⟩:=Ff l
  have az:O8 t<=64:=Iw (k:=64) (by omega)
  have ay:1<=O8 t:=by unfold O8;rw [iN l];omega
  obtain ⟨s,hs⟩:∃ s,s=64-O8 t:=⟨_,rfl⟩
  rw [<- hs]
  have R:s<64:=by omega
  have b:0<(2:Int)^s:=bM (by decide)
  have ad:=Au (s:=s) (by omega)
  have z:O8 t=64-s:=by omega
  have av:(t:Int)+1<=2^(64-s):=by
   rw [<- z]
   have:((t+1:Nat):Int)<=((2^O8 t:Nat):Int):=by omega
   simpa using this
  have am:(2:Int)^(63-s)<=t:=by
   have:((2^(O8 t-1):Nat):Int)<=((t:Nat):Int):=by omega
   rw [show O8 t-1=63-s by omega] at this
   simpa using this
  have O:(2:Int)^s*2^(63-s)=9223372036854775808:=by
   rw [<- bG,show s+(63-s)=63 by omega];decide
  have aw:C3 (s:Int)=(s:Int):=C5 (by omega) (by omega)
  rw [aw]
  have g:=D8 (B:=b64) (by decide) (mm+1)
  have aj:val b64 a*2^s<b64^(mm+2):=by
   have t2:val b64 a*2^s<((t:Int)+1)*b64^(mm+1)*2^s:=bN Q b
   have t3:((t:Int)+1)*b64^(mm+1)*2^s=((t:Int)+1)*2^s*b64^(mm+1):=by grind
   have t4:((t:Int)+1)*2^s*b64^(mm+1)<=18446744073709551616*b64^(mm+1):=by
    apply aE _ (aQ g)
    rw [<- ad,aS (2^s)]
    exact aE av (aQ b)
   have t5:b64^(mm+2)=18446744073709551616*b64^(mm+1):=by rw [bF b64 (mm+1),aS]
   omega
  have a1:9223372036854775808*b64^(mm+1)<=val b64 a*2^s:=by
   have t1:(t:Int)*b64^(mm+1)*2^s<=val b64 a*2^s:=aE p (aQ b)
   have t2:9223372036854775808*b64^(mm+1)<=(t:Int)*2^s*b64^(mm+1):=by
    apply aE _ (aQ g)
    rw [<- O,aS (t:Int)]
    exact aK am (by omega)
   have t3:(t:Int)*2^s*b64^(mm+1)=(t:Int)*b64^(mm+1)*2^s:=by grind
   omega
  refine W4 ao hbc hl2 (by omega) ?_
  intro A1 n1 c1 g1 l1 k1 M1
  refine ⟨_,_,_,rfl,?_⟩
  have aq:n1=mm+2:=by
   have q1:=M1.len_le (by decide) aj
   have q2:=M1.lt (by decide)
   by_cases c:n1=mm+2
   ·exact c
   ·have:=D4 (B:=b64) (by decide) (show n1<=mm+1 by omega)
    omega
  subst aq
  obtain ⟨X,E,sv,dv,nv,G⟩:=M1
  have ap:b64<=2*X.getD (mm+1) 0:=by
   obtain ⟨q1,q2⟩:=Cn (B:=b64) (by decide) dv (m:=mm+1) E.symm
   rw [G] at q1
   have:9223372036854775808<X.getD (mm+1) 0+1:=by
    by_cases c:9223372036854775808<X.getD (mm+1) 0+1
    ·exact c
    ·have:=aE (show X.getD (mm+1) 0+1<=9223372036854775808 by omega) (aQ g);omega
   show (18446744073709551616:Int)<=_
   omega
  have eN:B7 ((an:Int)+1)=((an+1:Nat):Int):=by rw [C0 (by omega) (by omega)];omega
  rw [eN]
  refine K8 R4 (by omega) (by omega) (by omega) ?_
  intro bu ai
  rw [aC]
  refine ⟨_,_,_,rfl,?_⟩
  have w0:=Win.blk .u64 C4 ai (aD (an+1) 0)
  refine w0.call ?_
  refine W4 (ak.mono l1) ha hl (by omega) ?_
  intro A3 n3 c3 g3 L k3 M3 h4 w4
  refine ⟨_,_,_,rfl,?_⟩
  have ar:x*2^s<b64^(an+1):=by
   have t1:x*2^s<b64^an*2^s:=bN q b
   have t2:b64^an*2^s<=b64^an*18446744073709551616:=by
    apply aK _ (aQ (D8 (by decide) an))
    have:=D4 (B:=2) (by decide) (show s<=64 by omega)
    have e:(2:Int)^64=18446744073709551616:=by decide
    omega
   rw [bF];show _<b64^an*(18446744073709551616:Int);omega
  have a2:=M3.len_le (by decide) ar
  obtain ⟨us,au,ag,al,a5,S⟩:=M3
  refine Gu R4 w4 (by simp) (ag.mono w4.le) au (by simp;omega) ?_
  intro h5 W
  refine ⟨_,rfl,?_⟩
  rw [bI] at W
  generalize hu0:us++aD (an+1-us.length) (0:Int)=us0 at W
  have V:us0.length=an+1:=by rw [<- hu0];simp;omega
  have j:Dig b64 us0:=by rw [<- hu0];exact al.append (J1 (by decide) _)
  have o:val b64 us0=x*2^s:=by rw [<- hu0,Dm];exact S
  obtain ⟨nq,hnq⟩:∃ nq,an+1=nq+(mm+2):=⟨an+1-(mm+2),by omega⟩
  have eq:B7 (B7 ((an:Int)-(a.length:Int))+1)=(nq:Int):=by
   rw [C0 (n:=(an:Int)-(a.length:Int)) (by omega) (by omega),C0 (by omega) (by omega)];omega
  rw [eq]
  refine K8 R4 (by omega) (by omega) (by omega) ?_
  intro bq f
  rw [aC]
  refine ⟨_,_,_,rfl,?_⟩
  have ae:h5=blk .u64 C4 g3 bu us0:=by rw [W.eq];simp [blk]
  subst ae
  have D:g3 bu=none:=W.free
  have H:bu≠bq:=by
   rintro rfl
   unfold blk at f
   rw [C2] at f;cases f
  have F:g3 bq=none:=by
   have:=f
   unfold blk at this
   rwa [B9 _ _ H.symm] at this
  rw [hmm]
  refine A5u (us0:=us0) (N:=an+1) (xn:=an) D F H (sv.mono L) dv E.symm ap R G rfl j V o rfl hnq (by omega) (by omega) ?_ ?_
  ·have s1:=G1 b64 us0 (i:=nq) (by omega)
   have s2:=C9 (by decide) (j.take nq)
   have s3:val b64 us0<b64^an*2^s:=by
    rw [o];exact bN q b
   have s4:b64^(mm+1)<=val b64 a:=by
    have:=aE (show 1<=(t:Int) by omega) (aQ g);omega
   have s5:b64^nq*(b64^(mm+1)*2^s)<=b64^nq*(val b64 a*2^s):=aK (aE s4 (aQ b)) (aQ (D8 (by decide) nq))
   have s6:b64^nq*(b64^(mm+1)*2^s)=b64^an*2^s:=by
    rw [<- cZ,<- bG,show nq+(mm+1)=an by omega]
   by_cases c:val b64 (us0.drop nq)<val b64 a*2^s
   ·exact c
   ·have:=aK (show val b64 a*2^s<=val b64 (us0.drop nq) by omega) (aQ (D8 (B:=b64) (by decide) nq));omega
  ·intro A5 m5 c5 A6 m6 c6 h6 l6 k5 k6 M5 M6
   exact hK _ _ _ _ _ _ _ (B0 l1 (B0 L l6)) k5 k6 M5 M6
end
def A6p{x a b p:Int}(h:a+p*b=x)(h0:0<=a)(h1:a<p):x/p=b/\x%p=a:=(Int.ediv_emod_unique (by omega)).2 ⟨h,h0,h1⟩
def Xk{P:dI}{h:bB}{A:Option bH}{n m c s:Nat}{cs:List dD}(hl:cs.length=n*s)(hc:cs=[]\/∃ a,A=some a/\∀ j v,cs[j]? = some v->h.cell? (a.add j)=some v){K:Array dD->bB->Prop}(x:K cs.toArray h):
 wpH P (Builtin.firstCells s n (.slice A m c)) K h:=by
 cases A with
 | none=>
  rcases hc with rfl|⟨a,e,_⟩
  ·exact x
  ·cases e
 | some a=>
  show wpH P (loadCells a (n*s)) K h
  rcases hc with rfl|⟨b,e,hc⟩
  ·exact W5 (cs:=[]) hl.symm (fun j v e=>by simp at e) x
  ·cases e
   exact W5 hl.symm hc x
def B7v{P:dI}{t e ty:bV}{k:dZ}{bytes:Nat}(s:SliceT P t e (.int k 0) 1 bytes){h g:bB}{b:Nat}{A:Option bH}{pre post:List dD}{xs:List Int}{n c m d:Nat}(w:Win k h g b e A pre xs post)(hn:n=xs.length){B:Option bH}{ys:List Int}(sy:SlI k h B ys)(hm:min m xs.length=ys.length){K:VP}
 (x:∀ h',Win k h' g b e A pre (ys++xs.drop ys.length) post->K (I ys.length) h'):wpH P (fI #[t,t] ty #[.slice A n c,.slice B m d]) K h:=by
 subst hn
 have j:ys.length<=xs.length:=by omega
 obtain ⟨i,q,y,o,r⟩:=s.parts
 unfold fI
 simp only [dG,aG,aI,C8,F4 s.und,M0 q,H1,gG,o]
 have l:Nat.min m xs.length=ys.length:=hm
 rw [l]
 refine Xk (s:=1) (cs:=ys.map (bC k)) (by simp) sy ?_
 cases A with
 | none=>
  rcases w.at_ with f|f
  ·subst f
   have:ys=[]:=aM (by simpa using j)
   subst this
   exact x h (by simpa using w)
  ·cases f
 | some a=>
  simp only [C8]
  rcases w.at_ with f|f
  ·subst f
   have:ys=[]:=aM (by simpa using j)
   subst this
   exact x h (by simpa using w)
  ·cases f
   rw [w.eq]
   refine J8 (ys.map (bC k)) pre.length 0 (pre++xs.map (bC k)++post) (by simp;omega) (fun v p=>?_) ?_
   ·obtain ⟨u,_,rfl⟩:=List.mem_map.1 p;rfl
   ·refine x _ ⟨w.free,?_,?_⟩
    ·congr 3
     unfold L4
     rw [dV,aR pre,dE rfl,fU]
     rw [gM,aV (show pre.length<=pre.length+ys.length by omega),cK,cQ]
     rw [eI (by simpa using j),<- List.map_drop,dQ]
     simp only [aR]
    ·right;rfl
section
variable {h g:bB} {K:VP} {A B:Option bH} {ac bc:Nat}
def B9a(a n:Nat):(if (a:Int)<(n:Int) then (a:Int) else (n:Int))=((min n a:Nat):Int):=by split<;>omega
def Mo{xs:List Int}(d:Dig b64 xs)(n:Nat):val b64 xs/b64^n=val b64 (xs.drop (min n xs.length))/\val b64 xs%b64^n=val b64 (xs.take (min n xs.length)):=by
 by_cases a:n<=xs.length
 ·rw [aJ a]
  have e:=G1 b64 xs a
  have c:=C9 (by decide) (d.take n)
  have b:=N4 (by decide) (d.take n)
  rw [aF,aJ a] at b
  exact A6p e.symm c b
 ·rw [fJ (by omega),fL,aW]
  have c:=C9 (by decide) d
  have b:=N4 (by decide) d
  have f:=D4 (B:=b64) (by decide) (show xs.length<=n by omega)
  exact A6p (by simp [val]) c (by omega)
def Al{x:Int}{an n:Nat}(ma:Mw h A an x)(ha:an<=ac)(hK:∀ A' m c',m<=c'->m<=an->Mw h A' m (x/b64^n)->K (.slice A' m c') h):aZ prog V6 #[.slice A an ac,I n] h K:=by
 obtain ⟨a,rfl,e,b,c,rfl⟩:=ma
 refine A1y _ _ _ _ ?_
 unfold Zg
 rw [B9a,aC]
 refine ⟨⟨by omega,by omega⟩,hK _ _ _ (by omega) (by omega) ?_⟩
 rw [(Mo b n).1,<- aN]
 refine Mw.of (A1q e (by omega) ha) (b.drop _) ?_
 by_cases d:min n a.length<a.length
 ·exact Nr c d
 ·rw [aV (by omega)];exact Norm.nil
def Ga{x:Int}{an n:Nat}(ma:Mw h A an x)(ha:an<=ac)(hl:an<=10000000000)(hK:∀ A' m c',m<=c'->m<=n->m<=an->Mw h A' m (x%b64^n)->K (.slice A' m c') h):aZ prog Dd #[.slice A an ac,I n] h K:=by
 obtain ⟨b,rfl,c,a,d,rfl⟩:=ma
 refine A4g _ _ _ _ ?_
 unfold A4h
 rw [B9a,aC,J0,bX,bX]
 refine ⟨⟨by omega,by omega⟩,Bz (Kf c (m:=min n b.length) (by omega) ha) (a.take _) (by rw [aF];omega) (Mo a n).2.symm (by omega) (by omega) ?_⟩
 intro m e M
 exact ⟨_,_,_,rfl,hK _ _ _ (by omega) (by omega) (by omega) M⟩
def Ic{x y:Int}{an bn n:Nat}(ma:Mw h A an x)(mb:Mw h B bn y)(hbn:bn<=n)(hl:n+an<=5000000000)(hK:∀ A' m c' h',h.le h'->m<=c'->Mw h' A' m (x*b64^n+y)->K (.slice A' m c') h'):aZ prog Lo #[.slice A an ac,.slice B bn bc,I n] h K:=by
 obtain ⟨a,rfl,u,r,E,rfl⟩:=ma
 obtain ⟨d,rfl,C,z,G,rfl⟩:=mb
 refine B88 _ _ _ _ _ _ _ ?_
 unfold C48
 have p:B7 ((n:Int)+a.length)=((n+a.length:Nat):Int):=by rw [C0 (by omega) (by omega)];omega
 rw [p]
 refine K8 R4 (by omega) (by omega) (by omega) ?_
 intro b o
 rw [aC]
 refine ⟨_,_,_,rfl,?_⟩
 have j:=Win.blk .u64 C4 o (aD (n+a.length) 0)
 refine Gu R4 j (by simp) (C.mono j.le) rfl (by simp;omega) ?_
 intro D f
 refine ⟨_,rfl,⟨by omega,by omega⟩,?_⟩
 rw [bI] at f
 generalize hz:d++aD (n+a.length-d.length) (0:Int)=zs at f
 have t:zs.length=n+a.length:=by rw [<- hz];simp;omega
 have w:=f.sub (l:=n) (m:=n+a.length) (c:=n+a.length) (by omega) (by omega) (by omega)
 rw [aC]
 refine Gu R4 w (by rw [aF,aN];omega) (u.mono f.le) rfl (by rw [aF,aN];omega) ?_
 intro F k
 rw [aV (by rw [aF,aN];omega),cC] at k
 have g:=f.whole (l:=n) (m:=n+a.length) (by omega) (by omega) (by omega) k
 rw [aV (show zs.length<=n+a.length by omega),cC] at g
 have i:zs.take n=d++aD (n-d.length) 0:=by
  rw [<- hz,dM,aL (by omega),cH]
  congr 2;omega
 rw [i] at g
 refine ⟨_,rfl,Bz g.sl ((z.append (J1 (by decide) _)).append r) (by simp;omega) rfl (by omega) (by omega) ?_⟩
 intro m s M
 refine ⟨_,_,_,rfl,hK _ _ _ _ g.le s ?_⟩
 rw [H2,Dm] at M
 have e:(d++aD (n-d.length) (0:Int)).length=n:=by simp;omega
 rw [e] at M
 have q:val b64 a*b64^n+val b64 d=val b64 d+b64^n*val b64 a:=by rw [aS];omega
 rw [q];exact M
def C1z{x y:Int}(hx:0<=x/\x<18446744073709551616)(hy:0<=y/\y<18446744073709551616)(hK:K (.tuple #[U (x*y/18446744073709551616),U (x*y%18446744073709551616)]) h):aZ prog B3r #[U x,U y] h K:=by
 refine C2t _ _ ?_
 unfold C7m
 exact Ns hx hy ⟨_,_,rfl,hK⟩
def A61{v:Int}{n:Nat}(s:SlI .u64 h A [v])(hn:0<n)(hl:n<=1000000000)(hK:∀ A' h',h.le h'->SlI .u64 h' A' (aD n v)->K (.slice A' n n) h'):aZ prog Ve #[.slice A 1 ac,I n] h K:=by
 refine B0p _ _ _ _ ?_
 unfold B4w
 refine B8 (fun d=>by omega) (fun _=>?_)
 rw [C5 (n:=((1:Nat):Int)) (by omega) (by omega),C5 (n:=(n:Int)) (by omega) (by omega)]
 refine C1z (by omega) (by omega) ⟨_,_,rfl,?_⟩
 have y:((1:Nat):Int)*(n:Int)/18446744073709551616=0:=by omega
 have z:((1:Nat):Int)*(n:Int)%18446744073709551616=n:=by omega
 rw [y,z]
 refine B8 (fun d=>by omega) (fun _=>?_)
 refine B8 (fun d=>by omega) (fun _=>?_)
 rw [C0 (n:=(n:Int)) (by omega) (by omega)]
 refine K8 R4 (by omega) (by omega) (by omega) ?_
 intro b u
 rw [aC]
 refine ⟨_,_,_,rfl,?_⟩
 have g:=Win.blk .u64 C4 u (aD n 0)
 refine Gu R4 g (by simp) (s.mono g.le) rfl (by simp;omega) ?_
 intro d q
 refine ⟨_,rfl,?_⟩
 rw [bI] at q
 refine ⟨fun l e=>∃ k:Nat,l=[I k]/\0<k/\k<=n/\Win .u64 e h b C4 (some ⟨b,0,none⟩) [] (aD k v++aD (n-k) 0) [],fun l _=>n-(iAt l 0).toNat,⟨1,rfl,by omega,hn,q⟩,?_⟩
 rintro i e ⟨k,f,C,a,w⟩
 obtain rfl:=sI1 f
 refine B8 (fun E=>?_) (fun E=>?_)
 ·have D:(aD k v++aD (n-k) (0:Int)).length=n:=by simp;omega
  refine ⟨⟨by omega,by omega⟩,⟨by omega,by omega⟩,?_⟩
  simp only [aC,J0,bX]
  have p:=w.sub (l:=k) (m:=n) (c:=n) (by omega) (by omega) (by omega)
  have B:((aD k v++aD (n-k) (0:Int)).drop k).take (n-k)=aD (n-k) 0:=by
   rw [eR (by simp),aL (by simp)]
  rw [B] at p
  have t:SlI .u64 e (some ⟨b,0,none⟩) (aD (min k (n-k)) v):=by
   have:=Kf w.sl (c:=n) (m:=min k (n-k)) (by omega) (by omega)
   rwa [cN (by simp;omega),cH,aJ (by omega)] at this
  refine B7v R4 p (by simp) t (by simp) ?_
  intro G o
  rw [cI] at o ⊢
  have j:=w.whole (l:=k) (m:=n) (by omega) (by omega) (by simp;omega) o
  have r:B7 ((k:Int)+(min k (n-k):Nat))=((k+min k (n-k):Nat):Int):=by rw [C0 (by omega) (by omega)];omega
  refine ⟨_,rfl,?_⟩
  rw [r]
  refine ⟨⟨_,rfl,by omega,by omega,?_⟩,?_⟩
  ·have F:(aD k v++aD (n-k) (0:Int)).take k++(aD (min k (n-k)) v++(aD (n-k) (0:Int)).drop (min k (n-k)))++(aD k v++aD (n-k) (0:Int)).drop n=aD (k+min k (n-k)) v++aD (n-(k+min k (n-k))) 0:=by
    rw [dE (by simp),aV (show (aD k v++aD (n-k) (0:Int)).length<=n by omega),cC,bI,<- aR,dY]
    congr 2;omega
   rw [F] at j
   exact j
  ·simp only [iAt,aG];omega
 ·have a:k=n:=by omega
  subst a
  have:=w.sl
  rw [gJ,List.replicate_zero,cC] at this
  exact hK _ _ w.le this
end
def Mw.high{h:bB}{A:Option bH}{an ac k:Nat}{x:Int}(ma:Mw h A an x)(ha:an<=ac)(hk:k<=an):Mw h (H9 A ac k 1) (an-k) (x/b64^k):=by
 obtain ⟨c,rfl,f,b,d,rfl⟩:=ma
 have e:=(Mo b k).1
 rw [aJ hk] at e
 rw [e,<- aN]
 refine Mw.of (A1q f hk ha) (b.drop _) ?_
 by_cases a:k<c.length
 ·exact Nr d a
 ·rw [aV (by omega)];exact Norm.nil
def B6r{x P X2 yh top:Int}(hP:0<P)(h1:x<P*P*(X2+1))(h2:P*top<=x)(hlt:X2<yh):top<P*yh:=by
 by_cases a:top<P*yh
 ·exact a
 ·have t1:P*(P*yh)<=P*top:=aK (by omega) (by omega)
  have b:P*P*(X2+1)<=P*P*yh:=aK (by omega) (aT (by omega) (by omega))
  rw [cZ P P yh] at b
  omega
def B6s{x P X2 yh top:Int}(hP:0<P)(h1:P*P*X2<=x)(h2:x<P*(top+1))(hge:yh<=X2):P*yh<=top:=by
 by_cases a:P*yh<=top
 ·exact a
 ·have t1:P*(top+1)<=P*(P*yh):=aK (by omega) (by omega)
  have b:P*P*yh<=P*P*X2:=aK (by omega) (aT (by omega) (by omega))
  rw [cZ P P yh] at b
  omega
def C0f(N:Nat):Prop:=∀ {h:bB} {K:VP} {A B:Option bH} {ac bc an bn:Nat} {x y:Int},bn<=N->Mw h A an x->Mw h B bn y->an<=ac->bn<=bc->an<=1000000000->bn<=200000000->0<bn->9223372036854775808*b64^(bn-1)<=y->x<b64^bn*y->
 (∀ A1 m1 c1 A2 m2 c2 h',h.le h'->m1<=c1->m2<=c2->Mw h' A1 m1 (x/y)->Mw h' A2 m2 (x%y)->K (.tuple #[.slice A1 m1 c1,.slice A2 m2 c2]) h')->aZ prog Y2 #[.slice A an ac,.slice B bn bc] h K
section
variable {h g:bB} {K:VP} {A B:Option bH} {ac bc:Nat}
def Ds{x y:Int}:Xd x y<0↔x<y:=by
 unfold Xd
 by_cases a:x<y
 ·rw [iP a];simp [a]
 ·rw [iN a]
  by_cases b:x>y
  ·rw [iP b];simp [a]
  ·rw [iN b];simp [a]
set_option maxHeartbeats 1000000 in
def A5o{x y q0 R0 pr:Int}{m bn nq cq np cp nr cr:Nat}{Aq Ap Ar:Option bH}(hx0:0<=x)(mb:Mw h B bn y)(hb:bn<=bc)(hl2:bn<=200000000)(hbm:bn=2*m)(mq:Mw h Aq nq q0)(hq:nq<=cq)(mp:Mw h Ap np pr)(hp2:pr<b64^bn)
 (mr:Mw h Ar nr R0) (hr:nr<=cr) (hq0:q0<b64^m) (hR:R0-pr=x-q0*y) (hy:x-q0*y<y)
 (hK:∀ A1 m1 c1 A2 m2 c2 h',h.le h'->m1<=c1->m2<=c2->Mw h' A1 m1 (x/y)->Mw h' A2 m2 (x%y)->K (.tuple #[.slice A1 m1 c1,.slice A2 m2 c2]) h'):
 Bl prog B bn bc K Aq nq cq Ap np cp Ar nr cr h:=by
 have w:=mb.lt (by decide)
 have M:=mb.nonneg (by decide)
 have C:=mp.nonneg (by decide)
 unfold Bl
 refine ⟨fun l c=>∃ (Aq Ar:Option bH) (nq cq nr cr:Nat) (q R:Int),l=[.slice Aq nq cq,.slice Ar nr cr]/\h.le c/\Mw c Aq nq q/\nq<=cq/\Mw c Ar nr R/\nr<=cr/\q<b64^m/\R-pr=x-q*y/\x-q*y<y,fun l c=>match l with|[.slice A n _,_]=>B2v b64 c A n|_=>0,⟨_,_,_,_,_,_,_,_,rfl,B5 h,mq,hq,mr,hr,hq0,hR,hy⟩,?_⟩
 rintro A1 L c1 A2 D c2 c ⟨Aq,Ar,nq,cq,nr,cr,q,R,s,d,mq,hq,mr,hr,hq0,hR,hy⟩
 simp only [bD,bW,and_true] at s
 obtain ⟨⟨rfl,rfl,rfl⟩,rfl,rfl,rfl⟩:=s
 have H:D<=bn+1:=mr.len_le (by decide) (by
  rw [bF]
  show R<b64^bn*18446744073709551616
  omega)
 have u:L<=m:=mq.len_le (by decide) hq0
 refine J7 mr (mp.mono d) (by omega) ⟨_,rfl,?_⟩
 refine B8 (fun g=>?_) (fun g=>?_)
 ·rw [Ds] at g
  have t:=mq.nonneg (by decide)
  have i:1<=q:=by
   by_cases F:1<=q
   ·exact F
   ·obtain rfl:q=0:=by omega
    omega
  refine T4 mr (mb.mono d) hr hb (by omega) (by omega) ?_
  intro A3 z c3 f e o M3
  refine ⟨_,_,_,rfl,Bi R4 rfl ?_⟩
  intro b j
  refine ⟨_,_,_,rfl,?_⟩
  have k:=Heap.le_put (.cells #[U 1] C4) j
  have M1:Mw (f.put b (.cells #[U 1] C4)) (some ⟨b,0,none⟩) 1 1:=⟨[1],rfl,SlI.new f b [1] C4 _,Dig.one (by decide),by simp [gC],Z1 _ _⟩
  refine I6 ((mq.mono e).mono k) M1 hq (by omega) i ?_
  intro A5 N c5 O r G M5
  refine ⟨_,_,_,rfl,⟨_,_,_,_,_,_,_,_,rfl,B0 d (B0 e (B0 k r)),M5,G,(M3.mono k).mono r,o,by omega,?_,?_⟩,?_⟩
  ·rw [Int.sub_mul];omega
  ·rw [Int.sub_mul];omega
  ·simp only [Bh M5,Bh mq];omega
 ·rw [Ds] at g
  refine I6 mr (mp.mono d) hr (by omega) (by omega) ?_
  intro A3 z c3 f e o M3
  obtain ⟨E,J⟩:=A6p (x:=x) (a:=R-pr) (b:=q) (p:=y) (by rw [hR,aS y];omega) (by omega) (by omega)
  refine ⟨_,_,_,rfl,hK _ _ _ _ _ _ _ (B0 d e) hq o ?_ ?_⟩
  ·rw [E];exact mq.mono e
  ·rw [J];exact M3
set_option maxHeartbeats 1000000 in
def Tw{N:Nat}(ih:C0f N){x y:Int}{an bn m:Nat}(hm:0<m)(hN:m<=N)(hbm:bn=2*m)(ma:Mw h A an x)(mb:Mw h B bn y)(ha:an<=ac)(hb:bn<=bc)(hl:an<=1000000000)(hl2:bn<=200000000)(htop:9223372036854775808*b64^(bn-1)<=y)(hxy:x<b64^m*y)
 (hK:∀ A1 m1 c1 A2 m2 c2 h',h.le h'->m1<=c1->m2<=c2->Mw h' A1 m1 (x/y)->Mw h' A2 m2 (x%y)->K (.tuple #[.slice A1 m1 c1,.slice A2 m2 c2]) h'):aZ prog W9 #[.slice A an ac,.slice B bn bc] h K:=by
 have ao:=ma.nonneg (by decide)
 have a0:=mb.nonneg (by decide)
 have a1:=mb.lt (by decide)
 have i:=D8 (B:=b64) (by decide) m
 have aa:b64^bn=b64^m*b64^m:=by rw [<- bG];congr 1;omega
 have t:b64^(2*m)=b64^m*b64^m:=by rw [<- bG];congr 1;omega
 have R:b64^(bn-1)=b64^m*b64^(m-1):=by rw [<- bG];congr 1;omega
 have a:=mb.high (k:=m) hb (by omega)
 rw [show bn-m=m by omega] at a
 have d:=a.nonneg (by decide)
 have ar:=a.lt (by decide)
 have dy:b64^m*(y/b64^m)+y%b64^m=y:=aO _ _
 have ag:=aU y (b:=b64^m) (by omega)
 have a4:=aP y i
 have dx:b64^m*(x/b64^m)+x%b64^m=x:=aO _ _
 have ay:=aU x (b:=b64^m) (by omega)
 have a3:=aP x i
 have aw:=D8 (B:=b64) (by decide) (m-1)
 have ak:9223372036854775808*b64^(m-1)<=y/b64^m:=by
  by_cases hc:9223372036854775808*b64^(m-1)<=y/b64^m
  ·exact hc
  ·have t1:b64^m*(y/b64^m+1)<=b64^m*(9223372036854775808*b64^(m-1)):=aK (by omega) (by omega)
   have Q:b64^m*(9223372036854775808*b64^(m-1))=9223372036854775808*(b64^m*b64^(m-1)):=by grind
   rw [R] at htop
   rw [dB] at t1
   omega
 obtain ⟨ys,ah,sy,g,ai,rfl⟩:=mb
 have mb:Mw h B bn (val b64 ys):=⟨ys,ah,sy,g,ai,rfl⟩
 generalize hyv:val b64 ys=y at *
 refine Sq _ _ _ _ _ _ ?_
 unfold Pd
 have eh:B7 (cT ((bn:Nat):Int) 2)=(m:Int):=by rw [bJ (by omega),C0 (by omega) (by omega)];omega
 have al:B7 (2*(m:Int))=((2*m:Nat):Int):=by rw [C0 (by omega) (by omega)];omega
 simp only [eh,al,aC,bX,J0]
 rw [show bn-m=m by omega]
 refine ⟨⟨by omega,by omega⟩,⟨by omega,by omega⟩,Bz (Kf sy (m:=m) (c:=bc) (by omega) (by omega)) (g.take m) (by rw [aF];omega) rfl (by omega) (by omega) ?_⟩
 intro yn az Myl
 have C:=(Mo g m).2
 rw [aJ (by omega),hyv] at C
 rw [<- C] at Myl
 refine ⟨_,_,_,rfl,B5 h,Al ma ha ?_⟩
 intro A1 n1 c1 k1 a8 M1
 refine ⟨_,_,_,rfl,?_⟩
 have o:=M1.nonneg (by decide)
 refine ⟨fun l M=>∃ (Aq Ar:Option bH) (J S O Z:Nat) (q r:Int),l=[.slice Aq J S,.slice Ar O Z]/\h.le M/\Mw M Aq J q/\J<=S/\Mw M Ar O r/\O<=Z/\q<b64^m/\x/b64^m=q*(y/b64^m)+r/\x-q*y<y,?_,?_⟩
 ·refine Al ma ha ?_
  intro A2 n2 c2 k2 av M2
  refine ⟨_,_,_,rfl,J7 M2 a (by omega) ⟨_,rfl,?_⟩⟩
  have ab:b64^(2*m)*(x/b64^(2*m))+x%b64^(2*m)=x:=aO _ _
  have T:=aU x (b:=b64^(2*m)) (by have:=D8 (B:=b64) (by decide) (2*m);omega)
  have ap:=aP x (D8 (B:=b64) (by decide) (2*m))
  generalize x/b64^(2*m)=X2 at *
  rw [t] at ab T ap
  refine B8 (fun L=>?_) (fun L=>?_)
  ·rw [Ds] at L
   have V:=B6r (x:=x) (top:=x/b64^m) i (by rw [dB];omega) (by omega) L
   refine ih hN M1 a k1 (by omega) (by omega) (by omega) hm ak V ?_
   intro A3 n3 c3 A4 n4 c4 h3 n k3 k4 M3 M4
   have w:0<y/b64^m:=by omega
   have d1:=aO (x/b64^m) (y/b64^m)
   have d2:=aP (x/b64^m) w
   have d0:=M3.nonneg (by decide)
   refine ⟨_,_,_,_,_,_,rfl,_,_,_,_,_,_,_,_,rfl,n,M3,k3,M4,k4,bK w V,by rw [aS];omega,?_⟩
   generalize (x/b64^m)/(y/b64^m)=q at *
   generalize (x/b64^m)%(y/b64^m)=r at *
   generalize x/b64^m=top at *
   generalize y/b64^m=yh at *
   generalize y%b64^m=yl at *
   generalize x%b64^m=xl at *
   generalize b64^m=P at *
   have t1:P*(r+1)<=P*yh:=aK (by omega) (by omega)
   have Q:x-q*y=P*r+xl-q*yl:=by rw [<- dx,<- dy,<- d1];grind
   have t3:=aT d0 ag
   rw [dB] at t1
   omega
  ·rw [Ds] at L
   have V:=B6s (x:=x) (top:=x/b64^m) (yh:=y/b64^m) (X2:=X2) i (by omega) (by rw [dB];omega) (by omega)
   refine Bi R4 rfl ?_
   intro b aj
   refine ⟨_,_,_,rfl,?_⟩
   have l4:=Heap.le_put (.cells #[U 18446744073709551615] C4) aj
   refine A61 (v:=18446744073709551615) (SlI.new h b [18446744073709551615] C4 _) hm (by omega) ?_
   intro A5 h5 D s5
   refine ⟨_,_,_,rfl,?_⟩
   have F:=B0 l4 D
   refine Ic (a.mono F) (Mag.zero (k:=.u64) (B:=b64)) (by omega) (by omega) ?_
   intro A6 n6 c6 h6 l6 k6 M6
   refine ⟨_,_,_,rfl,?_⟩
   have e:=B0 F l6
   refine I6 (M1.mono e) M6 k1 (by omega) (by rw [aS];omega) ?_
   intro A7 n7 c7 h7 p k7 M7
   have a2:n7<=an:=M7.len_le (by decide) (by
    have:=ma.lt (by decide)
    have t1:=aT d (aQ i)
    have Q:1*(x/b64^m)<=b64^m*(x/b64^m):=aE (by omega) o
    omega)
   refine ⟨_,_,_,rfl,?_⟩
   refine T4 M7 ((a.mono e).mono p) k7 (by omega) (by omega) (by omega) ?_
   intro A8 n8 c8 h8 l8 k8 M8
   have u:∀ j:Nat,val b64 (aD j 18446744073709551615)=b64^j-1:=by
    intro j
    induction j with
    | zero=>rfl
    | succ j ihj=>
     rw [List.replicate_succ,val,ihj,bF]
     show (18446744073709551615:Int)+18446744073709551616*(b64^j-1)=b64^j*18446744073709551616-1
     omega
   have M5:Mw h5 A5 m (b64^m-1):=by
    refine ⟨aD m 18446744073709551615,by simp,s5,?_,?_,u m⟩
    ·intro z hz
     have:=List.eq_of_mem_replicate hz
     subst this;decide
    ·obtain ⟨j,rfl⟩:∃ j,m=j+1:=⟨m-1,by omega⟩
     unfold gC
     rw [eG]
     simp
   refine ⟨_,_,_,rfl,_,_,_,_,_,_,_,_,rfl,B0 e (B0 p l8),((M5.mono l6).mono p).mono l8,aY _,M8,k8,by omega,?_,?_⟩
   ·grind
   ·have:(b64^m-1)*y=b64^m*y-y:=by grind
    omega
 ·rintro Aq' W a6 Ar' ad a7 M ⟨Aq,Ar,J,S,O,Z,q,r,G,X,H,hq,mr,hr,f,af,am⟩
  simp only [bD,bW,and_true] at G
  obtain ⟨⟨rfl,rfl,rfl⟩,rfl,rfl,rfl⟩:=G
  have s:=H.nonneg (by decide)
  have a5:=mr.nonneg (by decide)
  have au:W<=m:=H.len_le (by decide) f
  have ax:ad<=an:=mr.len_le (by decide) (by
   have:=ma.lt (by decide)
   have t1:=aT s d
   have Q:1*(x/b64^m)<=b64^m*(x/b64^m):=aE (by omega) o
   omega)
  refine I7 H (Myl.mono X) hq (by omega) (by omega) (by omega) ?_
  intro A3 n3 c3 h3 n k3 M3
  refine ⟨_,_,_,rfl,Ga (ma.mono (B0 X n)) ha (by omega) ?_⟩
  intro A4 n4 c4 k4 ae aq M4
  refine ⟨_,_,_,rfl,Ic (mr.mono n) M4 ae (by omega) ?_⟩
  intro A5 n5 c5 h5 D k5 M5
  have E:=B0 X (B0 n D)
  refine ⟨_,_,_,rfl,A5o (q0:=q) (m:=m) ao (mb.mono E) hb hl2 hbm ((H.mono n).mono D) hq (M3.mono D) ?_ M5 k5 f ?_ am ?_⟩
  ·rw [aa]
   have t1:q*(y%b64^m)<=q*b64^m:=aK (by omega) s
   have Q:q*b64^m<b64^m*b64^m:=bN f i
   omega
  ·generalize x/b64^m=top at *
   generalize y/b64^m=yh at *
   generalize y%b64^m=yl at *
   generalize x%b64^m=xl at *
   generalize b64^m=P at *
   rw [<- dx,<- dy,af];grind
  ·intro A6 n6 c6 A7 n7 c7 h7 p k6 k7 M6 M7
   exact hK _ _ _ _ _ _ _ (B0 E p) k6 k7 M6 M7
end
set_option maxHeartbeats 1000000 in
def C3n:∀ N,C0f N:=by
 intro N
 induction N with
 | zero=>intro h K A B V R F d x y O _ _ _ _ _ _ n;omega
 | succ N ih=>
  intro h K A B V R F d x y hN k g E q hl i af f j S
  have ai:=k.nonneg (by decide)
  have ab:=g.nonneg (by decide)
  have e:0<y:=by
   have:=D8 (B:=b64) (by decide) (d-1);omega
  refine Ss _ _ _ _ _ _ ?_
  unfold Pf
  have c:aZ prog K0 #[.slice A F V,.slice B d R] h (fun r hp=>∃ (t22aA:Option bH) (t22an:Nat) (t22ac:Nat) (t22bA:Option bH) (t22bn:Nat) (t22bc:Nat),r= .tuple #[.slice t22aA t22an t22ac,.slice t22bA t22bn t22bc]/\K (.tuple #[.slice t22aA t22an t22ac,.slice t22bA t22bn t22bc]) hp):=by
   refine Fa k g E q (by omega) hl (by omega) ?_
   intro A1 m1 c1 A2 m2 c2 h' l w T M1 M2
   exact ⟨_,_,_,_,_,_,rfl,S _ _ _ _ _ _ _ l w T M1 M2⟩
  refine B8 (fun O=>c) (fun O=>?_)
  refine I4 (fun n=>c) (fun n=>?_)
  rw [bY (by omega)] at n
  obtain ⟨m,hbm⟩:∃ m,d=2*m:=⟨d/2,by omega⟩
  have eh:B7 (cT ((d:Nat):Int) 2)=(m:Int):=by rw [bJ (by omega),C0 (by omega) (by omega)];omega
  simp only [eh]
  have L:=D8 (B:=b64) (by decide) m
  have s:b64^d=b64^m*b64^m:=by rw [<- bG];congr 1;omega
  have dx:b64^m*(x/b64^m)+x%b64^m=x:=aO _ _
  have aa:=aU x (b:=b64^m) (by omega)
  have ae:=aP x L
  rw [s] at j
  refine Al k E ?_
  intro A1 n1 c1 w aj M1
  refine ⟨_,_,_,rfl,?_⟩
  have J:x/b64^m<b64^m*y:=by
   by_cases hc:x/b64^m<b64^m*y
   ·exact hc
   ·have t1:b64^m*(b64^m*y)<=b64^m*(x/b64^m):=aK (by omega) (by omega)
    rw [cZ] at j
    omega
  refine Tw ih (by omega) (by omega) hbm M1 g w q (by omega) i f J ?_
  intro A2 n2 c2 A3 X c3 h3 D T k3 M2 M3
  refine ⟨_,_,_,_,_,_,rfl,Ga (k.mono D) E (by omega) ?_⟩
  intro A4 n4 c4 k4 z M M4
  have d1:=aO (x/b64^m) y
  have d2:=aP (x/b64^m) e
  have d3:=aU (x/b64^m) (b:=y) (by omega)
  have o:x/b64^m/y<b64^m:=bK e J
  have ad:X<=d:=M3.len_le (by decide) (by have:=g.lt (by decide);omega)
  have ag:n2<=m:=M2.len_le (by decide) o
  refine ⟨_,_,_,rfl,Ic M3 M4 z (by omega) ?_⟩
  intro A5 n5 c5 h5 C k5 M5
  refine ⟨_,_,_,rfl,?_⟩
  have Q:(x/b64^m)%y*b64^m+x%b64^m<b64^m*y:=by
   have t1:b64^m*((x/b64^m)%y+1)<=b64^m*y:=aK (by omega) (by omega)
   rw [dB,aS] at t1
   omega
  have ah:n5<=d+m:=M5.len_le (by decide) (by
   have t1:b64^m*y<b64^m*b64^d:=cV (g.lt (by decide)) L
   rw [Nat.add_comm,bG];omega)
  refine Tw ih (by omega) (by omega) hbm M5 (g.mono (B0 D C)) k5 q (by omega) i f Q ?_
  intro A6 n6 c6 A7 n7 c7 h7 G k6 k7 M6 M7
  have t:n6<=m:=M6.len_le (by decide) (bK e Q)
  refine ⟨_,_,_,_,_,_,rfl,Ic ((M2.mono C).mono G) M6 t (by omega) ?_⟩
  intro A8 n8 c8 h8 H k8 M8
  refine ⟨_,_,_,rfl,?_⟩
  have e1:=aO ((x/b64^m)%y*b64^m+x%b64^m) y
  have e2:=aP ((x/b64^m)%y*b64^m+x%b64^m) e
  have Z:=aU ((x/b64^m)%y*b64^m+x%b64^m) (b:=y) (by omega)
  have M7':=M7.mono H
  have u:=B0 D (B0 C (B0 G H))
  generalize ((x/b64^m)%y*b64^m+x%b64^m)/y=q2 at *
  obtain ⟨f1,W⟩:=A6p (x:=x) (a:=((x/b64^m)%y*b64^m+x%b64^m)%y) (b:=x/b64^m/y*b64^m+q2) (p:=y) (by
   generalize ((x/b64^m)%y*b64^m+x%b64^m)%y=r2 at *
   generalize x/b64^m/y=q1 at *
   generalize x/b64^m%y=r1 at *
   generalize x/b64^m=top at *
   generalize x%b64^m=xl at *
   generalize b64^m=P at *
   grind) Z e2
  refine S _ _ _ _ _ _ _ u k8 k7 ?_ ?_
  ·rw [f1];exact M8
  ·rw [W];exact M7'
def Yo{ys:List Int}{k t s:Nat}(dy:Dig b64 ys)(hk:ys.length=k+1)(ht:ys.getD k 0=(t:Int))(ht0:t≠0)(hs:s=64-O8 t):s<64/\val b64 ys*2^s<b64^(k+1)/\9223372036854775808*b64^k<=val b64 ys*2^s:=by
 have u:=O6 dy k
 obtain ⟨g,a⟩:=Cn (B:=b64) (by decide) dy (m:=k) hk
 rw [ht] at u g a
 obtain ⟨p,q⟩:=Ff ht0
 have o:O8 t<=64:=Iw (k:=64) (by omega)
 have n:1<=O8 t:=by unfold O8;rw [iN ht0];omega
 have e:s<64:=by omega
 have c:0<(2:Int)^s:=bM (by decide)
 have l:=Au (s:=s) (by omega)
 have b:O8 t=64-s:=by omega
 have i:(t:Int)+1<=2^(64-s):=by
  rw [<- b]
  have:((t+1:Nat):Int)<=((2^O8 t:Nat):Int):=by omega
  simpa using this
 have j:(2:Int)^(63-s)<=t:=by
  have:((2^(O8 t-1):Nat):Int)<=((t:Nat):Int):=by omega
  rw [show O8 t-1=63-s by omega] at this
  simpa using this
 have f:(2:Int)^s*2^(63-s)=9223372036854775808:=by
  rw [<- bG,show s+(63-s)=63 by omega];decide
 have d:=D8 (B:=b64) (by decide) k
 refine ⟨e,?_,?_⟩
 ·have w:val b64 ys*2^s<((t:Int)+1)*b64^k*2^s:=bN g c
  have r:((t:Int)+1)*b64^k*2^s=((t:Int)+1)*2^s*b64^k:=by grind
  have y:((t:Int)+1)*2^s*b64^k<=18446744073709551616*b64^k:=by
   apply aE _ (aQ d)
   rw [<- l,aS (2^s)]
   exact aE i (aQ c)
  have z:b64^(k+1)=18446744073709551616*b64^k:=by rw [bF b64 k,aS]
  omega
 ·have t1:(t:Int)*b64^k*2^s<=val b64 ys*2^s:=aE a (aQ c)
  have w:9223372036854775808*b64^k<=(t:Int)*2^s*b64^k:=by
   apply aE _ (aQ d)
   rw [<- f,aS (t:Int)]
   exact aK j (by omega)
  have r:(t:Int)*2^s*b64^k=(t:Int)*b64^k*2^s:=by grind
  omega
section
variable {h g:bB} {K:VP} {A B:Option bH} {ac bc:Nat}
set_option maxHeartbeats 1000000 in
def A6t{D V a b:Int}{S sh dn dc vc bn bq:Nat}{pieces t46:Int}{DA VA:Option bH}(hS:B7 ((B7 (cT (B7 ((B7 (((bn:Nat):Int)+pieces))-(1:Int))) pieces))*pieces)=(S:Int))
 (hsh:C3 (B7 ((B7 ((64:Int)*(B7 ((S:Int)-((bn:Nat):Int)))))+t46))=(sh:Int)) (hS0:0<S) (hS2:S<=200000000) (hsh2:sh<=100000000000) (hb:h bq=none) (hD:Mw h DA dn D) (hdc:dn<=dc) (hdn:0<dn) (hdl:dn<=2000000000) (hV:Mw h VA S V) (hvc:S<=vc) (hVt:9223372036854775808*b64^(S-1)<=V)
 (hDa:D=a*2^sh) (hVb:V=b*2^sh)
 (hK:∀ A1 m1 c1 A2 m2 c2 h',h.le h'->m1<=c1->m2<=c2->Mw h' A1 m1 (a/b)->Mw h' A2 m2 (a%b)->K (.tuple #[.slice A1 m1 c1,.slice A2 m2 c2]) h'):
 Bo prog bn K pieces t46 VA S vc DA dn dc (some ⟨bq,0,none⟩) (dn+S) (dn+S) (blk .u64 C4 h bq (aD (dn+S) 0)):=by
 have F:=hD.nonneg (by decide)
 have aj:=hD.lt (by decide)
 have C:=hV.lt (by decide)
 have o:0<V:=by have:=D8 (B:=b64) (by decide) (S-1);omega
 have R:0<(2:Int)^sh:=bM (by decide)
 have hQ:=D8 (B:=b64) (by decide) S
 unfold Bo
 simp only [hS,hsh]
 obtain ⟨nb,hnb⟩:∃ nb,nb=(dn-1)/S:=⟨_,rfl⟩
 have ak:nb*S<=dn-1:=by rw [hnb];exact Nat.div_mul_le_self _ _
 have ai:dn-1<nb*S+S:=by
  have G:=eQ (dn-1) S
  have h2:=fO (dn-1) hS0
  rw [<- hnb,eZ] at G
  omega
 have e1:B7 (B7 (cT (B7 ((dn:Int)-1)) (S:Int))*(S:Int))=((nb+1:Nat):Int)*S-S:=by
  rw [C0 (n:=(dn:Int)-1) (by omega) (by omega),show (dn:Int)-1=((dn-1:Nat):Int) by omega,<- cP,<- hnb]
  have:nb<=dn-1:=by rw [hnb];exact eP _ _
  have T:(nb:Int)*(S:Int)=((nb*S:Nat):Int):=by simp
  rw [C0 (n:=(nb:Int)) (by omega) (by omega),T,C0 (by omega) (by omega),eS,Int.add_mul,T]
  omega
 refine ⟨fun l R=>∃ (j n c:Nat) (A:Option bH) (d:List Int) (r:Int) (g:bB),l=[.slice A n c,I ((j:Int)*S-S)]/\h.le g/\j*S+d.length=dn+S/\Dig b64 d/\Win .u64 R g bq C4 (some ⟨bq,0,none⟩) [] (aD (j*S) 0++d) []/\Mw g A n r/\n<=c/\r=(D/b64^(j*S))%V/\val b64 d=(D/b64^(j*S))/V,fun l _=>(iAt l 1+S).toNat,⟨nb+1,0,0,none,aD (dn-1+1-nb*S) 0,0,h,by rw [e1],B5 h,?_,J1 (by decide) _,?_,Mag.zero,aY _,?_,?_⟩,?_⟩
 ·rw [cI,fG,fF];omega
 ·rw [dY,show (nb+1)*S+(dn-1+1-nb*S)=dn+S by rw [fG,fF];omega]
  exact Win.blk .u64 C4 hb _
 ·have:=D4 (B:=b64) (by decide) (show dn<=(nb+1)*S by rw [fG,fF];omega)
  rw [bU F (by omega),gY]
 ·have:=D4 (B:=b64) (by decide) (show dn<=(nb+1)*S by rw [fG,fF];omega)
  rw [bU F (by omega),Int.zero_ediv,Cy]
 rintro A1 n1 c1 st ap ⟨j,n,c,A',d,r,g,N,Z,s,M,w,Mr,am,t,f⟩
 simp only [bD,bW,bZ,and_true,true_and] at N
 obtain ⟨⟨rfl,rfl,rfl⟩,rfl⟩:=N
 refine B8 (fun G=>?_) (fun G=>?_)
 ·obtain ⟨i,rfl⟩:∃ i,j=i+1:=⟨j-1,by
   rcases j with _|j
   ·simp at G;omega
   ·rfl⟩
  obtain ⟨e,he⟩:∃ e,e=i*S:=⟨_,rfl⟩
  have J:(i+1)*S=e+S:=by rw [he,fG,fF]
  have ab:((i+1:Nat):Int)*(S:Int)-(S:Int)=(e:Int):=by rw [<- cD,J];omega
  rw [J] at s w t f
  rw [ab]
  have an:=D8 (B:=b64) (by decide) e
  refine w.call (Al (hD.mono Z) hdc ?_)
  intro A2 n2 c2 k2 ao M2 h2 w2
  refine ⟨_,_,_,rfl,w2.call (Ga M2 k2 (by omega) ?_)⟩
  intro A3 n3 c3 k3 ae al M3 T w3
  have ax:=Mr.nonneg (by decide)
  have az:r<V:=by rw [t];exact aP _ o
  have ar:n1<=S:=Mr.len_le (by decide) (by omega)
  refine ⟨_,_,_,rfl,w3.call (Ic Mr M3 ae (by omega) ?_)⟩
  intro A4 n4 c4 g4 l4 k4 M4 h4 w4
  have ac:D/b64^(e+S)=D/b64^e/b64^S:=by rw [bG,fN (by omega)]
  rw [ac] at t f
  have dm:=aO (D/b64^e) (b64^S)
  have a1:=aU (D/b64^e) (b:=b64^S) (by omega)
  have au:=aP (D/b64^e) hQ
  generalize hD1:D/b64^e=D1 at *
  have q:r*b64^S+D1%b64^S<b64^S*V:=by
   have t1:b64^S*(r+1)<=b64^S*V:=aK (by omega) (by omega)
   rw [dB,aS] at t1
   omega
  have aw:n4<=S+S:=M4.len_le (by decide) (by
   have t1:b64^S*V<b64^S*b64^S:=cV C hQ
   rw [bG];omega)
  have E:=B0 Z l4
  refine ⟨_,_,_,rfl,w4.call (C3n S (aY _) M4 (hV.mono E) k4 hvc (by omega) hS2 hS0 hVt q ?_)⟩
  intro A5 n5 c5 A6 n6 c6 g6 l6 k5 k6 M5 M6 h6 O
  have ay:n5<=S:=M5.len_le (by decide) (bK o q)
  refine ⟨_,_,_,_,_,_,rfl,⟨by omega,by omega⟩,?_⟩
  rw [aC]
  have ag:aD (e+S) (0:Int)++d=aD e 0++(aD S 0++d):=by rw [<- aR,dY]
  rw [ag] at O
  have aq:(aD e (0:Int)++(aD S 0++d)).length=dn+S:=by simp only [aH,cI];omega
  have w7:=O.sub (l:=e) (m:=dn+S) (c:=dn+S) (by omega) (by omega) (by omega)
  have e7:((aD e (0:Int)++(aD S 0++d)).drop e).take (dn+S-e)=aD S 0++d:=by
   rw [eR (by simp),aL (by simp only [aH,cI];omega)]
  rw [e7] at w7
  obtain ⟨u,L,ah,af,a0,z⟩:=M5
  refine Gu R4 w7 (by simp only [aH,cI];omega) (ah.mono O.le) L (by simp only [aH,cI];omega) ?_
  intro h8 w8
  rw [eI (by simp;omega),bI,<- aR u] at w8
  have k:(u++aD (S-u.length) (0:Int)).length=S:=by simp;omega
  have w9:=O.whole (l:=e) (m:=dn+S) (by omega) (by omega) (by rw [aH,k];omega) w8
  rw [dE (by simp),aV (show (aD e (0:Int)++(aD S 0++d)).length<=dn+S by omega),cC] at w9
  have e8:B7 ((e:Int)-(S:Int))=((i:Nat):Int)*S-S:=by
   rw [C0 (by omega) (by omega),he,cD]
  have av:=aO (r*b64^S+D1%b64^S) V
  have y:=aU (r*b64^S+D1%b64^S) (b:=V) (by omega)
  have H:=aP (r*b64^S+D1%b64^S) o
  have aa:=aO (D1/b64^S) V
  rw [<- t,<- f] at aa
  obtain ⟨f1,X⟩:=A6p (x:=D1) (a:=(r*b64^S+D1%b64^S)%V) (b:=val b64 u+b64^S*val b64 d) (p:=V) (by
   rw [z]
   generalize (r*b64^S+D1%b64^S)%V=r2 at *
   generalize hq2:(r*b64^S+D1%b64^S)/V=q2 at *
   generalize D1%b64^S=bl at *
   generalize D1/b64^S=D2 at *
   generalize b64^S=Q at *
   generalize val b64 d=W at *
   grind) y H
  refine ⟨_,rfl,?_⟩
  rw [e8]
  refine ⟨⟨i,_,_,_,(u++aD (S-u.length) 0)++d,_,g6,rfl,B0 E l6,?_,?_,?_,M6,k6,?_,?_⟩,?_⟩
  ·rw [aH,k];omega
  ·exact (af.append (J1 (by decide) _)).append M
  ·rw [<- he];exact w9
  ·rw [<- he,hD1,X]
  ·rw [<- he,hD1,f1,H2,k,Dm]
  ·simp only [iAt,aI,aG]
   rw [<- cD,<- he]
   omega
 ·obtain rfl:j=0:=by
   rcases j with _|j
   ·rfl
   ·rw [<- cD,fG,fF] at G
    omega
  rw [iA,List.replicate_zero,cQ] at w
  rw [iA,iH,Int.ediv_one] at t f
  rw [iA,eW] at s
  have ad:0<b:=by
   by_cases hc:0<b
   ·exact hc
   ·have:=aE (show b<=0 by omega) (aQ R);omega
  obtain ⟨f1,X⟩:=A6p (x:=D) (a:=(a%b)*2^sh) (b:=a/b) (p:=V) (by
   have:=aO a b
   rw [hDa,hVb]
   conv=>rhs;rw [<- this]
   grind) (aT (aU _ (by omega)) (by omega)) (by rw [hVb];exact bN (aP _ ad) R)
  refine Bz w.sl M s.symm f (by omega) (by omega) ?_
  intro m2 k2 M2
  refine ⟨_,_,_,rfl,?_⟩
  refine Gz (Mr.mono w.le) (by have:=Mr.len_le (j:=S) (by decide) (by have:=aP D o;omega);omega) (by omega) ?_
  intro A3 n3 c3 T l3 k3 M3
  rw [t,X,gF _ (by omega)] at M3
  rw [f1] at M2
  exact ⟨_,_,_,rfl,hK _ _ _ _ _ _ _ (B0 Z (B0 w.le l3)) k2 k3 (M2.mono l3) M3⟩
set_option maxHeartbeats 1000000 in
def Qs{x y:Int}{an bn:Nat}(ma:Mw h A an x)(mb:Mw h B bn y)(ha:an<=ac)(hbc:bn<=bc)(hl:an<=800000000)(hl2:bn<=100000000)(ha0:0<an)(hb0:0<bn)
 (hK:∀ A1 m1 c1 A2 m2 c2 h',h.le h'->m1<=c1->m2<=c2->Mw h' A1 m1 (x/y)->Mw h' A2 m2 (x%y)->K (.tuple #[.slice A1 m1 c1,.slice A2 m2 c2]) h'):aZ prog De #[.slice A an ac,.slice B bn bc] h K:=by
 have ag:=ma.nonneg (by decide)
 have ab:=ma.len_zero (by decide)
 have r:=ma.lt (by decide)
 refine St _ _ _ _ _ _ ?_
 unfold Pg Jb
 refine ⟨fun l hp=>hp=h/\∃ p:Nat,l=[I p]/\0<p/\p<=bn,fun l _=>bn-(iAt l 0).toNat,⟨rfl,1,rfl,by omega,by omega⟩,?_⟩
 rintro u hp ⟨rfl,p,M,j,ah⟩
 obtain rfl:=sI1 M
 have T:B7 (cT (B7 (B7 ((bn:Int)+(p:Int))-1)) (p:Int))=(((bn+p-1)/p:Nat):Int):=by
  rw [C0 (n:=(bn:Int)+p) (by omega) (by omega),C0 (n:=(bn:Int)+p-1) (by omega) (by omega),show (bn:Int)+p-1=((bn+p-1:Nat):Int) by omega,<- cP]
  have:(bn+p-1)/p<=bn+p-1:=eP _ _
  generalize (bn+p-1)/p=q at *
  rw [C0 (by omega) (by omega)]
 refine B8 (fun c=>by omega) (fun _=>?_)
 obtain ⟨S,hS⟩:∃ S,S=(bn+p-1)/p*p:=⟨_,rfl⟩
 have ae:bn<=S/\S<=bn+p-1:=by
  have c:=eQ (bn+p-1) p
  have L:=fO (bn+p-1) j
  rw [eZ,<- hS] at c
  omega
 have W:B7 ((B7 (cT (B7 (B7 ((bn:Int)+(p:Int))-1)) (p:Int)))*(p:Int))=(S:Int):=by
  rw [T,<- cD,<- hS,C0 (by omega) (by omega)]
 refine B8 (fun c=>?_) (fun c=>?_)
 ·rw [T] at c
  have L:80<=(bn+p-1)/p:=by omega
  rw [Nat.le_div_iff_mul_le j] at L
  have H:B7 ((p:Int)*2)=((p*2:Nat):Int):=by rw [C0 (by omega) (by omega)];omega
  rw [H]
  exact ⟨⟨rfl,_,rfl,by omega,by omega⟩,by simp only [iAt,aG];omega⟩
 ·refine B8 (fun c=>by omega) (fun _=>?_)
  obtain ⟨k,hk⟩:∃ k,bn=k+1:=⟨bn-1,by omega⟩
  have O:=mb
  obtain ⟨a,J,sy,dy,ny,rfl⟩:=mb
  have f:a.length=k+1:=by omega
  have gt:=O6 dy k
  have E:=A2v f ny
  have H:B7 ((bn:Int)-1)=(k:Int):=by rw [C0 (by omega) (by omega)];omega
  rw [H]
  subst J
  refine sy.load rfl (by omega) (by omega) ?_
  rw [aC]
  obtain ⟨t,ht⟩:∃ t:Nat,a.getD k 0=t:=⟨(a.getD k 0).toNat,by omega⟩
  rw [ht] at gt E ⊢
  refine S8 (by omega) ⟨_,rfl,?_⟩
  obtain ⟨s,hs⟩:∃ s,s=64-O8 t:=⟨_,rfl⟩
  rw [<- hs]
  obtain ⟨X,F,Q⟩:=Yo dy f ht (by omega) hs
  simp only [W]
  obtain ⟨sh,hsh⟩:∃ sh,sh=64*(S-a.length)+s:=⟨_,rfl⟩
  have R:C3 (B7 (B7 (64*B7 ((S:Int)-(a.length:Int)))+(s:Int)))=(sh:Int):=by
   rw [C0 (n:=(S:Int)-(a.length:Int)) (by omega) (by omega),C0 (n:=64*((S:Int)-(a.length:Int))) (by omega) (by omega),C0 (by omega) (by omega),C5 (by omega) (by omega)]
   omega
  simp only [R]
  have d:(2:Int)^sh=2^s*b64^(S-a.length):=by rw [hsh,bG,Kz,aS]
  have g:=D8 (B:=b64) (by decide) (S-a.length)
  have af:0<(2:Int)^s:=bM (by decide)
  have i:0<(2:Int)^sh:=bM (by decide)
  have ad:val b64 a*2^sh=val b64 a*2^s*b64^(S-a.length):=by rw [d,cZ]
  have G:val b64 a*2^sh<b64^S:=by
   have t1:val b64 a*2^s*b64^(S-a.length)<b64^(k+1)*b64^(S-a.length):=bN F g
   rw [<- bG,show k+1+(S-a.length)=S by omega] at t1
   omega
  have z:9223372036854775808*b64^(S-1)<=val b64 a*2^sh:=by
   have t1:9223372036854775808*b64^k*b64^(S-a.length)<=val b64 a*2^s*b64^(S-a.length):=aE Q (aQ g)
   rw [cZ,<- bG,show k+(S-a.length)=S-1 by omega] at t1
   omega
  refine W4 O hbc (by omega) (by omega) ?_
  intro A1 b c1 c Z k1 M1
  refine ⟨_,_,_,rfl,?_⟩
  have w:b=S:=by
   have q1:=M1.len_le (by decide) G
   have q2:=M1.lt (by decide)
   by_cases hc:b=S
   ·exact hc
   ·have:=D4 (B:=b64) (by decide) (show b<=S-1 by omega)
    have:=D8 (B:=b64) (by decide) (S-1)
    omega
  subst w
  refine W4 (ma.mono Z) ha (by omega) (by omega) ?_
  intro A2 m c2 L l2 k2 M2
  refine ⟨_,_,_,rfl,?_⟩
  have aa:m<=an+(1+(b-a.length)):=M2.len_le (by decide) (by
   have t1:x*2^sh<b64^an*2^sh:=bN r i
   have t2:(2:Int)^sh<=b64^(1+(b-a.length)):=by
    rw [d,bG]
    apply aE _ (aQ g)
    have:=D4 (B:=2) (by decide) (show s<=64 by omega)
    have e:(2:Int)^64=18446744073709551616:=by decide
    show (2:Int)^s<=b64^1
    rw [bF,iH]
    show (2:Int)^s<=1*18446744073709551616
    omega
   have t3:b64^an*2^sh<=b64^an*b64^(1+(b-a.length)):=aK t2 (aQ (D8 (by decide) an))
   rw [bG b64 an]
   omega)
  have o:0<m:=by
   rcases Nat.eq_zero_or_pos m with N|N
   ·have:=(M2.len_zero (by decide)).2 N
    rcases Int.mul_eq_zero.1 this with h3|h3<;>omega
   ·exact N
  have e5:B7 ((m:Int)+(b:Int))=((m+b:Nat):Int):=by rw [C0 (by omega) (by omega)];omega
  rw [e5]
  refine K8 R4 (by omega) (by omega) (by omega) ?_
  intro bq C
  rw [aC]
  refine ⟨_,_,_,rfl,?_⟩
  refine B8 (fun c=>by omega) (fun _=>?_)
  refine A6t (D:=x*2^sh) (V:=val b64 a*2^sh) (sh:=sh) (S:=b) W R (by omega) (by omega) (by omega) C M2 k2 o (by omega) (M1.mono l2) k1 z rfl rfl ?_
  intro A3 n3 c3 A4 n4 c4 h4 l4 k3 k4 M3 M4
  exact hK _ _ _ _ _ _ _ (B0 Z (B0 l2 l4)) k3 k4 M3 M4
def U6{x y:Int}{an bn:Nat}(ma:Mw h A an x)(mb:Mw h B bn y)(ha:an<=ac)(hbc:bn<=bc)(hy:y≠0)(hl:an<=800000000)(hl2:bn<=100000000)
 (hK:∀ A1 m1 c1 A2 m2 c2 h',h.le h'->m1<=c1->m2<=c2->Mw h' A1 m1 (x/y)->Mw h' A2 m2 (x%y)->K (.tuple #[.slice A1 m1 c1,.slice A2 m2 c2]) h'):aZ prog Q8 #[.slice A an ac,.slice B bn bc] h K:=by
 refine Wo _ _ _ _ _ _ ?_
 unfold Sd
 have a:aZ prog K0 #[.slice A an ac,.slice B bn bc] h (fun r d=>∃ (t22aA:Option bH) (t22an:Nat) (t22ac:Nat) (t22bA:Option bH) (t22bn:Nat) (t22bc:Nat),r= .tuple #[.slice t22aA t22an t22ac,.slice t22bA t22bn t22bc]/\K (.tuple #[.slice t22aA t22an t22ac,.slice t22bA t22bn t22bc]) d):=by
  refine Fa ma mb ha hbc hy (by omega) (by omega) ?_
  intro A1 m1 c1 A2 m2 c2 h' l c b M1 M2
  exact ⟨_,_,_,_,_,_,rfl,hK _ _ _ _ _ _ _ l c b M1 M2⟩
 refine B8 (fun f=>B8 (fun e=>?_) (fun _=>a)) (fun _=>a)
 rw [C0 (by omega) (by omega)] at e
 refine Qs ma mb ha hbc hl hl2 (by omega) (by omega) ?_
 intro A1 m1 c1 A2 m2 c2 h' l c b M1 M2
 exact ⟨_,_,_,_,_,_,rfl,hK _ _ _ _ _ _ _ l c b M1 M2⟩
end
def TZ(x k:Nat):Prop:=∃ m,x=2^k*(2*m+1)
def TZ.ex:∀ {x:Nat},x≠0->∃ k,TZ x k:=by
 intro x
 induction x using Nat.strongRecOn with
 | _ x ih=>
  intro h
  rcases Nat.mod_two_eq_zero_or_one x with a|a
  ·obtain ⟨k,m,b⟩:=ih (x/2) (by omega) (by omega)
   refine ⟨k+1,m,?_⟩
   rw [eX,eZ (2^k),fH,<- b];omega
  ·exact ⟨0,x/2,by omega⟩
def TZ.lt{x k n:Nat}(h:TZ x k)(hx:x<2^n):k<n:=by
 obtain ⟨m,rfl⟩:=h
 have b:2^k*1<=2^k*(2*m+1):=eV _ (by omega)
 exact (gW (a:=2) (by decide)).1 (by omega)
def B2l{a u v:Nat}:(2^a*u) ||| (2^a*v)=2^a*(u ||| v):=by
 apply Nat.eq_of_testBit_eq
 intro i
 simp only [Nat.testBit_or,gZ,Bool.and_or_distrib_left]
def B97{u v:Nat}(h:u%2=1\/v%2=1):(u ||| v)%2=1:=by simpa using h
def TZ.or'{x y a b:Nat}(hx:TZ x a)(hy:TZ y b)(hab:a<=b):TZ (x ||| y) a/\TZ (y ||| x) a:=by
 obtain ⟨m,rfl⟩:=hx
 obtain ⟨n,rfl⟩:=hy
 obtain ⟨d,rfl⟩:∃ d,b=a+d:=⟨b-a,by omega⟩
 rw [dS,fH,B2l,B2l]
 have c:=B97 (u:=2*m+1) (v:=2^d*(2*n+1)) (.inl (by omega))
 have e:=B97 (u:=2^d*(2*n+1)) (v:=2*m+1) (.inr (by omega))
 exact ⟨⟨_/2,by rw [<- eQ (_ ||| _) 2,c]⟩,⟨_/2,by rw [<- eQ (_ ||| _) 2,e]⟩⟩
def TZ.or{x y a b:Nat}(hx:TZ x a)(hy:TZ y b):TZ (x ||| y) (min a b):=by
 by_cases h:a<=b
 ·rw [aJ h];exact (hx.or' hy h).1
 ·rw [fJ (by omega)];exact (hy.or' hx (by omega)).2
def TZ.bit{x k:Nat}(h:TZ x k)(hx:x<2^64):x &&& (2^64-x)=2^k:=by
 obtain ⟨m,rfl⟩:=h
 have g:0<2^k:=cX (by decide)
 have e:2^k*(2*m+1)=2^k*(2*m)+(2^k-1)+1:=by rw [fY,cJ];omega
 apply Nat.eq_of_testBit_eq
 intro i
 rw [Nat.testBit_and]
 have c:(2^64-2^k*(2*m+1)).testBit i=(decide (i<64) && !(2^k*(2*m)+(2^k-1)).testBit i):=by
  rw [e];exact Nat.testBit_two_pow_sub_succ (by omega) i
 rw [c,Nat.testBit_two_pow_mul_add _ (by omega),gZ,Nat.testBit_two_pow]
 by_cases b:i<k
 ·simp [b,show ¬ i>=k by omega,show ¬ k=i by omega]
 ·by_cases f:i=k
  ·subst f
   have a:i<64:=TZ.lt ⟨m,rfl⟩ hx
   simp [a,Nat.testBit_zero]
  ·obtain ⟨d,hd⟩:∃ d,i-k=d+1:=⟨i-k-1,by omega⟩
   rw [iN b,hd,Nat.testBit_succ,Nat.testBit_succ,show (2*m+1)/2=m by omega,show 2*m/2=m by omega]
   simp only [show ¬ k=i by omega,decide_false]
   cases m.testBit d<;>simp
def A05{o k:Nat}(h:o%2=1):Nat.Coprime (2^k) o:=Nat.Coprime.pow_left k (by unfold Nat.Coprime;rw [Nat.gcd_rec,h];rfl)
def C1l{x y a b m:Nat}(hx:x=2^a*(2*m+1))(hy:TZ y b):eF x y=2^(min a b)*eF (2*m+1) y:=by
 obtain ⟨n,rfl⟩:=hy
 subst hx
 have c:eF (2*m+1) (2^b*(2*n+1))=eF (2*m+1) (2*n+1):=dL (2*n+1) (A05 (by omega))
 rw [c]
 by_cases h:a<=b
 ·obtain ⟨d,rfl⟩:∃ d,b=a+d:=⟨b-a,by omega⟩
  rw [aJ h,dS,fH,Nat.gcd_mul_left,dL _ (A05 (by omega))]
 ·obtain ⟨d,rfl⟩:∃ d,a=b+d:=⟨a-b,by omega⟩
  rw [fJ (by omega),dS,fH,Nat.gcd_mul_left,Nat.Coprime.gcd_mul_left_cancel _ (A05 (by omega))]
def A2t(k:Nat):Nat:=(2^k*285870213051353865%18446744073709551616)/2^58
def Gtz(h:bB):Prop:=∀ k,k<64->h.cell? (eM ⟨0,0,none⟩ (A2t k*1))=some (Y k)
def Gtz.mono{h h':bB}(g:Gtz h)(l:h.le h'):Gtz h':=fun k a=>C1 l (g k a)
section
variable {h g:bB} {K:VP} {A B:Option bH} {ac bc:Nat}
def Kw{x k:Nat}(gl:Gtz h)(tz:TZ x k)(hx:x<18446744073709551616)(hK:K (I k) h):aZ prog N7 #[U x] h K:=by
 have c:=tz.lt (n:=64) hx
 have b:x≠0:=by
  obtain ⟨m,rfl⟩:=tz
  have:0<2^k:=cX (by decide)
  have:=Nat.mul_pos this (show 0<2*m+1 by omega)
  omega
 refine Mj _ ?_
 unfold Hj
 refine E5 (fun e=>by omega) (fun _=>?_)
 have f:C3 (0-(x:Int))=((2^64-x:Nat):Int):=by
  rw [F6];omega
 have a:Qx .u64 (x:Int) ((2^64-x:Nat):Int)=((2^k:Nat):Int):=by
  rw [B4i (by omega) (by omega),aC,aC,tz.bit hx]
 have d:eK (C3 (((2^k:Nat):Int)*285870213051353865)) (2^(min ((58:Int)).toNat 64))=((A2t k:Nat):Int):=by
  show eK _ (2^(min 58 64))=_
  rw [B75 (by decide),F6]
  unfold A2t
  rw [eE,gN,cD]
  rfl
 rw [f,a,d,aC]
 have g:A2t k<64:=by
  unfold A2t
  have:(2^k*285870213051353865)%18446744073709551616<18446744073709551616:=fO _ (by decide)
  exact Nat.div_lt_of_lt_mul (by omega)
 refine ⟨⟨by omega,by omega⟩,_,gl k c,?_⟩
 rw [C0 (by omega) (by omega)]
 exact hK
def A3x{x y:Nat}(gl:Gtz h)(hx:x<18446744073709551616)(hy:y<18446744073709551616)(hK:K (U (eF x y:Nat)) h):aZ prog Qg #[U x,U y] h K:=by
 refine A6z _ _ ?_
 unfold A8s
 refine E5 (fun e=>?_) (fun e=>?_)
 ·obtain rfl:x=0:=by omega
  rw [A6s (by omega) (by omega)]
  simpa using hK
 refine E5 (fun G=>?_) (fun G=>?_)
 ·obtain rfl:y=0:=by omega
  rw [A6s (by omega) (by omega)]
  simpa using hK
 obtain ⟨a,j⟩:=TZ.ex (x:=x) (by omega)
 obtain ⟨b,k⟩:=TZ.ex (x:=y) (by omega)
 have Q:=j.lt (n:=64) hx
 have N:=k.lt (n:=64) hy
 rw [A6s (by omega) (by omega),aC,aC]
 have s:x ||| y<18446744073709551616:=Nat.or_lt_two_pow (n:=64) hx hy
 refine Kw gl (j.or k) s ⟨_,rfl,?_⟩
 refine Kw gl j hx ⟨_,rfl,?_⟩
 refine B8 (fun i=>by omega) (fun _=>?_)
 obtain ⟨m,p⟩:=j
 have C:=C1l p k
 have D:eK (x:Int) (2^(min ((a:Int)).toNat 64))=((2*m+1:Nat):Int):=by
  rw [aC,B75 (by omega),show ((2:Int)^a)=((2^a:Nat):Int) by simp,<- eE,p,hG _ (cX (by decide))]
 rw [D]
 have t:2*m+1<=x:=by
  rw [p];exact iB _ (cX (by decide))
 refine ⟨fun l J=>J=h/\∃ u v:Nat,l=[U u,U v]/\u%2=1/\u<18446744073709551616/\v<18446744073709551616/\eF u v=eF (2*m+1) y,fun l _=>(iAt l 0+iAt l 1).toNat,⟨rfl,2*m+1,y,rfl,by omega,by omega,hy,rfl⟩,?_⟩
 rintro R S E ⟨rfl,u,v,z,M,B,f,d⟩
 simp only [bD,bZ,and_true,true_and] at z
 obtain ⟨rfl,rfl⟩:=z
 refine I4 (fun i=>?_) (fun i=>?_)
 ·obtain ⟨c,r⟩:=TZ.ex (x:=v) (by omega)
  have O:=r.lt (n:=64) f
  refine Kw gl r f ⟨_,rfl,?_⟩
  refine B8 (fun i=>by omega) (fun _=>?_)
  obtain ⟨n,q⟩:=r
  have F:eK (v:Int) (2^(min ((c:Int)).toNat 64))=((2*n+1:Nat):Int):=by
   rw [aC,B75 (by omega),show ((2:Int)^c)=((2^c:Nat):Int) by simp,<- eE,q,hG _ (cX (by decide))]
  have w:2*n+1<=v:=by
   rw [q];exact iB _ (cX (by decide))
  have g:eF u (2*n+1)=eF u v:=by
   rw [q,dL _ (A05 M)]
  rw [F]
  refine B8 (fun L=>?_) (fun L=>?_)
  ·have o:C3 ((u:Int)-((2*n+1:Nat):Int))=((u-(2*n+1):Nat):Int):=by rw [C5 (by omega) (by omega)];omega
   rw [o]
   refine ⟨⟨rfl,_,_,rfl,by omega,by omega,by omega,?_⟩,?_⟩
   ·rw [iC (by omega),iE,g,d]
   ·simp only [iAt,aG,aI];omega
  ·have o:C3 (((2*n+1:Nat):Int)-(u:Int))=((2*n+1-u:Nat):Int):=by rw [C5 (by omega) (by omega)];omega
   rw [o]
   refine ⟨⟨rfl,_,_,rfl,by omega,by omega,by omega,?_⟩,?_⟩
   ·rw [iC (by omega),g,d]
   ·simp only [iAt,aG,aI];omega
 ·refine B8 (fun i=>by omega) (fun _=>?_)
  obtain rfl:v=0:=by omega
  rw [Nat.gcd_zero_right] at d
  rw [aC,aJ (show min a b<=64 by omega)]
  have A:(u:Int)*2^(min a b)=((eF x y:Nat):Int):=by
   rw [C,<- d,cD,aS];simp
  have H:eF x y<=x:=Nat.le_of_dvd (by omega) (Nat.gcd_dvd_left x y)
  rw [A,C5 (by omega) (by omega)]
  exact hK
end
def B1r{xs:List Int}(d:Dig b64 xs){k s:Nat}(hl:xs.length<=k+2)(hs:s<=64):val b64 xs/(b64^k*2^(64-s))=xs.getD (k+1) 0*2^s+xs.getD k 0/2^(64-s):=by
 have c:=C7 b64 xs (k+1)
 have j:=C7 b64 xs k
 rw [aL (show xs.length<=k+1+1 by omega)] at c
 have f:=D8 (B:=b64) (by decide) k
 have e:0<(2:Int)^(64-s):=bM (by decide)
 have b:=Au (s:=s) hs
 have g:=C9 (by decide) (d.take k)
 have m:=N4 (by decide) (d.take k)
 have l:=D4 (B:=b64) (by decide) (show (xs.take k).length<=k by rw [aF];omega)
 rw [<- fN (aQ f)]
 have i:val b64 xs/b64^k=xs.getD k 0+18446744073709551616*xs.getD (k+1) 0:=by
  refine (A6p (a:=val b64 (xs.take k)) ?_ g (by omega)).1
  rw [c,j,bF]
  show _=val b64 (xs.take k)+_+b64^k*18446744073709551616*_
  grind
 rw [i,<- b,aS (2^s),cZ,fX _ _ (by omega),aS (2^s)]
 omega
section
variable {h g:bB} {K:VP} {A B:Option bH} {ac bc:Nat}
def C2a(a b u0 u1 v0 v1:Int)(odd:Bool):Prop:=(0<=u0/\u0<18446744073709551616)/\(0<=u1/\u1<18446744073709551616)/\(0<=v0/\v0<18446744073709551616)/\(0<=v1/\v1<18446744073709551616)/\(v0≠0->Leh a b u0 v0 u1 v1 (Lg a b u0 v0 odd) (Lc a b u1 v1 odd))
def B74{a b F S W t20 t26 t33:Int}(hF:F=bor .u64 (C3 (t26*2^(min (C3 t20).toNat 64))) (eK t33 (2^(min (C3 ((64:Int)-(C3 t20))).toNat 64))))(hW:0<W)(hFa:F=a/W)(hSb:S=b/W)(hb0:0<=b)(hba:b<=a)(hF64:F<18446744073709551616)
 (hK:∀ u0 u1 v0 v1 odd,C2a a b u0 u1 v0 v1 odd->K (.agg #[U u0,U u1,U v0,U v1,.bool odd]) h):Ja prog K t20 t26 t33 S h:=by
 have da:=aO a W
 have db:=aO b W
 have r:=aU a (b:=W) (by omega)
 have u:=aP a hW
 have w:=aU b (b:=W) (by omega)
 have s:=aP b hW
 have y:0<=S:=by rw [hSb];exact cF hb0 (by omega)
 have t:S<=F:=by rw [hSb,hFa];exact Int.ediv_le_ediv hW hba
 unfold Ja
 rw [<- hF]
 refine ⟨fun l B=>B=h/\∃ (first c f d u0 u1 v0 v1:Int) (odd:Bool),l=[U first,U c,U f,U d,U u0,U u1,U v0,U v1,.bool odd]/\LS F S first c u0 v0 u1 v1 f d odd/\C2a a b u0 u1 v0 v1 odd/\f<=F/\d<=(if F=0 then 1 else F),fun l _=>(iAt l 1).toNat,⟨rfl,_,_,_,_,_,_,_,_,_,rfl,LS.init y t,⟨by omega,by omega,by omega,by omega,fun e=>absurd rfl e⟩,by omega,by split<;>omega⟩,?_⟩
 rintro first c f d u0 u1 v0 v1 odd B ⟨rfl,q,j,L,J,O,X,M,R,z,C,m,p,D,G⟩
 simp only [bD,bZ,Value.bool.injEq,and_true,true_and] at C
 obtain ⟨rfl,rfl,rfl,rfl,rfl,rfl,rfl,rfl,rfl⟩:=C
 have A:=m.v2pos
 have i:=m.ord
 have V:=m.hF
 refine B8 (fun h1=>?_) (fun _=>hK _ _ _ _ _ p)
 have o:1<=c:=by omega
 have Q:=m.bound2 o
 have T:first<=F:=by
  have t1:1*first<=d*first:=aE (by omega) (by omega)
  have t2:=aT (show 0<=v1 by omega) i.1
  omega
 rw [C5 (n:=first-c) (by omega) (by omega),C5 (n:=v1+d) (by omega) (by omega)]
 refine B8 (fun h2=>?_) (fun _=>hK _ _ _ _ _ p)
 refine B8 (fun e=>by omega) (fun _=>?_)
 refine B8 (fun e=>by omega) (fun _=>?_)
 rw [bY (by omega),bJ (by omega)]
 have g:=m.step (by omega) (by omega)
 have N:=g.bound o
 have k:0<=first/c:=cF (by omega) (by omega)
 have E:first/c<=first:=fM _ (by omega)
 have H:=aT k (show 0<=f by omega)
 have Z:=aT k (show 0<=d by omega)
 rw [C5 (n:=first/c) (by omega) (by omega),C5 (n:=first/c*f) (by omega) (by omega),C5 (n:=first/c*d) (by omega) (by omega),C5 (n:=u1+first/c*f) (by omega) (by omega),C5 (n:=v1+first/c*d) (by omega) (by omega)]
 refine ⟨⟨rfl,_,_,_,_,_,_,_,_,_,rfl,g,⟨⟨by omega,p.2.1.2⟩,⟨by omega,by omega⟩,⟨by omega,p.2.2.2.1.2⟩,⟨by omega,by omega⟩,fun e=>g.leh e hW (al:=a%W) (bl:=b%W) ?_ ?_ ⟨r,u⟩ ⟨w,s⟩⟩,by omega,by split<;>omega⟩,?_⟩
 ·rw [hFa,aS];omega
 ·rw [hSb,aS];omega
 ·have:=aP first (show 0<c by omega)
  have:=aU first (show c≠0 by omega)
  simp only [iAt,aI,aG];omega
set_option maxHeartbeats 1000000 in
def A0b{a b:Int}{an bn:Nat}(ma:Mw h A an a)(mb:Mw h B bn b)(hba:b<=a)(hb2:2<=bn)(hl:an<=1000000000)
 (hK:∀ u0 u1 v0 v1 odd,C2a a b u0 u1 v0 v1 odd->K (.agg #[U u0,U u1,U v0,U v1,.bool odd]) h):aZ prog Ln #[.slice A an ac,.slice B bn bc] h K:=by
 have Q:=mb.nonneg (by decide)
 have ad:bn<=an:=mb.len_le (by decide) (dC hba (ma.lt (by decide)))
 obtain ⟨k,rfl⟩:∃ k,an=k+2:=⟨an-2,by omega⟩
 obtain ⟨j,i,N,E,nx,rfl⟩:=ma
 obtain ⟨f,n,W,T,ny,rfl⟩:=mb
 refine A4e _ _ _ _ _ _ ?_
 unfold A4f
 have e1:B7 (((k+2:Nat):Int)-1)=((k+1:Nat):Int):=by rw [C0 (by omega) (by omega)];omega
 have e2:B7 (((k+2:Nat):Int)-2)=(k:Int):=by rw [C0 (by omega) (by omega)];omega
 simp only [e1,e2]
 have gt:=O6 E (k+1)
 have L:=O6 E k
 have J:=A2v (m:=k+1) i.symm nx
 obtain ⟨t,ht⟩:∃ t:Nat,j.getD (k+1) 0=t:=⟨(j.getD (k+1) 0).toNat,by omega⟩
 rw [i]
 refine N.load rfl (by omega) (by omega) ?_
 rw [aC,ht]
 rw [ht] at gt J
 refine S8 (by omega) ⟨_,rfl,?_⟩
 obtain ⟨s,hs⟩:∃ s,s=64-O8 t:=⟨_,rfl⟩
 rw [<- hs]
 obtain ⟨X,o,ae⟩:=Yo E i.symm ht (by omega) hs
 refine N.load rfl (by omega) (by omega) ?_
 simp only [aC,ht]
 have g:C3 (s:Int)=s:=C5 (by omega) (by omega)
 have d:C3 (64-(s:Int))=((64-s:Nat):Int):=by rw [C5 (by omega) (by omega)];omega
 refine B8 (fun e=>by rw [g] at e;omega) (fun _=>?_)
 refine N.load rfl (by omega) (by omega) ?_
 simp only [aC]
 refine B8 (fun e=>by rw [g,d] at e;omega) (fun _=>?_)
 have R:0<(2:Int)^s:=bM (by decide)
 have C:0<(2:Int)^(64-s):=bM (by decide)
 have y:=Au (s:=s) (by omega)
 have O:=D8 (B:=b64) (by decide) k
 have H:0<b64^k*2^(64-s):=Int.mul_pos O C
 have w:=B1r E (k:=k) (s:=s) (by omega) (by omega)
 have c:=B1r T (k:=k) (s:=s) (by omega) (by omega)
 have q:val b64 j/(b64^k*2^(64-s))<18446744073709551616:=by
  apply bK H
  have t1:18446744073709551616*(b64^k*2^(64-s))*2^s=18446744073709551616*b64^k*(2^s*2^(64-s)):=by grind
  rw [y] at t1
  have V:b64^(k+1+1)=18446744073709551616*b64^k*18446744073709551616:=by
   rw [bF,bF]
   show b64^k*18446744073709551616*18446744073709551616=_
   grind
  rw [V,<- t1] at o
  exact Int.lt_of_mul_lt_mul_right o (by omega)
 have aa:val b64 f/(b64^k*2^(64-s))<=val b64 j/(b64^k*2^(64-s)):=Int.ediv_le_ediv H hba
 have q1:∀ z:Int,0<=z/\z<18446744073709551616->0<=z/2^(64-s)/\z/2^(64-s)<2^s:=fun z G=>
  ⟨cF G.1 (by omega),bK C (by rw [y];exact G.2)⟩
 have r:∀ u z:Int,0<=u->0<=z/\z<18446744073709551616->u*2^s+z/2^(64-s)<18446744073709551616->bor .u64 (C3 (u*2^(min (C3 (s:Int)).toNat 64))) (eK z (2^(min (C3 (64-C3 (s:Int))).toNat 64)))=u*2^s+z/2^(64-s):=by
  intro u z Z G S
  have:=q1 z G
  have:=aT Z (aQ R)
  rw [g,d,aC,aC,B75 (by omega),aJ (show s<=64 by omega),C5 (by omega) (by omega),A48 Z (by omega) S]
 have gy:=O6 T (k+1)
 have M:=O6 T k
 rw [ht] at w
 refine ⟨fun l hp=>hp=h/\l=[U (val b64 f/(b64^k*2^(64-s)))],?_,?_⟩
 ·refine E5 (fun e=>?_) (fun e=>?_)
  ·rw [n]
   refine W.load rfl (by omega) (by omega) ?_
   simp only [aC]
   refine B8 (fun e=>by rw [g] at e;omega) (fun _=>?_)
   refine W.load rfl (by omega) (by omega) ?_
   simp only [aC]
   refine B8 (fun e=>by rw [g,d] at e;omega) (fun _=>?_)
   rw [r _ _ gy.1 M (by omega),c]
   first|exact ⟨rfl,rfl⟩|exact ⟨trivial,rfl⟩
  ·refine E5 (fun e=>?_) (fun e=>?_)
   ·rw [n]
    refine W.load rfl (by omega) (by omega) ?_
    simp only [aC]
    refine B8 (fun e=>by rw [g,d] at e;omega) (fun _=>?_)
    have:f.getD (k+1) 0=0:=by simp [cR,cW (show f.length<=k+1 by omega)]
    rw [this,fP,dN] at c
    rw [g,d,aC,B75 (by omega),c]
    first|exact ⟨rfl,rfl⟩|exact ⟨trivial,rfl⟩
   ·have t1:f.getD (k+1) 0=0:=by simp [cR,cW (show f.length<=k+1 by omega)]
    have V:f.getD k 0=0:=by simp [cR,cW (show f.length<=k by omega)]
    rw [t1,V,fP,dN,Int.zero_ediv] at c
    rw [c]
    exact ⟨rfl,rfl⟩
 ·rintro D ab ⟨rfl,p⟩
  simp only [bD,bZ,and_true,true_and] at p
  subst p
  exact B74 (F:=val b64 j/(b64^k*2^(64-s))) (by rw [r _ _ (by omega) L (by omega),w]) H rfl rfl Q hba q hK
end
def Win.swap{k k':dZ}{h g1 g:bB}{ba bb:Nat}{e e':bV}{A B:Option bH}{pa qa pb qb:List dD}{us bs:List Int}(wa:Win k h g1 ba e A pa us qa)(wb:Win k' g1 g bb e' B pb bs qb):∃ g2,Win k' h g2 bb e' B pb bs qb/\Win k g2 g ba e A pa us qa:=by
 have a:ba≠bb:=by
  rintro rfl
  have:=wa.free
  rw [wb.eq,C2] at this
  cases this
 have b:g ba=none:=by
  have:=wa.free
  rwa [wb.eq,B9 _ _ a] at this
 refine ⟨g.put ba (.cells (pa++us.map (bC k)++qa).toArray e),⟨?_,?_,wb.at_⟩,⟨b,rfl,wa.at_⟩⟩
 ·rw [B9 _ _ a.symm];exact wb.free
 ·rw [wa.eq,wb.eq];exact Heap.put_comm _ _ _ a.symm
def A09{z y c:Int}(hz:0<=z/\z<18446744073709551616)(hy:0<=y/\y<18446744073709551616)(hc:0<=c/\c<=1):(z-y-c)%18446744073709551616=z-y-c+18446744073709551616*(if z-y-c<0 then 1 else 0):=by
 split<;>omega
def A3q(z:Int):z%18446744073709551616=z-18446744073709551616*(z/18446744073709551616):=by omega
def Nu{x y c:Int}(hx:0<=x/\x<18446744073709551616)(hy:0<=y/\y<18446744073709551616)(hc:0<=c/\c<18446744073709551616):0<=(x*y+c)/18446744073709551616/\(x*y+c)/18446744073709551616<18446744073709551616:=by
 have a:=aT hx.1 hy.1
 have b:x*y<=18446744073709551615*y:=aE (by omega) hy.1
 omega
def pin{v w B m:Int}(h:v=w+B*m)(hv:0<=v/\v<B)(hw:0<=w/\w<B):v=w:=by
 have a:0<B:=by omega
 by_cases b:m <= -1
 ·have:=aK b (aQ a);omega
 ·by_cases c:1<=m
  ·have:=aK c (aQ a);omega
  ·obtain rfl:m=0:=by omega
   omega
section
variable {h g g1:bB} {K:VP} {A B:Option bH} {ac bc an bn ba bb:Nat} {e:bV} {qa qb:List dD}
set_option maxHeartbeats 1000000 in
def B0h{us bs:List Int}{u0 u1 v0 v1:Int}{odd:Bool}(wa:Win .u64 h g1 ba e A [] us qa)(wb:Win .u64 g1 g bb e B [] bs qb)(ha:an=us.length)(hb:bn=bs.length)(hab:us.length=bs.length)(da:Dig b64 us)(db:Dig b64 bs)(hl:us.length<=1000000000)(hu0:0<=u0/\u0<18446744073709551616)(hu1:0<=u1/\u1<18446744073709551616)(hv0:0<=v0/\v0<18446744073709551616)(hv1:0<=v1/\v1<18446744073709551616)
 (hX0:0<=Lg (val b64 us) (val b64 bs) u0 v0 odd/\Lg (val b64 us) (val b64 bs) u0 v0 odd<b64^us.length) (hX1:0<=Lc (val b64 us) (val b64 bs) u1 v1 odd/\Lc (val b64 us) (val b64 bs) u1 v1 odd<b64^us.length)
 (hK:∀ us' bs' h' g1',us'.length=us.length->bs'.length=us.length->Dig b64 us'->Dig b64 bs'->val b64 us'=Lg (val b64 us) (val b64 bs) u0 v0 odd->val b64 bs'=Lc (val b64 us) (val b64 bs) u1 v1 odd->Win .u64 h' g1' ba e A [] us' qa->Win .u64 g1' g bb e B [] bs' qb->K (.tuple #[]) h'):
 aZ prog A15 #[.agg #[U u0,U u1,U v0,U v1,.bool odd],.slice A an ac,.slice B bn bc] h K:=by
 subst ha hb
 refine B4z _ _ _ _ _ _ _ _ _ _ _ ?_
 unfold C00
 refine ⟨fun l hp=>∃ (k:Nat) (f b c d R S:Int) (j w:List Int) (g1:bB),l=[U f,U b,U c,U d,U R,U S,I k]/\k<=us.length/\j.length=us.length/\w.length=us.length/\Dig b64 j/\Dig b64 w/\(0<=f/\f<18446744073709551616)/\(0<=b/\b<18446744073709551616)/\(0<=c/\c<18446744073709551616)/\(0<=d/\d<18446744073709551616)/\(0<=R/\R<=1)/\(0<=S/\S<=1)/\Win .u64 hp g1 ba e A [] j qa/\Win .u64 g1 g bb e B [] w qb/\j.drop k=us.drop k/\w.drop k=bs.drop k/\
  val b64 (j.take k)=Lg (val b64 (us.take k)) (val b64 (bs.take k)) u0 v0 odd+b64^k*((if odd then b-f else f-b)+R)/\val b64 (w.take k)=Lc (val b64 (us.take k)) (val b64 (bs.take k)) u1 v1 odd+b64^k*((if odd then d-c else c-d)+S),fun l _=>us.length-(iAt l 6).toNat,⟨0,0,0,0,0,0,0,us,bs,g1,rfl,by omega,rfl,hab.symm,da,db,by omega,by omega,by omega,by omega,by omega,by omega,wa,wb,rfl,rfl,by simp [val,Lg],by simp [val,Lc]⟩,?_⟩
 rintro f b c d R S i hp ⟨k,ag,ab,ai,ah,ad,af,j,w,g1,V,hk,a,D,N,O,hP,hQ,hR,hT,n,u,M,Q,H,L,C,s⟩
 simp only [bD,bZ,and_true,true_and] at V
 obtain ⟨rfl,rfl,rfl,rfl,rfl,rfl,rfl⟩:=V
 refine B8 (fun h1=>?_) (fun h1=>?_)
 ·have gx:=O6 N k
  have Z:=O6 O k
  have o:=E8 H
  have m:=E8 L
  have vx:=C7 b64 us k
  have vy:=C7 b64 bs k
  obtain ⟨g2,aa,ae⟩:=M.swap Q
  refine M.sl.load a.symm (by omega) (by omega) ?_
  refine aa.sl.load (by omega) (by omega) (by omega) ?_
  simp only [aC]
  obtain ⟨aA,hA,_⟩:=SlV.at M.sl (i:=k) (by simp;omega)
  obtain ⟨aB,hB,_⟩:=SlV.at Q.sl (i:=k) (by simp;omega)
  generalize hx0:j.getD k 0=x at *
  generalize hy0:w.getD k 0=y at *
  refine U2 gx hu0 hP ⟨_,_,rfl,?_⟩
  refine U2 Z hv0 hQ ⟨_,_,rfl,?_⟩
  refine U2 Z hv1 hR ⟨_,_,rfl,?_⟩
  refine U2 gx hu1 hT ⟨_,_,rfl,?_⟩
  have bP:=Nu gx hu0 hP
  have bQ:=Nu Z hv0 hQ
  have bR:=Nu Z hv1 hR
  have bT:=Nu gx hu1 hT
  have mP:=Eu (x*u0+f)
  have X:=Eu (y*v0+b)
  have W:=Eu (y*v1+c)
  have mT:=Eu (x*u1+d)
  have kP:=A3q (x*u0+f)
  have kQ:=A3q (y*v0+b)
  have kR:=A3q (y*v1+c)
  have kT:=A3q (x*u1+d)
  have ek:B7 ((k:Int)+1)=((k+1:Nat):Int):=by rw [C0 (by omega) (by omega)];omega
  rw [ek]
  generalize (x*u0+f)/18446744073709551616=cP2 at *
  generalize (y*v0+b)/18446744073709551616=cQ2 at *
  generalize (y*v1+c)/18446744073709551616=cR2 at *
  generalize (x*u1+d)/18446744073709551616=cT2 at *
  generalize (x*u0+f)%18446744073709551616=p at *
  generalize (y*v0+b)%18446744073709551616=q at *
  generalize (y*v1+c)%18446744073709551616=r at *
  generalize (x*u1+d)%18446744073709551616=t at *
  have z:b64^(k+1)=b64^k*18446744073709551616:=bF _ _
  cases odd with
  | true=>
   refine Br.of (fun _=>?_) (fun e=>by cases e)
   refine Fs mP X n ⟨_,_,rfl,aA,hA,by omega,by omega,M.storeN G7 hA (by omega) ?_⟩
   intro h2 w2
   refine Fs W mT u ⟨_,_,rfl,aB,hB,by omega,by omega,?_⟩
   obtain ⟨g3,G,F⟩:=w2.swap Q
   refine G.storeN G7 hB (by omega) ?_
   intro h4 w4
   obtain ⟨g5,J,E⟩:=w4.swap F
   refine ⟨⟨k+1,_,_,_,_,_,_,_,_,g5,rfl,by omega,by simpa using a,by simpa using D,N.set (Eu _),O.set (Eu _),bP,bQ,bR,bT,by split<;>omega,by split<;>omega,J,E,?_,?_,?_,?_⟩,by simp only [iAt,aG,aI];omega⟩
   ·rw [D7 (by omega)];exact D9 H
   ·rw [D7 (by omega)];exact D9 L
   ·rw [D3 (by omega),F7,aF,aJ (by omega),z,vx,vy,<- o,<- m,C,A09 mP X n]
    simp only [Lg,if_true]
    grind
   ·rw [D3 (by omega),F7,aF,aJ (by omega),z,vx,vy,<- o,<- m,s,A09 W mT u]
    simp only [Lc,if_true]
    grind
  | false=>
   refine Br.of (fun e=>by cases e) (fun _=>?_)
   refine Fs X mP n ⟨_,_,rfl,aA,hA,by omega,by omega,M.storeN G7 hA (by omega) ?_⟩
   intro h2 w2
   refine Fs mT W u ⟨_,_,rfl,aB,hB,by omega,by omega,?_⟩
   obtain ⟨g3,G,F⟩:=w2.swap Q
   refine G.storeN G7 hB (by omega) ?_
   intro h4 w4
   obtain ⟨g5,J,E⟩:=w4.swap F
   refine ⟨⟨k+1,_,_,_,_,_,_,_,_,g5,rfl,by omega,by simpa using a,by simpa using D,N.set (Eu _),O.set (Eu _),bP,bQ,bR,bT,by split<;>omega,by split<;>omega,J,E,?_,?_,?_,?_⟩,by simp only [iAt,aG,aI];omega⟩
   ·rw [D7 (by omega)];exact D9 H
   ·rw [D7 (by omega)];exact D9 L
   ·rw [D3 (by omega),F7,aF,aJ (by omega),z,vx,vy,<- o,<- m,C,A09 X mP n]
    simp only [Lg,fE,if_false]
    grind
   ·rw [D3 (by omega),F7,aF,aJ (by omega),z,vx,vy,<- o,<- m,s,A09 mT W u]
    simp only [Lc,fE,if_false]
    grind
 ·obtain rfl:k=us.length:=by omega
  rw [aL (show j.length<=us.length by omega),aW,aL (show bs.length<=us.length by omega)] at C
  rw [aL (show w.length<=us.length by omega),aW,aL (show bs.length<=us.length by omega)] at s
  have bx:=N4 (by decide) N
  have T:=N4 (by decide) O
  rw [a] at bx
  rw [D] at T
  exact hK j w hp g1 a D N O (pin C ⟨C9 (by decide) N,bx⟩ hX0) (pin s ⟨C9 (by decide) O,T⟩ hX1) M Q
end
def Win.priv{k:dZ}{h g:bB}{b m c:Nat}{e:bV}{A:Option bH}{xs:List Int}{post:List dD}(w:Win k h g b e A [] xs post)(hx:xs≠[])(hc:c=xs.length+post.length)(hm:m<=xs.length):eO h g e 1 A m c ((xs.take m).map (bC k)):=by
 refine ⟨by simp;omega,by omega,.inr ⟨b,xs.map (bC k)++post,?_,w.free,?_,by simp;omega,?_⟩⟩
 ·rcases w.at_ with a|a
  ·exact absurd a hx
  ·simpa using a
 ·have:=w.eq
  rwa [cQ] at this
 ·rw [cJ,cN (by simp;omega),List.map_take]
def Fj{k:dZ}{h g:bB}{n c:Nat}{e:bV}{A:Option bH}{xs:List Int}(p:eO h g e 1 A n c (xs.map (bC k)))(hx:xs≠[]):∃ b post,Win k h g b e A [] xs post/\c=xs.length+post.length:=by
 obtain ⟨j,q,i⟩:=p
 rw [fU] at j
 rcases i with ⟨m,rfl⟩|⟨b,a,l,d,rfl,o,f⟩
 ·exact absurd (aM (by omega)) hx
 ·refine ⟨b,a.drop (n*1),⟨d,?_,.inr l⟩,?_⟩
  ·rw [cQ,<- f,cL]
  ·rw [aN];omega
def Priv.swap{h g1 g:bB}{e e':bV}{s s' n c m d:Nat}{A B:Option bH}{xs ys:List dD}(pa:eO h g1 e s A n c xs)(pb:eO g1 g e' s' B m d ys):∃ g2,eO h g2 e' s' B m d ys/\eO g2 g e s A n c xs:=by
 obtain ⟨o,k,z⟩:=pa
 obtain ⟨j,p,u⟩:=pb
 rcases z with ⟨C,rfl⟩|⟨i,b,t,a,rfl,w⟩
 ·exact ⟨g,⟨j,p,u⟩,⟨o,k,.inl ⟨C,rfl⟩⟩⟩
 ·rcases u with ⟨E,rfl⟩|⟨r,q,D,l,rfl,y⟩
  ·exact ⟨_,⟨j,p,.inl ⟨E,rfl⟩⟩,⟨o,k,.inr ⟨i,b,t,a,rfl,w⟩⟩⟩
  ·have f:i≠r:=by
    rintro rfl
    rw [C2] at a;cases a
   rw [B9 _ _ f] at a
   refine ⟨g.put i (.cells b.toArray e),⟨j,p,.inr ⟨r,q,D,?_,Heap.put_comm _ _ _ f.symm,y⟩⟩,⟨o,k,.inr ⟨i,b,t,a,rfl,w⟩⟩⟩
   rw [B9 _ _ f.symm];exact l
abbrev Pw(h g:bB)(A:Option bH)(n c:Nat)(us:List Int):Prop:=eO h g C4 1 A n c (us.map (bC .u64))
def GI(h:bB)(G:Nat)(hp:bB)(A:Option bH)(n c:Nat)(B:Option bH)(m d:Nat):Prop:=∃ (us vs:List Int) (g1 g:bB),h.le g/\Pw hp g1 A n c us/\Pw g1 g B m d vs/\Dig b64 us/\Dig b64 vs/\gC us/\gC vs/\n=us.length/\m=vs.length/\val b64 vs<=val b64 us/\gK (val b64 us) (val b64 vs)=G/\us.length<=100000000
def B3e{a b:Int}(ha:0<=a)(hb:0<=b):gK b (a%b)=gK a b:=by
 obtain ⟨x,rfl⟩:=dU ha
 obtain ⟨y,rfl⟩:=dU hb
 rw [<- gN,dT,dT,iE x,iE y,<- Nat.gcd_rec]
section
variable {h g:bB} {K:VP} {A B:Option bH} {ac bc:Nat}
set_option maxHeartbeats 1000000 in
def B7j{G an bn:Nat}{hp:bB}(gl:Gtz h)(gi:GI h G hp A an ac B bn bc)(hK:∀ A' m c' h',h.le h'->m<=c'->Mw h' A' m (G:Int)->K (.slice A' m c') h'):Mc prog K A an ac B bn bc hp:=by
 unfold Mc
 refine ⟨fun l hp=>∃ (A B:Option bH) (n c m d:Nat),l=[.slice A n c,.slice B m d]/\GI h G hp A n c B m d,fun l hp=>match l with|[_,.slice B n _]=>B2v b64 hp B n|_=>0,⟨_,_,_,_,_,_,rfl,gi⟩,?_⟩
 rintro A1 W c1 B1 m1 d1 hp ⟨A,B,n,c,m,d,hl,p,o,g1,g,lg,F,X,du,dv,nu,nv,hn,V,H,a,bp⟩
 simp only [bD,bW,and_true] at hl
 obtain ⟨⟨rfl,rfl,rfl⟩,rfl,rfl,rfl⟩:=hl
 have Ma:Mw hp A1 W (val b64 p):=⟨p,hn,F.slV,du,nu,rfl⟩
 have Mb:Mw hp B1 m1 (val b64 o):=⟨o,V,SlV.mono F.le X.slV,dv,nv,rfl⟩
 have ap:=F.2.1
 have be:=X.2.1
 have J:=C9 (by decide) du
 have ay:=C9 (by decide) dv
 have a4:m1<=W:=Mb.len_le (by decide) (dC H (Ma.lt (by decide)))
 have N:h.le hp:=B0 lg (B0 X.le F.le)
 have a2:=Mb.len_zero (by decide)
 refine B8 (fun h1=>?_) (fun h1=>?_)
 ·refine A0b Ma Mb H (by omega) (by omega) ?_
  intro u0 u1 v0 v1 bl st
  refine ⟨_,_,_,_,_,rfl,E5 (fun e=>?_) (fun e=>?_)⟩
  ·refine U6 Ma Mb ap be (by omega) (by omega) (by omega) ?_
   intro A2 m2 c2 A3 m3 c3 h6 l6 q k3 M2 M3
   refine ⟨_,_,_,_,_,_,rfl,?_⟩
   have bk:m3<=m1:=M3.len_le (by decide) (by have:=aP (val b64 p) (show 0<val b64 o by omega);have:=Mb.lt (by decide);omega)
   obtain ⟨ws,a0,ax,R,ae,a3⟩:=M3
   refine Fc ax a0 (by omega) ?_
   intro A4 c4 h7 g7 l7 p7
   obtain ⟨g2,S,M⟩:=F.swap X
   obtain ⟨g8,l8,a7⟩:=S.after (B0 l6 l7)
   obtain ⟨g9,a1,a8⟩:=Priv.swap p7 a7
   have bj:=aP (val b64 p) (show 0<val b64 o by omega)
   have Mn:Mw h7 A4 ws.length (val b64 ws):=⟨ws,rfl,p7.slV,R,ae,rfl⟩
   refine ⟨_,_,_,rfl,⟨_,_,_,_,_,_,rfl,o,ws,g9,g8,B0 lg (B0 M.le l8),a1,a8,dv,R,nv,ae,V,rfl,by omega,?_,by omega⟩,?_⟩
   ·rw [a3,B3e J ay];exact a
   ·simp only [Bh Mn,Bh Mb]
    have:=C9 (by decide) R
    omega
  ·obtain ⟨ao,aa,aj,ak,lh⟩:=st
   have lh:=lh e
   unfold Sc
   obtain ⟨g2,S,M⟩:=F.swap X
   refine ⟨fun l hp=>∃ (B:Option bH) (m d j:Nat) (g1 g:bB),l=[.slice B m d]/\h.le g/\Pw hp g1 B m d (o++aD j 0)/\Pw g1 g A1 W c1 p/\m=o.length+j/\m<=W,fun l _=>match l with|[.slice _ m _]=>W-m|_=>0,⟨B1,m1,d1,0,g2,g,rfl,lg,by simpa using S,M,by omega,a4⟩,?_⟩
   rintro B2 m2 d2 bm ⟨B',m',d',j,g3,g4,ai,ag,al,am,bi,bg⟩
   simp only [bD,bW,and_true] at ai
   obtain ⟨rfl,rfl,rfl⟩:=ai
   refine B8 (fun h2=>?_) (fun h2=>?_)
   ·refine Ea R4 al rfl rfl (by omega) (by omega) ?_
    intro A5 c5 h5 g5 l5 p5
    obtain ⟨g6,l6,aw⟩:=am.after l5
    refine ⟨⟨A5,m2+1,c5,j+1,g5,g6,rfl,B0 ag l6,?_,aw,by omega,by omega⟩,by simp only;omega⟩
    have p6:=p5
    rw [<- List.map_singleton (f:=bC .u64),<- dQ,aR,<- eG] at p6
    exact p6
   ·obtain ⟨g5,ar,a6⟩:=al.swap am
    have s:(o++aD j (0:Int)).length=p.length:=by simp;omega
    have i:p≠[]:=by rintro rfl;simp at hn;omega
    have ab:o++aD j (0:Int)≠[]:=by intro h0;rw [h0] at s;simp at s;exact i (aM s.symm)
    obtain ⟨ba,qa,wa,bt⟩:=Fj ar i
    obtain ⟨bb,qb,wb,br⟩:=Fj a6 ab
    have a9:=lh.gcd
    have bf:=lh.ord
    have au:=lh.le
    have bh:val b64 o<b64^p.length:=by rw [<- hn];exact dC H (Ma.lt (by decide))
    refine B0h wa wb hn (by omega) s.symm du (dv.append (J1 (by decide) _)) (by omega) ao aa aj ak (by rw [Dm];omega) (by rw [Dm];omega) ?_
    intro u k h6 g6 C z bd ad Q y T aq
    rw [Dm] at Q y
    have O:u≠[]:=by rintro rfl;simp at C;exact i (aM C.symm)
    have L:k≠[]:=by rintro rfl;simp at z;exact i (aM z.symm)
    refine ⟨rfl,?_⟩
    rw [show W=u.length by omega]
    refine Ej T.sl (by omega) (by omega) ?_
    intro k1 az a5 ah
    refine ⟨_,_,_,rfl,?_⟩
    rw [show m2=k.length by omega]
    refine Ej (SlV.mono T.le aq.sl) (by omega) (by omega) ?_
    intro q av af E
    have pA:=T.priv (m:=k1) (c:=c1) O (by omega) az
    have pB:=aq.priv (m:=q) (c:=d2) L (by omega) av
    have e1:(u.take k1).length=k1:=by rw [aF];omega
    have e2:(k.take q).length=q:=by rw [aF];omega
    have Mn:Mw h6 B2 q (val b64 (k.take q)):=⟨k.take q,e2.symm,SlV.mono pA.le pB.slV,ad.take _,af,rfl⟩
    refine ⟨_,_,_,rfl,⟨_,_,_,_,_,_,rfl,u.take k1,k.take q,_,_,ag,pA,pB,bd.take _,ad.take _,a5,af,e1.symm,e2.symm,?_,?_,by omega⟩,?_⟩
    ·rw [ah,E,Q,y];omega
    ·rw [ah,E,Q,y,a9];exact a
    ·simp only [Bh Mn,Bh Mb]
     rw [E,y];omega
 ·refine E5 (fun h2=>?_) (fun h2=>?_)
  ·have h0:val b64 o=0:=a2.2 (by omega)
   rw [h0,Int.gcd_zero_right] at a
   refine hK _ _ _ _ N ap ?_
   rw [<- a,Int.natAbs_of_nonneg J];exact Ma
  ·have bq:m1=1:=by omega
   obtain ⟨w,rfl⟩:∃ w,o=[w]:=by
    rcases o with _|⟨w,_|⟨w',r⟩⟩
    ·simp at V;omega
    ·exact ⟨w,rfl⟩
    ·simp at V;omega
   have hw:=dv w (by simp)
   rw [Z1] at *
   obtain ⟨t,rfl⟩:∃ t:Nat,w=(t:Int):=dU hw.1
   have bo:(t:Int)<18446744073709551616:=hw.2
   have Z:0<t:=by omega
   have sb:SlI .u64 hp B1 [(t:Int)]:=SlV.mono F.le X.slV
   refine sb.load V (by omega) (by omega) ?_
   refine sb.load V (by omega) (by omega) ?_
   show aZ _ _ #[_,U ((t:Nat):Int)] _ _
   refine Nn Ma ⟨Z,by omega⟩ (by omega) ⟨_,rfl,B5 _,?_⟩
   have r0:=aU (val b64 p) (b:=(t:Int)) (by omega)
   have r1:=aP (val b64 p) (show (0:Int)<(t:Int) by omega)
   have D:=B3e J (show (0:Int)<=(t:Int) by omega)
   obtain ⟨r,hr⟩:=dU r0
   rw [hr] at r1 D ⊢
   show aZ _ _ #[U ((t:Nat):Int),_] _ _
   refine A3x (gl.mono N) (by omega) (by omega) ⟨_,rfl,B5 _,?_⟩
   rw [dT] at D
   have au:eF t r<=t:=Nat.le_of_dvd Z (Nat.gcd_dvd_left t r)
   refine Cc (by omega) ?_
   intro A2 m2 c2 h2 l2 q M2
   rw [D,a] at M2
   exact ⟨_,_,_,rfl,l2,hK _ _ _ _ (B0 N l2) q M2⟩
def Ny{x y:Int}{an bn:Nat}(gl:Gtz h)(ma:Mw h A an x)(mb:Mw h B bn y)(ha:an<=ac)(hb:bn<=bc)(hl:an<=100000000)(hl2:bn<=100000000)(hK:∀ A' m c' h',h.le h'->m<=c'->Mw h' A' m (gK x y:Int)->K (.slice A' m c') h'):aZ prog Gf #[.slice A an ac,.slice B bn bc] h K:=by
 refine A4i _ _ _ _ _ _ ?_
 unfold A4j
 refine ⟨fun l q=>q=h/\∃ (A B:Option bH) (n c m d:Nat) (f e:Int),l=[.slice A n c,.slice B m d]/\Mw h A n f/\Mw h B m e/\e<=f/\n<=c/\m<=d/\n<=100000000/\m<=100000000/\gK f e=gK x y,?_,?_⟩
 ·refine J7 ma mb (by omega) ⟨_,rfl,B8 (fun a=>?_) (fun a=>?_)⟩
  ·rw [Ds] at a
   exact ⟨rfl,_,_,_,_,_,_,_,_,rfl,mb,ma,by omega,hb,ha,hl2,hl,Int.gcd_comm _ _⟩
  ·rw [Ds] at a
   exact ⟨rfl,_,_,_,_,_,_,_,_,rfl,ma,mb,by omega,ha,hb,hl,hl2,rfl⟩
 ·rintro A1 n1 c1 B1 T V q ⟨rfl,A2,B2,n,c,m,d,f,e,b,M1,M2,j,H,S,W,Z,g⟩
  simp only [bD,bW,and_true] at b
  obtain ⟨⟨rfl,rfl,rfl⟩,rfl,rfl,rfl⟩:=b
  have k:=M1.nonneg (by decide)
  refine E5 (fun a=>?_) (fun a=>?_)
  ·have:e=0:=(M2.len_zero (by decide)).2 (by omega)
   subst this
   rw [Int.gcd_zero_right] at g
   refine hK _ _ _ _ (B5 _) H ?_
   rw [<- g,Int.natAbs_of_nonneg k];exact M1
  ·obtain ⟨t,i,L,N,O,rfl⟩:=M1
   obtain ⟨u,o,F,J,nv,rfl⟩:=M2
   refine Fc L i (by omega) ?_
   intro A3 c3 R Q r p
   refine ⟨_,_,_,rfl,?_⟩
   refine Fc (SlV.mono (B0 r p.le) F) o (by omega) ?_
   intro A4 c4 h4 X E z
   refine ⟨_,_,_,rfl,?_⟩
   obtain ⟨s,C,M⟩:=p.after E
   obtain ⟨D,G,w⟩:=Priv.swap z M
   exact B7j gl ⟨t,u,D,s,B0 r C,G,w,N,J,O,nv,rfl,rfl,j,g,by omega⟩ hK
end
structure ZI (h:bB) (s:Bool) (A:Option bH) (n c:Nat) (z:Int):Prop where
 cap:n<=c
 mag:Mw h A n (z.natAbs:Int)
 sgn:s=decide (z<0)
def ZI.mono{h h':bB}{s:Bool}{A:Option bH}{n c:Nat}{z:Int}(i:ZI h s A n c z)(l:h.le h'):ZI h' s A n c z:=⟨i.cap,i.mag.mono l,i.sgn⟩
def ZI.zero{h:bB}{A:Option bH}:ZI h false A 0 0 0:=⟨aY _,Mag.zero,rfl⟩
def ZI.len{h:bB}{s:Bool}{A:Option bH}{n c m:Nat}{z:Int}(i:ZI h s A n c z)(hz:ZB m z)(hm:m<=6400000000):n<=100000000:=by
 obtain ⟨k,hk⟩:∃ k,k=100000000:=⟨_,rfl⟩
 rw [<- hk]
 refine i.mag.len_le (by decide) ?_
 rw [Kz]
 have a:(z.natAbs:Int)<2^m:=by
  have:((z.natAbs:Nat):Int)<((2^m:Nat):Int):=Int.ofNat_lt.2 hz
  simpa using this
 have b:=D4 (B:=2) (by decide) (show m<=64*k by omega)
 exact Int.lt_of_lt_of_le a b
def ZI.zeroIff{h:bB}{s:Bool}{A:Option bH}{n c:Nat}{z:Int}(i:ZI h s A n c z):z=0↔n=0:=by
 have:=i.mag.len_zero (by decide)
 omega
section
variable {h g:bB} {K:VP} {A B:Option bH} {s s':Bool} {an ac bn bc m:Nat} {x y:Int}
def Q0{v:Nat}{n c:Nat}{neg:Bool}(M:Mw h A n (v:Int))(hc:n<=c)(hK:∀ s,ZI h s A n c (if neg then -(v:Int) else v)->K (.agg #[.bool s,.slice A n c]) h):aZ prog R9 #[.bool neg,.slice A n c] h K:=by
 have a:=M.len_zero (by decide)
 refine B0o _ _ _ _ ?_
 unfold B4v
 cases neg with
 | true=>
  refine Br.of (fun _=>hK _ ⟨hc,?_,?_⟩) (fun e=>by cases e)
  ·simpa using M
  ·simp only [if_true,decide_eq_decide];omega
 | false=>
  refine Br.of (fun e=>by cases e) (fun _=>hK _ ⟨hc,?_,?_⟩)
  ·simpa using M
  ·simp
def Cw(i:ZI h s A an ac x)(hK:∀ s',ZI h s' A an ac (-x)->K (.agg #[.bool s',.slice A an ac]) h):aZ prog Oa #[.agg #[.bool s,.slice A an ac]] h K:=by
 refine C22 _ _ _ _ ?_
 unfold C70
 refine Q0 (neg:= !s) i.mag i.cap ?_
 intro c b
 have e:(if (!s)=true then -(x.natAbs:Int) else x.natAbs)= -x:=by
  have:=i.sgn
  by_cases a:x<0
  ·simp only [a,decide_true] at this;subst this;simp;omega
  ·simp only [a,decide_false] at this;subst this;simp;omega
 rw [e] at b
 exact ⟨_,_,_,_,rfl,hK _ b⟩
def Ei(i:ZI h s A an ac x)(j:ZI h s' B bn bc y)(hx:ZB m x)(hy:ZB m y)(hm:m<=6400000000)(hK:∀ s1 A' n' c' h',h.le h'->ZI h' s1 A' n' c' (x+y)->K (.agg #[.bool s1,.slice A' n' c']) h'):aZ prog Rr #[.agg #[.bool s,.slice A an ac],.agg #[.bool s',.slice B bn bc]] h K:=by
 have q:=i.len hx hm
 have p:=j.len hy hm
 have f:=i.sgn
 have a:=j.sgn
 refine C27 _ _ _ _ _ _ _ _ ?_
 unfold C74
 refine Br.of (fun e=>?_) (fun e=>?_)
 ·have e:s=s':=by simpa using e
  subst e
  refine T4 i.mag j.mag i.cap j.cap (by omega) (by omega) ?_
  intro A1 o c1 b c g M1
  refine ⟨_,_,_,rfl,c,?_⟩
  rw [<- eS] at M1
  refine Q0 (neg:=s) M1 g ?_
  intro s1 d
  refine ⟨_,_,_,_,rfl,B5 _,hK _ _ _ _ _ c ?_⟩
  have k:(if s=true then -((x.natAbs+y.natAbs:Nat):Int) else ((x.natAbs+y.natAbs:Nat):Int))=x+y:=by
   cases s with
   | true=>have b:=of_decide_eq_true f.symm;have l:=of_decide_eq_true a.symm;simp;omega
   | false=>have b:=of_decide_eq_false f.symm;have l:=of_decide_eq_false a.symm;simp;omega
  rw [k] at d
  exact d
 ·have e:s≠s':=by simpa using e
  refine J7 i.mag j.mag (by omega) ⟨_,rfl,B8 (fun b=>?_) (fun b=>?_)⟩
  ·have n:¬ (x.natAbs:Int)<y.natAbs:=by rw [<- Ds];omega
   refine I6 i.mag j.mag i.cap (by omega) (by omega) ?_
   intro A1 o c1 b c g M1
   refine ⟨_,_,_,rfl,c,?_⟩
   rw [show (x.natAbs:Int)-y.natAbs=((x.natAbs-y.natAbs:Nat):Int) by omega] at M1
   refine Q0 (neg:=s) M1 g ?_
   intro s1 d
   refine ⟨_,_,_,_,rfl,B5 _,hK _ _ _ _ _ c ?_⟩
   have k:(if s=true then -((x.natAbs-y.natAbs:Nat):Int) else ((x.natAbs-y.natAbs:Nat):Int))=x+y:=by
    cases s with
    | true=>cases s' with
     | true=>exact absurd rfl e
     | false=>have b:=of_decide_eq_true f.symm;have l:=of_decide_eq_false a.symm;rw [iP rfl];omega
    | false=>cases s' with
     | true=>have b:=of_decide_eq_false f.symm;have l:=of_decide_eq_true a.symm;rw [iN (by simp)];omega
     | false=>exact absurd rfl e
   rw [k] at d
   exact d
  ·have n:(x.natAbs:Int)<y.natAbs:=by rw [<- Ds];omega
   refine I6 j.mag i.mag j.cap (by omega) (by omega) ?_
   intro A1 o c1 b c g M1
   refine ⟨_,_,_,rfl,c,?_⟩
   rw [show (y.natAbs:Int)-x.natAbs=((y.natAbs-x.natAbs:Nat):Int) by omega] at M1
   refine Q0 (neg:=s') M1 g ?_
   intro s1 d
   refine ⟨_,_,_,_,rfl,B5 _,hK _ _ _ _ _ c ?_⟩
   have k:(if s'=true then -((y.natAbs-x.natAbs:Nat):Int) else ((y.natAbs-x.natAbs:Nat):Int))=x+y:=by
    cases s with
    | true=>cases s' with
     | true=>exact absurd rfl e
     | false=>have b:=of_decide_eq_true f.symm;have l:=of_decide_eq_false a.symm;rw [iN (by simp)];omega
    | false=>cases s' with
     | true=>have b:=of_decide_eq_false f.symm;have l:=of_decide_eq_true a.symm;rw [iP rfl];omega
     | false=>exact absurd rfl e
   rw [k] at d
   exact d
def N3(i:ZI h s A an ac x)(j:ZI h s' B bn bc y)(hx:ZB m x)(hy:ZB m y)(hm:m<=6400000000)(hK:∀ s1 A' n' c' h',h.le h'->ZI h' s1 A' n' c' (x*y)->K (.agg #[.bool s1,.slice A' n' c']) h'):aZ prog Bw #[.agg #[.bool s,.slice A an ac],.agg #[.bool s',.slice B bn bc]] h K:=by
 have k:=i.len hx hm
 have g:=j.len hy hm
 have b:=i.sgn
 have a:=j.sgn
 refine C23 _ _ _ _ _ _ _ _ ?_
 unfold C71
 refine I7 i.mag j.mag i.cap j.cap (by omega) (by omega) ?_
 intro A1 l c1 n c e M1
 refine ⟨_,_,_,rfl,c,?_⟩
 rw [<- cD] at M1
 refine Q0 (neg:= !(s==s')) M1 e ?_
 intro s1 d
 refine ⟨_,_,_,_,rfl,B5 _,hK _ _ _ _ _ c ?_⟩
 have f:(if (!(s==s'))=true then -((x.natAbs*y.natAbs:Nat):Int) else ((x.natAbs*y.natAbs:Nat):Int))=x*y:=by
  rw [cD]
  cases s with
  | true=>cases s' with
   | true=>rw [show (x.natAbs:Int)= -x by have:=of_decide_eq_true b.symm;omega,show (y.natAbs:Int)= -y by have:=of_decide_eq_true a.symm;omega];show -x * -y=x*y;exact Int.neg_mul_neg x y
   | false=>rw [show (x.natAbs:Int)= -x by have:=of_decide_eq_true b.symm;omega,show (y.natAbs:Int)=y by have:=of_decide_eq_false a.symm;omega];show -(-x*y)=x*y;rw [Int.neg_mul,Int.neg_neg]
  | false=>cases s' with
   | true=>rw [show (x.natAbs:Int)=x by have:=of_decide_eq_false b.symm;omega,show (y.natAbs:Int)= -y by have:=of_decide_eq_true a.symm;omega];show -(x * -y)=x*y;rw [Int.mul_neg,Int.neg_neg]
   | false=>rw [show (x.natAbs:Int)=x by have:=of_decide_eq_false b.symm;omega,show (y.natAbs:Int)=y by have:=of_decide_eq_false a.symm;omega];rfl
 rw [f] at d
 exact d
def Cx(gl:Gtz h)(i:ZI h s A an ac x)(j:ZI h s' B bn bc y)(hx:ZB m x)(hy:ZB m y)(hm:m<=6400000000)(hK:∀ A' n' c' h',h.le h'->ZI h' false A' n' c' (gK x y:Int)->K (.agg #[.bool false,.slice A' n' c']) h'):aZ prog Ob #[.agg #[.bool s,.slice A an ac],.agg #[.bool s',.slice B bn bc]] h K:=by
 have d:=i.len hx hm
 have b:=j.len hy hm
 refine C25 _ _ _ _ _ _ _ _ ?_
 unfold C73
 refine Ny gl i.mag j.mag i.cap j.cap d b ?_
 intro A1 e c1 f c a M1
 refine ⟨_,_,_,rfl,hK _ _ _ _ c ⟨a,?_,?_⟩⟩
 ·rw [dT] at M1
  rw [cU]
  exact M1
 ·simp
def Po(i:ZI h s A an ac x)(hK:K (I (Int.sign x)) h):aZ prog Vc #[.agg #[.bool s,.slice A an ac]] h K:=by
 have c:=i.zeroIff
 have b:=i.sgn
 refine B86 _ _ _ _ ?_
 unfold C46
 refine E5 (fun e=>?_) (fun e=>?_)
 ·obtain rfl:x=0:=by omega
  simpa using hK
 ·refine Br.of (fun a=>?_) (fun a=>?_)
  ·subst a
   have:=of_decide_eq_true b.symm
   rw [Int.sign_eq_neg_one_of_neg this] at hK;exact hK
  ·subst a
   have:=of_decide_eq_false b.symm
   rw [Int.sign_eq_one_of_pos (by omega)] at hK;exact hK
end
section
variable {h g:bB} {K:VP} {A B:Option bH} {s s':Bool} {an ac bn bc m:Nat} {x y:Int}
def Ay(hs:s=decide (x<0)):(s=true/\x= -(x.natAbs:Int))\/(s=false/\x=(x.natAbs:Int)):=by
 by_cases h:x<0
 ·left;exact ⟨by rw [hs];simpa using h,by omega⟩
 ·right;exact ⟨by rw [hs];simpa using h,by omega⟩
def B6u(a b:Nat):(a:Int).tdiv b=((a/b:Nat):Int)/\(-(a:Int)).tdiv (-(b:Int))=((a/b:Nat):Int)/\(-(a:Int)).tdiv b= -((a/b:Nat):Int)/\(a:Int).tdiv (-(b:Int))= -((a/b:Nat):Int):=by
 refine ⟨(cP a b).symm,?_,?_,?_⟩
 ·rw [Int.neg_tdiv,Int.tdiv_neg,Int.neg_neg,cP]
 ·rw [Int.neg_tdiv,cP]
 ·rw [Int.tdiv_neg,cP]
def B6q(a b:Nat):(a:Int).tmod b=((a%b:Nat):Int)/\(-(a:Int)).tmod (-(b:Int))= -((a%b:Nat):Int)/\(-(a:Int)).tmod b= -((a%b:Nat):Int)/\(a:Int).tmod (-(b:Int))=((a%b:Nat):Int):=by
 refine ⟨(dK a b).symm,?_,?_,?_⟩
 ·rw [Int.neg_tmod,Int.tmod_neg,dK]
 ·rw [Int.neg_tmod,dK]
 ·rw [Int.tmod_neg,dK]
def A2k(i:ZI h s A an ac x)(j:ZI h s' B bn bc y)(hx:ZB m x)(hy:ZB m y)(hm:m<=6400000000)(hy0:y≠0)(hK:∀ s1 A1 n1 c1 s2 A2 n2 c2 h',h.le h'->ZI h' s1 A1 n1 c1 (x.tdiv y)->ZI h' s2 A2 n2 c2 (x.tmod y)->K (.tuple #[.agg #[.bool s1,.slice A1 n1 c1],.agg #[.bool s2,.slice A2 n2 c2]]) h'):aZ prog Vd #[.agg #[.bool s,.slice A an ac],.agg #[.bool s',.slice B bn bc]] h K:=by
 have n:=i.len hx hm
 have l:=j.len hy hm
 have p:=j.zeroIff
 have b:=Ay i.sgn
 have d:=Ay j.sgn
 refine B0l _ _ _ _ _ _ _ _ ?_
 unfold B4p
 refine E5 (fun e=>by omega) (fun _=>?_)
 refine U6 i.mag j.mag i.cap j.cap (by omega) (by omega) (by omega) ?_
 intro A1 o c1 A2 q c2 r k g f M1 M2
 refine ⟨_,_,_,_,_,_,rfl,?_⟩
 rw [<- eE] at M1
 rw [<- gN] at M2
 refine Q0 (neg:= !(s==s')) M1 g ?_
 intro s1 c
 refine ⟨_,_,_,_,rfl,B5 _,?_⟩
 refine Q0 (neg:=s) M2 f ?_
 intro s2 a
 refine ⟨_,_,_,_,rfl,B5 _,hK _ _ _ _ _ _ _ _ _ k ?_ ?_⟩
 ·have e:(if (!(s==s'))=true then -((x.natAbs/y.natAbs:Nat):Int) else ((x.natAbs/y.natAbs:Nat):Int))=x.tdiv y:=by
   have t:=B6u x.natAbs y.natAbs
   rcases b with ⟨rfl,hx'⟩|⟨rfl,hx'⟩<;>rcases d with ⟨rfl,hy'⟩|⟨rfl,hy'⟩<;>rw [<- hx',<- hy'] at t
   ·exact t.2.1.symm
   ·exact t.2.2.1.symm
   ·exact t.2.2.2.symm
   ·exact t.1.symm
  rw [e] at c;exact c
 ·have e:(if s=true then -((x.natAbs%y.natAbs:Nat):Int) else ((x.natAbs%y.natAbs:Nat):Int))=x.tmod y:=by
   have t:=B6q x.natAbs y.natAbs
   rcases b with ⟨rfl,hx'⟩|⟨rfl,hx'⟩<;>rcases d with ⟨rfl,hy'⟩|⟨rfl,hy'⟩<;>rw [<- hx',<- hy'] at t
   ·exact t.2.1.symm
   ·exact t.2.2.1.symm
   ·exact t.2.2.2.symm
   ·exact t.1.symm
  rw [e] at a;exact a
def F5(i:ZI h s A an ac x)(hK:K (.bool (decide (x=0))) h):aZ prog F0 #[.agg #[.bool s,.slice A an ac]] h K:=by
 have b:=i.zeroIff
 refine B0m _ _ _ _ ?_
 unfold B4q
 have:((an:Int)==0)=decide (x=0):=by
  by_cases a:x=0
  ·simp [a,b.1 a]
  ·have:¬ an=0:=fun e=>a (b.2 e)
   simp [a,this]
 rw [this];exact hK
def U7(i:ZI h s A an ac x)(hK:K (.bool (decide (x=1))) h):aZ prog Cd #[.agg #[.bool s,.slice A an ac]] h K:=by
 have g:=Ay i.sgn
 have k:=i.zeroIff
 have M:=i.mag
 refine B4r _ _ _ _ ?_
 unfold B9v
 rcases g with ⟨rfl,f⟩|⟨rfl,f⟩
 ·refine Br.of (fun e=>by cases e) (fun _=>?_)
  rw [show decide (x=1)=false by simp;omega] at hK;exact hK
 ·refine Br.of (fun _=>?_) (fun e=>by cases e)
  obtain ⟨d,a,l,m,n,b⟩:=M
  refine E5 (fun e=>?_) (fun e=>?_)
  ·obtain ⟨w,rfl⟩:∃ w,d=[w]:=by
    rcases d with _|⟨w,_|⟨o,r⟩⟩
    ·simp at a;omega
    ·exact ⟨w,rfl⟩
    ·simp at a;omega
   refine l.load a (by omega) (by omega) ?_
   rw [Z1] at b
   show K (.bool (w==1)) h
   have:(w==1)=decide (x=1):=by
    by_cases c:x=1
    ·have:w=1:=by omega
     simp [c,this]
    ·have:¬ w=1:=by omega
     simp [c,this]
   rw [this];exact hK
  ·have:¬ x=1:=by
    rintro rfl
    have c:=i.mag.len_le (j:=1) (by decide) (by decide)
    have p:¬ an=0:=fun e=>by have:=k.2 e;omega
    omega
   rw [show decide (x=1)=false by simp [this]] at hK;exact hK
def R5(i:ZI h s A an ac x)(j:ZI h s' B bn bc y)(hx:ZB m x)(hy:ZB m y)(hm:m<=6400000000)(hy0:y≠0)(hK:∀ s1 A1 n1 c1 h',h.le h'->ZI h' s1 A1 n1 c1 (x.tdiv y)->K (.agg #[.bool s1,.slice A1 n1 c1]) h'):aZ prog Ew #[.agg #[.bool s,.slice A an ac],.agg #[.bool s',.slice B bn bc]] h K:=by
 refine C21 _ _ _ _ _ _ _ _ ?_
 unfold C6z
 refine U7 j ⟨_,rfl,B8 (fun e=>?_) (fun e=>?_)⟩
 ·subst e
  exact hK _ _ _ _ _ (B5 _) (by rw [Int.tdiv_one];exact i)
 ·refine A2k i j hx hy hm hy0 ?_
  intro s1 A1 n1 c1 d A2 f c2 g a b c
  exact ⟨_,_,_,_,_,_,_,_,rfl,hK _ _ _ _ _ a b⟩
def A5f(i:ZI h s A an ac x)(j:ZI h s' B bn bc y)(hx:ZB m x)(hm:m<=6400000000)(hK:K (.bool (decide (x=y))) h):aZ prog A14 #[.agg #[.bool s,.slice A an ac],.agg #[.bool s',.slice B bn bc]] h K:=by
 have k:=i.len hx hm
 have f:=Ay i.sgn
 have g:=Ay j.sgn
 have b:=i.sgn
 have c:=j.sgn
 refine B4t _ _ _ _ _ _ _ _ ?_
 unfold B9x
 refine Br.of (fun e=>?_) (fun e=>?_)
 ·have e:s=s':=by simpa using e
  refine J7 i.mag j.mag (by omega) ⟨_,rfl,?_⟩
  have:(Xd (x.natAbs:Int) y.natAbs==0)=decide (x=y):=by
   by_cases d:x=y
   ·subst d;unfold Xd;simp
   ·have l:¬ x.natAbs=y.natAbs:=by
     rcases f with ⟨rfl,hx'⟩|⟨rfl,hx'⟩<;>rcases g with ⟨a,hy'⟩|⟨a,hy'⟩<;>(rw [<- e] at a)<;>first|omega|(cases a)
    unfold Xd
    by_cases a:(x.natAbs:Int)<y.natAbs
    ·rw [iP a];simp [d]
    ·rw [iN a,iP (by omega)];simp [d]
  rw [this];exact hK
 ·have e:s≠s':=by simpa using e
  have:¬ x=y:=by rintro rfl;exact e (b.trans c.symm)
  rw [show decide (x=y)=false by simp [this]] at hK;exact hK
def Cv{n:Int}(h1: -9223372036854775808<=n)(h2:n<=9223372036854775807)(hK:∀ s1 A1 n1 c1 h',h.le h'->ZI h' s1 A1 n1 c1 n->K (.agg #[.bool s1,.slice A1 n1 c1]) h'):aZ prog Rs #[I n] h K:=by
 refine C28 _ ?_
 unfold C75
 refine B8 (fun a=>?_) (fun a=>?_)
 ·have e:C3 (0-C3 n)=(n.natAbs:Int):=by rw [F6,F6];omega
  rw [e]
  refine Cc (by omega) ?_
  intro A1 d c1 h1 c b M1
  exact ⟨_,_,_,rfl,hK _ _ _ _ _ c ⟨b,M1,by simpa using a⟩⟩
 ·have e:C3 n=(n.natAbs:Int):=by rw [F6];omega
  rw [e]
  refine Cc (by omega) ?_
  intro A1 d c1 h1 c b M1
  exact ⟨_,_,_,rfl,hK _ _ _ _ _ c ⟨b,M1,by simpa using a⟩⟩
end
def A9d{P:dI}{t d e:bV}(ht:P.underlying t=some .string)(hd:P.underlying d=some (.slice e))(he:P.underlying e=some (.int .u8)){h:bB}{l:List UInt8}{K:VP}
 (x:∀ A c h',h.le h'->l.length<=c->SlV h' A (yv l)->K (.slice A l.length c) h'):wpH P (convert t d (.string (bs l))) K h:=by
 unfold convert
 simp only [C8,F4 ht,F4 hd,F4 he]
 unfold Conv.stringToBytes
 simp only [C8]
 refine Jl rfl (fun tt=>?_)
 have f:(bs l).size=l.length:=by simp [bs,fD]
 have a:l.length<=(Question.appendCap (bs l).size 0 e).cut tt:=by
  rw [f];simp only [Question.cut];omega
 generalize (Question.appendCap (bs l).size 0 e).cut tt=cap at *
 rw [S7]
 intro b o
 generalize hcs:((bs l).data.map (fun b=>bC .u8 b.toNat)++fV (cap-(bs l).size) (bC .u8 0))=cs
 have m:h.le (h.put b (.cells cs e (cs.size,cs.size+1))):=Heap.le_put _ o
 have j:(h.put b (.cells cs e)).freeze { block:=b,off:=cs.size } 1=h.put b (.cells cs e (cs.size,cs.size+1)):=by
  unfold Heap.freeze
  rw [iN (by decide)]
  funext k
  by_cases g:k=b
  ·subst g
   simp only [if_true,C2,gP]
   rfl
  ·rw [iN g,B9 _ _ g,B9 _ _ g]
 refine ⟨cs,e,_,C2 _ _ _,?_⟩
 refine ⟨⟨_,C2 _ _ _⟩,?_⟩
 show K (.slice (some ⟨b,0,none⟩) (bs l).size cap) ((h.put b (.cells cs e)).freeze { block:=b,off:=cs.size } 1)
 rw [j,f]
 refine x _ _ _ m a (.inr ⟨_,rfl,?_⟩)
 intro i v n
 have p:i<l.length:=by
  have:=(List.getElem?_eq_some_iff.1 n).1
  simpa [yv] using this
 have q:eM ⟨b,0,none⟩ i=⟨b,i,none⟩:=by rw [E6,eW]
 rw [q,E9,<- hcs,Array.getElem?_append_left (by simp [bs];exact p)]
 rw [<- n]
 simp [yv,bs]
def ZB.tdiv{m:Nat}{x y:Int}(h:ZB m x):ZB m (x.tdiv y):=by
 unfold ZB at *
 rw [Int.natAbs_tdiv]
 exact Nat.lt_of_le_of_lt (eP _ _) h
section
variable {h g:bB} {K:VP} {A B:Option bH} {s s':Bool} {an ac bn bc m:Nat} {x y:Int}
end
def A9x{ws:List Int}{k:Nat}(d:Dig b64 ws)(hl:ws.length=k+1)(h:b64^k<=val b64 ws):gC ws:=by
 unfold gC
 intro e
 rw [gU,hl,gH] at e
 have:=(Cn (B:=b64) (by decide) d hl).1
 have a:ws.getD k 0=0:=by simp [cR,e]
 rw [a] at this
 omega
section
variable {h g:bB} {K:VP} {A B:Option bH} {ac bc:Nat}
def B7x{Invv:LP}{muv:LN}{d1:ByteArray}{n c:Nat}{chunk base:Int}{us:List Int}{hp hp2:bB}(p:Pw hp2 g A n c us)(hn:n=us.length)(du:Dig b64 us)(nu:gC us)(hl:n<=100000000)(hch:0<=chunk/\chunk<18446744073709551616)(hba:1<=base/\base<18446744073709551616)
 (hK:∀ A' n' c' us' h' g',g.le g'->Pw h' g' A' n' c' us'->n'=us'.length->n'<=n+1->Dig b64 us'->gC us'->val b64 us'=chunk+base*val b64 us->Invv [.string ((d1).extract ((B7 ((dO (B7 (((fD d1:Nat):Int)-(1:Int))) (19:Int))+(1:Int))).toNat) ((d1).size)),.slice A' n' c'] h'/\muv [.string ((d1).extract ((B7 ((dO (B7 (((fD d1:Nat):Int)-(1:Int))) (19:Int))+(1:Int))).toNat) ((d1).size)),.slice A' n' c'] h'<muv [.string d1,.slice A n c] hp):
 Y8 prog Invv muv d1 A n c chunk base hp hp2:=by
 have C:=C9 (by decide) du
 unfold Y8
 refine ⟨fun l o=>∃ (k:Nat) (j:Int) (d:List Int),l=[U j,I k]/\k<=n/\(0<=j/\j<18446744073709551616)/\d.length=us.length/\Dig b64 d/\Pw o g A n c d/\d.drop k=us.drop k/\val b64 (d.take k)+b64^k*j=chunk+base*val b64 (us.take k),fun l _=>n-(iAt l 1).toNat,⟨0,chunk,us,rfl,by omega,hch,rfl,du,p,rfl,by simp [val]⟩,?_⟩
 rintro j i o ⟨k,D,d,G,hk,s,e,t,pw,y,B⟩
 obtain ⟨rfl,rfl⟩:j=D/\i=(k:Int):=by simpa using G
 refine B8 (fun T=>?_) (fun T=>?_)
 ·have N:=O6 t k
  have E:=E8 y
  have vu:=C7 b64 us k
  have z:d≠[]:=by rintro rfl;simp at e;omega
  obtain ⟨b,J,w,X⟩:=Fj pw z
  refine w.sl.load (by omega) (by omega) (by omega) ?_
  simp only [aC]
  generalize hx:d.getD k 0=x at *
  refine U2 N (by omega) s ⟨_,_,rfl,?_⟩
  obtain ⟨a,Q,_⟩:=SlV.at w.sl (i:=k) (by simp;omega)
  refine ⟨a,Q,by omega,by omega,w.storeN G7 Q (by omega) ?_⟩
  intro h4 Z
  have V:=Nu N (show 0<=base/\base<18446744073709551616 by omega) s
  have W:=A3q (x*base+j)
  have ek:B7 ((k:Int)+1)=((k+1:Nat):Int):=by rw [C0 (by omega) (by omega)];omega
  rw [ek]
  have L:=Z.priv (m:=n) (c:=c) (by intro S;have:=congrArg gO S;rw [bO,gQ] at this;exact z (aM this)) (by simpa using X) (by simp;omega)
  rw [aL (by simp;omega)] at L
  refine ⟨⟨k+1,_,_,rfl,by omega,V,by simpa using e,t.set (Eu _),L,?_,?_⟩,by simp only [iAt,aG,aI];omega⟩
  ·rw [D7 (by omega)];exact D9 y
  ·rw [D3 (by omega),F7,aF,aJ (by omega),bF,vu,<- E,W]
   show _+b64^k*_+b64^k*18446744073709551616*_=_
   generalize (x*base+j)/18446744073709551616=q at *
   grind
 ·obtain rfl:k=n:=by omega
  rw [aL (show d.length<=k by omega),aL (show us.length<=k by omega)] at B
  refine I4 (fun F=>?_) (fun F=>?_)
  ·refine Ea R4 pw rfl rfl (by omega) (by omega) ?_
   intro A5 c5 h5 R l5 O
   rw [<- List.map_singleton (f:=bC .u64),<- dQ] at O
   refine hK A5 (k+1) c5 (d++[j]) h5 R l5 O (by simp;omega) (by omega) (t.append (Dig.one s)) ?_ ?_
   ·unfold gC;simpa using F
   ·rw [F7,<- B,e,<- hn]
  ·subst F
   rw [fQ,fR] at B
   refine hK A k c d o g (B5 _) pw (by omega) (by omega) t ?_ B
   rcases us with _|⟨u,r⟩
   ·have:d=[]:=aM (by simpa using e)
    rw [this];exact Norm.nil
   ·refine A9x (k:=r.length) t (by simpa using e) ?_
    have M:Mw hp2 A k (val b64 (u::r)):=⟨_,hn,p.slV,du,nu,rfl⟩
    have H:=M.ge (by decide) (by simp at hn;omega)
    rw [show k-1=r.length by simp at hn;omega] at H
    have:1*val b64 (u::r)<=base*val b64 (u::r):=aE hba.1 C
    omega
end
section
variable {h g:bB} {K:VP} {A B:Option bH} {ac bc:Nat}
def B91{k:Nat}(h:k<=19):10^k<=10000000000000000000:=fA (bL (by decide) h) (by decide)
def B0g{Invv:LP}{muv:LN}{d1:ByteArray}{n c tn:Nat}{T:Option bH}{l:List UInt8}{hp hp1:bB}(sv:SlV hp1 T (yv l))(ht:tn=l.length)(hd:∀ c∈l,J2 c)(h19:l.length<=19)
 (hK:(0<=B7 ((dO (B7 (((fD d1:Nat):Int)-(1:Int))) (19:Int))+(1:Int))/\B7 ((dO (B7 (((fD d1:Nat):Int)-(1:Int))) (19:Int))+(1:Int))<=(((d1).size:Nat):Int))/\Y8 prog Invv muv d1 A n c (N8 l:Int) ((10^l.length:Nat):Int) hp hp1):
 Ef prog Invv muv d1 A n c T tn hp1 hp:=by
 subst ht
 unfold Ef
 refine ⟨fun s hp=>hp=hp1/\∃ k:Nat,s=[U (N8 (l.take k)),U ((10^k:Nat):Int),I k]/\k<=l.length,fun s _=>l.length-(iAt s 2).toNat,⟨rfl,0,by simp [N8],by omega⟩,?_⟩
 rintro B y i p ⟨rfl,k,b,z⟩
 simp only [bD,bZ,and_true,true_and] at b
 obtain ⟨rfl,rfl,rfl⟩:=b
 refine B8 (fun w=>?_) (fun w=>?_)
 ·have d:k<l.length:=by omega
  obtain ⟨a,t,j⟩:=SlV.at sv (i:=k) (by rw [Hn];omega)
  have f:=hd l[k] (eC d)
  have e:=Qq (l:=l.take k) (fun c j=>hd c (fZ j))
  rw [aF,aJ (by omega)] at e
  have m:=B91 (k:=k+1) (by omega)
  have g:10^(k+1)=10^k*10:=eX _ _
  refine ⟨a,t,by omega,by omega,((l[k].toNat:Nat):Int),?_,?_⟩
  ·rw [aC,cJ,j];simp [yv]
  ·unfold J2 at f
   have u:C3 (wu8 (((l[k].toNat:Nat):Int)-48))=((l[k].toNat-48:Nat):Int):=by
    rw [A2o (by omega) (by omega),C5 (by omega) (by omega)];omega
   have q:C3 (C3 (10*((N8 (l.take k):Nat):Int))+C3 (wu8 (((l[k].toNat:Nat):Int)-48)))=((N8 (l.take (k+1)):Nat):Int):=by
    rw [u,C5 (n:=10*((N8 (l.take k):Nat):Int)) (by omega) (by omega),C5 (by omega) (by omega),dX d,Oq];omega
   have r:C3 (((10^k:Nat):Int)*10)=((10^(k+1):Nat):Int):=by rw [C5 (by omega) (by omega),g];simp
   have o:B7 ((k:Int)+1)=((k+1:Nat):Int):=by rw [C0 (by omega) (by omega)];omega
   rw [q,r,o]
   exact ⟨⟨rfl,k+1,rfl,by omega⟩,by simp only [iAt,aG,aI];omega⟩
 ·obtain rfl:k=l.length:=by omega
  rw [aW]
  exact hK
def Sm{l:List UInt8}(hd:∀ c∈l,J2 c)(hl:l.length<=100000000)(hK:∀ A n c h',h.le h'->n<=c->Mw h' A n (N8 l:Int)->K (.slice A n c) h'):aZ prog O0 #[.string (bs l)] h K:=by
 refine Wm _ ?_
 unfold Sa Kr
 refine ⟨fun s D=>∃ (f a:List UInt8) (e:List Int) (A:Option bH) (n c:Nat) (g:bB),s=[.string (bs a),.slice A n c]/\l=f++a/\h.le g/\Pw D g A n c e/\n=e.length/\Dig b64 e/\gC e/\val b64 e=(N8 f:Int)/\n<=f.length,fun s _=>match s with|[.string d,_]=>d.size|_=>0,⟨[],l,[],none,0,0,h,rfl,rfl,B5 h,Priv.nil _ _ _ _,rfl,Dig.nil,Norm.nil,rfl,by omega⟩,?_⟩
 rintro d1 A1 n1 c1 D ⟨f,a,e,A2,n2,c2,g,H,b,C,p,E,J,L,B,S⟩
 simp only [bD,bW,Value.string.injEq,and_true] at H
 obtain ⟨rfl,rfl,rfl,rfl⟩:=H
 have G:l.length=f.length+a.length:=by rw [b,aH]
 rw [L6]
 refine B8 (fun O=>?_) (fun O=>?_)
 ·obtain ⟨sz,hsz⟩:∃ sz,sz=(a.length-1)%19+1:=⟨_,rfl⟩
  have j:B7 (dO (B7 ((a.length:Int)-1)) 19+1)=(sz:Int):=by
   rw [C0 (n:=(a.length:Int)-1) (by omega) (by omega),bY (by omega),C0 (by omega) (by omega)];omega
  rw [j,aC,O7]
  refine ⟨⟨by omega,by omega⟩,A9d Z2 Ha.und Em ?_⟩
  intro T tc h2 W aa F
  refine ⟨_,_,_,rfl,?_⟩
  have R:(a.drop 0).take (sz-0)=a.take sz:=by simp
  rw [R] at F ⊢
  have r:(a.take sz).length=sz:=by rw [aF];omega
  obtain ⟨g2,m,p2⟩:=p.after W
  refine B0g F rfl (fun c q=>hd c (by rw [b];exact List.mem_append_right _ (fZ q))) (by omega) ?_
  rw [L6,j]
  refine ⟨⟨by omega,by omega⟩,?_⟩
  have t:=Qq (l:=a.take sz) (fun c q=>hd c (by rw [b];exact List.mem_append_right _ (fZ q)))
  rw [r] at t ⊢
  have ht:=B91 (k:=sz) (by omega)
  have N:0<10^sz:=cX (by decide)
  refine B7x p2 E J L (by omega) (by omega) (by omega) ?_
  intro A' M V w h' Z o Q i X u y z
  rw [L6,j,aC,O7,aL (by rw [aN];omega)]
  refine ⟨⟨f++a.take sz,a.drop sz,w,A',M,V,Z,rfl,by rw [aR,cL];exact b,B0 C (B0 m o),Q,i,u,y,?_,by rw [aH,r];omega⟩,?_⟩
  ·rw [z,B,Gt,r,eS,cD,aS];omega
  ·simp only [L6,aN];omega
 ·have:a=[]:=aM (by omega)
  subst this
  rw [cC] at b
  subst b
  exact hK _ _ _ _ (B0 C p.le) p.2.1 ⟨e,E,p.slV,J,L,B⟩
end
def zb(l:List UInt8):List Int:=l.map fun c=>(c.toNat:Int)
def Hl(l:List UInt8):(zb l).length=l.length:=by simp [zb]
def A2m(a b:List UInt8):zb (a++b)=zb a++zb b:=by simp [zb]
def C2z(l:List UInt8):(zb l).map (bC .u8)=yv l:=by simp [zb,yv]
def A9k:∀ v,v<100->J9[2*v+1]? = some (dch (v%10))/\J9[2*v]? = some (dch (v/10)):=by decide +kernel
def A2w(a:Nat):dO (a:Int) 100=((a%100:Nat):Int):=(dK a 100).symm
def tm4(a:Nat):dO (a:Int) 10000=((a%10000:Nat):Int):=(dK a 10000).symm
def tm8(a:Nat):dO (a:Int) 100000000=((a%100000000:Nat):Int):=(dK a 100000000).symm
def A5p(a:Nat):cT (a:Int) 100=((a/100:Nat):Int):=(cP a 100).symm
def td4(a:Nat):cT (a:Int) 10000=((a/10000:Nat):Int):=(cP a 10000).symm
def td8(a:Nat):cT (a:Int) 100000000=((a/100000000:Nat):Int):=(cP a 100000000).symm
def Hk{a:Nat}(h:a<4294967296):G9 (a:Int)=a:=P0 (by omega) (by omega)
def Nt(a:Nat):(a:Int)*2=((2*a:Nat):Int):=by omega
def A6y(a:Nat):(a:Int)+1=((a+1:Nat):Int):=by omega
def FBI(g:bB)(b:Nat)(e:bV)(A:Option bH)(pre post:List dD)(N u0 nd u:Nat)(hp:bB):Prop:=
 ∃ (ys:List Int) (t:List UInt8),Win .u8 hp g b e A pre (ys++zb t) post/\ys.length=nd/\nd+t.length=N/\pad N u0=pad nd u++t/\u<10^nd
section
variable {P:dI} {h g:bB} {K:VP} {A:Option bH} {b:Nat} {e:bV} {pre post:List dD}
def La(one:P.cellsOf 5=1/\(P.info? 5).isSome=true){N u0 j u:Nat}(f:FBI g b e A pre post N u0 (j+2) u h){E1 E0 I1 I2:Int}(h1:E1=((2*(u%100)+1:Nat):Int))(h0:E0=((2*(u%100):Nat):Int))(hI1:I1=((j+1:Nat):Int))(hI2:I2=(j:Int)){C:bB->Prop}(hC:∀ h',FBI g b e A pre post N u0 j (u/100) h'->C h'):
 ∃ (t:UInt8),(0<=E1/\J9[E1.toNat]? = some t)/\∃ (t0:UInt8),(0<=E0/\J9[E0.toNat]? = some t0)/\∃ a1,A=some a1/\0<=I1/\I1<((N:Nat):Int)/\wpH P (dP 5 (.pointer (some (eM a1 (I1.toNat*1)))) (Y ((t.toNat:Nat):Int))) (fun _ hp1=>∃ a2,A=some a2/\0<=I2/\I2<((N:Nat):Int)/\wpH P (dP 5 (.pointer (some (eM a2 (I2.toNat*1)))) (Y ((t0.toNat:Nat):Int))) (fun _ hp2=>C hp2) hp1) h:=by
 subst h1 h0 hI1 hI2
 obtain ⟨c,t,w,D,E,q,k⟩:=f
 obtain ⟨p,o⟩:=A9k (u%100) (by omega)
 have z:∃ a,A=some a:=by
  rcases w.at_ with h0|h0
  ·have:=congrArg gO h0
   rw [aH,gQ] at this;omega
  ·exact ⟨_,h0⟩
 obtain ⟨a,d⟩:=z
 have l:(c++zb t).length=N:=by rw [aH,Hl];omega
 refine ⟨_,⟨by omega,by rw [aC];exact p⟩,_,⟨by omega,by rw [aC];exact o⟩,a,d,by omega,by omega,?_⟩
 rw [aC]
 refine w.storeN one d (by omega) ?_
 intro B n
 refine ⟨a,d,by omega,by omega,?_⟩
 rw [aC]
 refine n.storeN one d (by rw [bO];omega) ?_
 intro s i
 refine hC s ⟨c.take j,[dch (u/10%10),dch (u%10)]++t,?_,by rw [aF];omega,by simp;omega,?_,?_⟩
 ·have r:((c++zb t).set (j+1) ((dch (u%100%10)).toNat:Int)).set j ((dch (u%100/10)).toNat:Int)=c.take j++zb ([dch (u/10%10),dch (u%10)]++t):=by
   have m:c=c.take j++[c[j]'(by omega),c[j+1]'(by omega)]:=by
    conv=>lhs;rw [<- cL j c]
    congr 1
    rw [cG (by omega),cG (by omega),aV (by omega)]
   have y:(c.take j).length=j:=by rw [aF];omega
   rw [m,show u%100%10=u%10 by omega,show u%100/10=u/10%10 by omega]
   generalize c[j]'_=y0
   generalize c[j+1]'_=y1
   rw [cN (by omega),aL (show (c.take j).length<=j by omega)]
   generalize c.take j=zs at *
   rw [aR,fW _ _ (by omega),fW _ _ (by omega),y,A2m]
   simp [zb]
  rw [r] at i;exact i
 ·rw [q,C1d];simp
 ·rw [dS] at k
  exact Nat.div_lt_of_lt_mul (by rw [eZ];exact k)
end
section
variable {h g:bB} {K:VP} {A:Option bH} {b:Nat} {e:bV} {pre post:List dD}
def Ms:prog.cellsOf 5=1/\(prog.info? 5).isSome=true:=A9i
def C3p{N u0 nd x:Nat}(hN:N<=24)(f:FBI g b e A pre post N u0 nd x h)(hn:nd<2)(hK:∀ h',Win .u8 h' g b e A pre (zb (pad N u0)) post->K (.tuple #[]) h'):Bt prog A N K nd x h:=by
 obtain ⟨i,t,w,j,hN,k,l⟩:=f
 unfold Bt
 refine B8 (fun p=>?_) (fun p=>?_)
 ·obtain rfl:nd=1:=by omega
  obtain ⟨y,rfl⟩:∃ y,i=[y]:=by
   rcases i with _|⟨y,_|⟨z,r⟩⟩
   ·simp at j
   ·exact ⟨y,rfl⟩
   ·simp at j
  have q:∃ a,A=some a:=by
   rcases w.at_ with d|d
   ·simp at d
   ·exact ⟨_,d⟩
  obtain ⟨a,m⟩:=q
  refine ⟨a,m,by omega,by omega,?_⟩
  rw [show ((0:Int)).toNat=0 from rfl]
  refine w.storeN Ms m (by simp) ?_
  intro s n
  refine hK s ?_
  have c:x<10:=by simpa using l
  have ev:wu8 (G9 (48+(x:Int)))=((dch x).toNat:Int):=by
   rw [P0 (by omega) (by omega),A2o (by omega) (by omega),Fb c];omega
  rw [ev] at n
  have o:pad 1 x=[dch x]:=by
   rw [Tc,B2i _ (by omega),show x%10=x by omega];rfl
  rw [k,o,A2m]
  simpa [zb] using n
 ·obtain rfl:nd=0:=by omega
  have:i=[]:=aM j
  subst this
  have c:x=0:=by simpa using l
  refine hK h ?_
  rw [k,B2i _ c]
  simpa using w
def C3o{N u0 nd x:Nat}(hN:N<=24)(f:FBI g b e A pre post N u0 nd x h)(hn:nd<4)(hK:∀ h',Win .u8 h' g b e A pre (zb (pad N u0)) post->K (.tuple #[]) h'):Bu prog A N K nd x h:=by
 unfold Bu
 have s:x<10000:=by
  obtain ⟨_,_,_,_,_,_,n⟩:=f
  exact cM n (fA (bL (by decide) (show nd<=4 by omega)) (by decide))
 refine ⟨fun l d=>∃ nd x:Nat,l=[I nd,U32 x]/\FBI g b e A pre post N u0 nd x d/\nd<2,B8 (fun r=>?_) (fun r=>?_),?_⟩
 ·obtain ⟨j,rfl⟩:∃ j,nd=j+2:=⟨nd-2,by omega⟩
  refine La Ms f ?_ ?_ (by rw [C0 (by omega) (by omega)];omega) (by rw [C0 (by omega) (by omega)];omega) ?_
  ·simp (disch:=omega) only [A2w,Hk,Nt,A6y]
  ·simp (disch:=omega) only [A2w,Hk,Nt]
  ·intro t p
   refine ⟨j,x/100,?_,p,by omega⟩
   rw [C0 (by omega) (by omega),A5p,Hk (by omega)]
   simp only [bD,bZ,and_true,true_and];omega
 ·exact ⟨nd,x,rfl,f,by omega⟩
 ·rintro a i d ⟨m,k,o,q,c⟩
  obtain ⟨rfl,rfl⟩:a=(m:Int)/\i=(k:Int):=by simpa using o
  exact C3p hN q c hK
def Ab{u an ac:Nat}{xs:List Int}(w:Win .u8 h g b e A pre xs post)(hn:an=xs.length)(hN:an<=24)(hu:u<10^an)(hu2:u<18446744073709551616)(hK:∀ h',Win .u8 h' g b e A pre (zb (pad an u)) post->K (.tuple #[]) h'):aZ prog S2 #[.slice A an ac,U (u:Int)] h K:=by
 refine Sw _ _ _ _ ?_
 unfold Pl
 refine ⟨fun l d=>∃ a v:Nat,l=[U v,I a]/\FBI g b e A pre post an u a v d/\v<=u,fun l _=>(iAt l 1).toNat,⟨an,u,rfl,⟨xs,[],by simpa [zb] using w,hn.symm,by simp,by simp,hu⟩,aY _⟩,?_⟩
 rintro G i d ⟨a,v,L,f,M⟩
 obtain ⟨rfl,rfl⟩:G=(v:Int)/\i=(a:Int):=by simpa using L
 have E:a<=an:=by obtain ⟨_,_,_,_,hN,_,_⟩:=f;omega
 refine B8 (fun t=>?_) (fun t=>?_)
 ·obtain ⟨j,rfl⟩:∃ j,a=j+8:=⟨a-8,by omega⟩
  refine La (j:=j+6) Ms f ?_ ?_ (by rw [C0 (by omega) (by omega)];omega) (by rw [C0 (by omega) (by omega)];omega) ?_
  ·simp (disch:=omega) only [tm8,tm4,A2w,Hk,Nt,A6y];omega
  ·simp (disch:=omega) only [tm8,tm4,A2w,Hk,Nt];omega
  intro p y
  refine La (j:=j+4) Ms y ?_ ?_ (by rw [C0 (by omega) (by omega)];omega) (by rw [C0 (by omega) (by omega)];omega) ?_
  ·simp (disch:=omega) only [tm8,tm4,A5p,Hk,Nt,A6y];omega
  ·simp (disch:=omega) only [tm8,tm4,A5p,Hk,Nt];omega
  intro s c
  refine La (j:=j+2) Ms c ?_ ?_ (by rw [C0 (by omega) (by omega)];omega) (by rw [C0 (by omega) (by omega)];omega) ?_
  ·simp (disch:=omega) only [tm8,A2w,td4,Hk,Nt,A6y];omega
  ·simp (disch:=omega) only [tm8,A2w,td4,Hk,Nt];omega
  intro J m
  refine La (j:=j) Ms m ?_ ?_ (by rw [C0 (by omega) (by omega)];omega) (by rw [C0 (by omega) (by omega)];omega) ?_
  ·simp (disch:=omega) only [tm8,A5p,td4,Hk,Nt,A6y];omega
  ·simp (disch:=omega) only [tm8,A5p,td4,Hk,Nt];omega
  intro N F
  have r:B7 (((j+8:Nat):Int)-8)=(j:Int):=by rw [C0 (by omega) (by omega)];omega
  have D:C3 (cT (v:Int) 100000000)=((v/100/100/100/100:Nat):Int):=by
   rw [td8,C5 (by omega) (by omega)];omega
  rw [r,D]
  exact ⟨⟨j,_,rfl,F,by omega⟩,by simp only [iAt,aG,aI];omega⟩
 ·have H:v<100000000:=by
   obtain ⟨_,_,_,_,_,_,hu⟩:=f
   exact cM hu (fA (bL (by decide) (show a<=8 by omega)) (by decide))
  refine ⟨fun l d=>∃ a x:Nat,l=[I a,U32 x]/\FBI g b e A pre post an u a x d/\a<4,B8 (fun p=>?_) (fun p=>?_),?_⟩
  ·obtain ⟨j,rfl⟩:∃ j,a=j+4:=⟨a-4,by omega⟩
   refine La (j:=j+2) Ms f ?_ ?_ (by rw [C0 (by omega) (by omega)];omega) (by rw [C0 (by omega) (by omega)];omega) ?_
   ·simp (disch:=omega) only [tm4,A2w,Hk,Nt,A6y];omega
   ·simp (disch:=omega) only [tm4,A2w,Hk,Nt];omega
   intro s c
   refine La (j:=j) Ms c ?_ ?_ (by rw [C0 (by omega) (by omega)];omega) (by rw [C0 (by omega) (by omega)];omega) ?_
   ·simp (disch:=omega) only [tm4,A5p,Hk,Nt,A6y];omega
   ·simp (disch:=omega) only [tm4,A5p,Hk,Nt];omega
   intro J m
   refine ⟨j,v/100/100,?_,m,by omega⟩
   rw [C0 (by omega) (by omega),Hk (by omega),td4,Hk (by omega)]
   simp only [bD,bZ,and_true,true_and];omega
  ·exact ⟨a,v,by rw [Hk (by omega)],f,by omega⟩
  ·rintro o q z ⟨B,C,k,c,n⟩
   obtain ⟨rfl,rfl⟩:o=(B:Int)/\q=(C:Int):=by simpa using k
   exact C3o hN c n hK
end
def Va{P:dI}{h:bB}{l:List UInt8}{m:Nat}{ys:List dD}(hy:ys=yv l)(hm:m=l.length){K:Array dD->bB->Prop}(x:K ys.toArray h):wpH P (Builtin.firstCells 1 m (.string (bs l))) K h:=by
 subst hm hy
 show K _ h
 have e:((bs l).extract 0 l.length).data.map (fun b=>bC .u8 b.toNat)=(yv l).toArray:=by
  rw [O7]
  apply Array.toList_inj.1
  simp [bs,yv]
 rw [e];exact x
def Wd{P:dI}{t e e' ty:bV}{z:dD}{bytes:Nat}(st:SliceT P t e z 1 bytes){h g:bB}{A:Option bH}{n c:Nat}{xs:List dD}(p:eO h g e' 1 A n c xs)
 {B:Option bH} {m d:Nat} {ys:List dD} (hy:ys.length=m) (hc:SlV h B ys) (h1:∀ v∈ys,A5c v=true) (hb:(2*(n+m)+192)*bytes<=281474976710656) (hm:n+m<=9223372036854775807) {K:VP}
 (x1:n+m<=c->∀ h',eO h' g e' 1 A (n+m) c (xs++ys)->K (.slice A (n+m) c) h') (x2:c<n+m->∀ A' c' h' g',g.le g'->eO h' g' e 1 A' (n+m) c' (xs++ys)->K (.slice A' (n+m) c') h'):
 wpH P (dR #[t,t] ty #[.slice A n c,.slice B m d]) K h:=by
 obtain ⟨i,s,hz,M,D⟩:=st.parts
 have L:=st.pos
 have r:=p.1
 rw [cJ] at r
 unfold dR
 simp only [dG,aG,aI,C8,F4 st.und,M0 s,H1,fE,if_false,gG,M,Bool.not_false,if_true]
 by_cases f:n+m<=c
 ·simp only [f,if_true,C8]
  refine N5 (by omega) hc ?_
  rcases p.2.2 with ⟨R,X⟩|⟨b,k,hA,S,Z,o,C⟩
  ·have V:n=0:=by omega
   have T:m=0:=by omega
   subst V;subst X
   have F:ys=[]:=aM (by omega)
   have O:xs=[]:=aM (by omega)
   have G:K (.slice A (0+m) c) h:=x1 f h ⟨by rw [F,O,T];rfl,by omega,.inl ⟨R,rfl⟩⟩
   subst F
   cases A with
   | none=>exact G
   | some a=>exact G
  ·subst hA
   simp only [C8,E6,eW]
   rw [Z]
   rw [cJ] at o C ⊢
   refine J8 ys.toArray.toList n 0 k ?_ (fun v hv=>h1 v (by simpa using hv)) ?_
   ·simp only
    omega
   ·simp only [H1,dV]
    refine x1 f _ ⟨by rw [aH];omega,f,.inr ⟨b,_,rfl,S,rfl,?_,?_⟩⟩
    ·simp only [L4,aH,aF,aN,o,hy];omega
    ·have u:(k.take n).length=n:=by rw [aF,o];omega
     unfold L4
     have t1:(k.take n).take (n+m)=k.take n:=aL (by rw [u];omega)
     have t2:ys.take m=ys:=aL (by omega)
     rw [cJ,aR,dM,u,cK,dM,t1,t2,hy,gJ,List.take_zero,cC,C]
 ·have E:c<n+m:=by omega
  simp only [f,if_false,C8,J3 s,D]
  have J:=Px E
  have aa:Builtin.nextslicecap (n+m) c*bytes<=281474976710656:=fA (Nat.mul_le_mul_right _ J) hb
  rw [iN (by rintro ⟨h',_⟩;simp only [IntKind.max,IntKind.signed,IntKind.bits] at h';simp at h';omega)]
  simp only [C8,J3 s,D]
  rw [iN (by simp only [show (2^48:Nat)=281474976710656 from rfl];omega)]
  simp only [H1,C8]
  refine Jl rfl fun tt=>?_
  simp only [Fl,J3 s]
  have y:xs=[]\/∃ a,A=some a/\∀ j v,xs[j]? = some v->h.cell? (a.add j)=some v:=p.slV
  refine N5 p.1 y ?_
  refine N5 (by omega) hc ?_
  simp only [S6 s hz,S7]
  intro b q
  have w:∃ l,(Question.appendCap (n+m) c e).cut tt=l/\n+m<=l:=⟨_,rfl,by simp only [Question.cut];omega⟩
  obtain ⟨l,N,W⟩:=w
  rw [N]
  have H:=p.le
  refine x2 E _ l _ h H ⟨by rw [aH];omega,W,.inr ⟨b,xs++ys++(dH z.cells (l-(n+m))).toList,rfl,q,?_,?_,?_⟩⟩
  ·congr 1;simp
  ·have Q:(dH z.cells (l-(n+m))).toList.length=l-(n+m):=by simp [dH,st.cells]
   rw [aH,aH,r,hy,Q];omega
  ·rw [cJ,cN (by rw [aH];omega),aL (by rw [aH];omega)]
def B0i{P:dI}{t e e' ty t2:bV}{z:dD}{bytes:Nat}(st:SliceT P t e z 1 bytes)(hu:P.underlying t2=some .string){h g:bB}{A:Option bH}{n c:Nat}{xs:List dD}(p:eO h g e' 1 A n c xs)
 {m:Nat} {l:List UInt8} {ys:List dD} (hly:ys=yv l) (hm0:m=l.length) (hy:ys.length=m) (h1:∀ v∈ys,A5c v=true) (hb:(2*(n+m)+192)*bytes<=281474976710656) (hm:n+m<=9223372036854775807) {K:VP}
 (x1:n+m<=c->∀ h',eO h' g e' 1 A (n+m) c (xs++ys)->K (.slice A (n+m) c) h') (x2:c<n+m->∀ A' c' h' g',g.le g'->eO h' g' e 1 A' (n+m) c' (xs++ys)->K (.slice A' (n+m) c') h'):
 wpH P (dR #[t,t2] ty #[.slice A n c,.string (bs l)]) K h:=by
 obtain ⟨i,s,hz,L,C⟩:=st.parts
 have J:=st.pos
 have r:=p.1
 rw [cJ] at r
 unfold dR
 simp only [dG,aG,aI,C8,F4 st.und,F4 hu,M0 s,H1,fE,if_false,gG,L,Bool.not_false,if_true,L6,<- hm0]
 by_cases d:n+m<=c
 ·simp only [d,if_true,C8]
  refine Va hly hm0 ?_
  rcases p.2.2 with ⟨Q,V⟩|⟨b,f,X,R,W,o,B⟩
  ·have S:n=0:=by omega
   have hm0:m=0:=by omega
   subst S;subst V
   have E:ys=[]:=aM (by omega)
   have N:xs=[]:=aM (by omega)
   have F:K (.slice A (0+m) c) h:=x1 d h ⟨by rw [E,N,hm0];rfl,by omega,.inl ⟨Q,rfl⟩⟩
   subst E
   cases A with
   | none=>exact F
   | some a=>exact F
  ·subst X
   simp only [C8,E6,eW]
   rw [W]
   rw [cJ] at o B ⊢
   refine J8 ys.toArray.toList n 0 f ?_ (fun v Z=>h1 v (by simpa using Z)) ?_
   ·simp only
    omega
   ·simp only [H1,dV]
    refine x1 d _ ⟨by rw [aH];omega,d,.inr ⟨b,_,rfl,R,rfl,?_,?_⟩⟩
    ·simp only [L4,aH,aF,aN,o,hy];omega
    ·have u:(f.take n).length=n:=by rw [aF,o];omega
     unfold L4
     have t1:(f.take n).take (n+m)=f.take n:=aL (by rw [u];omega)
     have t2:ys.take m=ys:=aL (by omega)
     rw [cJ,aR,dM,u,cK,dM,t1,t2,hy,gJ,List.take_zero,cC,B]
 ·have D:c<n+m:=by omega
  simp only [d,if_false,C8,J3 s,C]
  have H:=Px D
  have aa:Builtin.nextslicecap (n+m) c*bytes<=281474976710656:=fA (Nat.mul_le_mul_right _ H) hb
  rw [iN (by rintro ⟨h',_⟩;simp only [IntKind.max,IntKind.signed,IntKind.bits] at h';simp at h';omega)]
  simp only [C8,J3 s,C]
  rw [iN (by simp only [show (2^48:Nat)=281474976710656 from rfl];omega)]
  simp only [H1,C8]
  refine Jl rfl fun tt=>?_
  simp only [Fl,J3 s]
  have y:xs=[]\/∃ a,A=some a/\∀ j v,xs[j]? = some v->h.cell? (a.add j)=some v:=p.slV
  refine N5 p.1 y ?_
  refine Va hly hm0 ?_
  simp only [S6 s hz,S7]
  intro b q
  have w:∃ k,(Question.appendCap (n+m) c e).cut tt=k/\n+m<=k:=⟨_,rfl,by simp only [Question.cut];omega⟩
  obtain ⟨k,M,T⟩:=w
  rw [M]
  have G:=p.le
  refine x2 D _ k _ h G ⟨by rw [aH];omega,T,.inr ⟨b,xs++ys++(dH z.cells (k-(n+m))).toList,rfl,q,?_,?_,?_⟩⟩
  ·congr 1;simp
  ·have O:(dH z.cells (k-(n+m))).toList.length=k-(n+m):=by simp [dH,st.cells]
   rw [aH,aH,r,hy,O];omega
  ·rw [cJ,cN (by rw [aH];omega),aL (by rw [aH];omega)]
def A0k(l:List UInt8):∀ v∈yv l,A5c v=true:=by
 intro v a
 simp only [yv,List.mem_map] at a
 obtain ⟨c,_,rfl⟩:=a
 rfl
def Gv{P:dI}{t:bV}{z v:dD}(hz:(P.info? t).map (fun i=>i.zero)=some (some z)){K:VP}{h:bB}(x:∀ b,h b=none->K (.pointer (some ⟨b,0,none⟩)) (h.put b (.cells z.cells t))):wpH P (Instr.alloc t true v) K h:=by
 cases hi:P.info? t with
 | none=>rw [hi] at hz;cases hz
 | some i=>
  rw [hi] at hz
  simp only [gP,gI] at hz
  unfold Instr.alloc
  simp only [C8,S6 hi hz]
  unfold newVar
  simp only [S7,H1]
  exact x
def A8r:(prog.info? Tu).map (fun i=>i.zero)=some (some (.agg (fV 24 (.int .u8 0)))):=by kernel_rfl
def Gp(h:bB):Prop:=∀ k,k<20->h.cell? (eM ⟨3,0,none⟩ (k*1))=some (U ((10^k:Nat):Int))
def Gp.mono{h h':bB}(g:Gp h)(l:h.le h'):Gp h':=fun k a=>C1 l (g k a)
section
variable {h g:bB} {K:VP}
def Yg{i:Nat}(hi:i<100)(hK:K (.string (bs (O9 i))) h):aZ prog Th #[I i] h K:=by
 refine B59 _ ?_
 unfold C04
 have key:∀ i:Nat,i<100->(i<10->A0o.extract i (i+1)=bs (O9 i))/\(¬ i<10->J9.extract (2*i) (2*i+2)=bs (O9 i)):=by
  intro i hi
  have f:O9 i=if i<10 then [dch i] else [dch (i/10),dch (i%10)]:=by
   split
   ·by_cases a:i=0
    ·subst a;rfl
    ·rw [Ao a,By a,show i/10=0 by omega,K7,show i%10=i by omega];rfl
   ·rw [Ao (by omega),By (by omega),By (by omega),show i/10/10=0 by omega,K7,show i/10%10=i/10 by omega];rfl
  rw [f]
  revert i
  decide +kernel
 obtain ⟨d,c⟩:=key i hi
 refine B8 (fun g=>?_) (fun g=>?_)
 ·have b:B7 ((i:Int)+1)=((i+1:Nat):Int):=by rw [C0 (by omega) (by omega)];omega
  rw [b,aC,aC,d (by omega)]
  exact ⟨⟨by omega,by show _<=((36:Nat):Int);omega⟩,⟨by omega,by omega⟩,hK⟩
 ·have b:B7 ((i:Int)*2)=((2*i:Nat):Int):=by rw [C0 (by omega) (by omega)];omega
  have e:B7 (((2*i:Nat):Int)+2)=((2*i+2:Nat):Int):=by rw [C0 (by omega) (by omega)];omega
  rw [b,e,aC,aC,c (by omega)]
  exact ⟨⟨by omega,by show _<=((200:Nat):Int);omega⟩,⟨by omega,by omega⟩,hK⟩
def Eb{d:Nat}(gp:Gp h)(h0:d≠0)(hd:d<18446744073709551616)(hK:K (I ((dd d).length:Int)) h):aZ prog Ba #[U (d:Int)] h K:=by
 refine A21 _ ?_
 unfold Zi
 have c:O8 d<=64:=Iw hd
 obtain ⟨_,_,e⟩:=B99 (O8 d) (by omega)
 refine A82 hd ⟨_,rfl,A22 _ ?_⟩
 unfold Zj
 have a:eK (B7 ((O8 d:Int)*78913)) (2^(min ((18:Int)).toNat 64))=((ndg (O8 d):Nat):Int):=by
  rw [show (2:Int)^(min ((18:Int)).toNat 64)=262144 by decide,fC _ (by decide),C0 (by omega) (by omega)]
  unfold ndg;omega
 rw [a]
 refine ⟨_,rfl,⟨by omega,by omega⟩,_,by rw [aC];exact gp _ (by omega),B5a _ ?_⟩
 unfold C05
 rw [C3k h0 hd] at hK
 refine B8 (fun b=>⟨_,rfl,?_⟩) (fun b=>⟨_,rfl,?_⟩)
 ·rw [iP (by omega)] at hK
  rw [C0 (by omega) (by omega)]
  exact hK
 ·rw [iN (by omega)] at hK
  rw [C0 (by omega) (by omega)]
  exact hK
def We{e':bV}{A:Option bH}{n c i:Nat}{l:List UInt8}(gp:Gp h)(p:eO h g e' 1 A n c (yv l))(hi:i<18446744073709551616)(hn:n<=1000000000000)
 (hK:∀ A' c' e2 h' g',g.le g'->eO h' g' e2 1 A' (n+(O9 i).length) c' (yv (l++O9 i))->(n+(O9 i).length<=c->A'=A/\c'=c/\e2=e')->(e'=H0->e2=H0)->K (.slice A' (n+(O9 i).length:Nat) c') h'):aZ prog Gj #[.slice A n c,U (i:Int),I 10] h K:=by
 refine Xw _ _ _ _ _ ?_
 unfold Ww
 refine E5 (fun _=>?_) (fun e=>absurd rfl e)
 have y:(O9 i).length<=20:=(Tp (by decide)).2 (by show i<10^20;omega)
 refine B8 (fun G=>?_) (fun G=>?_)
 ·rw [C0 (by omega) (by omega)]
  refine Yg (by omega) ⟨_,rfl,?_⟩
  refine B0i Ha Z2 p (l:=O9 i) rfl rfl (Hn _) (A0k _) (by omega) (by omega) ?_ ?_
  ·intro j h' a
   rw [<- V9] at a
   exact ⟨_,_,_,rfl,hK _ _ _ _ _ (B5 _) a (fun _=>⟨rfl,rfl,rfl⟩) id⟩
  ·intro j A' c' h' g' q a
   rw [<- V9] at a
   exact ⟨_,_,_,rfl,hK _ _ _ _ _ q a (fun e=>by omega) (fun _=>rfl)⟩
 ·refine Gv A8r ?_
  intro b f
  have L:(Value.agg (fV 24 (.int .u8 0))).cells=((aD 24 (0:Int)).map (bC .u8)).toArray:=by rfl
  rw [L]
  have C:Win .u8 (h.put b (.cells ((aD 24 (0:Int)).map (bC .u8)).toArray Tu)) h b Tu (some ⟨b,0,none⟩) [] (aD 24 (0:Int)) []:=⟨f,by simp,.inr rfl⟩
  generalize (h.put b (.cells ((aD 24 (0:Int)).map (bC .u8)).toArray Tu))=h1' at *
  refine ⟨_,rfl,Eb (gp.mono C.le) (by omega) hi ⟨_,rfl,?_⟩⟩
  have z:O9 i=dd i:=Ao (by omega)
  rw [z] at y hK
  refine ⟨⟨by omega,by omega⟩,?_⟩
  rw [aC,bX]
  have F:=C.sub (l:=0) (m:=(dd i).length) (c:=24) (by omega) (by simp;omega) (by simp)
  have u:((aD 24 (0:Int)).drop 0).take ((dd i).length-0)=aD (dd i).length 0:=by
   rw [cO,cH,bX,aJ (by omega)]
  rw [u] at F
  have t:i<10^(dd i).length:=S4.1 (aY _)
  refine Ab F (by simp) (by omega) t hi ?_
  intro E w
  refine ⟨rfl,⟨by omega,by omega⟩,?_⟩
  have r:pad (dd i).length i=dd i:=by simp [pad]
  rw [r] at w
  have M:SlV E (H9 (some ⟨b,0,none⟩) 24 0 1) (yv (dd i)):=by
   have:=w.sl
   unfold SlI at this
   rw [C2z] at this
   exact this
  have s:=w.eq
  obtain ⟨o,ho⟩:∃ o,E=h.put b o:=⟨_,s⟩
  subst ho
  have J:=p.put f o
  have d:g.le (g.put b o):=by
   intro k H D
   have B:k≠b:=by
    rintro rfl
    rw [p.le k H D] at f;cases f
   rw [B9 _ _ B];exact D
  refine Wd Ha J (Hn _) M (A0k _) (by omega) (by omega) ?_ ?_
  ·intro j h' a
   rw [<- V9] at a
   exact ⟨_,_,_,rfl,hK _ _ _ _ _ d a (fun _=>⟨rfl,rfl,rfl⟩) id⟩
  ·intro j A' c' h' g' q a
   rw [<- V9] at a
   exact ⟨_,_,_,rfl,hK _ _ _ _ _ (B0 d q) a (fun e=>by omega) (fun _=>rfl)⟩
end
structure Ext (g:bB) (e':bV) (A:Option bH) (n c:Nat) (l t:List UInt8) (A':Option bH) (n' c':Nat) (e2:bV) (g' h':bB):Prop where
 le:g.le g'
 priv:eO h' g' e2 1 A' n' c' (yv (l++t))
 len:n'=n+t.length
 fit:n+t.length<=c->A'=A/\c'=c/\e2=e'
 tag:e'=H0->e2=H0
def Ext.trans{g g1 g2 h1 h2:bB}{e' e1 e2:bV}{A A1 A2:Option bH}{n c n1 c1 n2 c2:Nat}{l t s:List UInt8}(x:Ext g e' A n c l t A1 n1 c1 e1 g1 h1)(y:Ext g1 e1 A1 n1 c1 (l++t) s A2 n2 c2 e2 g2 h2):Ext g e' A n c l (t++s) A2 n2 c2 e2 g2 h2:=by
 refine ⟨B0 x.le y.le,?_,?_,?_,fun e=>y.tag (x.tag e)⟩
 ·have:=y.priv;rwa [aR] at this
 ·rw [y.len,x.len,aH];omega
 ·intro a
  rw [aH] at a
  obtain ⟨rfl,rfl,rfl⟩:=x.fit (by omega)
  have b:=x.len
  exact y.fit (by omega)
section
variable {h g:bB} {K:VP} {A:Option bH} {n c:Nat} {e':bV} {l:List UInt8}
def Hc{i:Nat}(gp:Gp h)(p:eO h g e' 1 A n c (yv l))(hi:i<18446744073709551616)(hn:n<=1000000000000)
 (hK:∀ A' n' c' e2 g' h',Ext g e' A n c l (O9 i) A' n' c' e2 g' h'->K (.slice A' n' c') h'):aZ prog Gq #[.slice A n c,U (i:Int),I 10] h K:=by
 refine Yc _ _ _ _ _ ?_
 unfold Xb
 refine We gp p hi hn ?_
 intro A' c' e2 h' g' d a b e
 exact ⟨_,_,_,rfl,hK _ _ _ _ _ _ ⟨d,a,rfl,b,e⟩⟩
def Np{ch:UInt8}{v:Int}(hv:v=(ch.toNat:Int))(p:eO h g e' 1 A n c (yv l))(hn:n<=1000000000000){KK:Option bH->Nat->Nat->bB->Prop}
 (x:∀ A' n' c' e2 g' h',Ext g e' A n c l [ch] A' n' c' e2 g' h'->KK A' n' c' h'):
 wpH prog (Instr.buildSlice Hp 1 #[(0,Y v)]) (fun v1 hp1=>∃ (A1:Option bH) (n1 c1:Nat),v1= .slice A1 n1 c1/\wpH prog (dR #[Hp,Hp] Hp #[.slice A n c,.slice A1 n1 c1]) (fun v2 hp2=>∃ (A2:Option bH) (n2 c2:Nat),v2= .slice A2 n2 c2/\KK A2 n2 c2 hp2) hp1) h:=by
 subst hv
 refine Bi Ha rfl ?_
 intro b a
 refine ⟨_,_,_,rfl,?_⟩
 have y:=p.put a (.cells #[Y (ch.toNat:Int)] H0)
 have d:g.le (g.put b (.cells #[Y (ch.toNat:Int)] H0)):=by
  intro k r o
  have i:k≠b:=by
   rintro rfl
   rw [p.le k r o] at a;cases a
  rw [B9 _ _ i];exact o
 have t:SlV (h.put b (.cells #[Y (ch.toNat:Int)] H0)) (some ⟨b,0,none⟩) (yv [ch]):=by
  refine .inr ⟨_,rfl,fun j u q=>?_⟩
  rw [E6,E9]
  match j with
  | 0=>simpa [yv] using q
  | j+1=>simp [yv] at q
 refine Wd Ha y (m:=1) (ys:=yv [ch]) rfl t (A0k _) (by omega) (by omega) ?_ ?_
 ·intro w h' f
  rw [<- V9] at f
  exact ⟨_,_,_,rfl,x _ _ _ _ _ _ ⟨d,f,rfl,fun _=>⟨rfl,rfl,rfl⟩,id⟩⟩
 ·intro w A' c' h' g' s f
  rw [<- V9] at f
  exact ⟨_,_,_,rfl,x _ _ _ _ _ _ ⟨B0 d s,f,rfl,fun e=>by simp at e;omega,fun _=>rfl⟩⟩
def A7m{i:Int}(h:i<0):Mz i=[45]++O9 i.natAbs:=by unfold Mz;rw [iP h];rfl
def Sy{i:Int}(h:¬ i<0):Mz i=O9 i.natAbs:=by unfold Mz;rw [iN h]
def A2p{b:Nat}{e:bV}{B:Option bH}{pre post:List dD}{s:List UInt8}(w:Win .u8 h g b e B pre (zb s) post):SlV h B (yv s):=by
 have:=w.sl
 unfold SlI at this
 rw [C2z] at this
 exact this
def Xj{i:Int}(gp:Gp h)(h1: -9223372036854775808<=i)(h2:i<9223372036854775808)(hK:K (.string (bs (Mz i))) h):aZ prog Iq #[I i,I 10] h K:=by
 refine FCall.pure (A2e _ _ ?_)
 unfold Zx
 refine A24 _ _ ?_
 unfold Zl
 refine E5 (fun _=>?_) (fun e=>absurd rfl e)
 refine ⟨fun L p=>L=[.bool (decide (0<=i/\i<100))]/\p=h,B8 (fun g=>⟨by simp [g],rfl⟩) (fun g=>⟨by simp [g],rfl⟩),?_⟩
 rintro t p ⟨E,rfl⟩
 obtain rfl:t=decide (0<=i/\i<100):=by simpa using E
 refine B8 (fun g=>?_) (fun g=>?_)
 ·obtain ⟨k,rfl⟩:∃ k:Nat,i=k:=⟨i.toNat,by omega⟩
  refine Yg (by omega) ⟨_,rfl,⟨_,rfl,B5 _,?_⟩⟩
  rw [Sy (by omega)] at hK
  exact hK
 ·refine Gv A8r ?_
  intro b D
  have M:(Value.agg (fV 24 (.int .u8 0))).cells=((aD 24 (0:Int)).map (bC .u8)).toArray:=by rfl
  rw [M]
  have q:Win .u8 (p.put b (.cells ((aD 24 (0:Int)).map (bC .u8)).toArray Tu)) p b Tu (some ⟨b,0,none⟩) [] (aD 24 (0:Int)) []:=⟨D,by simp,.inr rfl⟩
  generalize (p.put b (.cells ((aD 24 (0:Int)).map (bC .u8)).toArray Tu))=hp1 at *
  refine ⟨_,rfl,?_⟩
  obtain ⟨u,hu⟩:∃ u:Nat,u=i.natAbs:=⟨_,rfl⟩
  have a:u≠0:=by omega
  have C:O9 u=dd u:=Ao a
  have J:(dd u).length<=20:=S4.2 (by show u<10^20;omega)
  have z:B7 (1+(((dd u).length:Nat):Int))=((1+(dd u).length:Nat):Int):=by rw [C0 (by omega) (by omega)];omega
  have y:=q.sub (l:=1) (m:=1+(dd u).length) (c:=24) (by omega) (by simp;omega) (by simp)
  have s:((aD 24 (0:Int)).drop 1).take (1+(dd u).length-1)=aD (dd u).length 0:=by
   rw [bI,cH,aJ (by omega)];congr 1;omega
  rw [s] at y
  have o:u<10^(dd u).length:=S4.1 (aY _)
  have n:pad (dd u).length u=dd u:=by simp [pad]
  have f:1+(dd u).length-1=(dd u).length:=by omega
  refine B8 (fun j=>?_) (fun j=>?_)
  ·rw [A7m j,<- hu,C] at hK
   have e:C3 (0-C3 i)=(u:Int):=by rw [F6,F6];omega
   rw [e]
   refine Eb (gp.mono q.le) a (by omega) ⟨_,rfl,?_⟩
   rw [z,aC]
   refine ⟨⟨by omega,by omega⟩,⟨by omega,by omega⟩,?_⟩
   rw [show ((1:Int)).toNat=1 from rfl,f]
   refine Ab y (by simp) (by omega) o (by omega) ?_
   intro r d
   rw [n] at d
   refine ⟨rfl,B8 (fun _=>?_) (fun w=>absurd j w)⟩
   have G:=q.whole (l:=1) (m:=1+(dd u).length) (by omega) (by simp;omega) (by rw [Hl];omega) d
   refine ⟨⟨by omega,by omega⟩,?_⟩
   rw [show ((0:Int)).toNat=0 from rfl]
   refine G.storeN Ms rfl (by simp) ?_
   intro H B
   refine ⟨⟨by omega,by omega⟩,?_⟩
   have A:=B.sub (l:=0) (m:=1+(dd u).length) (c:=24) (by omega) (by simp [Hl];omega) (by simp [Hl];omega)
   have F:((((aD 24 (0:Int)).take 1++zb (dd u)++(aD 24 (0:Int)).drop (1+(dd u).length)).set 0 45).drop 0).take (1+(dd u).length-0)=zb ([45]++dd u):=by
    rw [cO,cH,show min 1 24=1 from rfl,show aD 1 (0:Int)=[0] from rfl,aR,List.singleton_append,List.set_cons_zero,bX,Nat.add_comm 1,List.take_succ_cons,dE (Hl _)]
    rfl
   rw [F] at A
   refine Nb Ha.und Em Z2 (A2p A) (by simp;omega) ⟨_,rfl,_,rfl,?_,hK⟩
   exact B.le
  ·rw [Sy j,<- hu,C] at hK
   have e:C3 i=(u:Int):=by rw [F6];omega
   rw [e]
   refine Eb (gp.mono q.le) a (by omega) ⟨_,rfl,?_⟩
   rw [z,aC]
   refine ⟨⟨by omega,by omega⟩,⟨by omega,by omega⟩,?_⟩
   rw [show ((1:Int)).toNat=1 from rfl,f]
   refine Ab y (by simp) (by omega) o (by omega) ?_
   intro r d
   rw [n] at d
   refine ⟨rfl,B8 (fun w=>absurd w j) (fun _=>?_)⟩
   refine ⟨⟨by omega,by omega⟩,⟨by omega,by omega⟩,?_⟩
   exact Nb Ha.und Em Z2 (A2p d) rfl ⟨_,rfl,_,rfl,d.le,hK⟩
def Xn{s q:List UInt8}(hK:K (.tuple #[.string (bs (if q <+: s then s.drop q.length else s)),.bool (decide (q <+: s))]) h):aZ prog Ir #[.string (bs s),.string (bs q)] h K:=by
 refine A2f _ _ ?_
 unfold Zy
 refine A25 _ _ ?_
 unfold Zm
 have b:aZ prog Ii #[.string (bs s),.string (bs q)] h (fun r b=>r= .bool (decide (q <+: s))/\b=h):=by
  refine A23 _ _ ?_
  unfold Zk
  simp only [L6]
  refine B8 (fun a=>?_) (fun a=>?_)
  ·refine ⟨⟨by omega,by omega⟩,?_,trivial⟩
   rw [aC,O7,Ow]
   congr 1
   rw [decide_eq_decide,cO,bX,List.prefix_iff_eq_take]
   exact eq_comm
  ·refine ⟨?_,trivial⟩
   congr 1
   symm
   rw [decide_eq_false_iff_not]
   intro c
   have:=c.length_le
   omega
 refine b.mono ?_
 rintro r d ⟨rfl,rfl⟩
 refine ⟨_,rfl,Br.not (B8 (fun a=>?_) (fun a=>?_))⟩
 ·rw [iP a,decide_eq_true a] at hK
  have:=a.length_le
  simp only [L6]
  refine ⟨⟨by omega,by omega⟩,_,_,rfl,?_⟩
  rw [aC,O7,aL (by rw [aN];omega)]
  exact hK
 ·rw [iN a,decide_eq_false a] at hK
  exact ⟨_,_,rfl,hK⟩
end
abbrev cB:Int:=10000000000000000000
section
variable {h g:bB} {K:VP} {A B:Option bH} {ac bc:Nat}
def C44{Invv:LP}{muv:LN}{WA CA:Option bH}{wn wc cn cc:Nat}{us:List Int}{hp1 g1:bB}(p:Pw hp1 g1 WA wn wc us)(hne:us≠[])(hwn:wn=us.length)(du:Dig b64 us)(hl:wn<=100000000)
 (hK:∀ (ws:List Int) (m:Nat) (r:Int) (hp2:bB),Pw hp2 g1 WA m wc (ws.take m)->m=(ws.take m).length->m<=wn->gC (ws.take m)->Dig b64 (ws.take m)->val b64 us=val b64 (ws.take m)*cB+r->(0<=r/\r<cB)->
  wpH prog (Instr.buildSlice Aj 1 #[(0,U r)]) (fun v hp6=>∃ (t44A:Option bH) (t44n:Nat) (t44c:Nat),v= .slice t44A t44n t44c/\wpH prog (dR #[Aj,Aj] Aj #[.slice CA cn cc,.slice t44A t44n t44c]) (fun v1 hp7=>∃ (t45A:Option bH) (t45n:Nat) (t45c:Nat),v1= .slice t45A t45n t45c/\Invv [.slice WA m wc,.slice t45A t45n t45c] hp7/\muv [.slice WA m wc,.slice t45A t45n t45c] hp7<muv [.slice WA wn wc,.slice CA cn cc] hp1) hp6) hp2):
 Dk prog Invv muv WA wn wc CA cn cc hp1:=by
 obtain ⟨b,f,G,R⟩:=Fj p hne
 unfold Dk
 refine ⟨fun s M=>∃ (k:Nat) (r:Int) (ws:List Int),s=[U r,I ((k:Int)-1)]/\k<=wn/\(0<=r/\r<cB)/\ws.length=us.length/\Dig b64 ws/\Win .u64 M g1 b C4 WA [] ws f/\ws.take k=us.take k/\val b64 (us.drop k)=val b64 (ws.drop k)*cB+r,fun s _=>(iAt s 1+1).toNat,⟨wn,0,us,by rw [C0 (by omega) (by omega)],by omega,by decide,rfl,du,G,rfl,by rw [aV (by omega)];simp [val]⟩,?_⟩
 rintro c i hp2 ⟨k,r,ws,O,Q,t,g,o,w,l,u⟩
 obtain ⟨rfl,rfl⟩:c=r/\i=(k:Int)-1:=by simpa using O
 refine B8 (fun E=>?_) (fun E=>?_)
 ·obtain ⟨j,rfl⟩:∃ j,k=j+1:=⟨k-1,by omega⟩
  have e:((j+1:Nat):Int)-1=(j:Int):=by omega
  rw [e]
  have H:=O6 o j
  refine w.sl.load (by omega) (by omega) (by omega) ?_
  rw [aC]
  refine To (y:=10000000000000000000) t H (by decide) ⟨_,_,rfl,?_⟩
  have N:us.getD j 0=ws.getD j 0:=by
   have n:(ws.take (j+1)).getD j 0=(us.take (j+1)).getD j 0:=by rw [l]
   simpa [cR,List.getElem?_take] using n.symm
  generalize hx:ws.getD j 0=x at *
  have J:0<=c/\c<10000000000000000000:=t
  have T:0<=c*18446744073709551616+x:=by omega
  have D:0<=(c*18446744073709551616+x)/10000000000000000000/\(c*18446744073709551616+x)/10000000000000000000<18446744073709551616:=by omega
  obtain ⟨a,B,_⟩:=SlV.at w.sl (i:=j) (by simp;omega)
  refine ⟨a,B,by omega,by omega,w.storeN G7 B (by omega) ?_⟩
  intro S L
  rw [C0 (by omega) (by omega)]
  refine ⟨⟨j,_,_,rfl,by omega,by show _/\_<(10000000000000000000:Int);omega,by simpa using g,o.set D,L,?_,?_⟩,by simp only [iAt,aG,aI];omega⟩
  ·rw [gD (by omega)]
   have n:=congrArg (List.take j) l
   rw [List.take_take,List.take_take,aJ (by omega)] at n
   exact n
  ·rw [Y6 (by omega),Mq b64 (by omega),u,N]
   have:=aO (c*18446744073709551616+x) 10000000000000000000
   simp only [val]
   generalize (c*18446744073709551616+x)/10000000000000000000=q at *
   generalize (c*18446744073709551616+x)%10000000000000000000=s at *
   grind
 ·obtain rfl:k=0:=by omega
  rw [cO,cO] at u
  rw [show wn=ws.length by omega] at hK ⊢
  refine Ej w.sl (by omega) (by omega) ?_
  intro m A F z
  refine ⟨_,_,_,rfl,?_⟩
  have d:ws≠[]:=by intro C;apply hne;exact aM (by rw [<- g,C];rfl)
  exact hK ws m c hp2 (w.priv d (by omega) A) (by rw [aF];omega) A F (o.take m) (by rw [z];exact u) t
end
def nv:List Nat->Nat
 | []=>0
 | c::r=>c+10^19*nv r
def B2q(ns:List Nat)(c:Nat):((nv (ns++[c]):Nat):Int)=(nv ns:Int)+cB^ns.length*(c:Int):=by
 induction ns with
 | nil=>simp [nv]
 | cons d r ih=>
  have e:((10^19:Nat):Int)=cB:=by decide
  simp only [List.cons_append,nv,fK,bF,eS,cD,ih,e]
  grind
def C5t{ns:List Nat}(h:∀ c∈ns,c<10^19):nv ns<10^(19*ns.length):=by
 induction ns with
 | nil=>simp [nv]
 | cons d r ih=>
  have b:=h d (by simp)
  have e:=ih fun c a=>h c (by simp [a])
  simp only [nv,fK]
  rw [show 19*(r.length+1)=19+19*r.length by omega,dS]
  have:=eV (10^19) (show nv r+1<=10^(19*r.length) by omega)
  rw [fY] at this;omega
def C5s{ns:List Nat}(hne:ns≠[])(h:ns.getLast? ≠ some 0):nv ns≠0:=by
 induction ns with
 | nil=>exact absurd rfl hne
 | cons d r ih=>
  cases r with
  | nil=>simp at h;simp [nv];exact h
  | cons e s=>
   have:=ih (by simp) (by simpa [List.getLast?_cons_cons] using h)
   simp only [nv] at this ⊢
   have a:0<10^19*(e+10^19*nv s):=Nat.mul_pos (by decide) (by omega)
   omega
def B7c{c:Nat}:aD (19-(O9 c).length) 48++O9 c=pad 19 c:=by
 unfold O9 pad
 split
 ·rename_i h;subst h;rw [K7];rfl
 ·rfl
def B2j{c w:Nat}(h:c≠0):aD (w-(O9 c).length) 48++O9 c=pad w c:=by
 unfold O9 pad;rw [iN h]
def A9v{w n k:Nat}(h:n<10^k):(pad w n).length<=w+k:=by
 unfold pad
 have:=S4.2 h
 rw [aH,cI];omega
def B1a(W:Nat)(ns:List Nat)(k:Nat):List UInt8:=if k<ns.length then pad (W-19*k) (nv (ns.drop k)) else []
def B6p{W:Nat}{ns:List Nat}(h:∀ c∈ns,c<10^19)(k:Nat):(B1a W ns k).length<=W+19*ns.length:=by
 unfold B1a
 split
 ·have:=A9v (w:=W-19*k) (C5t (ns:=ns.drop k) fun c a=>h c (List.mem_of_mem_drop a))
  rw [aN] at this;omega
 ·simp
def B1q{W:Nat}{ns:List Nat}(hb:∀ c∈ns,c<10^19)(ht:ns.getLast? ≠ some 0){j:Nat}(hj:j<ns.length):B1a W ns j=B1a W ns (j+1)++(aD ((if j+1=ns.length then max (O9 ns[j]).length (W-19*j) else 19)-(O9 ns[j]).length) 48++O9 ns[j]):=by
 have e:ns.drop j=ns[j]::ns.drop (j+1):=cG hj
 unfold B1a
 rw [iP hj,e]
 by_cases h:j+1=ns.length
 ·rw [iN (by omega),iP h,cQ,aV (by omega)]
  have a:ns[j]≠0:=by
   intro b
   apply ht
   rw [gU,<- h,gH,cY hj,b]
  rw [show max (O9 ns[j]).length (W-19*j)-(O9 ns[j]).length=(W-19*j)-(O9 ns[j]).length by omega,B2j a]
  simp [nv]
 ·rw [iP (by omega),iN h,B7c]
  have d:nv (ns.drop (j+1))≠0:=by
   apply C5s
   ·intro f;have:=congrArg gO f;rw [aN] at this;simp at this;omega
   ·rw [List.getLast?_drop,iN (by omega)];exact ht
  have:=A3l (w:=W-19*j) (h:=nv (ns.drop (j+1))) (l:=ns[j]) (k:=19) (hb _ (eC hj)) (.inl d)
  rw [Nat.sub_sub] at this
  rw [show 19*(j+1)=19*j+19 by omega,<- this]
  congr 1
  simp only [nv];rw [eZ];omega
def Priv.clear{h g:bB}{e:bV}{A:Option bH}{n c:Nat}{xs:List dD}(p:eO h g e 1 A n c xs):eO h g e 1 A 0 c []:=by
 obtain ⟨m,o,d⟩:=p
 refine ⟨by simp,by omega,?_⟩
 rcases d with d|⟨b,a,f,k,j,i,l⟩
 ·exact .inl d
 ·exact .inr ⟨b,a,f,k,j,i,by simp⟩
def nz(ns:List Nat):List Int:=ns.map fun (x:Nat)=>(x:Int)
def Bx(g:bB)(eT:bV)(A:Option bH)(n c:Nat)(l:List UInt8)(p:bH)(CA:Option bH)(ns:List Nat)(bl t:List UInt8)(tA:Option bH)(tn tc:Nat)(hp:bB):Prop:=
 ∃ e2 gA gB,Ext g eT A n c l t tA tn tc e2 gA hp/\eO gA gB B1l 1 (some p) bl.length 20 (yv bl)/\g.le gB/\SlI .u64 gB CA (nz ns)
section
variable {h g:bB} {K:VP} {A CA:Option bH} {n c:Nat} {eT:bV} {l:List UInt8} {p:bH} {ns:List Nat}
def A7h{bl t s:List UInt8}{tA tA':Option bH}{tn tc tn' tc':Nat}{e2 e3:bV}{gA gB g' hp hp':bB}(x:Ext g eT A n c l t tA tn tc e2 gA hp)(q:eO gA gB B1l 1 (some p) bl.length 20 (yv bl))(lg:g.le gB)(sc:SlI .u64 gB CA (nz ns))(y:Ext gA e2 tA tn tc (l++t) s tA' tn' tc' e3 g' hp'):Bx g eT A n c l p CA ns bl (t++s) tA' tn' tc' hp':=by
 obtain ⟨a,b,d⟩:=q.after y.le
 exact ⟨e3,g',a,x.trans y,d,B0 lg b,sc.mono b⟩
def B82{Invv2:LP}{muv2:LN}{tA:Option bH}{tn tc q:Nat}{first:Bool}{i1 size:Int}{bl t:List UInt8}{hp9 hp11:bB}(x:Bx g eT A n c l p CA ns bl t tA tn tc hp11)(hq:B7 (size-((bl.length:Nat):Int))=(q:Int))(hb:n+t.length+q+bl.length<=100000000000)
 (hK:∀ tA' tn' tc' hp',Bx g eT A n c l p CA ns bl (t++(aD q 48++bl)) tA' tn' tc' hp'->Invv2 [.slice tA' tn' tc',.bool false,I (B7 (i1-1))] hp'/\muv2 [.slice tA' tn' tc',.bool false,I (B7 (i1-1))] hp'<muv2 [.slice tA tn tc,.bool first,I i1] hp9):
 Bq prog Invv2 muv2 tA tn tc first i1 (some p) bl.length 20 size hp9 hp11:=by
 unfold Bq
 rw [hq]
 refine ⟨fun s o=>∃ (k:Nat) (tA:Option bH) (tn tc:Nat),s=[.slice tA tn tc,I k]/\k<=q/\Bx g eT A n c l p CA ns bl (t++aD k 48) tA tn tc o,fun s _=>q-(iAt s 1).toNat,⟨0,tA,tn,tc,rfl,by omega,by simpa using x⟩,?_⟩
 rintro C z B T u ⟨k,J,H,G,d,Z,X,gA,gB,ex,f,j,m⟩
 simp only [bD,bW,bZ,and_true,true_and] at d
 obtain ⟨⟨rfl,rfl,rfl⟩,rfl⟩:=d
 have b:=ex.len
 rw [aH,cI] at b
 refine B8 (fun F=>?_) (fun F=>?_)
 ·refine Np (ch:=48) rfl ex.priv (by omega) ?_
  intro A' W L e3 Q r y
  rw [C0 (by omega) (by omega)]
  refine ⟨⟨k+1,_,_,_,rfl,by omega,?_⟩,by simp only [iAt,aG,aI];omega⟩
  have:=A7h ex f j m y
  rwa [aR,<- eG] at this
 ·obtain rfl:k=q:=by omega
  refine ⟨fun s o=>∃ (tA:Option bH) (tn tc:Nat),s=[.slice tA tn tc]/\Bx g eT A n c l p CA ns bl (t++(aD k 48++bl)) tA tn tc o,?_,?_⟩
  ·refine Wd Ha ex.priv (Hn bl) (SlV.mono ex.priv.le f.slV) (A0k _) (by omega) (by omega) ?_ ?_
   ·intro D r a
    rw [<- V9] at a
    refine ⟨_,_,_,rfl,_,_,_,rfl,?_⟩
    have:=A7h ex f j m (s:=bl) ⟨B5 _,a,rfl,fun _=>⟨rfl,rfl,rfl⟩,id⟩
    rwa [aR] at this
   ·intro D A' L r Q i a
    rw [<- V9] at a
    refine ⟨_,_,_,rfl,_,_,_,rfl,?_⟩
    have:=A7h ex f j m (s:=bl) ⟨i,a,rfl,fun e=>by omega,fun _=>rfl⟩
    rwa [aR] at this
  ·rintro S V M w ⟨O,R,N,d,E⟩
   simp only [bD,bW,and_true] at d
   obtain ⟨rfl,rfl,rfl⟩:=d
   exact hK _ _ _ _ E
def B80{W tn tc:Nat}{tA:Option bH}{t:List UInt8}{e2:bV}{gA hp9:bB}(x:Ext g eT A n c l t tA tn tc e2 gA hp9)(hW:W<=10000000000)(hb:tn<=10000000000)(hK:∀ A' n' c' e3 g' h',Ext g eT A n c l (t++aD W 48) A' n' c' e3 g' h'->K (.slice A' n' c') h'):Bp prog (W:Int) K tA tn tc hp9:=by
 unfold Bp
 refine ⟨fun s o=>∃ (k:Nat) (tA:Option bH) (tn' tc:Nat) (e3:bV) (g':bB),s=[.slice tA tn' tc,I k]/\k<=W/\tn'=tn+k/\Ext g eT A n c l (t++aD k 48) tA tn' tc e3 g' o,fun s _=>W-(iAt s 1).toNat,⟨0,tA,tn,tc,e2,gA,rfl,by omega,rfl,by simpa using x⟩,?_⟩
 rintro m d f r a ⟨k,j,w,p,e3,g',b,z,i,ex⟩
 simp only [bD,bW,bZ,and_true,true_and] at b
 obtain ⟨⟨rfl,rfl,rfl⟩,rfl⟩:=b
 refine B8 (fun u=>?_) (fun u=>?_)
 ·refine Np (ch:=48) rfl ex.priv (by omega) ?_
  intro A' n' c' e q h' y
  rw [C0 (by omega) (by omega)]
  refine ⟨⟨k+1,_,_,_,e,q,rfl,by omega,?_,?_⟩,by simp only [iAt,aG,aI];omega⟩
  ·have:=y.len;simp at this;omega
  ·have:=ex.trans y
   rwa [aR,<- eG] at this
 ·obtain rfl:k=W:=by omega
  exact hK _ _ _ _ _ _ ex
def B81{W cn:Nat}{tA:Option bH}{tn tc:Nat}{hp8:bB}{b:Nat}(gp:Gp g)(hp:p=⟨b,0,none⟩)(x:Bx g eT A n c l p CA ns [] [] tA tn tc hp8)(hcn:cn=ns.length)(hb:∀ c∈ns,c<10^19)(ht:ns.getLast? ≠ some 0)(hW:W<=1000000000)(hn:n<=1000000000)(hnl:ns.length<=1000000000)
 (hK:∀ A' n' c' e3 g' h',Ext g eT A n c l (pad W (nv ns)) A' n' c' e3 g' h'->K (.slice A' n' c') h'):Bs prog tA tn tc (W:Int) K CA cn p hp8:=by
 subst hcn
 have f:H9 (some p) 20 0 1=some p:=by rw [hp];rfl
 unfold Bs
 refine ⟨fun s hp=>∃ (k:Nat) (tA:Option bH) (tn tc:Nat) (G:List UInt8),s=[.slice tA tn tc,.bool (decide (k=ns.length)),I ((k:Int)-1)]/\k<=ns.length/\Bx g eT A n c l p CA ns G (B1a W ns k) tA tn tc hp,fun s _=>(iAt s 2+1).toNat,⟨ns.length,tA,tn,tc,[],by rw [C0 (by omega) (by omega)];simp,aY _,by unfold B1a;rw [iN (by omega)];exact x⟩,?_⟩
 rintro r m o first i1 aa ⟨k,ad,ac,ab,G,O,hk,H,gA,gB,ex,C,B,L⟩
 simp only [bD,bW,bZ,Value.bool.injEq,and_true,true_and] at O
 obtain ⟨⟨rfl,rfl,rfl⟩,rfl,rfl⟩:=O
 have N:=ex.len
 have V:=B6p (W:=W) hb k
 refine B8 (fun X=>?_) (fun X=>?_)
 ·obtain ⟨j,rfl⟩:∃ j,k=j+1:=⟨k-1,by omega⟩
  have e:((j+1:Nat):Int)-1=(j:Int):=by omega
  rw [e]
  have w:j<ns.length:=by omega
  refine ⟨⟨by omega,by omega⟩,?_⟩
  refine (L.mono (B0 C.le ex.priv.le)).load (by simp [nz]) (by omega) (by simp;omega) ?_
  have hz:(nz ns).getD (j:Int).toNat 0=((ns[j]:Nat):Int):=by
   rw [aC];simp [nz,cR,w]
  rw [hz,f,show ((0:Int)).toNat-0=0 from rfl,show 20-0=20 from rfl]
  have a:=hb ns[j] (eC w)
  have ae:(O9 ns[j]).length<=20:=(Tp (by decide)).2 (cM a (by decide))
  refine ex.priv.call ?_
  refine Hc (l:=[]) (gp.mono (B0 B C.le)) C.clear (cM a (by decide)) (by omega) ?_
  intro A' n' c' e3 g' h0 y h' pt
  obtain ⟨rfl,rfl,rfl⟩:=y.fit (by omega)
  have Q:=y.len
  rw [eW] at Q
  subst Q
  refine ⟨_,_,_,rfl,?_⟩
  have S:Bx g eT A n c l p CA ns (O9 ns[j]) (B1a W ns (j+1)) r m o h':=
   ⟨H,h0,g',⟨B0 B (B0 y.le y.priv.le),pt,ex.len,ex.fit,ex.tag⟩,by simpa using y.priv,B0 B y.le,L.mono y.le⟩
  refine ⟨fun s hp=>s=[I (((if j+1=ns.length then max (O9 ns[j]).length (W-19*j) else 19):Nat):Int)]/\hp=h',B8 (fun d=>⟨?_,rfl⟩) (fun d=>⟨by rw [iN d];rfl,rfl⟩),?_⟩
  ·rw [iP d,C0 (n:=19*(j:Int)) (by omega) (by omega),C0 (by omega) (by omega)]
   simp only [bD,bZ,and_true,true_and]
   by_cases J:(W:Int)-19*(j:Int)>(((O9 ns[j]).length:Nat):Int)
   ·rw [iP J];omega
   ·rw [iN J];omega
  ·rintro i M ⟨t,rfl⟩
   obtain rfl:i=(((if j+1=ns.length then max (O9 ns[j]).length (W-19*j) else 19):Nat):Int):=by simpa using t
   have F:(O9 ns[j]).length<=19:=(Tp (by decide)).2 a
   generalize hsz:(if j+1=ns.length then max (O9 ns[j]).length (W-19*j) else 19)=sz at *
   have R:(O9 ns[j]).length<=sz/\sz<=W+20:=by
    rw [<- hsz];split<;>omega
   refine B82 (q:=sz-(O9 ns[j]).length) S (by rw [C0 (by omega) (by omega)];omega) (by have:=ex.len;omega) ?_
   intro z D E T Z
   rw [C0 (by omega) (by omega)]
   refine ⟨⟨j,z,D,E,O9 ns[j],?_,by omega,?_⟩,by simp only [iAt,aG,aI];omega⟩
   ·rw [show decide (j=ns.length)=false by simp;omega]
   ·rw [B1q hb ht w,hsz];exact Z
 ·obtain rfl:k=0:=by omega
  refine B8 (fun d=>?_) (fun d=>?_)
  ·have u:ns=[]:=aM d.symm
   subst u
   refine B80 ex (by omega) (by omega) ?_
   intro A' n' c' e3 g' h' y
   refine hK _ _ _ e3 g' _ ?_
   have:B1a W [] 0++aD W 48=pad W (nv []):=by simp [B1a,nv,pad,K7]
   rwa [this] at y
  ·refine hK _ _ _ H gA _ ?_
   ·have:B1a W ns 0=pad W (nv ns):=by unfold B1a;rw [iP (by omega)];simp
    rw [<- this];exact ex
end
