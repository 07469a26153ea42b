/- A part. -/
import Derived.Test.YtmbfcbbkbefgfaaGreatDoorG18
import Derived.Test.YtmbfcbbkbefgfaaGreatDoorG19
import Derived.Test.YtmbfcbbkbefgfaaGreatDoorG10
open Go.Proofs.Tryz
set_option linter.all false
open _root_.Go.Addr renaming add->eM
open _root_.Array renaming replicate->fW
open Bool renaming false_eq_true->fF
open _root_.Go.Builtin renaming zeroCells->dH,append_->dR,copy_->fJ,lenOf->gH
open _root_.ByteArray renaming size->fE
open _root_.Go.Extern.MathBitsCarry renaming m64->aX,pair->gW
open _root_.Go.Instr renaming storeAt->dP
open Int renaming toNat_natCast->aC,mul_le_mul_of_nonneg_right->aE,mul_le_mul_of_nonneg_left->aK,mul_ediv_add_emod->aO,emod_lt_of_pos->aP,le_of_lt->aQ,mul_comm->aS,mul_nonneg->aT,emod_nonneg->aU,pow_succ->bF,pow_add->bG,tdiv_eq_ediv_of_nonneg->bJ,ediv_lt_of_lt_mul->bK,pow_pos->bM,mul_lt_mul_of_pos_right->bN,ediv_eq_zero_of_lt->bU,tmod_eq_emod_of_nonneg->bY,natCast_mul->cD,ediv_nonneg->cF,ofNat_tdiv->cP,tdiv->cT,natAbs_natCast->cU,mul_lt_mul_of_pos_left->cV,mul_assoc->cZ,mul_add->dB,lt_of_le_of_lt->dC,ofNat_tmod->dK,zero_add->dN,tmod->dO,gcd_natCast_natCast->dT,eq_ofNat_of_zero_le->dU,natCast_ediv->eE,fdiv->eK,natCast_add->eS,mul_le_mul->fC,fdiv_eq_ediv_of_nonneg->fD,ediv_le_self->fN,ediv_ediv_of_nonneg->fO,zero_mul->fQ,mul_zero->fR,add_zero->fS,add_mul_ediv_right->fT,add_comm->fU,add_mul_ediv_left->fY,mul_ediv_cancel->gG,gcd->gL,emod_eq_of_lt->gM,natCast_emod->gO,add_mul_emod_self_right->gS,zero_emod->gZ,toNat_pow_of_nonneg->hO,pow_zero->iH
open List renaming replicate->aD,length_take->aF,getElem?_cons_zero->aG,length_append->aH,getElem?_cons_succ->aI,take_of_length_le->aL,eq_nil_of_length_eq_zero->aM,length_drop->aN,append_assoc->aR,drop_of_length_le->aV,take_length->aW,drop_replicate->bI,length_set->bO,append_nil->cC,drop_eq_getElem_cons->cG,take_replicate->cH,length_replicate->cI,take_append_drop->cL,take_append_of_le_length->cN,drop_zero->cO,nil_append->cQ,getD->cR,getElem?_eq_none->cW,getElem?_eq_getElem->cY,take_left'->dE,length_singleton->dF,getElem?_toArray->dG,drop_drop->dJ,take_append->dM,map_append->dQ,take_succ_eq_append_getElem->dX,replicate_append_replicate->dY,getElem_mem->eC,replicate_succ'->eG,drop_append_of_le_length->eI,drop_left'->eR,length_cons->fL,drop_length->fM,length_map->fV,set_append_right->fX,mem_of_mem_take->gC,take_set_of_le->gF,drop_append->gN,length->gP,length_nil->gR,getElem?_append_right->gU,getLast?_eq_getElem?->gV,take_add->gY,getElem?_set_self->iG
open List.cons renaming injEq->bD
open Nat renaming min_eq_left->aJ,le_refl->aY,pow_le_pow_right->bL,sub_zero->bX,mul_one->cJ,add_sub_cancel_left->cK,lt_of_lt_of_le->cM,pow_pos->cX,pow_add->dS,add_zero->dV,gcd->eF,div_le_self->eP,div_add_mod->eQ,pow_le_pow_left->eU,mul_le_mul_left->eV,zero_add->eX,pow_succ->eZ,mul_comm->fA,le_trans->fB,one_mul->fG,add_mul->fH,mul_assoc->fI,min_eq_right->fK,mod_lt->fP,mul_add->fZ,add_sub_cancel->gI,sub_self->gK,pow_lt_pow_iff_right->gX,testBit_two_pow_mul->hE,mul_div_cancel_left->hG,zero_mul->iA,le_mul_of_pos_left->iB,gcd_sub_self_right->iC,gcd_comm->iE,div_div_eq_div_mul->iF
open Nat.Coprime renaming gcd_mul_left_cancel_right->dL
open Option renaming map_some->gQ
open Option.some renaming injEq->gJ
open _root_.Go.Value renaming int->bC
open _root_.Go.Value.int renaming injEq->bZ
open _root_.Go.Value.slice renaming injEq->bW
open _root_.Go renaming Addr->bH,TypeId->bV,Value->dD,Program->dI,IntKind->dZ
open _root_.Go.Proofs.YtmbfcbbkbefgfaaGreatDoor renaming FCall->aZ,Heap->bB,Priv->eO,Norm->gD
namespace Go.Proofs.YtmbfcbbkbefgfaaGreatDoor
set_option maxRecDepth 20000
open Go
def Ev:prog.underlying H2=some (.int .u8):=by kernel_rfl
def Z7:prog.underlying B1x=some .string:=by kernel_rfl
def pv:List Nat->Nat
 | []=>0
 | d::r=>d+1000000000*pv r
def C1s(ps:List Nat)(d:Nat):pv (ps++[d])=pv ps+10^(9*ps.length)*d:=by
 induction ps with
 | nil=>simp [pv]
 | cons p ps ih=>
  simp only [List.cons_append,pv,ih,fL]
  rw [show 9*(ps.length+1)=9*ps.length+9 by omega,dS,show 10^9=1000000000 by decide]
  grind
def B05(ps:List Nat)(k:Nat):pv (ps.drop k)<=pv ps:=by
 induction ps generalizing k with
 | nil=>simp
 | cons p ps ih=>
  cases k with
  | zero=>simp
  | succ k=>have:=ih k;simp only [List.drop_succ_cons,pv];omega
def C1t{ps:List Nat}{k:Nat}(h:k<ps.length):pv (ps.drop k)=ps[k]+1000000000*pv (ps.drop (k+1)):=by
 rw [cG h];rfl
def pw(e:Nat):Nat:=if e=0 then 0 else 10^(e-1)
def A0t(e:Nat):pw (e+1)=10^e:=by simp [pw]
def B2m(e:Nat):pw (e+1)/10=pw e:=by
 rw [A0t]
 cases e with
 | zero=>simp [pw]
 | succ e=>rw [A0t,eZ,Nat.mul_div_cancel _ (by decide)]
def C2d(V d:Nat)(hd:d<10):dd (10*V+d)=if V≠0\/d≠0 then dd V++[dch d] else dd V:=by
 by_cases h:10*V+d=0
 ·have b:V=0:=by omega
  have a:d=0:=by omega
  subst b a
  simp
 ·rw [iP (by omega),Cd h,show (10*V+d)/10=V by omega,show (10*V+d)%10=d by omega]
def B0q(n:Nat):(dd n).length=0↔n=0:=by
 constructor
 ·intro h
  by_cases a:n=0
  ·exact a
  ·exact absurd (aM h) (B86 a)
 ·rintro rfl;rw [K7];rfl
section
variable {h h':bB} {K:VP} {A B:Option bH} {n c n' c':Nat} {s s':Bool} {x y z:Int} {m:Nat} {p q:Rat} {a b w:QV}
def Wa(i:NI h s A n c z)(hz:ZB m z)(hm:m<=1000000000)(hK:K (.string (bs (P0 z.natAbs))) h):aZ prog Ow #[.agg #[.bool s,.slice A n c]] h K:=by
 have h0:=i.zero_iff
 have ao:=i.len hz hm
 refine FCall.pure (B1b _ _ _ _ ?_)
 unfold B5t
 refine D8 (fun e=>?_) (fun e=>?_)
 ·have:z=0:=h0.1 (by omega)
  subst this
  exact ⟨B5 h,hK⟩
 ·have a8:z≠0:=fun e1=>e (by have:=h0.2 e1;omega)
  generalize hZ:z.natAbs=Z at *
  have a9:Z<2^m:=by rw [<- hZ];exact hz
  rw [Aw (show Z≠0 by omega)] at hK
  have w:=i.mag
  rw [hZ] at w
  refine ⟨fun l q=>∃ (b:List Nat) (X:Nat) (A B:Option bH) (c J mc:Nat) (g:bB),l=[.slice A b.length c,.slice B J mc]/\h.le g/\eO q g C6 1 A b.length c (b.map fun (d:Nat)=>U32 (d:Int))/\Mg g B J X/\J<=100000000/\(∀ d∈b,d<1000000000)/\Z=pv b+10^(9*b.length)*X/\29*b.length<=m+29,fun l q=>match l with|[_,.slice B n _]=>B35 b32 q B n|_=>0,⟨[],Z,none,A,0,n,c,h,rfl,B5 h,Priv.nil _ _ _ _,w,ao,by simp,by simp [pv],by simp⟩,?_⟩
  rintro A1 n1 c1 B1 J mc q ⟨b,X,A1',B1',au,a1,an,g,hl,O,P1,M1,q1,Q,p,a3⟩
  obtain ⟨⟨rfl,rfl,rfl⟩,rfl,rfl,rfl⟩:(A1=A1'/\n1=b.length/\c1=au)/\B1=B1'/\J=a1/\mc=an:=by simpa using hl
  have ba:=M1.len_zero (by decide)
  refine B8 (fun h1=>?_) (fun h1=>?_)
  ·have hX:X≠0:=by omega
   have a4:29*b.length<m:=by
    have h2:2^(29*b.length)<=10^(9*b.length):=by
     rw [Nat.pow_mul,Nat.pow_mul]
     exact eU (by decide) _
    have h3:10^(9*b.length)*1<=10^(9*b.length)*X:=eV _ (by omega)
    exact (gX (a:=2) (by decide)).1 (by omega)
   refine P1.call ?_
   refine Ns M1 (by decide) q1 ?_
   intro A2 m2 c2 h2 l2 k2 k3 M2 h3 P3
   refine ⟨_,_,_,_,rfl,?_⟩
   have N:((X:Int)%1000000000)=((X%1000000000:Nat):Int):=by omega
   have L:((X:Int)/1000000000)=((X/1000000000:Nat):Int):=by omega
   rw [L] at M2
   rw [N]
   refine Eh Qe P3 rfl rfl (by omega) (by omega) ?_
   intro A4 c4 T g4 l4 P4
   have M4:Mg g4 A2 m2 ((X/1000000000:Nat):Int):=M2.mono l4
   refine ⟨⟨b++[X%1000000000],X/1000000000,A4,A2,c4,m2,c2,g4,by simp,B0 O (B0 l2 l4),by simpa using P4,M4,by omega,?_,?_,?_⟩,?_⟩
   ·intro d hd
    rcases List.mem_append.1 hd with y|y
    ·exact Q d y
    ·rw [List.mem_singleton.1 y];exact fP _ (by decide)
   ·rw [C1s,aH,dF,fZ,dS,p,Nat.add_assoc,fI,<- fZ,show 10^(9*1)=1000000000 by decide,Nat.mod_add_div]
   ·rw [aH,dF];omega
   ·show B35 b32 T A2 m2<B35 b32 q B1 J
    rw [Bm (M4.mono P4.le),Bm (M1.mono P1.le)]
    simp only [aC]
    exact Nat.div_lt_self (by omega) (by decide)
  ·have hX:X=0:=by omega
   subst hX
   rw [Nat.mul_zero,dV] at p
   have aw:SlV q A1 (b.map fun (d:Nat)=>U32 (d:Int)):=P1.slV
   have a5:b.length≠0:=by
    intro e0
    rw [aM e0] at p
    simp [pv] at p;omega
   have aa:∀ V,V<=Z->(dd V).length<=m:=by
    intro V hV
    apply S6.2
    have:2^m<=10^m:=eU (by decide) _
    omega
   have e1:B7 ((b.length:Int)-1)=(b.length:Int)-1:=C1 (by omega) (by omega)
   rw [e1]
   refine ⟨fun l T=>∃ (k:Nat) (A:Option bH) (n c:Nat) (g:bB),l=[.slice A n c,I ((k:Int)-1)]/\k<=b.length/\q.le g/\n=(dd (pv (b.drop k))).length/\eO T g H2 1 A n c (yv (dd (pv (b.drop k)))),fun l _=>(iAt l 1+1).toNat,⟨b.length,none,0,0,q,rfl,aY _,B5 q,by simp [pv,K7],by simpa [pv,K7,yv] using Priv.nil _ _ _ _⟩,?_⟩
   rintro A2 n2 c2 i2 T ⟨k,A2',ah,ai,g4,am,hk,lg,C,P2⟩
   obtain ⟨⟨rfl,rfl,rfl⟩,rfl⟩:(A2=A2'/\n2=ah/\c2=ai)/\i2=(k:Int)-1:=by simpa using am
   refine B8 (fun h2=>?_) (fun h2=>?_)
   ·obtain ⟨j,rfl⟩:∃ j,k=j+1:=⟨k-1,by omega⟩
    have ej:((j+1:Nat):Int)-1=(j:Int):=by omega
    rw [ej]
    have hj:j<b.length:=by omega
    have av:=C1t hj
    have E:b[j]<1000000000:=Q _ (eC hj)
    have a7:=B05 b j
    refine ⟨fun l y=>∃ (e:Nat) (A:Option bH) (n c:Nat) (g:bB),l=[.slice A n c,U32 (pw e:Int)]/\e<=9/\q.le g/\n=(dd (pv (b.drop (j+1))*10^(9-e)+b[j]/10^e)).length/\eO y g H2 1 A n c (yv (dd (pv (b.drop (j+1))*10^(9-e)+b[j]/10^e))),fun l _=>(iAt l 1).toNat,⟨9,A2,n2,c2,g4,rfl,by omega,lg,?_,?_⟩,?_⟩
    ·rw [Nat.div_eq_of_lt (by simpa using E)];simpa using C
    ·rw [Nat.div_eq_of_lt (by simpa using E)];simpa using P2
    rintro A5 W c5 d y ⟨e,A5',al,ab,g5,ag,he,t,r,P5⟩
    obtain ⟨⟨rfl,rfl,rfl⟩,rfl⟩:(A5=A5'/\W=al/\c5=ab)/\d=(pw e:Int):=by simpa using ag
    generalize hV:pv (b.drop (j+1))*10^(9-e)+b[j]/10^e=V at *
    refine B8 (fun S=>?_) (fun S=>?_)
    ·obtain ⟨f,rfl⟩:∃ f,e=f+1:=by
      cases e with
      | zero=>simp [pw] at S
      | succ f=>exact ⟨f,rfl⟩
     have G:pw (f+1)=10^f:=A0t f
     have aj:0<10^f:=cX (by decide)
     have a6:10^f<=100000000:=by
      have:10^f<=10^8:=bL (by decide) (by omega)
      simpa using this
     have F:pv (b.drop (j+1))*10^(9-f)+b[j]/10^f=10*V+b[j]/10^f%10:=by
      rw [<- hV,show 9-f=(9-(f+1))+1 by omega,eZ,eZ,<- iF,fZ]
      have:=eQ (b[j]/10^f) 10
      grind
     have R:10*V+b[j]/10^f%10<=Z:=by
      rw [<- F]
      have t1:10^(9-f)*10^f=1000000000:=by rw [<- dS,show 9-f+f=9 by omega]
      have t2:10^(9-f)<=1000000000:=by rw [<- t1];exact Nat.le_mul_of_pos_right _ aj
      have t3:pv (b.drop (j+1))*10^(9-f)<=pv (b.drop (j+1))*1000000000:=eV _ t2
      have t4:=eP b[j] (10^f)
      omega
     have ec:wu8 (H0 ((48:Int)+dO (H0 (cT (b[j]:Int) ((pw (f+1):Nat):Int))) 10))=((48+b[j]/10^f%10:Nat):Int):=by
      rw [G]
      have t1:cT (b[j]:Int) ((10^f:Nat):Int)=((b[j]/10^f:Nat):Int):=by rw [<- cP]
      rw [t1]
      have t2:b[j]/10^f<1000000000:=Nat.lt_of_le_of_lt (eP _ _) E
      clear t1
      generalize b[j]/10^f=D at t2 ⊢
      rw [P7 (n:=(D:Int)) (by omega) (by omega)]
      have t3:dO (D:Int) 10=((D%10:Nat):Int):=by
       rw [bY (by omega)];omega
      rw [t3,P7 (by omega) (by omega),A33 (by omega) (by omega)];omega
     have u:b[j]/10^f%10<10:=fP _ (by decide)
     have M:SlV y A1 (b.map fun (d:Nat)=>U32 (d:Int)):=aw.mono (B0 t P5.le)
     refine ⟨fun l S=>∃ (A:Option bH) (n c:Nat) (g:bB),l=[.slice A n c]/\q.le g/\n=(dd (10*V+b[j]/10^f%10)).length/\eO S g H2 1 A n c (yv (dd (10*V+b[j]/10^f%10))),?_,?_⟩
     ·obtain ⟨ad,ac,H⟩:=SlV.at M (i:=j) (by simpa using hj)
      refine ⟨ad,ac,by omega,by omega,(b[j]:Int),by rw [aC,cJ,H];simp,?_⟩
      refine B8 (fun e0=>absurd e0 (by omega)) (fun _=>?_)
      rw [ec]
      have o:=C2d V (b[j]/10^f%10) u
      have az:=B0q V
      refine ⟨fun l h7=>l=[.bool (decide (V≠0\/b[j]/10^f%10≠0))]/\h7=y,B8 (fun h7=>⟨?_,rfl⟩) (fun h7=>⟨?_,rfl⟩),?_⟩
      ·have:V≠0:=by omega
       simp [this]
      ·have:V=0:=by omega
       have e2:∀ D:Nat,(((48+D:Nat):Int) != 48)=decide (V≠0\/D≠0):=by
        intro D
        rw [Bool.eq_iff_iff,bne_iff_ne,decide_eq_true_iff];omega
       rw [e2]
      rintro tb h7 ⟨ay,rfl⟩
      obtain rfl:tb=decide (V≠0\/b[j]/10^f%10≠0):=by simpa using ay
      refine B8 (fun h8=>?_) (fun h8=>?_)
      ·rw [iP h8] at o
       have ax:=aa _ R
       rw [o,aH,dF] at ax
       refine Eh Hr P5 rfl rfl (by omega) (by omega) ?_
       intro A9 c9 h9 g9 l9 P9
       refine ⟨A9,W+1,c9,g9,rfl,B0 t l9,by rw [o,aH,r];rfl,?_⟩
       rw [o,W6]
       have:yv [dch (b[j]/10^f%10)]=[Y ((48+b[j]/10^f%10:Nat):Int)]:=by
        simp only [yv,List.map_cons,List.map_nil,Fm u]
       rw [this];exact P9
      ·rw [iN h8] at o
       exact ⟨A5,W,c5,g5,rfl,t,by rw [o];exact r,by rw [o];exact P5⟩
     ·rintro A9 n9 c9 h9 ⟨A9',ap,ar,g9,ae,aq,ak,P9⟩
      obtain ⟨rfl,rfl,rfl⟩:A9=A9'/\n9=ap/\c9=ar:=by simpa using ae
      have ed:H0 (cT ((pw (f+1):Nat):Int) 10)=((pw f:Nat):Int):=by
       have t1:cT ((pw (f+1):Nat):Int) 10=((pw (f+1)/10:Nat):Int):=by rw [eE,bJ (by omega)];rfl
       rw [t1,B2m,P7 (by omega) (by have:=B2m f;rw [G] at this;omega)]
      rw [ed]
      refine ⟨⟨f,A9,n9,c9,g9,rfl,by omega,aq,by rw [F];exact ak,by rw [F];exact P9⟩,?_⟩
      simp only [iAt,aG,aI,aC]
      have:=B2m f
      rw [G] at this ⊢
      omega
    ·have a2:e=0:=by
      cases e with
      | zero=>rfl
      | succ f=>rw [A0t] at S;have:0<10^f:=cX (by decide);omega
     subst a2
     have a0:V=pv (b.drop j):=by rw [<- hV,av];simp;omega
     rw [a0] at P5 r
     rw [C1 (by omega) (by omega)]
     exact ⟨⟨j,A5,W,c5,g5,rfl,by omega,t,r,P5⟩,by simp only [iAt,aG,aI];omega⟩
   ·have af:k=0:=by omega
    subst af
    rw [cO,<- p] at P2 C
    refine Nn Hr.und Ev Z7 P2.slV C ?_
    exact ⟨_,rfl,B0 O (B0 P1.le (B0 lg P2.le)),hK⟩
end
def Zn(a:Array UInt8):({ data:=a }:ByteArray)=bs a.toList:=by simp [bs]
def Dm{l:List UInt8}(h:∀ c∈l,J2 c):N8 l<2^(4*l.length):=by
 have d:=Qz h
 have a:10^l.length<=16^l.length:=eU (by decide) _
 have b:16^l.length=2^(4*l.length):=by rw [Nat.pow_mul]
 omega
def B9r{h:bB}{A:Option bH}{n m:Nat}{X:Nat}(M:Mg h A n X)(hx:X<2^m)(hm:m<=1000000000):n<=100000000:=by
 have:=B3b (j:=32) (by decide) M (m:=m) (by have:((X:Nat):Int)<((2^m:Nat):Int):=by omega
                                            simpa using this)
 omega
section
variable {h h':bB} {K:VP} {A B:Option bH} {n c n' c':Nat} {s s':Bool} {x y z:Int} {m:Nat} {p q:Rat} {a b w:QV} {l:List UInt8}
def Iu(hl:l.length<=200000000)(hK:∀ s A n c ok h',h.le h'->(ok=true->(∀ c∈l,J2 c)/\l≠[]/\NI h' s A n c (N8 l))->(ok=false->¬ ((∀ c∈l,J2 c)/\l≠[]))->K (.tuple #[.agg #[.bool s,.slice A n c],.bool ok]) h'):aZ prog Cm #[.string (bs l)] h K:=by
 refine Yg _ ?_
 unfold Xe
 simp only [L5]
 refine ⟨fun L C=>∃ (i:Nat) (A:Option bH) (n c:Nat),L=[.slice A n c,I i,.bool false,.slice none 0 0]/\i<=l.length/\h.le C/\(∀ c∈l.take i,J2 c)/\Mg C A n (N8 (l.take i))/\n<=c,fun L _=>l.length-(iAt L 1).toNat,⟨0,none,0,0,rfl,by omega,B5 h,by simp,Mag.zero,aY _⟩,?_⟩
 rintro A1 n1 c1 T Z A2 n2 c2 C ⟨i,A1',S,ad,hL,hi,r,d,M,F⟩
 obtain ⟨⟨rfl,rfl,rfl⟩,rfl,rfl,rfl,rfl,rfl⟩:(A1=A1'/\n1=S/\c1=ad)/\T=(i:Int)/\Z=false/\A2=none/\n2=0/\c2=0:=by simpa using hL
 refine B8 (fun h1=>?_) (fun h1=>?_)
 ·refine ⟨fun L Q=>∃ (k:Nat),L=[I ((i+k:Nat):Int),U32 (N8 ((l.drop i).take k):Nat),U32 ((10^k:Nat):Int),.bool false,.slice none 0 0]/\0<k/\k<=9/\i+k<=l.length/\Q=C/\(∀ c∈(l.drop i).take k,J2 c),?_,?_⟩
  ·refine ⟨fun L Q=>∃ (k:Nat),L=[I ((i+k:Nat):Int),U32 (N8 ((l.drop i).take k):Nat),U32 ((10^k:Nat):Int),I k,.bool false,.slice none 0 0]/\k<=9/\i+k<=l.length/\Q=C/\(∀ c∈(l.drop i).take k,J2 c),fun L _=>9-(iAt L 3).toNat,⟨0,by simp [N8],by omega,by omega,rfl,by simp⟩,?_⟩
   rintro i2 v f k2 E A3 O c3 ac ⟨k,w,u,o,rfl,a⟩
   obtain ⟨rfl,rfl,rfl,rfl,rfl,rfl,rfl,rfl⟩:i2=((i+k:Nat):Int)/\v=((N8 ((l.drop i).take k):Nat):Int)/\f=((10^k:Nat):Int)/\k2=(k:Int)/\E=false/\A3=none/\O=0/\c3=0:=by simpa using w
   refine B8 (fun h2=>B8 (fun h3=>?_) (fun h3=>?_)) (fun h2=>?_)
   ·have B:i+k<l.length:=by omega
    have g:(bs l)[((i+k:Nat):Int).toNat]? = some l[i+k]:=by rw [aC,Sb,cY B]
    have q:¬ J2 l[i+k]->∀ s A n c,K (.tuple #[.agg #[.bool s,.slice A n c],.bool false]) ac:=by
     intro hb s A n c
     exact hK _ _ _ _ _ _ r (fun e=>by cases e) (fun _ ⟨G,_⟩=>hb (G _ (eC B)))
    refine ⟨l[i+k],⟨by omega,g⟩,B8 (fun H=>?_) (fun H=>?_)⟩
    ·exact q (fun hd=>by unfold J2 at hd;omega) _ _ _ _
    ·refine ⟨l[i+k],⟨by omega,g⟩,B8 (fun G=>?_) (fun G=>?_)⟩
     ·exact q (fun hd=>by unfold J2 at hd;omega) _ _ _ _
     ·have af:J2 l[i+k]:=by unfold J2;omega
      refine ⟨l[i+k],⟨by omega,g⟩,?_⟩
      have j:(l.drop i).take (k+1)=(l.drop i).take k++[l[i+k]]:=by
       rw [dX (by rw [aN];omega)];simp
      have aa:N8 ((l.drop i).take k)<10^k:=by
       have:=Qz a
       rwa [aF,aN,aJ (by omega)] at this
      have ae:10^k<=100000000:=by
       have:10^k<=10^8:=bL (by decide) (by omega)
       simpa using this
      have y:B7 (((i+k:Nat):Int)+1)=((i+(k+1):Nat):Int):=by rw [C1 (by omega) (by omega)];omega
      have e2:B7 ((k:Int)+1)=((k+1:Nat):Int):=by rw [C1 (by omega) (by omega)];omega
      have e3:H0 (((10^k:Nat):Int)*10)=((10^(k+1):Nat):Int):=by rw [eZ,P7 (by omega) (by omega)];omega
      have e4:H0 (H0 (((N8 ((l.drop i).take k):Nat):Int)*10)+H0 (wu8 ((l[i+k].toNat:Int)-48)))=((N8 ((l.drop i).take (k+1)):Nat):Int):=by
       rw [j,Pe,A33 (by omega) (by omega),P7 (n:=(l[i+k].toNat:Int)-48) (by omega) (by omega),P7 (n:=((N8 ((l.drop i).take k):Nat):Int)*10) (by omega) (by omega),P7 (by omega) (by omega)];omega
      rw [y,e2,e3,e4]
      refine ⟨⟨k+1,rfl,by omega,by omega,rfl,?_⟩,by simp only [iAt,aG,aI];omega⟩
      rw [j]
      intro c F
      rcases List.mem_append.1 F with p|p
      ·exact a c p
      ·rw [List.mem_singleton.1 p];exact af
   ·exact ⟨k,rfl,by omega,u,o,rfl,a⟩
   ·exact ⟨k,rfl,by omega,u,o,rfl,a⟩
  ·rintro i2 v f z A3 O c3 t ⟨k,w,ag,u,o,rfl,a⟩
   obtain ⟨rfl,rfl,rfl,rfl,rfl,rfl,rfl⟩:i2=((i+k:Nat):Int)/\v=((N8 ((l.drop i).take k):Nat):Int)/\f=((10^k:Nat):Int)/\z=false/\A3=none/\O=0/\c3=0:=by simpa using w
   have aa:N8 ((l.drop i).take k)<10^k:=by
    have:=Qz a
    rwa [aF,aN,aJ (by omega)] at this
   have ae:0<10^k/\10^k<=1000000000:=by
    have:10^k<=10^9:=bL (by decide) (by omega)
    exact ⟨cX (by decide),by simpa using this⟩
   have ab:((l.drop i).take k).length=k:=by rw [aF,aN];omega
   have j:l.take (i+k)=l.take i++(l.drop i).take k:=gY
   have D:∀ c∈l.take (i+k),J2 c:=by
    rw [j];intro c F
    rcases List.mem_append.1 F with p|p
    ·exact d c p
    ·exact a c p
   have X:N8 (l.take (i+k))=N8 (l.take i)*10^k+N8 ((l.drop i).take k):=by rw [j,Hj,ab]
   have W:N8 (l.take i)<2^(4*l.length):=cM (Dm d) (bL (by decide) (by rw [aF];omega))
   have ah:N8 (l.take (i+k))<2^(4*l.length):=cM (Dm D) (bL (by decide) (by rw [aF];omega))
   have N:=B9r M W (by omega)
   refine Bn Qe rfl ?_
   intro J V
   refine ⟨_,_,_,rfl,?_⟩
   have lf:=Heap.le_put (h:=t) (b:=J) (.cells #[U32 ((10^k:Nat):Int)] C6) V
   have Mf:Mg (t.put J (.cells #[U32 ((10^k:Nat):Int)] C6)) (some ⟨J,0,none⟩) 1 ((10^k:Nat):Int):=
    ⟨[((10^k:Nat):Int)],rfl,SlI.new t J [((10^k:Nat):Int)] C6 _,Dig.one ⟨by omega,by show _<(4294967296:Int);omega⟩,by simp only [gD,List.getLast?_singleton,ne_eq,gJ];omega,Z6 _ _⟩
   refine Uy (M.mono lf) Mf N (by omega) ?_
   intro A4 m4 c4 H l4 k4 M4
   refine ⟨_,_,_,rfl,?_⟩
   refine Bn Qe rfl ?_
   intro bv R
   refine ⟨_,_,_,rfl,?_⟩
   have lv:=Heap.le_put (h:=H) (b:=bv) (.cells #[U32 ((N8 ((l.drop i).take k):Nat):Int)] C6) R
   refine An (xs:=[((N8 ((l.drop i).take k):Nat):Int)]) (SlI.new H bv _ C6 _) (Dig.one ⟨by omega,by show _<(4294967296:Int);omega⟩) (aY _) (by simp) ?_
   intro m5 k5 M5
   refine ⟨_,_,_,rfl,?_⟩
   rw [Z6] at M5
   have e4:((N8 (l.take i):Nat):Int)*((10^k:Nat):Int)=((N8 (l.take i)*10^k:Nat):Int):=by rw [cD]
   rw [e4] at M4
   refine Wo (M4.mono lv) M5 (B9r M4 (m:=4*l.length) (by omega) (by omega)) (by simp at k5;omega) ?_
   intro A6 m6 c6 p l6 k6 M6
   have e6:((N8 (l.take i)*10^k:Nat):Int)+((N8 ((l.drop i).take k):Nat):Int)=((N8 (l.take (i+k)):Nat):Int):=by rw [X];omega
   rw [e6] at M6
   exact ⟨_,_,_,rfl,⟨i+k,A6,m6,c6,rfl,o,B0 r (B0 lf (B0 l4 (B0 lv l6))),D,M6,k6⟩,by simp only [iAt,aG,aI];omega⟩
 ·have:i=l.length:=by omega
  subst this
  rw [aW] at d M
  refine O6 M F ?_
  intro s1 T
  refine ⟨_,_,_,_,rfl,?_⟩
  have e:(!((bs l).toList==({ data:=#[] }:ByteArray).toList))=decide (l≠[]):=by
   rw [Zn,Lb];simp
  rw [e]
  refine hK _ _ _ _ _ _ r (fun y=>⟨d,by simpa using y,T⟩) (fun y=>?_)
  have:l=[]:=by simpa using y
  rintro ⟨_,G⟩;exact G this
def Dn{n m:Nat}(h:n<2^m):(P0 n).length<=m+1:=by
 rw [Tu (by omega)]
 have:2^m<=10^(m+1):=fB (eU (by decide) m) (bL (by decide) (by omega))
 omega
def Ud(i:NQ h w q)(hq:Sz m q)(hm:m<=1000000000)(hK:K (.string (bs (K4 q))) h):aZ prog Mj #[w.v] h K:=by
 have f:=i.num.sg
 have c:=i.den_zero
 refine B8p _ _ _ _ _ _ _ _ ?_
 unfold C4r
 have r:=Dn hq.num
 have p:=Dn (n:=q.den) (m:=m) (by have:=hq.den;unfold ZB at this;simpa using this)
 refine Wa i.num hq.num hm ⟨_,rfl,?_⟩
 refine ⟨fun l k=>l=[.string (bs (Nl q.num))]/\k=h,Br.of (fun e=>?_) (fun e=>?_),?_⟩
 ·have a:q.num<0:=by rw [f] at e;simpa using e
  refine ⟨?_,?_,rfl⟩
  ·rw [Zn,L5,L5];simp;omega
  ·rw [Zn,Pi];unfold Nl;rw [iP a];rfl
 ·have a:¬ q.num<0:=by rw [f] at e;simpa using e
  exact ⟨by unfold Nl;rw [iN a],rfl⟩
 rintro t o ⟨j,rfl⟩
 obtain rfl:t=bs (Nl q.num):=by simpa using j
 have s:(Nl q.num).length<=m+2:=by
  unfold Nl;split
  ·rw [fL];omega
  ·omega
 refine B8 (fun e=>?_) (fun e=>?_)
 ·have d:¬ q.den=1:=fun g=>by have:=c.2 g;omega
  have b:=i.den
  rw [iN d] at b
  refine Wa b hq.den hm ⟨_,rfl,?_,?_,?_⟩
  ·rw [Zn,L5,L5,cU];simp;omega
  ·rw [Zn,Pi,L5,L5,cU];simp;omega
  ·rw [Zn,Pi,Pi,cU]
   unfold K4 at hK
   rw [iN d] at hK
   exact hK
 ·have d:q.den=1:=c.1 (by omega)
  unfold K4 at hK
  rw [iP d,cC] at hK
  exact hK
def C1i{t a r a' r':List UInt8}(h1:t=a++r)(h2:∀ c∈a,c≠47)(h3:r=[]\/r.head? = some 47)(g1:t=a'++r')(g2:∀ c∈a',c≠47)(g3:r'=[]\/r'.head? = some 47):a=a'/\r=r':=by
 induction a generalizing t a' with
 | nil=>
  cases a' with
  | nil=>simp at h1 g1;exact ⟨rfl,h1.symm.trans g1⟩
  | cons c a'=>
   exfalso
   subst h1
   rcases h3 with h3|h3
   ·subst h3;simp at g1
   ·rw [g1] at h3
    simp at h3
    exact g2 c (by simp) h3
 | cons c a ih=>
  cases a' with
  | nil=>
   exfalso
   subst g1
   rcases g3 with g3|g3
   ·subst g3;simp at h1
   ·rw [h1] at g3
    simp at g3
    exact h2 c (by simp) g3
  | cons c' a'=>
   subst h1
   simp at g1
   obtain ⟨rfl,g1⟩:=g1
   obtain ⟨d,e⟩:=ih rfl (fun x b=>h2 x (by simp [b])) g1 (fun x b=>g2 x (by simp [b]))
   exact ⟨by rw [d],e⟩
def B20(q:Rat):K4 q=(if q.num<0 then [45] else [])++(P0 q.num.natAbs++(if q.den=1 then [] else 47::P0 q.den)):=by
 unfold K4 Nl;split<;>simp
def B4f(n:Nat):∀ c∈P0 n,c≠47:=fun c a=>(A8j (Ph n c a)).2
def Vs{neg:Bool}{q:Rat}(h:neg=decide (q.num<0)):Rat.divInt (if neg=true then -((q.num.natAbs:Nat):Int) else ((q.num.natAbs:Nat):Int)) q.den=q:=by
 have:(if neg=true then -((q.num.natAbs:Nat):Int) else ((q.num.natAbs:Nat):Int))=q.num:=by
  rw [h]
  by_cases a:q.num<0
  ·rw [iP (by simpa using a)];omega
  ·rw [iN (by simpa using a)];omega
 rw [this,Rat.num_divInt_den]
def B2j(hl:l.length<=100000000)(hK1:∀ q,l=K4 q->∀ w h',h.le h'->NQ h' w q->K (.tuple #[w.v,.bool true]) h')(hK0:¬ IsNum l->∀ (w:QV) h',h.le h'->K (.tuple #[w.v,.bool false]) h'):aZ prog A6y #[.string (bs l)] h K:=by
 refine B8r _ ?_
 unfold C4t
 simp only [L5]
 refine ⟨fun L h'=>L=[.bool (l.head? == some 45)]/\h'=h,B8 (fun E=>?_) (fun E=>?_),?_⟩
 ·cases l with
  | nil=>simp at E
  | cons c r=>
   refine ⟨c,⟨by omega,by rw [Sb];rfl⟩,?_,rfl⟩
   have:((c.toNat:Int)==45)=((c::r).head? == some 45):=by
    rw [Bool.eq_iff_iff,beq_iff_eq,beq_iff_eq,List.head?_cons,gJ]
    constructor
    ·intro e;apply UInt8.toNat_inj.1;show c.toNat=45;omega
    ·rintro rfl;rfl
   rw [this]
 ·have:l=[]:=aM (by omega)
  subst this;exact ⟨rfl,rfl⟩
 rintro neg hp ⟨hL,rfl⟩
 obtain rfl:neg=(l.head? == some 45):=by simpa using hL
 refine ⟨fun L h'=>L=[.string (bs (if (l.head? == some 45) then l.drop 1 else l))]/\h'=hp,Br.of (fun e=>?_) (fun e=>?_),?_⟩
 ·have ah:1<=l.length:=by
   cases l with
   | nil=>simp at e
   | cons _ _=>simp
  refine ⟨⟨by omega,by omega⟩,?_,rfl⟩
  rw [iP e,O8,aL (by rw [aN];show _<=l.length-1;exact aY _)];rfl
 ·rw [iN (by rw [e];simp)];exact ⟨rfl,rfl⟩
 rintro t0 N ⟨W,rfl⟩
 generalize ht:(if (l.head? == some 45) then l.drop 1 else l)=t at *
 obtain rfl:t0=bs t:=by simpa using W
 have ai:t.length<=l.length:=by rw [<- ht];split<;>simp
 have Z:l=(if (l.head? == some 45) then [45] else [])++t:=by
  rw [<- ht]
  cases l with
  | nil=>simp
  | cons c r=>
   by_cases p:c=45
   ·subst p;simp
   ·simp [p]
 have k:∀ q,l=K4 q->(l.head? == some 45)=decide (q.num<0)/\t=P0 q.num.natAbs++(if q.den=1 then [] else 47::P0 q.den):=by
  intro q e
  have f:=Ig q
  rw [<- e] at f
  have hh:=f.head
  refine ⟨hh.symm,?_⟩
  have o:=Z
  rw [<- hh,e,B20 q] at o
  by_cases u:q.num<0
  ·simp [u] at o;exact o.symm
  ·simp [u] at o;exact o.symm
 refine ⟨fun L h'=>∃ a:Nat,L=[I a]/\h'=N/\a<=t.length/\(∀ c∈t.take a,c≠47)/\(t.drop a=[]\/(t.drop a).head? = some 47),?_,?_⟩
 ·simp only [L5]
  refine ⟨fun L h'=>∃ i:Nat,L=[I t.length,I i]/\h'=N/\i<=t.length/\(∀ c∈t.take i,c≠47),fun L _=>t.length-(iAt L 1).toNat,⟨0,rfl,rfl,by omega,by simp⟩,?_⟩
  rintro ab i1 al ⟨i,af,rfl,hi,n⟩
  obtain ⟨rfl,rfl⟩:ab=(t.length:Int)/\i1=(i:Int):=by simpa using af
  refine B8 (fun E=>?_) (fun E=>?_)
  ·have C:i<t.length:=by omega
   refine ⟨t[i],⟨by omega,by rw [aC,Sb,cY C]⟩,D8 (fun X=>?_) (fun X=>?_)⟩
   ·refine ⟨i,rfl,rfl,hi,n,.inr ?_⟩
    rw [List.head?_drop,cY C]
    congr 1
    apply UInt8.toNat_inj.1
    show t[i].toNat=47
    omega
   ·rw [C1 (by omega) (by omega)]
    refine ⟨⟨i+1,rfl,rfl,by omega,?_⟩,by simp only [iAt,aG,aI];omega⟩
    rw [dX C]
    intro c p
    rcases List.mem_append.1 p with Q|Q
    ·exact n c Q
    ·rw [List.mem_singleton.1 Q]
     intro e;rw [e] at X;exact X rfl
  ·have:i=t.length:=by omega
   subst this
   exact ⟨t.length,rfl,rfl,aY _,n,.inl (by simp)⟩
 rintro an ac ⟨a,ae,rfl,ak,n,j⟩
 obtain rfl:=sI1 ae
 simp only [L5,O8,aC,cO,bX]
 refine ⟨⟨by omega,by omega⟩,?_⟩
 have m:t=t.take a++t.drop a:=(cL a t).symm
 have b:∀ q,l=K4 q->t.take a=P0 q.num.natAbs/\t.drop a=(if q.den=1 then [] else 47::P0 q.den):=by
  intro q e
  refine C1i m n j (k q e).2 (B4f _) ?_
  split
  ·left;rfl
  ·right;rfl
 refine Iu (by rw [aF];omega) ?_
 intro s1 A1 n1 c1 am E H k1 k0
 refine ⟨_,_,_,_,_,rfl,Br.not (Br.of (fun e=>?_) (fun e=>?_))⟩
 ·obtain ⟨dg,ao,iN⟩:=k1 e
  have M:ZB (4*l.length) (N8 (t.take a):Int):=by
   unfold ZB
   rw [cU]
   exact cM (Dm dg) (bL (by decide) (by rw [aF];omega))
  have im:=iN.mag
  rw [cU] at im
  refine O6 im iN.cap ?_
  intro s2 i2
  refine ⟨_,_,_,_,rfl,?_⟩
  have g:ZB (4*l.length) (if (l.head? == some 45)=true then -((N8 (t.take a):Nat):Int) else ((N8 (t.take a):Nat):Int)):=by
   split
   ·exact M.neg
   ·exact M
  have F:∀ (D:Rat) (w:QV) (s:bB),ac.le s->NQ s w D->Sz (4*l.length+1) D->(∀ q,l=K4 q->q=D)->
   aZ prog Mj #[w.v] s (fun r5 J=>∃ (t79:ByteArray),r5= .string t79/\Heap.le s J/\K (.tuple #[w.v,.bool (ByteArray.toList t79==ByteArray.toList (bs l))]) J):=by
   intro D w s T R V ad
   refine Ud R V (by omega) ⟨_,rfl,B5 _,?_⟩
   rw [Lb]
   by_cases p:K4 D=l
   ·rw [decide_eq_true p]
    exact hK1 D p.symm w s T R
   ·rw [decide_eq_false p]
    refine hK0 ?_ w s T
    rintro ⟨q,e⟩
    exact p (by rw [<- ad q e];exact e.symm)
  refine B8 (fun o=>?_) (fun o=>?_)
  ·have e3:B7 ((a:Int)+1)=((a+1:Nat):Int):=by rw [C1 (by omega) (by omega)];omega
   rw [e3]
   refine ⟨⟨by omega,by omega⟩,?_⟩
   rw [aC,aL (show (t.drop (a+1)).length<=t.length-(a+1) by rw [aN];omega)]
   have hb:t.drop a=47::t.drop (a+1):=by
    rcases j with u|u
    ·have:=congrArg gP u;rw [aN] at this;simp at this;omega
    ·rw [List.head?_drop] at u
     have y:a<t.length:=by omega
     rw [cY y] at u
     rw [cG y]
     congr 1
     simpa using u
   refine Iu (by rw [aN];omega) ?_
   intro s3 A3 n3 c3 aj Q S j1 j0
   have d:∀ q,l=K4 q->q.den≠1/\t.drop (a+1)=P0 q.den:=by
    intro q e
    have:=(b q e).2
    rw [hb] at this
    by_cases z:q.den=1
    ·simp [z] at this
    ·simp [z] at this;exact ⟨z,this⟩
   refine ⟨_,_,_,_,_,rfl,Br.not (Br.of (fun e4=>?_) (fun e4=>?_))⟩
   ·obtain ⟨aa,ag,iD⟩:=j1 e4
    refine A3k iD ⟨_,rfl,D8 (fun e5=>?_) (fun e5=>?_)⟩
    ·refine hK0 ?_ ⟨false,none,0,0,false,none,0,0⟩ _ (B0 H S)
     rintro ⟨q,e⟩
     have O:=(d q e).2
     have h7:((N8 (t.drop (a+1)):Nat):Int)=0:=Int.sign_eq_zero_iff_zero.1 e5
     rw [O,Bh] at h7
     exact q.den_nz (by omega)
    ·have B:((N8 (t.drop (a+1)):Nat):Int)≠0:=fun e6=>e5 (by rw [e6];rfl)
     have A:ZB (4*l.length) (N8 (t.drop (a+1)):Int):=by
      unfold ZB
      rw [cU]
      exact cM (Dm aa) (bL (by decide) (by rw [aN];omega))
     refine Ok (i2.mono S) iD B g A (by omega) ?_
     intro w s T R
     refine ⟨_,_,_,_,_,_,_,_,rfl,?_⟩
     refine F _ w s (B0 H (B0 S T)) R ((U6 B g A).mono (by omega)) ?_
     intro q e
     rw [(b q e).1,(d q e).2,Bh,Bh]
     exact (Vs (k q e).1).symm
   ·refine hK0 ?_ ⟨false,none,0,0,false,none,0,0⟩ _ (B0 H S)
    rintro ⟨q,e⟩
    exact j0 e4 (by rw [(d q e).2];exact ⟨Ph _,Vz _⟩)
  ·have G:a=t.length:=by omega
   refine F _ ⟨s2,A1,n1,c1,false,none,0,0⟩ E H (NQ.whole i2) (Sz.int (g.mono (by omega)) (by omega)) ?_
   intro q e
   have O:=(b q e).2
   rw [G,fM] at O
   have z:q.den=1:=by
    by_cases z:q.den=1
    ·exact z
    ·simp [z] at O
   rw [(b q e).1,Bh]
   have:=Vs (k q e).1
   rw [z] at this
   rw [<- Kp]
   exact this.symm
 ·refine hK0 ?_ ⟨false,none,0,0,false,none,0,0⟩ _ H
  rintro ⟨q,o⟩
  exact k0 e (by rw [(b q o).1];exact ⟨Ph _,Vz _⟩)
end
def ndg(x:Nat):Nat:=x*78913/262144
def B9p:∀ x,x<65->2^x<=10^(ndg x+1)/\(ndg x=0\/10^(ndg x-1)<=2^(x-1))/\ndg x<=19:=by decide
def A4l{n k:Nat}(h1:10^k<=n)(h2:n<10^(k+1)):(dd n).length=k+1:=by
 have a:=(S6 (n:=n) (k:=k+1)).2 h2
 have b:¬ (dd n).length<=k:=fun e=>by have:=S6.1 e;omega
 omega
def C3z{d:Nat}(h0:d≠0)(h:d<2^64):(dd d).length=ndg (O9 d)+(if 10^ndg (O9 d)<=d then 1 else 0):=by
 have i:=Jj h
 obtain ⟨g,e⟩:=Fq h0
 obtain ⟨j,b,f⟩:=B9p (O9 d) (by omega)
 split
 ·rename_i a
  exact A4l a (by omega)
 ·rename_i a
  rcases b with b|b
  ·rw [b] at a;simp at a;omega
  ·obtain ⟨k,hk⟩:∃ k,ndg (O9 d)=k+1:=by
    by_cases c:ndg (O9 d)=0
    ·rw [c] at a;simp at a;omega
    ·exact ⟨ndg (O9 d)-1,by omega⟩
   rw [hk] at a b ⊢
   rw [gI] at b
   rw [dV]
   exact A4l (by omega) (by omega)
def C1u(w n:Nat):pad (w+2) n=pad w (n/100)++[dch (n/10%10),dch (n%10)]:=by
 rw [Tg,Tg,iF];simp
def B2t(n:Nat)(h:n=0):pad 0 n=[]:=by subst h;simp [pad,K7]
abbrev b64:Int:=18446744073709551616
abbrev Mw(h:bB)(A:Option bH)(len:Nat)(n:Int):Prop:=Mag .u64 b64 h A len n
structure Win (k:dZ) (h g:bB) (b:Nat) (e:bV) (A:Option bH) (pre:List dD) (xs:List Int) (post:List dD):Prop where
 free:g b=none
 eq:h=g.put b (.cells (pre++xs.map (bC k)++post).toArray e)
 at_:xs=[]\/A=some ⟨b,pre.length,none⟩
section
variable {k:dZ} {h g:bB} {b:Nat} {e:bV} {A:Option bH} {pre post:List dD} {xs:List Int}
def Win.le(w:Win k h g b e A pre xs post):g.le h:=by rw [w.eq];exact Heap.le_put _ w.free
def Win.sl(w:Win k h g b e A pre xs post):SlI k h A xs:=by
 rcases w.at_ with rfl|d
 ·exact SlI.nil
 ·right
  refine ⟨_,d,fun i v a=>?_⟩
  rw [w.eq,E6,E8]
  have f:i<(xs.map (bC k)).length:=by
   by_cases c:i<(xs.map (bC k)).length
   ·exact c
   ·rw [cW (by omega)] at a;cases a
  simp only [dG]
  rw [aR,gU (by omega),cK,List.getElem?_append_left f]
  exact a
def Win.store{P:dI}{t:bV}(one:P.cellsOf t=1/\(P.info? t).isSome=true)(w:Win k h g b e A pre xs post){a:bH}(ha:A=some a){i v:Int}(h0:0<=i)(h1:i<xs.length){K:Unit->bB->Prop}
 (x:∀ h',Win k h' g b e A pre (xs.set i.toNat v) post->K () h'):wpH P (dP t (.pointer (some (eM a (i.toNat*1)))) (.int k v)) K h:=by
 have d:i.toNat<xs.length:=by omega
 have c:A=some ⟨b,pre.length,none⟩:=by
  rcases w.at_ with rfl|c
  ·simp at d
  ·exact c
 rw [ha] at c
 cases c
 rw [w.eq,E6,cJ]
 refine Ey one.1 one.2 rfl rfl (by simp;omega) ?_
 refine x _ ⟨w.free,?_,.inr ha⟩
 have:(pre++xs.map (bC k)++post).toArray.setIfInBounds (pre.length+i.toNat) (.int k v)=(pre++(xs.set i.toNat v).map (bC k)++post).toArray:=by
  rw [List.map_set]
  simp only [List.setIfInBounds_toArray,aR]
  congr 1
  rw [fX _ _ (by omega),cK,List.set_append_left _ _ (by simpa using d)]
 rw [this]
def Win.storeN{P:dI}{t:bV}(one:P.cellsOf t=1/\(P.info? t).isSome=true)(w:Win k h g b e A pre xs post){a:bH}(ha:A=some a){i:Nat}{v:Int}(h1:i<xs.length){K:Unit->bB->Prop}
 (x:∀ h',Win k h' g b e A pre (xs.set i v) post->K () h'):wpH P (dP t (.pointer (some (eM a (i*1)))) (.int k v)) K h:=by
 have:=w.store one ha (i:=(i:Int)) (v:=v) (K:=K) (by omega) (by omega) (by simpa using x)
 simpa using this
def Win.call{P:dI}{f:FuncId}{args:Array dD}(w:Win k h g b e A pre xs post){K:VP}(x:aZ P f args g (fun r h0=>∀ h',Win k h' h0 b e A pre xs post->K r h')):aZ P f args h K:=by
 rw [w.eq]
 exact FCall.frame w.free x fun r h0 a c=>c _ ⟨a,rfl,w.at_⟩
def Win.blk(k:dZ)(e:bV){g:bB}{b:Nat}(hb:g b=none)(zs:List Int):Win k (Go.Proofs.YtmbfcbbkbefgfaaGreatDoor.blk k e g b zs) g b e (some ⟨b,0,none⟩) [] zs []:=
 ⟨hb,by simp [Go.Proofs.YtmbfcbbkbefgfaaGreatDoor.blk],.inr rfl⟩
def Win.sub(w:Win k h g b e A pre xs post){l m c:Nat}(hl:l<=m)(hm:m<=xs.length)(hc:xs.length<=c):
 Win k h g b e (I5 A c l 1) (pre++(xs.take l).map (bC k)) ((xs.drop l).take (m-l)) ((xs.drop m).map (bC k)++post):=by
 refine ⟨w.free,?_,?_⟩
 ·rw [w.eq]
  congr 3
  have:xs=xs.take l++((xs.drop l).take (m-l)++xs.drop m):=by
   have d:xs.drop m=(xs.drop l).drop (m-l):=by rw [dJ];congr 1;omega
   rw [d,cL,cL]
  conv=>lhs;rw [this]
  simp [dQ,aR]
 ·by_cases a:m-l=0
  ·left;simp [a]
  ·right
   rcases w.at_ with rfl|f
   ·simp at hm;omega
   ·unfold I5
    rw [iN (by omega),f]
    simp only [gQ,E6,cJ,aH,fV,aF]
    rw [aJ (by omega)]
def Win.whole{h' g':bB}(w:Win k h g b e A pre xs post){l m:Nat}(hl:l<=m)(hm:m<=xs.length){B:Option bH}{ys:List Int}(hy:ys.length=m-l)(v:Win k h' g' b e B (pre++(xs.take l).map (bC k)) ys ((xs.drop m).map (bC k)++post)):
 Win k h' g' b e A pre (xs.take l++ys++xs.drop m) post:=by
 refine ⟨v.free,?_,?_⟩
 ·rw [v.eq]
  congr 3
  simp [dQ,aR]
 ·rcases w.at_ with rfl|a
  ·left
   simp at hm
   have:ys=[]:=aM (by omega)
   simp [this]
  ·exact .inr a
def Priv.win{n c:Nat}(p:eO h g e 1 A n c (xs.map (bC k)))(hx:xs≠[]):∃ b post,Win k h g b e A [] xs post:=by
 obtain ⟨d,q,f⟩:=p
 rcases f with ⟨o,rfl⟩|⟨b,a,l,i,rfl,m,j⟩
 ·simp at d
  exact absurd (aM (by omega)) hx
 ·refine ⟨b,a.drop (n*1),i,?_,.inr l⟩
  rw [cQ,<- j,cL]
end
def Fp{P:dI}{t:bV}(one:P.cellsOf t=1/\(P.info? t).isSome=true){k:dZ}{n:Int}{i:Nat}{g:bB}{b:Nat}{e:bV}{zs:List Int}(hi:i<zs.length){K:Unit->bB->Prop}
 (x:K () (blk k e g b (zs.set i n))):wpH P (dP t (.pointer (some (eM ⟨b,0,none⟩ (i*1)))) (.int k n)) K (blk k e g b zs):=by
 have:=S7 (P:=P) (t:=t) one (k:=k) (n:=n) (i:=(i:Int)) (g:=g) (b:=b) (e:=e) (zs:=zs) (K:=K) (by simpa using hi) (by simpa using x)
 simpa using this
def Hk{P:dI}{t e e' ty:bV}{k:dZ}{bytes:Nat}(s:SliceT P t e' (.int k 0) 1 bytes){h g:bB}{b:Nat}{A:Option bH}{pre post:List dD}{xs:List Int}{n c m d:Nat}(w:Win k h g b e A pre xs post)(hn:n=xs.length){B:Option bH}{ys:List Int}(sy:SlI k h B ys)(hm:m=ys.length)(hle:ys.length<=xs.length){K:VP}
 (x:∀ h',Win k h' g b e A pre (ys++xs.drop ys.length) post->K (I ys.length) h'):wpH P (fJ #[t,t] ty #[.slice A n c,.slice B m d]) K h:=by
 subst hn hm
 obtain ⟨i,p,r,l,q⟩:=s.parts
 unfold fJ
 simp only [dG,aG,aI,C8,F4 s.und,L9 p,H8,gH,l]
 have j:Nat.min ys.length xs.length=ys.length:=aJ hle
 rw [j]
 refine N5 (s:=1) (cs:=ys.map (bC k)) (by simp) sy ?_
 cases A with
 | none=>
  rcases w.at_ with f|f
  ·subst f
   have:ys=[]:=aM (by simpa using hle)
   subst this
   exact x h (by simpa using w)
  ·cases f
 | some a=>
  simp only [C8]
  rcases w.at_ with f|f
  ·subst f
   have:ys=[]:=aM (by simpa using hle)
   subst this
   exact x h (by simpa using w)
  ·cases f
   rw [w.eq]
   refine J9 (ys.map (bC k)) pre.length 0 (pre++xs.map (bC k)++post) (by simp;omega) (fun v o=>?_) ?_
   ·obtain ⟨u,_,rfl⟩:=List.mem_map.1 o;rfl
   ·refine x _ ⟨w.free,?_,?_⟩
    ·congr 3
     unfold L3
     rw [dV,aR pre,dE rfl,fV]
     rw [gN,aV (show pre.length<=pre.length+ys.length by omega),cK,cQ]
     rw [eI (by simpa using hle),<- List.map_drop,dQ]
     simp only [aR]
    ·right;rfl
def A81{P:dI}{nm:String}{x y c:Int}(hc:0<=c/\c<=1){f:Nat × Nat × Nat->dD}:Qh P (Extern.MathBitsCarry.three nm #[U x,U y,U c] >>= fun p=>pure (f p))=some (f (x.toNat,y.toNat,c.toNat)):=by
 obtain rfl|rfl:c=0\/c=1:=by omega
 ·rfl
 ·rfl
def B3c:aX=18446744073709551616:=by decide
def Ec{h:bB}{K:VP}{x y c:Int}(hx:0<=x/\x<18446744073709551616)(hy:0<=y/\y<18446744073709551616)(hc:0<=c/\c<=1)(hK:K (.tuple #[U ((x+y+c)%18446744073709551616),U ((x+y+c)/18446744073709551616)]) h):ECall prog U9 #[U x,U y,U c] h K:=by
 refine C02 B1m (A81 (P:=prog) hc (f:=fun p=>gW ((p.1+p.2.1+p.2.2)%aX) ((p.1+p.2.1+p.2.2)/aX))) ?_
 have a:((x.toNat+y.toNat+c.toNat)%aX:Nat)=(((x+y+c)%18446744073709551616:Int)):=by
  rw [B3c]
  omega
 have b:((x.toNat+y.toNat+c.toNat)/aX:Nat)=(((x+y+c)/18446744073709551616:Int)):=by
  rw [B3c]
  omega
 show K (.tuple #[U ((x.toNat+y.toNat+c.toNat)%aX:Nat),U ((x.toNat+y.toNat+c.toNat)/aX:Nat)]) h
 rw [a,b];exact hK
def Gf{h:bB}{K:VP}{x y c:Int}(hx:0<=x/\x<18446744073709551616)(hy:0<=y/\y<18446744073709551616)(hc:0<=c/\c<=1)(hK:K (.tuple #[U ((x-y-c)%18446744073709551616),U (if x-y-c<0 then 1 else 0)]) h):ECall prog Cp #[U x,U y,U c] h K:=by
 refine C02 B1k (A81 (P:=prog) hc (f:=fun p=>gW ((p.1+aX-p.2.1-p.2.2)%aX) (if p.1<p.2.1+p.2.2 then 1 else 0))) ?_
 have a:((x.toNat+aX-y.toNat-c.toNat)%aX:Nat)=(((x-y-c)%18446744073709551616:Int)):=by
  rw [B3c]
  omega
 have b:(((if x.toNat<y.toNat+c.toNat then 1 else 0:Nat):Nat):Int)=(if x-y-c<0 then 1 else 0):=by
  split<;>split<;>omega
 show K (.tuple #[U ((x.toNat+aX-y.toNat-c.toNat)%aX:Nat),U ((if x.toNat<y.toNat+c.toNat then 1 else 0:Nat):Nat)]) h
 rw [a,b];exact hK
def Xl(x y:Int):Int:=if x<y then -1 else if x>y then 1 else 0
def B34{h:bB}{K:VP}{x:Int}(hK:K (.bool false) h):aZ prog Kj #[I x] h K:=by
 refine A7p _ ?_
 unfold A9j
 have:(x != x)=false:=by simp
 rw [this];exact hK
def B33{h:bB}{K:VP}{x:Int}(hK:K (.bool false) h):aZ prog Co #[U x] h K:=by
 refine Yi _ ?_
 unfold Xh
 have:(x != x)=false:=by simp
 rw [this];exact hK
def B4l{h:bB}{K:VP}{x y:Int}(hK:K (I (Xl x y)) h):aZ prog A1y #[I x,I y] h K:=by
 refine B6h _ _ ?_
 unfold C14
 refine B34 ⟨_,rfl,B34 ⟨_,rfl,?_⟩⟩
 unfold Xl at hK
 refine B8 (fun a=>?_) (fun a=>B8 (fun b=>?_) (fun b=>?_))
 ·rw [iP a] at hK;exact hK
 ·rw [iN a,iP b] at hK;exact hK
 ·rw [iN a,iN b] at hK;exact hK
def B4k{h:bB}{K:VP}{x y:Int}(hK:K (I (Xl x y)) h):aZ prog Mq #[U x,U y] h K:=by
 refine A5k _ _ ?_
 unfold A5l
 refine B33 ⟨_,rfl,B33 ⟨_,rfl,?_⟩⟩
 unfold Xl at hK
 refine B8 (fun a=>?_) (fun a=>B8 (fun b=>?_) (fun b=>?_))
 ·rw [iP a] at hK;exact hK
 ·rw [iN a,iP b] at hK;exact hK
 ·rw [iN a,iN b] at hK;exact hK
def Od{h:bB}{K:VP}{x y:Int}(hx:0<=x/\x<18446744073709551616)(hy:0<=y/\y<18446744073709551616)(hK:K (.tuple #[U (x*y/18446744073709551616),U (x*y%18446744073709551616)]) h):aZ prog Hh #[U x,U y] h K:=by
 refine B6k _ _ ?_
 unfold C15
 rw [Cy hx,Cy hy]
 simp only [Xo]
 obtain ⟨d,e,b,c,a⟩:=A6m hx hy (x1:=x/4294967296) (x0:=x%4294967296) (y1:=y/4294967296) (y0:=y%4294967296) (by omega) (by omega) (by omega) (by omega)
 generalize x/4294967296*(y/4294967296)=p11 at *
 generalize x/4294967296*(y%4294967296)=p10 at *
 generalize x%4294967296*(y/4294967296)=p01 at *
 generalize x%4294967296*(y%4294967296)=p00 at *
 rw [C5 (n:=p00) (by omega) (by omega),C5 (n:=p10) (by omega) (by omega),C5 (n:=p01) (by omega) (by omega),C5 (n:=p11) (by omega) (by omega)]
 rw [C5 (n:=p10+p00/4294967296) (by omega) (by omega),Cy (by omega)]
 rw [C5 (n:=(p10+p00/4294967296)%4294967296+p01) (by omega) (by omega)]
 rw [C5 (n:=p11+(p10+p00/4294967296)/4294967296) (by omega) (by omega),C5 (by omega) (by omega),F6]
 have:p11+(p10+p00/4294967296)/4294967296+((p10+p00/4294967296)%4294967296+p01)/4294967296=x*y/18446744073709551616:=by
  rw [a];omega
 rw [this];exact hK
def U5{h:bB}{K:VP}{x y c:Int}(hx:0<=x/\x<18446744073709551616)(hy:0<=y/\y<18446744073709551616)(hc:0<=c/\c<18446744073709551616)(hK:K (.tuple #[U ((x*y+c)%18446744073709551616),U ((x*y+c)/18446744073709551616)]) h):aZ prog O2 #[U x,U y,U c] h K:=by
 have d:0<=x*y/\x*y<=18446744073709551615*18446744073709551615:=⟨aT hx.1 hy.1,fC (by omega) (by omega) hy.1 (by decide)⟩
 refine Wt _ _ _ ?_
 unfold Se
 refine Od hx hy ⟨_,_,rfl,?_⟩
 refine Ec (by omega) hc (by omega) ⟨_,_,rfl,?_⟩
 rw [C5 (by omega) (by omega)]
 have b:(x*y%18446744073709551616+c+0)%18446744073709551616=(x*y+c)%18446744073709551616:=by omega
 have a:x*y/18446744073709551616+(x*y%18446744073709551616+c+0)/18446744073709551616=(x*y+c)/18446744073709551616:=by omega
 rw [b,a];exact hK
def C2f(a:Array UInt8):({ data:=a }:ByteArray)=bs a.toList:=by simp [bs]
def B3e:List UInt8:=[0,1,2,2,3,3,3,3,4,4,4,4,4,4,4,4,5,5,5,5,5,5,5,5,5,5,5,5,5,5,5,5]++aD 32 6++aD 64 7++aD 128 8
def B0d:∀ i,i<256->(B3e[i]?).map UInt8.toNat=some (O9 i):=by decide
def A2a{x s:Nat}(h:2^s<=x):O9 x=s+O9 (x/2^s):=by
 have a:0<2^s:=cX (by decide)
 have b:x/2^s≠0:=by
  have:=Nat.div_pos h a;omega
 have:=Zo (l:=x%2^s) (t:=x/2^s) (j:=s) (fP _ a) b
 rw [Nat.mod_add_div] at this
 exact this
def A8g{h:bB}{K:VP}{x:Nat}(hx:x<18446744073709551616)(hK:K (I (O9 x)) h):aZ prog Tq #[U x] h K:=by
 refine B6m _ ?_
 unfold C17
 have m:∀ (y s:Nat),s<=64->eK (y:Int) (2^(min ((s:Int)).toNat 64))=((y/2^s:Nat):Int):=by
  intro y s t
  rw [aC,aJ t,fD _ (aQ (bM (by decide)))]
  simp
 refine ⟨fun l d=>∃ (y n:Nat),l=[U y,I n]/\d=h/\y<4294967296/\O9 x=n+O9 y/\n<=32,B8 (fun e=>?_) (fun e=>?_),?_⟩
 ·refine ⟨x/2^32,32,?_,rfl,by omega,A2a (by omega),by omega⟩
  rw [show (32:Int)=((32:Nat):Int) from rfl,m x 32 (by omega)]
 ·exact ⟨x,0,rfl,rfl,by omega,by omega,by omega⟩
 rintro i g d ⟨y,n,b,rfl,f,a,q⟩
 obtain ⟨rfl,rfl⟩:i=(y:Int)/\g=(n:Int):=by simpa using b
 refine ⟨fun l p=>∃ (y n:Nat),l=[U y,I n]/\p=d/\y<65536/\O9 x=n+O9 y/\n<=48,B8 (fun e=>?_) (fun e=>?_),?_⟩
 ·refine ⟨y/2^16,n+16,?_,rfl,by omega,by rw [a,A2a (x:=y) (s:=16) (by omega)];omega,by omega⟩
  rw [show (16:Int)=((16:Nat):Int) from rfl,m y 16 (by omega),C1 (by omega) (by omega)];rfl
 ·exact ⟨y,n,rfl,rfl,by omega,a,by omega⟩
 clear a f b
 rintro i g d ⟨y,n,b,rfl,f,a,q⟩
 obtain ⟨rfl,rfl⟩:i=(y:Int)/\g=(n:Int):=by simpa using b
 refine ⟨fun l p=>∃ (y n:Nat),l=[U y,I n]/\p=d/\y<256/\O9 x=n+O9 y/\n<=56,B8 (fun e=>?_) (fun e=>?_),?_⟩
 ·refine ⟨y/2^8,n+8,?_,rfl,by omega,by rw [a,A2a (x:=y) (s:=8) (by omega)];omega,by omega⟩
  rw [show (8:Int)=((8:Nat):Int) from rfl,m y 8 (by omega),C1 (by omega) (by omega)];rfl
 ·exact ⟨y,n,rfl,rfl,by omega,a,by omega⟩
 clear a f b
 rintro i g d ⟨y,n,b,rfl,f,a,q⟩
 obtain ⟨rfl,rfl⟩:i=(y:Int)/\g=(n:Int):=by simpa using b
 rw [A33 (by omega) (by omega),aC]
 have j:=B0d y f
 cases hc:B3e[y]? with
 | none=>rw [hc] at j;cases j
 | some c=>
  rw [hc] at j
  have o:c.toNat=O9 y:=by simpa using j
  refine ⟨c,⟨by omega,?_⟩,?_⟩
  ·try unfold A8f
   rw [C2f,Sb];exact hc
  ·have r:O9 y<=8:=Jj (k:=8) (by omega)
   rw [o,C1 (n:=((O9 y:Nat):Int)) (by omega) (by omega),C1 (by omega) (by omega),<- eS,<- a]
   exact hK
def T2{h:bB}{K:VP}{x:Nat}(hx:x<18446744073709551616)(hK:K (I ((64-O9 x:Nat):Int)) h):aZ prog K9 #[U x] h K:=by
 refine Py _ ?_
 unfold Jw
 refine A8g hx ⟨_,rfl,?_⟩
 have a:O9 x<=64:=Jj (k:=64) (by omega)
 rw [C1 (by omega) (by omega)]
 have:(64:Int)-((O9 x:Nat):Int)=((64-O9 x:Nat):Int):=by omega
 rw [this];exact hK
def A4m{a b:Int}{s:Nat}(ha:0<=a)(hb:0<=b/\b<2^s)(hab:a*2^s+b<18446744073709551616):bor .u64 (a*2^s) b=a*2^s+b:=by
 have f:0<(2:Int)^s:=bM (by decide)
 have d:0<=a*2^s:=aT ha (by omega)
 rw [A77 (by omega) (by omega)]
 have e:(a*2^s).toNat=2^s*a.toNat:=by
  rw [Int.toNat_mul ha (by omega),fA,hO (by decide)];rfl
 have c:b.toNat<2^s:=by
  have:((2^s:Nat):Int)=(2:Int)^s:=by simp
  omega
 rw [e,A8c c,<- e];omega
def Az{s:Nat}(hs:s<=64):(2:Int)^s*2^(64-s)=18446744073709551616:=by
 rw [<- bG,show s+(64-s)=64 by omega];decide
def B7g{x:Int}{s:Nat}(hs:s<=64):eK x (2^(min s 64))=x/2^s:=by
 rw [aJ hs];exact fD x (aQ (bM (by decide)))
def Est.exact{B top u2 v1 v2 U V:Int}(e:Est B 1 top u2 0 v1 v2 0 U V){q:Int}(h:q*(v1*B+v2)<=top*B+u2):q*V<=U:=by
 have d:=e.hU
 have a:=e.hV
 have b:U=top*B+u2:=by rw [d];omega
 have c:V=v1*B+v2:=by rw [a];omega
 rw [b,c];exact h
section
variable {h:bB} {K:VP}
def B4g{T u2 v1 v2 X Y:Int}{hp:bB}{J:Int->bB->Prop}(es:Est 4294967296 1 T u2 0 v1 v2 0 X Y)(_hT:T<18446744073709551616)
 (hJ:∀ q,0<=q->q*Y<=X->X<(q+1)*Y->J q hp):
 ∃ (Inv:Int->Int->bB->Prop) (mu:Int->Int->bB->Nat),Inv (T/v1) (T%v1) hp/\
  ∀ q r hp1,Inv q r hp1->(q>=4294967296->Inv q r hp1)/\0<=q/\q<=4294967297/\0<=r/\r<4294967296/\hp1=hp/\
   (q<4294967296->¬ (q*v2>4294967296*r+u2)->J q hp1)/\
   ((q>=4294967296\/q*v2>4294967296*r+u2)->1<=q/\(r+v1>=4294967296->J (q-1) hp1)/\(r+v1<4294967296->Inv (q-1) (r+v1) hp1/\mu (q-1) (r+v1) hp1<mu q r hp1)):=by
 obtain ⟨H,G⟩:=es.first
 have n:=es.init
 have B:=es.V0
 have z:=es.U0
 have A:=es.v1r
 have o:=es.v2r
 have y:=es.u2r
 have d:=es.top0
 have p:0<=T/v1:=cF d (by omega)
 have k:=aO T v1
 have l:=aU T (show v1≠0 by omega)
 have D:=aP T (show 0<v1 by omega)
 refine ⟨fun q r hp1=>hp1=hp/\0<=q/\q<=4294967297/\0<=r/\r<4294967296/\q*v1+r=T/\X<(q+1)*Y,fun q _ _=>q.toNat,⟨rfl,p,by omega,l,by omega,by rw [aS];exact k,n⟩,?_⟩
 rintro q r hp1 ⟨rfl,g,u,w,t,e,c⟩
 have key:q*(v1*4294967296+v2)=(T-r)*4294967296+q*v2:=by rw [<- e];grind
 refine ⟨fun _=>⟨rfl,g,u,w,t,e,c⟩,g,u,w,t,rfl,fun i F=>hJ q g (es.exact (by omega)) c,fun f=>?_⟩
 have m:X<q*Y:=by
  rcases f with i|i
  ·exact es.big i
  ·exact es.low g (by omega)
 have j:1<=q:=by
  by_cases C:1<=q
  ·exact C
  ·have:q=0:=by omega
   subst this;omega
 have a:X<(q-1+1)*Y:=by rw [Int.sub_add_cancel];exact m
 have b:(q-1)*v1+(r+v1)=T:=by grind
 refine ⟨j,fun E=>?_,fun E=>⟨⟨rfl,by omega,by omega,by omega,by omega,b,a⟩,by show (q-1).toNat<q.toNat;omega⟩⟩
 have s:(q-1)*(v1*4294967296+v2)=(T-(r+v1))*4294967296+(q-1)*v2:=by rw [<- b];grind
 have i:(q-1)*v2<=4294967296*v2:=aE (by omega) o.1
 exact hJ (q-1) (by omega) (es.exact (by omega)) a
def Tt{hi lo:Int}{y:Nat}(hhi:0<=hi/\hi<y)(hlo:0<=lo/\lo<18446744073709551616)(hy:y<18446744073709551616)
 (hK:K (.tuple #[U ((hi*18446744073709551616+lo)/y),U ((hi*18446744073709551616+lo)%y)]) h):aZ prog Hi #[U hi,U lo,U y] h K:=by
 refine B6n _ _ _ ?_
 unfold C18
 refine D8 (fun e=>absurd e (by omega)) (fun _=>?_)
 refine B8 (fun e=>absurd e (by omega)) (fun _=>?_)
 refine D8 (fun e=>?_) (fun bb=>?_)
 ·refine B8 (fun e=>absurd e (by omega)) (fun _=>?_)
  refine B8 (fun e=>absurd e (by omega)) (fun _=>?_)
  subst e
  rw [fQ,dN] at hK
  rw [bJ hlo.1,bY hlo.1,C5 (cF hlo.1 (by omega)) (dC (fN _ hlo.1) hlo.2)]
  exact hK
 refine T2 hy ⟨_,rfl,?_⟩
 have M:y≠0:=by omega
 obtain ⟨a6,a4⟩:=Fq M
 have a0:O9 y<=64:=Jj (k:=64) (by omega)
 have a3:1<=O9 y:=by unfold O9;rw [iN M];omega
 obtain ⟨s,hs⟩:∃ s,s=64-O9 y:=⟨_,rfl⟩
 rw [<- hs]
 have av:s<64:=by omega
 have j:0<(2:Int)^s:=bM (by decide)
 have C:=Az (s:=s) (by omega)
 have ac:0<(2:Int)^(64-s):=bM (by decide)
 have D:O9 y=64-s:=by omega
 have ai:(y:Int)<2^(64-s):=by
  rw [<- D]
  have:((y:Nat):Int)<((2^O9 y:Nat):Int):=by omega
  simpa using this
 have ah:(2:Int)^(63-s)<=y:=by
  have:((2^(O9 y-1):Nat):Int)<=((y:Nat):Int):=by omega
  rw [show O9 y-1=63-s by omega] at this
  simpa using this
 have V:(2:Int)^s*2^(63-s)=9223372036854775808:=by
  rw [<- bG,show s+(63-s)=63 by omega];decide
 have ag:C3 (s:Int)=(s:Int):=C5 (by omega) (by omega)
 have aq:C3 ((64:Int)-s)=((64-s:Nat):Int):=by rw [C5 (by omega) (by omega)];omega
 have N:(y:Int)*2^s<18446744073709551616:=by
  rw [<- C,aS];exact cV ai j
 have az:9223372036854775808<=(y:Int)*2^s:=by
  rw [<- V,aS (y:Int)];exact aK ah (by omega)
 have eY:C3 ((y:Int)*2^(min s 64))=(y:Int)*2^s:=by rw [aJ (by omega),C5 (by omega) N]
 have bc:hi*2^s+2^s<=(y:Int)*2^s:=by
  have:=aE (show hi+1<=(y:Int) by omega) (aQ j)
  rw [Int.add_mul] at this;omega
 have Q:0<=hi*2^s:=aT hhi.1 (by omega)
 have aj:0<=lo/2^(64-s)/\lo/2^(64-s)<2^s:=by
  refine ⟨cF hlo.1 (by omega),bK ac ?_⟩
  rw [C];exact hlo.2
 have eT:bor .u64 (C3 (hi*2^(min s 64))) (eK lo (2^(min (64-s) 64)))=hi*2^s+lo/2^(64-s):=by
  rw [aJ (show s<=64 by omega),C5 Q (by omega),B7g (by omega),A4m hhi.1 aj (by omega)]
 have eL:C3 (lo*2^(min s 64))=lo*2^s%18446744073709551616:=by rw [aJ (by omega),F6]
 have a8:0<=lo*2^s%18446744073709551616/\lo*2^s%18446744073709551616<18446744073709551616:=⟨aU _ (by decide),aP _ (by decide)⟩
 have hN:(hi*18446744073709551616+lo)*2^s=(hi*2^s+lo/2^(64-s))*18446744073709551616+lo*2^s%18446744073709551616:=by
  have d1:lo*2^s/18446744073709551616=lo/2^(64-s):=by
   rw [<- C,aS lo,Int.mul_ediv_mul_of_pos _ _ j]
  have d2:=aO (lo*2^s) 18446744073709551616
  rw [d1] at d2
  grind
 generalize hTT:hi*2^s+lo/2^(64-s)=T at *
 generalize hLL:lo*2^s%18446744073709551616=L at *
 generalize hYY:(y:Int)*2^s=Y at *
 have t:0<=T/\T<Y:=by omega
 unfold A5n A5p A5m A5o
 simp only [ag,aq,aC,eY,eT,eL,Xo]
 rw [Cy (by omega),Cy (by omega)]
 have e1:Est 4294967296 1 T (L/4294967296) 0 (Y/4294967296) (Y%4294967296) 0 (T*4294967296+L/4294967296) Y:=
  ⟨by decide,by decide,by omega,by omega,by omega,by omega,by omega,by omega,t.1,by omega,by omega⟩
 refine B8 (fun e=>absurd e (by omega)) (fun _=>?_)
 refine B8 (fun e=>absurd e (by omega)) (fun _=>?_)
 refine B8 (fun e=>absurd e (by omega)) (fun _=>?_)
 refine B8 (fun e=>absurd e (by omega)) (fun _=>?_)
 refine B8 (fun e=>absurd e (by omega)) (fun _=>?_)
 have bm:∀ {q w:Int},0<=q->q<=4294967296->0<=w->w<4294967296->0<=q*w/\q*w<18446744073709551616:=by
  intro q w a b c d
  refine ⟨aT a c,?_⟩
  have:=fC b (show w<=4294967295 by omega) c (by decide)
  omega
 refine ⟨fun l hp=>∃ q,l=[U q]/\hp=h/\0<=q/\q*Y<=T*4294967296+L/4294967296/\T*4294967296+L/4294967296<(q+1)*Y,?_,?_⟩
 ·obtain ⟨Inv,mu,i0,st⟩:=B4g (hp:=h) (J:=fun q hp=>∃ i,[U q]=[U i]/\hp=h/\0<=i/\i*Y<=T*4294967296+L/4294967296/\T*4294967296+L/4294967296<(i+1)*Y) e1 (by omega) (fun q a b c=>⟨q,rfl,rfl,a,b,c⟩)
  refine ⟨fun l hp=>∃ q r,l=[U q,U r]/\Inv q r hp,fun l hp=>mu (iAt l 0) (iAt l 1) hp,⟨T/(Y/4294967296),T%(Y/4294967296),?_,i0⟩,?_⟩
  ·have dm:=aO T (Y/4294967296)
   have Z:=cF t.1 (show 0<=Y/4294967296 by omega)
   have d1:T/(Y/4294967296)<=T:=fN _ t.1
   have d2:=aU T (show Y/4294967296≠0 by omega)
   rw [bJ t.1,C5 (n:=T/(Y/4294967296)) Z (by omega),aS (T/(Y/4294967296))]
   have d3:=aT (show 0<=Y/4294967296 by omega) Z
   rw [C5 (n:=Y/4294967296*(T/(Y/4294967296))) d3 (by omega),C5 (by omega) (by omega)]
   have:T-Y/4294967296*(T/(Y/4294967296))=T%(Y/4294967296):=by omega
   rw [this]
  rintro q r m ⟨i,r',hl,hI⟩
  obtain ⟨rfl,rfl⟩:q=i/\r=r':=by simpa using hl
  obtain ⟨_,f,g,r0,r1,rfl,ok,z⟩:=st q r m hI
  have H:=bm (q:=4294967296) (w:=r) (by omega) (by omega) r0 r1
  refine ⟨fun l hp=>l=[]/\hp=m/\(q>=4294967296\/q*(Y%4294967296)>4294967296*r+L/4294967296),B8 (fun X=>⟨rfl,rfl,.inl X⟩) (fun X=>?_),?_⟩
  ·have G:=bm (q:=q) (w:=Y%4294967296) f (by omega) (by omega) (by omega)
   rw [C5 G.1 G.2,C5 H.1 H.2,C5 (n:=4294967296*r+L/4294967296) (by omega) (by omega)]
   exact B8 (fun A=>⟨rfl,rfl,.inr A⟩) (fun A=>ok (by omega) A)
  ·rintro am ⟨_,rfl,o⟩
   obtain ⟨g1,g2,W⟩:=z o
   rw [C5 (n:=r+Y/4294967296) (by omega) (by omega),C5 (n:=q-1) (by omega) (by omega)]
   exact B8 (fun S=>g2 S) (fun S=>⟨⟨_,_,rfl,(W (by omega)).1⟩,(W (by omega)).2⟩)
 rintro g B ⟨ae,ao,rfl,ab,a5,a2⟩
 obtain rfl:g=ae:=by simpa using ao
 have aw:g<4294967296:=by
  by_cases F:g<4294967296
  ·exact F
  ·have:=aE (show 4294967296<=g by omega) (show 0<=Y by omega);omega
 have a9:(g+1)*Y=g*Y+Y:=by grind
 have ar:0<=g*Y:=aT ab (by omega)
 have an:C3 (C3 (C3 (T*4294967296)+L/4294967296)-C3 (g*Y))=T*4294967296+L/4294967296-g*Y:=by
  simp only [F6];omega
 simp only [an]
 generalize hRR:T*4294967296+L/4294967296-g*Y=R at *
 have p:0<=R/\R<Y:=by omega
 refine B8 (fun e=>absurd e (by omega)) (fun _=>?_)
 have e2:Est 4294967296 1 R (L%4294967296) 0 (Y/4294967296) (Y%4294967296) 0 (R*4294967296+L%4294967296) Y:=
  ⟨by decide,by decide,by omega,by omega,by omega,by omega,by omega,by omega,p.1,by omega,by omega⟩
 refine ⟨fun l hp=>∃ q,l=[U q]/\hp=B/\0<=q/\q*Y<=R*4294967296+L%4294967296/\R*4294967296+L%4294967296<(q+1)*Y,?_,?_⟩
 ·obtain ⟨Inv,mu,i0,st⟩:=B4g (hp:=B) (J:=fun q hp=>∃ i,[U q]=[U i]/\hp=B/\0<=i/\i*Y<=R*4294967296+L%4294967296/\R*4294967296+L%4294967296<(i+1)*Y) e2 (by omega) (fun q a b c=>⟨q,rfl,rfl,a,b,c⟩)
  refine ⟨fun l hp=>∃ q r,l=[U r,U q]/\Inv q r hp,fun l hp=>mu (iAt l 1) (iAt l 0) hp,⟨R/(Y/4294967296),R%(Y/4294967296),?_,i0⟩,?_⟩
  ·have dm:=aO R (Y/4294967296)
   have Z:=cF p.1 (show 0<=Y/4294967296 by omega)
   have d1:R/(Y/4294967296)<=R:=fN _ p.1
   have d2:=aU R (show Y/4294967296≠0 by omega)
   rw [bJ p.1,C5 (n:=R/(Y/4294967296)) Z (by omega),aS (R/(Y/4294967296))]
   have d3:=aT (show 0<=Y/4294967296 by omega) Z
   rw [C5 (n:=Y/4294967296*(R/(Y/4294967296))) d3 (by omega),C5 (by omega) (by omega)]
   have:R-Y/4294967296*(R/(Y/4294967296))=R%(Y/4294967296):=by omega
   rw [this]
  rintro r q m ⟨i,r',hl,hI⟩
  obtain ⟨rfl,rfl⟩:r=r'/\q=i:=by simpa using hl
  obtain ⟨_,f,g,r0,r1,rfl,ok,z⟩:=st q r m hI
  have H:=bm (q:=4294967296) (w:=r) (by omega) (by omega) r0 r1
  refine ⟨fun l hp=>l=[]/\hp=m/\(q>=4294967296\/q*(Y%4294967296)>4294967296*r+L%4294967296),B8 (fun X=>⟨rfl,rfl,.inl X⟩) (fun X=>?_),?_⟩
  ·have G:=bm (q:=q) (w:=Y%4294967296) f (by omega) (by omega) (by omega)
   rw [C5 G.1 G.2,C5 H.1 H.2,C5 (n:=4294967296*r+L%4294967296) (by omega) (by omega)]
   exact B8 (fun A=>⟨rfl,rfl,.inr A⟩) (fun A=>ok (by omega) A)
  ·rintro am ⟨_,rfl,o⟩
   obtain ⟨g1,g2,W⟩:=z o
   rw [C5 (n:=r+Y/4294967296) (by omega) (by omega),C5 (n:=q-1) (by omega) (by omega)]
   exact B8 (fun S=>g2 S) (fun S=>⟨⟨_,_,rfl,(W (by omega)).1⟩,(W (by omega)).2⟩)
 rintro f a1 ⟨al,af,rfl,ad,ba,a7⟩
 obtain rfl:f=al:=by simpa using af
 refine B8 (fun e=>absurd e (by omega)) (fun _=>?_)
 have ay:f<4294967296:=by
  by_cases F:f<4294967296
  ·exact F
  ·have:=aE (show 4294967296<=f by omega) (show 0<=Y by omega);omega
 have bd:(f+1)*Y=f*Y+Y:=by grind
 have ax:0<=f*Y:=aT ad (by omega)
 have ap:C3 (C3 (C3 (R*4294967296)+L%4294967296)-C3 (f*Y))=R*4294967296+L%4294967296-f*Y:=by
  simp only [F6];omega
 rw [ap,C5 (n:=g*4294967296) (by omega) (by omega),C5 (n:=g*4294967296+f) (by omega) (by omega),B7g (by omega)]
 have au:(hi*18446744073709551616+lo)*2^s=(g*4294967296+f)*(y*2^s)+(R*4294967296+L%4294967296-f*Y):=by
  rw [hN,hYY]
  have:T*18446744073709551616+L=(T*4294967296+L/4294967296)*4294967296+L%4294967296:=by omega
  rw [this]
  have:T*4294967296+L/4294967296=R+g*Y:=by omega
  rw [this];grind
 have E:R*4294967296+L%4294967296-f*Y=(hi*18446744073709551616+lo-(g*4294967296+f)*y)*2^s:=by grind
 rw [E,gG _ (show (2:Int)^s≠0 by omega)]
 have aa:0<=hi*18446744073709551616+lo-(g*4294967296+f)*y:=by
  by_cases F:0<=hi*18446744073709551616+lo-(g*4294967296+f)*y
  ·exact F
  ·have:=aE (show hi*18446744073709551616+lo-(g*4294967296+f)*y <= -1 by omega) (aQ j);omega
 have ak:hi*18446744073709551616+lo-(g*4294967296+f)*y<y:=by
  by_cases F:hi*18446744073709551616+lo-(g*4294967296+f)*y<y
  ·exact F
  ·have:=aE (show (y:Int)<=hi*18446744073709551616+lo-(g*4294967296+f)*y by omega) (aQ j);omega
 have u:(hi*18446744073709551616+lo)/y=g*4294967296+f:=by
  have:hi*18446744073709551616+lo=(hi*18446744073709551616+lo-(g*4294967296+f)*y)+(g*4294967296+f)*y:=by omega
  rw [this,fT _ _ (by omega),bU aa ak,dN]
 have O:(hi*18446744073709551616+lo)%y=hi*18446744073709551616+lo-(g*4294967296+f)*y:=by
  rw [Int.emod_def,u,aS (y:Int)]
 rw [u,O] at hK
 exact hK
end
def O7{xs:List Int}(d:Dig b64 xs)(i:Nat):0<=xs.getD i 0/\xs.getD i 0<18446744073709551616:=d.getD (by decide) i
def Fe(c:Int):0<=c%18446744073709551616/\c%18446744073709551616<b64:=⟨aU _ (by decide),aP _ (by decide)⟩
section
variable {h g:bB} {K:VP} {A B:Option bH} {ac bc:Nat}
def Et{xs:List Int}(s:SlI .u64 h A xs)(hc:xs.length<=ac)(hl:xs.length<=10000000000)(hK:∀ m,m<=xs.length->gD (xs.take m)->val b64 (xs.take m)=val b64 xs->K (.slice A m ac) h):aZ prog J6 #[.slice A xs.length ac] h K:=by
 refine B8j _ _ _ ?_
 unfold C4m
 refine ⟨fun l g=>∃ m:Nat,l=[I m]/\m<=xs.length/\g=h/\val b64 (xs.take m)=val b64 xs,fun l _=>(iAt l 0).toNat,⟨xs.length,rfl,aY _,rfl,by rw [aW]⟩,?_⟩
 rintro o n ⟨m,c,k,rfl,d⟩
 obtain rfl:=sI1 c
 refine B8 (fun f=>?_) (fun f=>?_)
 ·obtain ⟨j,rfl⟩:∃ j,m=j+1:=⟨m-1,by omega⟩
  have e:B7 (((j+1:Nat):Int)-1)=(j:Int):=by rw [C1 (by omega) (by omega)];omega
  rw [e]
  have a:=Q0 b64 (xs:=xs) (i:=j) (by omega)
  refine s.load rfl (by omega) (by omega) ?_
  rw [aC]
  refine D8 (fun b=>?_) (fun b=>?_)
  ·exact ⟨⟨j,rfl,by omega,rfl,by rw [b] at a;omega⟩,by simp only [iAt,aG];omega⟩
  ·refine ⟨⟨by omega,by omega⟩,?_⟩
   rw [J0,aC,bX,bX]
   refine hK (j+1) k ?_ d
   rw [Ii (by omega)];exact A3w b
 ·have:m=0:=by omega
  subst this
  refine ⟨⟨by omega,by omega⟩,?_⟩
  rw [J0,aC,bX,bX]
  exact hK 0 (by omega) Norm.nil d
def R9{xs:List Int}(s:SlI .u64 h A xs)(hd:Dig b64 xs)(hc:xs.length<=ac)(hl:xs.length<=10000000000)(hK:∀ m,m<=xs.length->Mw h A m (val b64 xs)->K (.slice A m ac) h):aZ prog J6 #[.slice A xs.length ac] h K:=by
 refine Et s hc hl ?_
 intro m a b d
 refine hK m a ⟨xs.take m,by simp;omega,?_,hd.take m,b,d⟩
 have:=s.cut (c:=ac) (l:=0) (m:=m) (by omega) a hc
 simpa [J0] using this
def Ch{w:Int}(hw:0<=w/\w<18446744073709551616)(hK:∀ A m c h',h.le h'->m<=c->Mw h' A m w->K (.slice A m c) h'):aZ prog Ag #[U w] h K:=by
 refine A4y _ ?_
 unfold A4z
 refine D8 (fun e=>?_) (fun e=>?_)
 ·subst e;exact hK none 0 0 h (B5 h) (aY _) Mag.zero
 ·refine Bn R5 rfl ?_
  intro b a
  exact ⟨_,_,_,rfl,hK _ _ _ _ (Heap.le_put _ a) (aY _) ⟨[w],rfl,SlI.new h b [w] C4 _,Dig.one hw,by simpa [gD] using e,Z6 _ _⟩⟩
def J8{x y:Int}{an bn:Nat}(ma:Mw h A an x)(mb:Mw h B bn y)(hl:an<=10000000000)(hK:K (I (Xl x y)) h):aZ prog I9 #[.slice A an ac,.slice B bn bc] h K:=by
 obtain ⟨a,rfl,r,g,z,rfl⟩:=ma
 obtain ⟨b,rfl,s,f,t,rfl⟩:=mb
 refine Ta _ _ _ _ _ _ ?_
 unfold Ps
 refine F8 (fun w=>?_) (fun w=>?_)
 ·refine B4l ⟨_,rfl,?_⟩
  have:Xl (a.length:Int) (b.length:Int)=Xl (val b64 a) (val b64 b):=by
   unfold Xl
   by_cases m:a.length<b.length
   ·have:=Ka (by decide) g f t m
    rw [iP (by omega),iP this]
   ·have:=Ka (by decide) f g z (by omega)
    rw [iN (by omega),iP (by omega),iN (by omega),iP (by omega)]
  rw [this];exact hK
 ·have d:a.length=b.length:=by omega
  refine ⟨fun l u=>∃ k:Nat,l=[I ((k:Int)-1)]/\k<=a.length/\u=h/\a.drop k=b.drop k,fun l _=>(iAt l 0+1).toNat,⟨a.length,?_,aY _,rfl,?_⟩,?_⟩
  ·rw [C1 (by omega) (by omega)]
  ·rw [fM,d,fM]
  rintro i D ⟨k,p,C,rfl,c⟩
  obtain rfl:i=(k:Int)-1:=by simpa using p
  refine B8 (fun m=>?_) (fun m=>?_)
  ·obtain ⟨j,rfl⟩:∃ j,k=j+1:=⟨k-1,by omega⟩
   have e:((j+1:Nat):Int)-1=(j:Int):=by omega
   rw [e]
   refine r.load rfl (by omega) (by omega) ?_
   refine s.load rfl (by omega) (by omega) ?_
   rw [aC]
   refine F8 (fun q=>?_) (fun q=>?_)
   ·refine r.load rfl (by omega) (by omega) ?_
    refine s.load rfl (by omega) (by omega) ?_
    rw [aC]
    refine B4k ⟨_,rfl,B5 _,?_⟩
    have:Xl (a.getD j 0) (b.getD j 0)=Xl (val b64 a) (val b64 b):=by
     unfold Xl
     by_cases o:a.getD j 0<b.getD j 0
     ·have:=Jz (by decide) g f (i:=j) (by omega) (by omega) c o
      rw [iP o,iP this]
     ·have:=Jz (by decide) f g (i:=j) (by omega) (by omega) c.symm (by omega)
      rw [iN o,iP (by omega),iN (by omega),iP (by omega)]
    rw [this];exact hK
   ·rw [C1 (by omega) (by omega)]
    refine ⟨⟨j,rfl,by omega,rfl,?_⟩,by simp only [iAt,aG];omega⟩
    rw [cG (show j<a.length by omega),cG (show j<b.length by omega),c]
    congr 1
    simpa [cR,show j<a.length by omega,show j<b.length by omega] using q
  ·have n:k=0:=by omega
   subst n
   simp at c
   subst c
   have:Xl (val b64 a) (val b64 a)=0:=by unfold Xl;rw [iN (by omega),iN (by omega)]
   rw [this] at hK;exact hK
def Fn{xs:List Int}{an:Nat}(s:SlI .u64 h A xs)(hn:an=xs.length)(hl:xs.length<=10000000000)(hK:∀ A' c' h' g',h.le g'->eO h' g' C4 1 A' xs.length c' (xs.map (bC .u64))->K (.slice A' xs.length c') h'):aZ prog Gx #[.slice A an ac] h K:=by
 subst hn
 refine B57 _ _ _ ?_
 unfold C0f
 refine Br.of (fun e=>?_) (fun e=>?_)
 ·have m:A=none:=by simpa using e
  have j:xs=[]:=by
   rcases s with g|⟨a,f,_⟩
   ·simpa using g
   ·rw [m] at f;cases f
  subst j
  exact hK none 0 h h (B5 h) (by simpa using Priv.nil _ _ _ _)
 ·refine Qm R5 ?_
  intro b k
  refine ⟨_,_,_,rfl,?_⟩
  have c:=Heap.le_put (h:=h) (b:=b) (.cells #[] C4) k
  refine Pj R5 (Priv.nil _ _ _ _) (ys:=xs.map (bC .u64)) (by simp) (SlI.mono c s) (fun v i=>?_) (by omega) (by omega) ?_
  ·obtain ⟨a,_,rfl⟩:=List.mem_map.1 i;rfl
  ·intro A' c' h' g' l d
   simp only [eX,cQ] at d ⊢
   exact ⟨_,_,_,rfl,hK _ _ _ _ (B0 c l) d⟩
variable {b:Nat} {e:bV} {pre post:List dD}
def Jl{xs ys:List Int}{an bn:Nat}(w:Win .u64 h g b e A pre xs post)(hn:an=xs.length)(sy:SlI .u64 g B ys)(hm:bn=ys.length)(dx:Dig b64 xs)(dy:Dig b64 ys)(hle:ys.length<=xs.length)(hfit:val b64 xs+val b64 ys<b64^xs.length)(hl:xs.length<=10000000000)
 (hK:∀ xs' h',xs'.length=xs.length->Dig b64 xs'->val b64 xs'=val b64 xs+val b64 ys->Win .u64 h' g b e A pre xs' post->K (.tuple #[]) h'):aZ prog W5 #[.slice A an ac,.slice B bn bc] h K:=by
 subst hn hm
 refine A7f _ _ _ _ _ _ ?_
 unfold A99
 refine ⟨fun l t=>∃ (k:Nat) (c:Int) (zs:List Int),l=[U c,I k]/\k<=ys.length/\zs.length=xs.length/\Dig b64 zs/\(0<=c/\c<=1)/\Win .u64 t g b e A pre zs post/\zs.drop k=xs.drop k/\val b64 (zs.take k)+c*b64^k=val b64 (xs.take k)+val b64 (ys.take k),fun l _=>ys.length-(iAt l 1).toNat,⟨0,0,xs,rfl,by omega,rfl,dx,by omega,w,rfl,by simp [val]⟩,?_⟩
 rintro c i t ⟨k,F,zs,r,J,f,p,z,m,d,u⟩
 obtain ⟨rfl,rfl⟩:c=F/\i=(k:Int):=by simpa using r
 refine B8 (fun C=>?_) (fun C=>?_)
 ·have M:=O7 dy k
  have gz:=O7 p k
  have s:=E7 d
  have D:=C7 b64 xs k
  have N:=C7 b64 ys k
  refine (sy.mono m.le).load rfl (by omega) (by omega) ?_
  refine m.sl.load f.symm (by omega) (by omega) ?_
  simp only [aC]
  refine Ec gz M z ⟨_,_,rfl,?_⟩
  obtain ⟨a,y,_⟩:=SlV.at m.sl (i:=k) (by simp;omega)
  refine ⟨a,y,by omega,by omega,m.storeN G8 y (by omega) ?_⟩
  intro h' E
  rw [C1 (n:=(k:Int)+1) (by omega) (by omega)]
  refine ⟨⟨k+1,_,_,rfl,by omega,by simpa using f,p.set (Fe _),by omega,E,?_,?_⟩,by simp only [iAt,aG,aI];omega⟩
  ·rw [D7 (by omega)];exact E5 d
  ·rw [D3 (by omega),F7,aF,aJ (by omega),bF,Cx,D,N,<- s]
   grind
 ·have q:k=ys.length:=by omega
  subst q
  rw [aW] at u
  refine ⟨fun l t=>∃ (k:Nat) (c:Int) (zs:List Int),l=[U c,I k]/\ys.length<=k/\k<=xs.length/\zs.length=xs.length/\Dig b64 zs/\(0<=c/\c<=1)/\Win .u64 t g b e A pre zs post/\zs.drop k=xs.drop k/\val b64 (zs.take k)+c*b64^k=val b64 (xs.take k)+val b64 ys,fun l _=>xs.length-(iAt l 1).toNat,⟨ys.length,c,zs,rfl,by omega,by omega,f,p,z,m,d,u⟩,?_⟩
  clear u d m p f z J C
  rintro c i t ⟨k,F,zs,r,O,J,f,p,z,m,d,u⟩
  obtain ⟨rfl,rfl⟩:c=F/\i=(k:Int):=by simpa using r
  have o:=G1 b64 zs (i:=k) (by omega)
  have j:=G1 b64 xs (i:=k) (by omega)
  refine F8 (fun L=>B8 (fun C=>?_) (fun C=>?_)) (fun L=>?_)
  ·have gz:=O7 p k
   have s:=E7 d
   have D:=C7 b64 xs k
   refine m.sl.load f.symm (by omega) (by omega) ?_
   simp only [aC]
   refine Ec gz (by omega) z ⟨_,_,rfl,?_⟩
   obtain ⟨a,y,_⟩:=SlV.at m.sl (i:=k) (by simp;omega)
   refine ⟨a,y,by omega,by omega,m.storeN G8 y (by omega) ?_⟩
   intro h' E
   rw [C1 (n:=(k:Int)+1) (by omega) (by omega)]
   refine ⟨⟨k+1,_,_,rfl,by omega,by omega,by simpa using f,p.set (Fe _),by omega,E,?_,?_⟩,by simp only [iAt,aG,aI];omega⟩
   ·rw [D7 (by omega)];exact E5 d
   ·rw [D3 (by omega),F7,aF,aJ (by omega),bF,Cx,D,<- s]
    grind
  ·exfalso
   have q:k=xs.length:=by omega
   subst q
   have G:c=1:=by omega
   subst G
   rw [aW] at u
   have:=C9 (by decide) (p.take xs.length)
   omega
  ·have H:c=0:=by omega
   subst H
   refine hK zs t f p ?_ m
   rw [o,j,d];omega
def Ew{xs ys:List Int}{an bn:Nat}(w:Win .u64 h g b e A pre xs post)(hn:an=xs.length)(sy:SlI .u64 g B ys)(hm:bn=ys.length)(dx:Dig b64 xs)(dy:Dig b64 ys)(hle:ys.length<=xs.length)(hfit:val b64 ys<=val b64 xs)(hl:xs.length<=10000000000)
 (hK:∀ xs' h',xs'.length=xs.length->Dig b64 xs'->val b64 xs'=val b64 xs-val b64 ys->Win .u64 h' g b e A pre xs' post->K (.tuple #[]) h'):aZ prog Y2 #[.slice A an ac,.slice B bn bc] h K:=by
 subst hn hm
 refine Ss _ _ _ _ _ _ ?_
 unfold Pl
 have key:∀ {z y c:Int},(0<=z/\z<18446744073709551616)->(0<=y/\y<18446744073709551616)->(0<=c/\c<=1)->(z-y-c)%18446744073709551616=z-y-c+18446744073709551616*(if z-y-c<0 then 1 else 0):=by
  intro z y c S T q;split<;>omega
 refine ⟨fun l C=>∃ (k:Nat) (c:Int) (zs:List Int),l=[U c,I k]/\k<=ys.length/\zs.length=xs.length/\Dig b64 zs/\(0<=c/\c<=1)/\Win .u64 C g b e A pre zs post/\zs.drop k=xs.drop k/\val b64 (zs.take k)=val b64 (xs.take k)-val b64 (ys.take k)+c*b64^k,fun l _=>ys.length-(iAt l 1).toNat,⟨0,0,xs,rfl,by omega,rfl,dx,by omega,w,rfl,by simp [val]⟩,?_⟩
 rintro c i C ⟨k,H,zs,t,M,f,p,q,m,d,s⟩
 obtain ⟨rfl,rfl⟩:c=H/\i=(k:Int):=by simpa using t
 refine B8 (fun E=>?_) (fun E=>?_)
 ·have N:=O7 dy k
  have gz:=O7 p k
  have u:=E7 d
  have F:=C7 b64 xs k
  have Q:=C7 b64 ys k
  refine (sy.mono m.le).load rfl (by omega) (by omega) ?_
  refine m.sl.load f.symm (by omega) (by omega) ?_
  simp only [aC]
  refine Gf gz N q ⟨_,_,rfl,?_⟩
  obtain ⟨a,D,_⟩:=SlV.at m.sl (i:=k) (by simp;omega)
  refine ⟨a,D,by omega,by omega,m.storeN G8 D (by omega) ?_⟩
  intro h' G
  rw [C1 (n:=(k:Int)+1) (by omega) (by omega)]
  refine ⟨⟨k+1,_,_,rfl,by omega,by simpa using f,p.set (Fe _),by split<;>omega,G,?_,?_⟩,by simp only [iAt,aG,aI];omega⟩
  ·rw [D7 (by omega)];exact E5 d
  ·rw [D3 (by omega),F7,aF,aJ (by omega),bF,F,Q,<- u,s,key gz N q]
   grind
 ·have r:k=ys.length:=by omega
  subst r
  rw [aW] at s
  refine ⟨fun l C=>∃ (k:Nat) (c:Int) (zs:List Int),l=[U c,I k]/\ys.length<=k/\k<=xs.length/\zs.length=xs.length/\Dig b64 zs/\(0<=c/\c<=1)/\Win .u64 C g b e A pre zs post/\zs.drop k=xs.drop k/\val b64 (zs.take k)=val b64 (xs.take k)-val b64 ys+c*b64^k,fun l _=>xs.length-(iAt l 1).toNat,⟨ys.length,c,zs,rfl,by omega,by omega,f,p,q,m,d,s⟩,?_⟩
  clear s d m p f q M E
  rintro c i C ⟨k,H,zs,t,R,M,f,p,q,m,d,s⟩
  obtain ⟨rfl,rfl⟩:c=H/\i=(k:Int):=by simpa using t
  have o:=G1 b64 zs (i:=k) (by omega)
  have j:=G1 b64 xs (i:=k) (by omega)
  refine F8 (fun O=>B8 (fun E=>?_) (fun E=>?_)) (fun O=>?_)
  ·have gz:=O7 p k
   have u:=E7 d
   have F:=C7 b64 xs k
   refine m.sl.load f.symm (by omega) (by omega) ?_
   simp only [aC]
   refine Gf gz (by omega) q ⟨_,_,rfl,?_⟩
   obtain ⟨a,D,_⟩:=SlV.at m.sl (i:=k) (by simp;omega)
   refine ⟨a,D,by omega,by omega,m.storeN G8 D (by omega) ?_⟩
   intro h' G
   rw [C1 (n:=(k:Int)+1) (by omega) (by omega)]
   refine ⟨⟨k+1,_,_,rfl,by omega,by omega,by simpa using f,p.set (Fe _),by split<;>omega,G,?_,?_⟩,by simp only [iAt,aG,aI];omega⟩
   ·rw [D7 (by omega)];exact E5 d
   ·rw [D3 (by omega),F7,aF,aJ (by omega),bF,F,<- u,s,key gz (y:=0) (by omega) q]
    grind
  ·exfalso
   have r:k=xs.length:=by omega
   subst r
   have J:c=1:=by omega
   subst J
   rw [aW] at s
   have:=N3 (by decide) (p.take xs.length)
   rw [aF,aJ (by omega)] at this
   omega
  ·have L:c=0:=by omega
   subst L
   refine hK zs C f p ?_ m
   rw [o,j,d];omega
def A2c{x y:Int}{an bn:Nat}(ma:Mw h A an x)(mb:Mw h B bn y)(hab:bn<=an)(hl:an<=4000000000)(hb0:bn≠0)(hK:∀ A' m c' h',h.le h'->m<=c'->Mw h' A' m (x+y)->K (.slice A' m c') h'):
 wpH prog (Instr.makeSlice Am (I (B7 ((an:Int)+1))) (I (B7 ((an:Int)+1)))) (fun v hp1=>∃ (t20A:Option bH) (t20n:Nat) (t20c:Nat),v= .slice t20A t20n t20c/\∀ ty,wpH prog (fJ #[Am,Am] ty #[.slice t20A t20n t20c,.slice A an ac]) (fun v1 hp2=>∃ (t23:Int),v1=I t23/\aZ prog W5 #[.slice t20A t20n t20c,.slice B bn bc] hp2 (fun r hp3=>r= .tuple #[]/\aZ prog J6 #[.slice t20A t20n t20c] hp3 (fun r1 hp4=>∃ (t28A:Option bH) (t28n:Nat) (t28c:Nat),r1= .slice t28A t28n t28c/\K (.slice t28A t28n t28c) hp4))) hp1) h:=by
 obtain ⟨a,rfl,z,p,L,rfl⟩:=ma
 obtain ⟨M,rfl,C,k,G,rfl⟩:=mb
 have t:B7 ((a.length:Int)+1)=((a.length+1:Nat):Int):=by rw [C1 (by omega) (by omega)];omega
 rw [t]
 refine K8 R5 (by omega) (by omega) (by omega) ?_
 intro b E
 rw [aC]
 refine ⟨_,_,_,rfl,fun ty=>?_⟩
 have l:=Win.blk .u64 C4 E (aD (a.length+1) 0)
 refine Hk R5 l (by simp) (SlI.mono l.le z) rfl (by simp) ?_
 intro J n
 refine ⟨_,rfl,?_⟩
 have c:(aD (a.length+1) (0:Int)).drop a.length=[0]:=by rw [bI];simp [cK]
 rw [c] at n
 have e:val b64 (a++[0])=val b64 a:=by rw [F7];omega
 have u:=N3 (by decide) p
 have D:=N3 (by decide) k
 have w:=D4 (B:=b64) (by decide) hab
 have g:b64^(a.length+1)=b64^a.length*18446744073709551616:=bF _ _
 have s:=D9 (B:=b64) (by decide) a.length
 refine Jl n (by simp) C rfl (p.append (Dig.one (by decide))) k (by simp;omega) ?_ (by simp;omega) ?_
 ·rw [e,aH,dF,g];omega
 intro zs H j f i o
 refine ⟨rfl,?_⟩
 have d:zs.length=a.length+1:=by rw [j];simp
 rw [<- d]
 refine R9 o.sl f (by omega) (by omega) ?_
 intro m F q
 rw [i,e] at q
 exact ⟨_,_,_,rfl,hK _ _ _ _ o.le F q⟩
def T8{x y:Int}{an bn:Nat}(ma:Mw h A an x)(mb:Mw h B bn y)(ha:an<=ac)(hb:bn<=bc)(hl:an<=4000000000)(hl2:bn<=4000000000)(hK:∀ A' m c' h',h.le h'->m<=c'->Mw h' A' m (x+y)->K (.slice A' m c') h'):aZ prog Q5 #[.slice A an ac,.slice B bn bc] h K:=by
 refine A52 _ _ _ _ _ _ ?_
 unfold A53
 refine ⟨fun l h'=>h'=h/\∃ (A1 B1:Option bH) (a d c1 c2:Nat) (g k:Int),l=[.slice A1 a c1,.slice B1 d c2]/\Mw h A1 a g/\Mw h B1 d k/\d<=a/\a<=4000000000/\a<=c1/\g+k=x+y,B8 (fun s=>?_) (fun s=>?_),?_⟩
 ·exact ⟨rfl,_,_,_,_,_,_,y,x,rfl,mb,ma,by omega,hl2,hb,fU _ _⟩
 ·exact ⟨rfl,_,_,_,_,_,_,x,y,rfl,ma,mb,by omega,hl,ha,rfl⟩
 ·rintro A1 a c1 B1 d c2 z ⟨rfl,A1',B1',i,b,n,c,g,k,f,q,p,w,j,o,e⟩
  obtain ⟨⟨rfl,rfl,rfl⟩,rfl,rfl,rfl⟩:(A1=A1'/\a=i/\c1=n)/\B1=B1'/\d=b/\c2=c:=by simpa using f
  rw [<- e] at hK
  refine D8 (fun r=>?_) (fun r=>?_)
  ·have:=(p.len_zero (by decide)).2 (by omega)
   subst this
   rw [fS] at hK
   exact hK _ _ _ _ (B5 _) o q
  ·refine Jx _ (A2c (ac:=c1) (bc:=c2) q p w j (by omega) hK) ?_
   rintro v h' ⟨A2,b,c,t,u⟩
   exact ⟨A2,b,c,t,u _⟩
def I7{x y:Int}{an bn:Nat}(ma:Mw h A an x)(mb:Mw h B bn y)(ha:an<=ac)(hl:an<=4000000000)(hxy:y<=x)(hK:∀ A' m c' h',h.le h'->m<=c'->Mw h' A' m (x-y)->K (.slice A' m c') h'):aZ prog I4 #[.slice A an ac,.slice B bn bc] h K:=by
 have a:bn<=an:=mb.len_le (by decide) (dC hxy (ma.lt (by decide)))
 refine Rg _ _ _ _ _ _ ?_
 unfold Lc
 refine D8 (fun l=>?_) (fun l=>?_)
 ·have:=(mb.len_zero (by decide)).2 (by omega)
  subst this
  rw [Int.sub_zero] at hK
  exact hK _ _ _ _ (B5 _) ha ma
 ·obtain ⟨u,rfl,o,r,C,rfl⟩:=ma
  obtain ⟨D,rfl,p,n,s,rfl⟩:=mb
  refine Fn o rfl (by omega) ?_
  intro A1 c1 z t i d
  refine ⟨_,_,_,rfl,?_⟩
  obtain ⟨b,g,q⟩:=d.win (by rintro rfl;rw [gR] at a;omega)
  refine Ew q rfl (p.mono i) rfl r n a hxy (by omega) ?_
  intro zs w f c e j
  refine ⟨rfl,?_⟩
  rw [<- f]
  refine R9 j.sl c (by have:=d.2.1;omega) (by omega) ?_
  intro m E k
  rw [e] at k
  exact ⟨_,_,_,rfl,hK _ _ _ _ (B0 i j.le) (by have:=d.2.1;omega) k⟩
def Jk{zs xs:List Int}{an bn:Nat}{wd:Int}(w:Win .u64 h g b e A pre zs post)(hn:an=zs.length)(sx:SlI .u64 g B xs)(hm:bn=xs.length)(dz:Dig b64 zs)(dx:Dig b64 xs)(hle:zs.length=xs.length)(hw:0<=wd/\wd<18446744073709551616)(hl:xs.length<=10000000000)
 (hK:∀ zs' c h',zs'.length=zs.length->Dig b64 zs'->(0<=c/\c<18446744073709551616)->val b64 zs'+c*b64^zs.length=val b64 zs+val b64 xs*wd->Win .u64 h' g b e A pre zs' post->K (U c) h'):aZ prog Ck #[.slice A an ac,.slice B bn bc,U wd] h K:=by
 subst hn hm
 refine Yb _ _ _ _ _ _ _ ?_
 unfold Wy
 refine ⟨fun l q=>∃ (k:Nat) (c:Int) (d:List Int),l=[U c,I k]/\k<=xs.length/\d.length=zs.length/\Dig b64 d/\(0<=c/\c<18446744073709551616)/\Win .u64 q g b e A pre d post/\d.drop k=zs.drop k/\val b64 (d.take k)+c*b64^k=val b64 (zs.take k)+val b64 (xs.take k)*wd,fun l _=>xs.length-(iAt l 1).toNat,⟨0,0,zs,rfl,by omega,rfl,dz,by omega,w,rfl,by simp [val]⟩,?_⟩
 rintro c i q ⟨k,F,d,p,H,f,r,z,j,m,t⟩
 obtain ⟨rfl,rfl⟩:c=F/\i=(k:Int):=by simpa using p
 refine B8 (fun D=>?_) (fun D=>?_)
 ·have u:=O7 dx k
  have gz:=O7 r k
  have s:=E7 m
  have C:=C7 b64 xs k
  have G:=C7 b64 zs k
  have hm:0<=xs.getD k 0*wd/\xs.getD k 0*wd<=18446744073709551615*18446744073709551615:=⟨aT u.1 hw.1,fC (by omega) (by omega) hw.1 (by decide)⟩
  refine (sx.mono j.le).load rfl (by omega) (by omega) ?_
  rw [aC]
  refine Od u hw ⟨_,_,rfl,?_⟩
  generalize hmm:xs.getD k 0*wd=mm at *
  refine Ec (by omega) z (by omega) ⟨_,_,rfl,?_⟩
  refine j.sl.load f.symm (by omega) (by omega) ?_
  rw [aC]
  refine Ec gz (by omega) (by omega) ⟨_,_,rfl,?_⟩
  obtain ⟨a,y,_⟩:=SlV.at j.sl (i:=k) (by simp;omega)
  refine ⟨a,y,by omega,by omega,j.storeN G8 y (by omega) ?_⟩
  intro h' E
  rw [C1 (n:=(k:Int)+1) (by omega) (by omega)]
  rw [C5 (n:=mm/18446744073709551616+(mm%18446744073709551616+c+0)/18446744073709551616) (by omega) (by omega)]
  rw [C5 (by omega) (by omega)]
  refine ⟨⟨k+1,_,_,rfl,by omega,by simpa using f,r.set (Fe _),by omega,E,?_,?_⟩,by simp only [iAt,aG,aI];omega⟩
  ·rw [D7 (by omega)];exact E5 m
  ·rw [D3 (by omega),F7,aF,aJ (by omega),bF,C,G,<- s]
   have key:(d.getD k 0+(mm%18446744073709551616+c+0)%18446744073709551616+0)%18446744073709551616+18446744073709551616*(mm/18446744073709551616+(mm%18446744073709551616+c+0)/18446744073709551616+(d.getD k 0+(mm%18446744073709551616+c+0)%18446744073709551616+0)/18446744073709551616)=d.getD k 0+mm+c:=by omega
   generalize (d.getD k 0+(mm%18446744073709551616+c+0)%18446744073709551616+0)%18446744073709551616=dg at *
   generalize mm/18446744073709551616+(mm%18446744073709551616+c+0)/18446744073709551616+(d.getD k 0+(mm%18446744073709551616+c+0)%18446744073709551616+0)/18446744073709551616=cn at *
   rw [<- hmm] at key
   grind
 ·have o:k=xs.length:=by omega
  subst o
  rw [aW,<- hle,aW,<- f,aW] at t
  exact hK d c q f r z (by rw [<- f];exact t) j
def Kv{zs xs:List Int}{an bn:Nat}{wd:Int}(w:Win .u64 h g b e A pre zs post)(hn:an=zs.length)(sx:SlI .u64 g B xs)(hm:bn=xs.length)(dz:Dig b64 zs)(dx:Dig b64 xs)(hle:zs.length=xs.length)(hw:0<=wd/\wd<18446744073709551616)(hl:xs.length<=10000000000)
 (hK:∀ zs' c h',zs'.length=zs.length->Dig b64 zs'->(0<=c/\c<18446744073709551616)->val b64 zs'=val b64 zs-val b64 xs*wd+c*b64^zs.length->Win .u64 h' g b e A pre zs' post->K (U c) h'):aZ prog W9 #[.slice A an ac,.slice B bn bc,U wd] h K:=by
 subst hn hm
 refine Ms _ _ _ _ _ _ _ ?_
 unfold Hv
 refine ⟨fun l r=>∃ (k:Nat) (c:Int) (d:List Int),l=[U c,I k]/\k<=xs.length/\d.length=zs.length/\Dig b64 d/\(0<=c/\c<18446744073709551616)/\Win .u64 r g b e A pre d post/\d.drop k=zs.drop k/\val b64 (d.take k)=val b64 (zs.take k)-val b64 (xs.take k)*wd+c*b64^k,fun l _=>xs.length-(iAt l 1).toNat,⟨0,0,zs,rfl,by omega,rfl,dz,by omega,w,rfl,by simp [val]⟩,?_⟩
 rintro c i r ⟨k,F,d,q,H,f,s,z,j,m,p⟩
 obtain ⟨rfl,rfl⟩:c=F/\i=(k:Int):=by simpa using q
 refine B8 (fun D=>?_) (fun D=>?_)
 ·have u:=O7 dx k
  have gz:=O7 s k
  have t:=E7 m
  have C:=C7 b64 xs k
  have G:=C7 b64 zs k
  have hm:0<=xs.getD k 0*wd/\xs.getD k 0*wd<=18446744073709551615*18446744073709551615:=⟨aT u.1 hw.1,fC (by omega) (by omega) hw.1 (by decide)⟩
  refine (sx.mono j.le).load rfl (by omega) (by omega) ?_
  rw [aC]
  refine Od u hw ⟨_,_,rfl,?_⟩
  generalize hmm:xs.getD k 0*wd=mm at *
  refine Ec (by omega) z (by omega) ⟨_,_,rfl,?_⟩
  refine j.sl.load f.symm (by omega) (by omega) ?_
  rw [aC]
  refine Gf gz (by omega) (by omega) ⟨_,_,rfl,?_⟩
  obtain ⟨a,y,_⟩:=SlV.at j.sl (i:=k) (by simp;omega)
  refine ⟨a,y,by omega,by omega,j.storeN G8 y (by omega) ?_⟩
  intro h' E
  rw [C1 (n:=(k:Int)+1) (by omega) (by omega)]
  rw [C5 (n:=mm/18446744073709551616+(mm%18446744073709551616+c+0)/18446744073709551616) (by omega) (by omega)]
  rw [C5 (by split<;>omega) (by split<;>omega)]
  refine ⟨⟨k+1,_,_,rfl,by omega,by simpa using f,s.set (Fe _),by split<;>omega,E,?_,?_⟩,by simp only [iAt,aG,aI];omega⟩
  ·rw [D7 (by omega)];exact E5 m
  ·rw [D3 (by omega),F7,aF,aJ (by omega),bF,C,G,<- t,p]
   have key:(d.getD k 0-(mm%18446744073709551616+c+0)%18446744073709551616-0)%18446744073709551616=d.getD k 0-mm-c+18446744073709551616*(mm/18446744073709551616+(mm%18446744073709551616+c+0)/18446744073709551616+(if d.getD k 0-(mm%18446744073709551616+c+0)%18446744073709551616-0<0 then 1 else 0)):=by split<;>omega
   rw [key]
   generalize mm/18446744073709551616+(mm%18446744073709551616+c+0)/18446744073709551616+(if d.getD k 0-(mm%18446744073709551616+c+0)%18446744073709551616-0<0 then 1 else 0)=cn at *
   rw [<- hmm]
   grind
 ·have o:k=xs.length:=by omega
  subst o
  rw [aW,<- hle,aW,<- f,aW] at p
  exact hK d c r f s z (by rw [<- f];exact p) j
end
def Yy{x z:Int}{s:Nat}(hs:s<=64)(_hx:0<=x/\x<18446744073709551616)(hz:0<=z/\z<(2:Int)^s):
 bor .u64 z (x*2^s%18446744073709551616)=z+x*2^s%18446744073709551616/\z+x*2^s%18446744073709551616<18446744073709551616/\x*2^s%18446744073709551616=2^s*(x%2^(64-s)):=by
 have j:=Az hs
 have d:0<(2:Int)^s:=bM (by decide)
 have k:0<(2:Int)^(64-s):=bM (by decide)
 have a:z<18446744073709551616:=by
  have:(2:Int)^s*1<=2^s*2^(64-s):=aK (by omega) (by omega)
  omega
 have i:x*2^s%18446744073709551616=2^s*(x%2^(64-s)):=by
  rw [<- j,aS x,Int.mul_emod_mul_of_pos _ _ d]
 have f:=Fe (x*2^s)
 have e:0<=x%2^(64-s):=aU _ (by omega)
 have g:(x*2^s%18446744073709551616).toNat=2^s*(x%2^(64-s)).toNat:=by
  rw [i,Int.toNat_mul (by omega) e]
  rw [hO (by decide)];rfl
 have c:z.toNat<2^s:=by
  have:((2^s:Nat):Int)=(2:Int)^s:=by simp
  omega
 have b:bor .u64 z (x*2^s%18446744073709551616)=z+x*2^s%18446744073709551616:=by
  rw [A77 ⟨hz.1,a⟩ f,g,Nat.or_comm,A8c c,<- g]
  omega
 refine ⟨b,?_,i⟩
 rw [<- b,A77 ⟨hz.1,a⟩ f]
 have:z.toNat ||| (x*2^s%18446744073709551616).toNat<2^64:=Nat.or_lt_two_pow (by omega) (by have:=f.2;show _<_;omega)
 omega
def Ln(k:Nat):b64^k=(2:Int)^(64*k):=by
 rw [show b64=(2:Int)^64 by decide,<- Int.pow_mul]
section
variable {h g:bB} {K:VP} {A B:Option bH} {ac bc:Nat}
def W7{x:Int}{an s:Nat}(ma:Mw h A an x)(ha:an<=ac)(hl:an<=1000000000)(hs:s<=10000000000)(hK:∀ A' m c' h',h.le h'->m<=c'->Mw h' A' m (x*2^s)->K (.slice A' m c') h'):aZ prog V9 #[.slice A an ac,U s] h K:=by
 have w:=ma.len_zero (by decide)
 refine A2d _ _ _ _ ?_
 unfold Zs
 refine D8 (fun L=>?_) (fun L=>D8 (fun t=>?_) (fun t=>?_))
 ·have:=w.2 (by omega)
  subst this
  rw [fQ] at hK
  exact hK _ _ _ _ (B5 _) ha ma
 ·have:s=0:=by omega
  subst this
  rw [iH,Int.mul_one] at hK
  exact hK _ _ _ _ (B5 _) ha ma
 ·obtain ⟨a,rfl,X,dx,nx,rfl⟩:=ma
  obtain ⟨k0,hk0⟩:∃ k0,k0=s/64:=⟨_,rfl⟩
  obtain ⟨r,hr⟩:∃ r,r=s%64:=⟨_,rfl⟩
  have R:B7 (C3 (cT (s:Int) 64))=(k0:Int):=by
   rw [bJ (by omega),C5 (by omega) (by omega),C1 (by omega) (by omega)];omega
  have Q:dO (s:Int) 64=(r:Int):=by rw [bY (by omega)];omega
  have Z:C3 ((64:Int)-(r:Int))=((64-r:Nat):Int):=by rw [C5 (by omega) (by omega)];omega
  simp only [R,Q,Z,aC]
  have J:B7 (B7 ((a.length:Int)+k0)+1)=((a.length+k0+1:Nat):Int):=by rw [C1 (n:=(a.length:Int)+k0) (by omega) (by omega),C1 (by omega) (by omega)];omega
  rw [J]
  refine K8 R5 (by omega) (by omega) (by omega) ?_
  intro b F
  rw [aC]
  refine ⟨_,_,_,rfl,?_⟩
  have q:0<(2:Int)^r:=bM (by decide)
  have p:0<(2:Int)^(64-r):=bM (by decide)
  have f:=Az (s:=r) (by omega)
  refine ⟨fun l h'=>∃ (k:Nat) (zs:List Int),l=[I k]/\k<=a.length/\zs.length=a.length+k0+1/\Dig b64 zs/\h'=blk .u64 C4 h b zs/\zs.drop (k+k0+1)=aD (a.length-k) 0/\zs.getD (k+k0) 0<2^r/\val b64 (zs.take (k+k0+1))=val b64 (a.take k)*2^s,fun l _=>a.length-(iAt l 0).toNat,⟨0,_,rfl,by omega,by simp,J1 (by decide) _,rfl,?_,?_,?_⟩,?_⟩
  ·rw [bI];congr 1;omega
  ·have:(aD (a.length+k0+1) (0:Int)).getD (0+k0) 0=0:=by simp [cR,List.getElem?_replicate];split<;>rfl
   rw [this];exact q
  ·rw [cH,De];simp [val]
  rintro i hp ⟨k,zs,o,hk,c,y,rfl,z,hg,d⟩
  obtain rfl:=sI1 o
  have j:=Y9 (k:=.u64) (e:=C4) F zs
  refine B8 (fun t=>?_) (fun t=>?_)
  ·have u:=O7 dx k
   have gz:=O7 y (k+k0)
   have O:=C7 b64 a k
   have vz:=C7 b64 zs (k+k0)
   have V:B7 ((k:Int)+k0)=((k+k0:Nat):Int):=by rw [C1 (by omega) (by omega)];omega
   have T:B7 (((k+k0:Nat):Int)+1)=((k+k0+1:Nat):Int):=by rw [C1 (by omega) (by omega)];omega
   rw [V,T]
   refine (X.mono j).load rfl (by omega) (by omega) ?_
   refine (Ea .u64 C4 h b zs).load c.symm (by omega) (by omega) ?_
   simp only [aC]
   refine B8 (fun e=>absurd e (by omega)) (fun _=>?_)
   refine ⟨_,rfl,by omega,by omega,?_⟩
   obtain ⟨S,o2,N⟩:=Yy (s:=r) (by omega) u ⟨gz.1,hg⟩
   rw [aJ (show r<=64 by omega),F6,S,B7g (show 64-r<=64 by omega)]
   have M:=Fe (a.getD k 0*2^r)
   refine Fp (zs:=zs) (i:=k+k0) G8 (by first|omega|(rw [bO];omega)) ?_
   refine B8 (fun e=>absurd e (by omega)) (fun _=>?_)
   refine ⟨_,rfl,by omega,by omega,?_⟩
   refine Fp (zs:=zs.set (k+k0) (zs.getD (k+k0) 0+a.getD k 0*2^r%18446744073709551616)) (i:=k+k0+1) G8 (by first|omega|(rw [bO];omega)) ?_
   have E:0<=a.getD k 0/2^(64-r)/\a.getD k 0/2^(64-r)<2^r:=⟨cF u.1 (by omega),bK p (by rw [f];exact u.2)⟩
   have aa:(2:Int)^r<=9223372036854775808:=by
    have:=D4 (B:=2) (by decide) (show r<=63 by omega)
    have e:(2:Int)^63=9223372036854775808:=by decide
    omega
   rw [C1 (n:=(k:Int)+1) (by omega) (by omega)]
   refine ⟨⟨k+1,(zs.set (k+k0) (zs.getD (k+k0) 0+a.getD k 0*2^r%18446744073709551616)).set (k+k0+1) (a.getD k 0/2^(64-r)),rfl,by omega,by simpa using c,(y.set ⟨by omega,o2⟩).set ⟨E.1,by show _<(18446744073709551616:Int);omega⟩,rfl,?_,?_,?_⟩,by simp only [iAt,aG];omega⟩
   ·rw [show k+1+k0+1=(k+k0+1)+1 by omega,D7 (by omega),D7 (by omega),<- dJ,z,bI]
    congr 1
   ·rw [show k+1+k0=k+k0+1 by omega]
    have:((zs.set (k+k0) (zs.getD (k+k0) 0+a.getD k 0*2^r%18446744073709551616)).set (k+k0+1) (a.getD k 0/2^(64-r))).getD (k+k0+1) 0=a.getD k 0/2^(64-r):=by
     rw [cR,iG (by rw [bO];omega)];rfl
    rw [this];exact E.2
   ·rw [show k+1+k0+1=(k+k0+1)+1 by omega,D3 (by rw [bO];omega),F7,D3 (by omega),F7]
    simp only [aF,aH,dF]
    rw [aJ (show k+k0<=zs.length by omega),bF,O]
    rw [vz] at d
    have D:(2:Int)^s=b64^k0*2^r:=by
     rw [Ln,<- bG];congr 1;omega
    have C:b64^(k+k0)=b64^k*b64^k0:=bG _ _ _
    have H:=aO (a.getD k 0) (2^(64-r))
    have key:a.getD k 0*2^r%18446744073709551616+18446744073709551616*(a.getD k 0/2^(64-r))=a.getD k 0*2^r:=by
     rw [N,<- f,cZ,<- dB]
     have:a.getD k 0%2^(64-r)+2^(64-r)*(a.getD k 0/2^(64-r))=a.getD k 0:=by omega
     rw [this,aS]
    generalize a.getD k 0*2^r%18446744073709551616=lo at *
    generalize a.getD k 0/2^(64-r)=hi at *
    rw [D] at d ⊢
    rw [C] at d ⊢
    have W:(val b64 (a.take k)+b64^k*a.getD k 0)*(b64^k0*2^r)=val b64 (a.take k)*(b64^k0*2^r)+b64^k*b64^k0*(a.getD k 0*2^r):=by grind
    rw [W,<- d,<- key]
    grind
  ·have g:k=a.length:=by omega
   subst g
   rw [aW,aL (by omega)] at d
   rw [<- c]
   refine R9 (Ea _ _ _ _ _) y (aY _) (by omega) ?_
   intro m hm G
   rw [d] at G
   exact ⟨_,_,_,rfl,hK _ _ _ _ (Y9 F _) hm G⟩
def Hq{x:Int}{an s:Nat}(ma:Mw h A an x)(hl:an<=1000000000)(hs:s<=1000000000000)(hK:∀ A' m c' h',h.le h'->m<=c'->Mw h' A' m (x/2^s)->K (.slice A' m c') h'):aZ prog Cj #[.slice A an ac,U s] h K:=by
 have q:=ma.nonneg (by decide)
 have ae:=ma.lt (by decide)
 refine Xx _ _ _ _ ?_
 unfold Wp
 obtain ⟨k0,hk0⟩:∃ k0,k0=s/64:=⟨_,rfl⟩
 obtain ⟨r,hr⟩:∃ r,r=s%64:=⟨_,rfl⟩
 have O:C3 (cT (s:Int) 64)=(k0:Int):=by
  rw [bJ (by omega),C5 (by omega) (by omega)];omega
 have J:B7 (k0:Int)=(k0:Int):=C1 (by omega) (by omega)
 have em:dO (s:Int) 64=(r:Int):=by rw [bY (by omega)];omega
 have er:C3 ((64:Int)-(r:Int))=((64-r:Nat):Int):=by rw [C5 (by omega) (by omega)];omega
 have en:C3 (an:Int)=(an:Int):=C5 (by omega) (by omega)
 simp only [O,J,em,er,en,aC]
 have g:(2:Int)^s=b64^k0*2^r:=by
  rw [Ln,<- bG];congr 1;omega
 refine B8 (fun h1=>?_) (fun h1=>?_)
 ·have:x/2^s=0:=by
   apply bU q
   rw [g]
   have t1:=D4 (B:=b64) (by decide) (show an<=k0 by omega)
   have T:b64^k0*1<=b64^k0*2^r:=aK (by have:0<(2:Int)^r:=bM (by decide);omega) (aQ (D9 (by decide) _))
   omega
  rw [this] at hK
  exact hK _ _ _ _ (B5 _) (aY _) Mag.zero
 ·obtain ⟨a,rfl,S,p,nx,rfl⟩:=ma
  have u:B7 ((a.length:Int)-k0)=((a.length-k0:Nat):Int):=by rw [C1 (by omega) (by omega)];omega
  rw [u]
  refine K8 R5 (by omega) (by omega) (by omega) ?_
  intro b W
  rw [aC]
  refine ⟨_,_,_,rfl,?_⟩
  have R:0<(2:Int)^r:=bM (by decide)
  have c:=Az (s:=r) (by omega)
  have D:0<(2:Int)^(64-r):=bM (by decide)
  have ad:(a.drop k0).length=a.length-k0:=aN
  have n:∀ i,(a.drop k0).getD i 0=a.getD (k0+i) 0:=fun i=>A48
  refine ⟨fun l h'=>∃ (k:Nat) (zs:List Int),l=[I k]/\k<=a.length-k0/\zs.length=a.length-k0/\Dig b64 zs/\h'=blk .u64 C4 h b zs/\2^r*val b64 (zs.take k)+(a.drop k0).getD 0 0%2^r=val b64 ((a.drop k0).take k)+b64^k*((a.drop k0).getD k 0%2^r),fun l _=>a.length-(iAt l 0).toNat,⟨0,_,rfl,by omega,by simp,J1 (by decide) _,rfl,by simp [val]⟩,?_⟩
  rintro i af ⟨k,zs,C,hk,d,H,rfl,Q⟩
  obtain rfl:=sI1 C
  have f:∀ zs,h.le (blk .u64 C4 h b zs):=fun zs=>Y9 (k:=.u64) (e:=C4) W zs
  have gz:=O7 (p.drop k0) k
  refine B8 (fun h2=>?_) (fun h2=>?_)
  ·have e2:B7 ((k:Int)+k0)=((k0+k:Nat):Int):=by rw [C1 (by omega) (by omega)];omega
   have e3:B7 (((k0+k:Nat):Int)+1)=((k0+(k+1):Nat):Int):=by rw [C1 (by omega) (by omega)];omega
   rw [e2,e3]
   refine (S.mono (f zs)).load rfl (by omega) (by omega) ?_
   refine B8 (fun e=>absurd e (by omega)) (fun _=>?_)
   refine ⟨_,rfl,by omega,by omega,?_⟩
   simp only [aC]
   rw [<- n k,B7g (show r<=64 by omega)]
   have o:0<=(a.drop k0).getD k 0/2^r:=cF gz.1 (by omega)
   have t:(a.drop k0).getD k 0/2^r<2^(64-r):=by
    apply bK R
    rw [aS,c];exact gz.2
   have V:(2:Int)^(64-r)<=18446744073709551616:=by
    rw [<- c]
    have:=aE (show 1<=(2:Int)^r by omega) (aQ D);omega
   refine Fp (zs:=zs) (i:=k) G8 (by first|omega|(rw [bO];omega)) ?_
   have d1:Dig b64 (zs.set k ((a.drop k0).getD k 0/2^r)):=H.set ⟨o,by show _<(18446744073709551616:Int);omega⟩
   have l1:(zs.set k ((a.drop k0).getD k 0/2^r)).length=a.length-k0:=by rw [bO];exact d
   have g1:(zs.set k ((a.drop k0).getD k 0/2^r)).getD k 0=(a.drop k0).getD k 0/2^r:=by simp [cR,show k<zs.length by omega]
   have vr:=C7 b64 (a.drop k0) k
   have j:∀ z:Int,2^r*z=(a.drop k0).getD k 0-(a.drop k0).getD k 0%2^r+18446744073709551616*((a.drop k0).getD (k+1) 0%2^r)->
    2^r*val b64 ((zs.set k z).take (k+1))+(a.drop k0).getD 0 0%2^r=val b64 ((a.drop k0).take (k+1))+b64^(k+1)*((a.drop k0).getD (k+1) 0%2^r):=by
    intro z ez
    rw [D3 (by omega),F7,aF,aJ (by omega),vr,bF]
    have u:2^r*(val b64 (zs.take k)+b64^k*z)=2^r*val b64 (zs.take k)+b64^k*(2^r*z):=by grind
    rw [u,ez]
    grind
   have Z:=aO ((a.drop k0).getD k 0) (2^r)
   have N:B7 ((k:Int)+1)=((k+1:Nat):Int):=by rw [C1 (by omega) (by omega)];omega
   rw [N]
   refine B8 (fun h3=>?_) (fun h3=>?_)
   ·have ld:=(Ea .u64 C4 h b (zs.set k ((a.drop k0).getD k 0/2^r)))
    obtain ⟨aa,M,F⟩:=SlV.at ld (i:=k) (by simp;omega)
    refine ⟨aa,M,by omega,by omega,(a.drop k0).getD k 0/2^r,?_,?_⟩
    ·rw [cJ,F]
     congr 1
     simp only [List.getElem_map]
     congr 1
     simp
    refine (S.mono (f _)).load rfl (by omega) (by omega) ?_
    refine B8 (fun e=>absurd e (by omega)) (fun _=>?_)
    refine ⟨_,rfl,by omega,by omega,?_⟩
    simp only [aC]
    rw [<- n (k+1)]
    have gr:=O7 (p.drop k0) (k+1)
    obtain ⟨o1,o2,o3⟩:=Yy (s:=64-r) (by omega) gr ⟨o,t⟩
    rw [aJ (show 64-r<=64 by omega),F6,o1]
    refine Fp (zs:=zs.set k ((a.drop k0).getD k 0/2^r)) (i:=k) G8 (by first|omega|(rw [bO];omega)) ?_
    rw [List.set_set]
    have ab:=Fe ((a.drop k0).getD (k+1) 0*2^(64-r))
    refine ⟨⟨k+1,zs.set k ((a.drop k0).getD k 0/2^r+(a.drop k0).getD (k+1) 0*2^(64-r)%18446744073709551616),rfl,by omega,by simpa using d,H.set ⟨by omega,o2⟩,rfl,j _ ?_⟩,by simp only [iAt,aG];omega⟩
    rw [o3,show 64-(64-r)=r by omega,dB,<- cZ,c]
    omega
   ·have w:(a.drop k0).getD (k+1) 0=0:=by simp only [cR,cW (show (a.drop k0).length<=k+1 by omega)];rfl
    refine ⟨⟨k+1,zs.set k ((a.drop k0).getD k 0/2^r),rfl,by omega,l1,d1,rfl,j _ ?_⟩,by simp only [iAt,aG];omega⟩
    rw [w,gZ,fR,fS];omega
  ·have L:k=a.length-k0:=by omega
   subst L
   have w:(a.drop k0).getD (a.length-k0) 0=0:=by simp only [cR,cW (show (a.drop k0).length<=a.length-k0 by omega)];rfl
   rw [w,gZ,fR,fS,aL (by omega),aL (by omega)] at Q
   have y:=aU ((a.drop k0).getD 0 0) (show (2:Int)^r≠0 by omega)
   have E:=aP ((a.drop k0).getD 0 0) R
   have G:val b64 a/2^s=val b64 zs:=by
    have sp:=G1 b64 a (i:=k0) (by omega)
    have t1:=N3 (by decide) (p.take k0)
    have T:=C9 (by decide) (p.take k0)
    rw [aF,aJ (by omega)] at t1
    rw [g,<- fO (aQ (D9 (by decide) _)),sp,fY _ _ (by have:=D9 (B:=b64) (by decide) k0;omega),bU T t1,dN,<- Q,fU,fY _ _ (by omega),bU y E,dN]
   rw [<- d]
   refine R9 (Ea _ _ _ _ _) H (aY _) (by omega) ?_
   intro m hm X
   rw [<- G] at X
   exact ⟨_,_,_,rfl,hK _ _ _ _ (Y9 W _) hm X⟩
end
def Ds(B:Int)(xs:List Int)(n:Nat):val B (xs++aD n 0)=val B xs:=by rw [H9,De];omega
def Oc{xs:List Int}{k:Nat}(h:gD xs)(hk:k<xs.length):gD (xs.drop k):=by
 unfold gD at *
 rwa [List.getLast?_drop,iN (by omega)]
def Mw.of{h:bB}{A:Option bH}{xs:List Int}(s:SlI .u64 h A xs)(d:Dig b64 xs)(n:gD xs):Mw h A xs.length (val b64 xs):=⟨xs,rfl,s,d,n,rfl⟩
def A26{k:dZ}{h:bB}{A:Option bH}{xs:List Int}(s:SlI k h A xs){c l:Nat}(hl:l<=xs.length)(hc:xs.length<=c):SlI k h (I5 A c l 1) (xs.drop l):=by
 have:=s.cut (c:=c) (l:=l) (m:=xs.length) hl (aY _) hc
 rwa [aL (by rw [aN];omega)] at this
def Kq{k:dZ}{h:bB}{A:Option bH}{xs:List Int}(s:SlI k h A xs){c m:Nat}(hm:m<=xs.length)(hc:xs.length<=c):SlI k h A (xs.take m):=by
 have:=s.cut (c:=c) (l:=0) (m:=m) (by omega) hm hc
 simpa [J0] using this
def Ce{h:bB}{K:VP}{A:Option bH}{ac n:Nat}{v:Int}{xs:List Int}(s:SlI .u64 h A xs)(hd:Dig b64 xs)(hn:n=xs.length)(hv:val b64 xs=v)(hc:n<=ac)(hl:n<=10000000000)(hK:∀ m,m<=n->Mw h A m v->K (.slice A m ac) h):aZ prog J6 #[.slice A n ac] h K:=by
 subst hn hv
 exact R9 s hd hc hl hK
def C53(N:Nat):Prop:=∀ {h:bB} {K:VP} {A B:Option bH} {ac bc an bn:Nat} {x y:Int},an+bn<=N->Mw h A an x->Mw h B bn y->an<=ac->bn<=bc->an<=1000000000->bn<=1000000000->
 (∀ A' m c' h',h.le h'->m<=c'->Mw h' A' m (x*y)->K (.slice A' m c') h')->aZ prog D6 #[.slice A an ac,.slice B bn bc] h K
section
variable {h g:bB} {K:VP} {A B:Option bH} {ac bc:Nat}
def C3t{xs ys:List Int}{b:Nat}(hb:h b=none)(sx:SlI .u64 h A xs)(dx:Dig b64 xs)(sy:SlI .u64 h B ys)(dy:Dig b64 ys)(hl:xs.length<=1000000000)(hl2:ys.length<=1000000000)
 (hK:∀ A' m c' h',h.le h'->m<=c'->Mw h' A' m (val b64 xs*val b64 ys)->K (.slice A' m c') h'):
 Ai prog K A xs.length ac B ys.length (some ⟨b,0,none⟩) (xs.length+ys.length) (xs.length+ys.length) (blk .u64 C4 h b (aD (xs.length+ys.length) 0)):=by
 unfold Ai
 refine ⟨fun l C=>∃ (k:Nat) (zs:List Int),l=[I k]/\k<=ys.length/\zs.length=xs.length+ys.length/\Dig b64 zs/\Win .u64 C h b C4 (some ⟨b,0,none⟩) [] zs []/\zs.drop (k+xs.length)=aD (ys.length-k) 0/\val b64 (zs.take (k+xs.length))=val b64 xs*val b64 (ys.take k),fun l _=>ys.length-(iAt l 0).toNat,⟨0,_,rfl,by omega,by simp,J1 (by decide) _,Win.blk .u64 C4 hb _,?_,?_⟩,?_⟩
 ·rw [bI];congr 1;omega
 ·rw [cH,De];simp [val]
 rintro i C ⟨k,zs,p,Q,u,g,w,s,o⟩
 obtain rfl:=sI1 p
 refine B8 (fun H=>?_) (fun H=>?_)
 ·have F:=O7 dy k
  have G:=C7 b64 ys k
  have E:B7 ((k:Int)+xs.length)=((k+xs.length:Nat):Int):=by rw [C1 (by omega) (by omega)];omega
  rw [E]
  refine (sy.mono w.le).load rfl (by omega) (by omega) ?_
  simp only [aC]
  refine ⟨⟨by omega,by omega⟩,⟨by omega,by omega⟩,?_⟩
  have a:((zs.drop k).take (k+xs.length-k)).length=xs.length:=by rw [aF,aN];omega
  refine Jk (w.sub (l:=k) (m:=k+xs.length) (c:=xs.length+ys.length) (by omega) (by omega) (by omega)) (by rw [a];omega) sx rfl ((g.drop k).take _) dx a F (by omega) ?_
  intro f c h' d e N y J
  rw [a] at d
  have M:=w.whole (l:=k) (m:=k+xs.length) (by omega) (by omega) (by omega) J
  refine ⟨_,rfl,_,rfl,by omega,by omega,?_⟩
  have t:(zs.take k++f++zs.drop (k+xs.length)).length=xs.length+ys.length:=by
   simp only [aH,aF,aN];omega
  refine M.storeN (i:=k+xs.length) G8 rfl (by omega) ?_
  intro R L
  rw [C1 (n:=(k:Int)+1) (by omega) (by omega)]
  have z:(zs.take k++f++zs.drop (k+xs.length)).take (k+xs.length)=zs.take k++f:=by
   apply dE
   simp only [aH,aF];omega
  have r:(zs.take k++f++zs.drop (k+xs.length)).drop (k+xs.length)=zs.drop (k+xs.length):=by
   apply eR
   simp only [aH,aF];omega
  refine ⟨⟨k+1,_,rfl,by omega,by rw [bO];exact t,(((g.take k).append e).append (g.drop _)).set N,L,?_,?_⟩,by simp only [iAt,aG];omega⟩
  ·rw [show k+1+xs.length=(k+xs.length)+1 by omega,D7 (by omega),<- dJ,r,s,bI]
   congr 1
  ·rw [show k+1+xs.length=(k+xs.length)+1 by omega,D3 (by omega),z,F7,H9,G]
   simp only [aH,aF]
   rw [aJ (by omega),d,bG]
   have q:val b64 (zs.take (k+xs.length))=val b64 (zs.take k)+b64^k*val b64 ((zs.drop k).take (k+xs.length-k)):=by
    rw [show k+xs.length-k=xs.length by omega,gY,H9,aF,aJ (by omega)]
   rw [a] at y
   rw [q] at o
   grind
 ·have j:k=ys.length:=by omega
  subst j
  rw [aW,aL (by omega)] at o
  rw [<- u]
  refine R9 w.sl g (aY _) (by omega) ?_
  intro m O D
  rw [o] at D
  exact ⟨_,_,_,rfl,hK _ _ _ _ w.le O D⟩
def Qj{x y:Int}{an bn N:Nat}(ih:C53 N)(hN:2*bn<=N)(ma:Mw h A an x)(mb:Mw h B bn y)(ha:an<=ac)(hbc:bn<=bc)(hl:an<=1000000000)(hb0:0<bn)(hba:bn<=an)(hK:∀ A' m c' h',h.le h'->m<=c'->Mw h' A' m (x*y)->K (.slice A' m c') h'):aZ prog Di #[.slice A an ac,.slice B bn bc] h K:=by
 have ab:=mb.nonneg (by decide)
 have G:=mb.lt (by decide)
 obtain ⟨a,rfl,sx,M,nx,rfl⟩:=ma
 refine St _ _ _ _ _ _ ?_
 unfold Pm
 have e1:B7 ((a.length:Int)+bn)=((a.length+bn:Nat):Int):=by rw [C1 (by omega) (by omega)];omega
 rw [e1]
 refine K8 R5 (by omega) (by omega) (by omega) ?_
 intro b hb
 rw [aC]
 refine ⟨_,_,_,rfl,?_⟩
 refine ⟨fun l F=>∃ (k:Nat) (zs:List Int) (g:bB),l=[I k]/\k<=a.length+bn/\h.le g/\zs.length=a.length+bn/\Dig b64 zs/\Win .u64 F g b C4 (some ⟨b,0,none⟩) [] zs []/\val b64 zs=val b64 (a.take k)*y,fun l _=>a.length+bn-(iAt l 0).toNat,⟨0,_,h,rfl,by omega,B5 h,by simp,J1 (by decide) _,Win.blk .u64 C4 hb _,by rw [De];simp [val]⟩,?_⟩
 rintro i F ⟨k,zs,g,X,hk,Q,ae,t,w,W⟩
 obtain rfl:=sI1 X
 refine B8 (fun h1=>?_) (fun h1=>?_)
 ·have e2:B7 ((k:Int)+bn)=((k+bn:Nat):Int):=by rw [C1 (by omega) (by omega)];omega
  rw [e2]
  obtain ⟨en,hen⟩:∃ en,en=min a.length (k+bn):=⟨_,rfl⟩
  have e3:(if (a.length:Int)<((k+bn:Nat):Int) then (a.length:Int) else ((k+bn:Nat):Int))=(en:Int):=by split<;>omega
  rw [e3]
  simp only [aC]
  refine ⟨⟨by omega,by omega⟩,⟨by omega,by omega⟩,⟨by omega,by omega⟩,?_⟩
  have ad:((a.drop k).take (en-k)).length=en-k:=by rw [aF,aN];omega
  have sp:SlI .u64 g (I5 A ac k 1) ((a.drop k).take (en-k)):=(sx.mono Q).cut (c:=ac) (l:=k) (m:=en) (by omega) (by omega) ha
  have dp:Dig b64 ((a.drop k).take (en-k)):=(M.drop k).take _
  have aj:=C9 (by decide) M
  have L:∀ m,m<=en-k->gD (((a.drop k).take (en-k)).take m)->val b64 (((a.drop k).take (en-k)).take m)=val b64 ((a.drop k).take (en-k))->
   aZ prog D6 #[.slice (I5 A ac k 1) m (ac-k),.slice B bn bc] F (fun r1 d=>∃ (t38A:Option bH) (t38n:Nat) (t38c:Nat),r1= .slice t38A t38n t38c/\Heap.le F d/\aZ prog W5 #[.slice (I5 (some ⟨b,0,none⟩) (a.length+bn) k 1) (a.length+bn-k) (a.length+bn-k),.slice t38A t38n t38c] d (fun r2 p=>r2= .tuple #[]/\(∃ (k_1:Nat) (zs:List Int) (g:bB),[I ((k+bn:Nat):Int)]=[I k_1]/\k_1<=a.length+bn/\h.le g/\zs.length=a.length+bn/\Dig b64 zs/\Win .u64 p g b C4 (some ⟨b,0,none⟩) [] zs []/\val b64 zs=val b64 (a.take k_1)*y)/\a.length+bn-(iAt [I ((k+bn:Nat):Int)] 0).toNat<a.length+bn-(iAt [I k] 0).toNat)):=by
   intro m hm n s
   have Mp:Mw g (I5 A ac k 1) m (val b64 ((a.drop k).take (en-k))):=⟨((a.drop k).take (en-k)).take m,by rw [aF];omega,Kq sp (c:=ac) (by omega) (by omega),dp.take m,n,s⟩
   refine w.call ?_
   refine ih (by omega) Mp (mb.mono Q) (by omega) hbc (by omega) (by omega) ?_
   intro A' m' c' g2 l2 ao M2 h3 w3
   refine ⟨_,_,_,rfl,?_,?_⟩
   ·rw [w.eq,w3.eq]
    intro kk o e
    by_cases z:kk=b
    ·subst z;rw [C2] at e ⊢;exact e
    ·rw [C0 _ _ z] at e ⊢;exact l2 kk o e
   obtain ⟨f,J,u,C,R,S⟩:=M2
   have ah:=G1 b64 zs (i:=k) (by omega)
   have ap:=C9 (by decide) (t.take k)
   have af:a.take en=a.take k++(a.drop k).take (en-k):=by
    have:=gY (l:=a) (i:=k) (j:=en-k)
    rwa [show k+(en-k)=en by omega] at this
   have T:val b64 (a.take en)=val b64 (a.take k)+b64^k*val b64 ((a.drop k).take (en-k)):=by
    rw [af,H9,aF,aJ (by omega)]
   have E:val b64 zs+b64^k*val b64 f=val b64 (a.take en)*y:=by
    rw [W,S,T];grind
   have ak:val b64 (a.take en)*y<b64^(a.length+bn):=by
    have t1:=N3 (by decide) (M.take en)
    have t2:=C9 (by decide) (M.take en)
    rw [aF,aJ (by omega)] at t1
    have t3:val b64 (a.take en)*y<=b64^en*y:=aE (by omega) ab
    have t4:b64^en*y<b64^en*b64^bn:=cV G (D9 (by decide) en)
    rw [<- bG] at t4
    have t5:=D4 (B:=b64) (by decide) (show en+bn<=a.length+bn by omega)
    omega
   have H:val b64 (zs.drop k)+val b64 f<b64^(a.length+bn-k):=by
    have e5:b64^(a.length+bn)=b64^k*b64^(a.length+bn-k):=by rw [<- bG];congr 1;omega
    by_cases O:val b64 (zs.drop k)+val b64 f<b64^(a.length+bn-k)
    ·exact O
    ·have:=aK (show b64^(a.length+bn-k)<=val b64 (zs.drop k)+val b64 f by omega) (aQ (D9 (B:=b64) (by decide) k))
     rw [dB] at this
     omega
   have ai:=C9 (by decide) (t.drop k)
   have am:f.length<=a.length+bn-k:=by
    have Mps:Mw g2 A' f.length (val b64 f):=⟨f,rfl,u,C,R,rfl⟩
    exact Mps.len_le (by decide) (by omega)
   have ws:=w3.sub (l:=k) (m:=a.length+bn) (c:=a.length+bn) (by omega) (by omega) (by omega)
   have ag:(zs.drop k).take (a.length+bn-k)=zs.drop k:=aL (by rw [aN];omega)
   have D:(zs.drop k).length=a.length+bn-k:=by rw [aN];omega
   rw [ag] at ws
   refine Jl ws D.symm u J (t.drop k) C (by omega) (by rw [D];exact H) (by omega) ?_
   intro us h5 al Z aa w5
   have w6:=w3.whole (l:=k) (m:=a.length+bn) (by omega) (by omega) (by omega) w5
   refine ⟨rfl,⟨k+bn,_,g2,rfl,by omega,B0 Q l2,?_,((t.take k).append Z).append (t.drop _),w6,?_⟩,by simp only [iAt,aG];omega⟩
   ·simp only [aH,aF,aN];omega
   ·rw [aV (by omega),cC,H9,aF,aJ (by omega),aa]
    have:a.take (k+bn)=a.take en:=by
     rw [hen]
     by_cases O:a.length<=k+bn
     ·rw [aJ O,aW,aL O]
     ·rw [fK (by omega)]
    rw [this,<- E,ah];grind
  have tr:=Et (K:=fun r q=>∃ (t36A:Option bH) (t36n:Nat) (t36c:Nat),r= .slice t36A t36n t36c/\Heap.le F q/\aZ prog D6 #[.slice t36A t36n t36c,.slice B bn bc] q (fun r1 d=>∃ (t38A:Option bH) (t38n:Nat) (t38c:Nat),r1= .slice t38A t38n t38c/\Heap.le q d/\aZ prog W5 #[.slice (I5 (some ⟨b,0,none⟩) (a.length+bn) k 1) (a.length+bn-k) (a.length+bn-k),.slice t38A t38n t38c] d (fun r2 p=>r2= .tuple #[]/\(∃ (k_1:Nat) (zs:List Int) (g:bB),[I ((k+bn:Nat):Int)]=[I k_1]/\k_1<=a.length+bn/\h.le g/\zs.length=a.length+bn/\Dig b64 zs/\Win .u64 p g b C4 (some ⟨b,0,none⟩) [] zs []/\val b64 zs=val b64 (a.take k_1)*y)/\a.length+bn-(iAt [I ((k+bn:Nat):Int)] 0).toNat<a.length+bn-(iAt [I k] 0).toNat))) (ac:=ac-k) (sp.mono w.le) (by omega) (by omega) (fun m hm n s=>⟨_,_,_,rfl,B5 _,L m (by omega) n s⟩)
  rw [ad] at tr
  exact tr
 ·have V:a.take k=a:=aL (by omega)
  rw [V] at W
  rw [<- ae]
  refine R9 w.sl t (aY _) (by omega) ?_
  intro m hm hM
  rw [W] at hM
  exact ⟨_,_,_,rfl,hK _ _ _ _ (B0 Q w.le) hm hM⟩
def C82{X0 X1 Y0 Y1 P:Int}(hx0:0<=X0)(hx1:0<=X1)(hy0:0<=Y0)(hy1:0<=Y1):
 X0*Y0<=(X0+X1)*(Y0+Y1)/\X1*Y1<=(X0+X1)*(Y0+Y1)-X0*Y0/\(X0+P*X1)*(Y0+P*Y1)=X0*Y0+P*((X0+X1)*(Y0+Y1)-X0*Y0-X1*Y1)+P*P*(X1*Y1):=by
 have a:=aT hx0 hy0
 have b:=aT hx0 hy1
 have c:=aT hx1 hy0
 have d:=aT hx1 hy1
 have e:(X0+X1)*(Y0+Y1)=X0*Y0+X0*Y1+X1*Y0+X1*Y1:=by grind
 refine ⟨by omega,by omega,?_⟩
 rw [e];grind
def C69:∀ N,C53 N:=by
 intro N
 induction N with
 | zero=>
  intro h K A B ac bc an bn x y hN ma mb ha Q hl u C
  have h0:=ma.len_zero (by decide)
  have hx:x=0:=h0.2 (by omega)
  subst hx
  rw [fQ] at C
  refine Ft _ _ _ _ _ _ ?_
  unfold Ep
  refine ⟨fun l h'=>h'=h/\l=[.slice A an ac,.slice B bn bc],B8 (fun e=>absurd e (by omega)) (fun _=>⟨rfl,rfl⟩),?_⟩
  rintro A1 s c1 B1 D c2 hp ⟨rfl,hl⟩
  obtain ⟨⟨rfl,rfl,rfl⟩,rfl,rfl,rfl⟩:(A1=A/\s=an/\c1=ac)/\B1=B/\D=bn/\c2=bc:=by simpa using hl
  refine D8 (fun _=>C none 0 0 _ (B5 _) (aY _) Mag.zero) (fun e=>absurd (by omega) e)
 | succ N ih=>
  intro h K A B ac bc an bn x y hN ma mb ha Q hl u C
  refine Ft _ _ _ _ _ _ ?_
  unfold Ep
  refine ⟨fun l h'=>h'=h/\∃ (A1 B1:Option bH) (s D c1 c2:Nat) (x1 y1:Int),l=[.slice A1 s c1,.slice B1 D c2]/\Mw h A1 s x1/\Mw h B1 D y1/\D<=s/\s<=1000000000/\s<=c1/\D<=c2/\s+D<=N+1/\x1*y1=x*y,B8 (fun h1=>?_) (fun h1=>?_),?_⟩
  ·exact ⟨rfl,_,_,_,_,_,_,y,x,rfl,mb,ma,by omega,u,Q,ha,by omega,aS _ _⟩
  ·exact ⟨rfl,_,_,_,_,_,_,x,y,rfl,ma,mb,by omega,hl,ha,Q,by omega,rfl⟩
  clear ma mb ha Q hl u hN
  rintro A1 s c1 B1 D c2 hp ⟨rfl,A1',B1',bv,ba,b1,bb,x1,y1,ak,m1,T,hn,a5,F,V,cf,aj⟩
  obtain ⟨⟨rfl,rfl,rfl⟩,rfl,rfl,rfl⟩:(A1=A1'/\s=bv/\c1=b1)/\B1=B1'/\D=ba/\c2=bb:=by simpa using ak
  rw [<- aj] at C
  clear ak aj
  have hz:=T.len_zero (by decide)
  refine D8 (fun h0=>?_) (fun h0=>?_)
  ·have:y1=0:=hz.2 (by omega)
   subst this
   rw [fR] at C
   exact C none 0 0 _ (B5 _) (aY _) Mag.zero
  ·refine ⟨fun l h'=>∃ t:Bool,h'=hp/\l=[.bool t]/\(t=true->y1=1),D8 (fun h1=>?_) (fun h1=>⟨false,rfl,rfl,fun e=>by cases e⟩),?_⟩
   ·obtain ⟨f,R,sy,L,ny,bo⟩:=T
    refine sy.load R (by omega) (by omega) ⟨_,rfl,rfl,fun e=>?_⟩
    have e1:f.getD 0 0=1:=by simpa using e
    obtain ⟨d,rfl⟩:∃ d,f=[d]:=by
     cases f with
     | nil=>simp at R;omega
     | cons d r=>
      cases r with
      | nil=>exact ⟨d,rfl⟩
      | cons _ _=>simp at R;omega
    rw [<- bo,Z6];simpa using e1
   rintro tb ad ⟨t',rfl,u,O⟩
   obtain rfl:tb=t':=by simpa using u
   refine Br.of (fun e=>?_) (fun _=>?_)
   ·rw [O e,Int.mul_one] at C
    exact C _ _ _ _ (B5 _) F m1
   clear O u
   have eL:B7 ((s:Int)+D)=((s+D:Nat):Int):=by rw [C1 (by omega) (by omega)];omega
   refine B8 (fun h2=>?_) (fun h2=>?_)
   ·obtain ⟨g,rfl,sx,W,nx,rfl⟩:=m1
    obtain ⟨f,rfl,sy,L,ny,rfl⟩:=T
    rw [eL]
    refine K8 R5 (by omega) (by omega) (by omega) ?_
    intro b Q
    rw [aC]
    exact ⟨_,_,_,rfl,C3t Q sx W sy L a5 (by omega) C⟩
   ·obtain ⟨H,hH⟩:∃ H,H=(s+1)/2:=⟨_,rfl⟩
    have eH:B7 (cT (B7 ((s:Int)+1)) 2)=(H:Int):=by
     rw [C1 (n:=(s:Int)+1) (by omega) (by omega),bJ (by omega),C1 (by omega) (by omega)];omega
    have b0:B7 ((2:Int)*(H:Int))=((2*H:Nat):Int):=by rw [C1 (by omega) (by omega)];omega
    simp only [eH,eL,b0,aC]
    refine B8 (fun h3=>?_) (fun h3=>?_)
    ·refine Qj ih (by omega) m1 T F V a5 (by omega) (by omega) ?_
     intro A' m c' h' l' k' M'
     exact ⟨_,_,_,rfl,C _ _ _ _ l' k' M'⟩
    ·have bg:=m1.nonneg (by decide)
     have ag:=m1.lt (by decide)
     have au:=T.lt (by decide)
     have bj:=T.nonneg (by decide)
     obtain ⟨g,rfl,sx,W,nx,rfl⟩:=m1
     obtain ⟨f,rfl,sy,L,ny,rfl⟩:=T
     have b5:H<g.length:=by omega
     have b6:H<f.length:=by omega
     have av:=C9 (by decide) (W.take H)
     have ar:=C9 (by decide) (W.drop H)
     have a0:=C9 (by decide) (L.take H)
     have aw:=C9 (by decide) (L.drop H)
     have bp:=G1 b64 g (i:=H) (by omega)
     have b4:=G1 b64 f (i:=H) (by omega)
     have ai:=N3 (by decide) (W.take H)
     have ap:=N3 (by decide) (L.take H)
     rw [aF,aJ (by omega)] at ai ap
     have w:Mw ad (I5 A1 c1 H 1) (g.length-H) (val b64 (g.drop H)):=by
      have:=Mw.of (A26 sx (c:=c1) (l:=H) (by omega) F) (W.drop H) (Oc nx b5)
      rwa [aN] at this
     have z:Mw ad (I5 B1 c2 H 1) (f.length-H) (val b64 (f.drop H)):=by
      have:=Mw.of (A26 sy (c:=c2) (l:=H) (by omega) V) (L.drop H) (Oc ny b6)
      rwa [aN] at this
     obtain ⟨ka,kb,kc⟩:=C82 (P:=b64^H) av ar a0 aw
     rw [<- bp,<- b4] at kc
     generalize hX0:val b64 (g.take H)=X0 at *
     generalize hX1:val b64 (g.drop H)=X1 at *
     generalize hY0:val b64 (f.take H)=Y0 at *
     generalize hY1:val b64 (f.drop H)=Y1 at *
     rw [J0,J0,bX,bX,bX]
     refine ⟨⟨by omega,by omega⟩,⟨by omega,by omega⟩,?_⟩
     refine Ce (Kq sx (c:=c1) (m:=H) (by omega) F) (W.take H) (by rw [aF];omega) hX0 (by omega) (by omega) ?_
     intro mx cn MX0
     refine ⟨_,_,_,rfl,B5 _,⟨by omega,by omega⟩,⟨by omega,by omega⟩,?_⟩
     refine Ce (Kq sy (c:=c2) (m:=H) (by omega) V) (L.take H) (by rw [aF];omega) hY0 (by omega) (by omega) ?_
     intro my cr MY0
     refine ⟨_,_,_,rfl,B5 _,?_⟩
     refine ih (by omega) MX0 MY0 (by omega) (by omega) (by omega) (by omega) ?_
     intro A3 n3 c3 g3 l3 k3 M3
     refine ⟨_,_,_,rfl,?_⟩
     refine ih (by omega) (w.mono l3) (z.mono l3) (by omega) (by omega) (by omega) (by omega) ?_
     intro A4 n4 c4 g4 l4 k4 M4
     refine ⟨_,_,_,rfl,?_⟩
     have G:=B0 l3 l4
     refine T8 (MX0.mono G) (w.mono G) (by omega) (by omega) (by omega) (by omega) ?_
     intro A5 n5 c5 g5 l5 k5 M5
     refine ⟨_,_,_,rfl,?_⟩
     have al:=B0 G l5
     refine T8 (MY0.mono al) (z.mono al) (by omega) (by omega) (by omega) (by omega) ?_
     intro A6 n6 c6 g6 l6 k6 M6
     refine ⟨_,_,_,rfl,?_⟩
     have am:=w.lt (by decide)
     have ax:=z.lt (by decide)
     have b3:=D9 (B:=b64) (by decide) H
     have ce:b64^(H+1)=b64^H*18446744073709551616:=bF _ _
     have ca:n5<=H+1:=by
      refine M5.len_le (by decide) ?_
      have:=D4 (B:=b64) (by decide) (show g.length-H<=H by omega)
      omega
     have b9:n6<=H+1:=by
      refine M6.len_le (by decide) ?_
      have:=D4 (B:=b64) (by decide) (show f.length-H<=H by omega)
      omega
     refine ih (by omega) (M5.mono l6) M6 k5 k6 (by omega) (by omega) ?_
     intro A7 n7 c7 g7 l7 k7 M7
     refine ⟨_,_,_,rfl,?_⟩
     have Z:=B0 (B0 l5 l6) l7
     have k:∀ {p q:Int} {i j:Nat},0<=p->p<b64^i->0<=q->q<b64^j->p*q<b64^(i+j):=by
      intro p q i j a b c d
      rw [bG]
      have t1:p*q<=b64^i*q:=aE (by omega) c
      have t2:b64^i*q<b64^i*b64^j:=cV d (D9 (by decide) i)
      omega
     have cd:n7<=n5+n6:=M7.len_le (by decide) (k (M5.nonneg (by decide)) (M5.lt (by decide)) (M6.nonneg (by decide)) (M6.lt (by decide)))
     refine I7 M7 (M3.mono (B0 l4 Z)) k7 (by omega) ka ?_
     intro A8 n8 c8 g8 l8 k8 M8
     refine ⟨_,_,_,rfl,?_⟩
     have b8:n8<=n7:=M8.len_le (by decide) (by have:=M7.lt (by decide);have:=M3.nonneg (by decide);omega)
     refine I7 M8 (M4.mono (B0 Z l8)) k8 (by omega) kb ?_
     intro A9 n9 c9 g9 l9 k9 M9
     refine ⟨_,_,_,rfl,?_⟩
     have X:=B0 Z (B0 l8 l9)
     have ay:ad.le g9:=B0 G X
     refine K8 R5 (by omega) (by omega) (by omega) ?_
     intro b Q
     rw [aC]
     refine ⟨_,_,_,rfl,?_⟩
     have w0:=Win.blk .u64 C4 Q (aD (g.length+f.length) 0)
     have cb:n3<=H+H:=M3.len_le (by decide) (k av ai a0 ap)
     have b7:n4<=(g.length-H)+(f.length-H):=M4.len_le (by decide) (k ar am aw ax)
     obtain ⟨o,aq,bq,bd,cg,a6⟩:=M3.mono (B0 l4 X)
     obtain ⟨hi,af,bx,bk,ci,a7⟩:=M4.mono X
     obtain ⟨M,a1,ao,a4,bl,a3⟩:=M9
     refine Hk R5 w0 (by simp) (bq.mono w0.le) aq (by simp;omega) ?_
     intro ck S
     refine ⟨_,rfl,⟨by omega,by omega⟩,?_⟩
     have bf:o++(aD (g.length+f.length) (0:Int)).drop o.length=o++aD (g.length+f.length-o.length) 0:=by rw [bI]
     rw [bf] at S
     have ab:=S.sub (l:=2*H) (m:=g.length+f.length) (c:=g.length+f.length) (by omega) (by simp;omega) (by simp;omega)
     have bw:((o++aD (g.length+f.length-o.length) (0:Int)).drop (2*H)).take (g.length+f.length-2*H)=aD (g.length+f.length-2*H) 0:=by
      rw [gN,aV (by omega),cQ,bI,cH]
      congr 1;omega
     rw [bw] at ab
     refine Hk R5 ab (by simp) (bx.mono ab.le) af (by simp;omega) ?_
     intro cj a8
     refine ⟨_,rfl,⟨by omega,by omega⟩,?_⟩
     rw [bI] at a8
     have J:=S.whole (l:=2*H) (m:=g.length+f.length) (by omega) (by simp;omega) (by simp;omega) a8
     have bh:(o++aD (g.length+f.length-o.length) (0:Int)).take (2*H)=o++aD (2*H-o.length) 0:=by
      rw [dM,aL (by omega),cH]
      congr 2;omega
     have b2:(o++aD (g.length+f.length-o.length) (0:Int)).drop (g.length+f.length)=[]:=by
      apply aV;simp;omega
     rw [bh,b2,cC] at J
     generalize hzs:o++aD (2*H-o.length) (0:Int)++(hi++aD (g.length+f.length-2*H-hi.length) 0)=zs at J
     have cq:zs.length=g.length+f.length:=by
      rw [<- hzs];simp;omega
     have E:Dig b64 zs:=by
      rw [<- hzs]
      exact (bd.append (J1 (by decide) _)).append (bk.append (J1 (by decide) _))
     have bm:val b64 zs=X0*Y0+b64^H*b64^H*(X1*Y1):=by
      rw [<- hzs,H9,Ds,Ds,a6,a7]
      have:(o++aD (2*H-o.length) (0:Int)).length=H+H:=by simp;omega
      rw [this,bG]
     have a2:=J.sub (l:=H) (m:=g.length+f.length) (c:=g.length+f.length) (by omega) (by omega) (by omega)
     have be:(zs.drop H).take (g.length+f.length-H)=zs.drop H:=aL (by rw [aN];omega)
     have ae:(zs.drop H).length=g.length+f.length-H:=by rw [aN];omega
     rw [be] at a2
     have bt:=G1 b64 zs (i:=H) (by omega)
     have co:=C9 (by decide) (E.take H)
     have cc:=C9 (by decide) (E.drop H)
     have ch:val b64 g*val b64 f<b64^(g.length+f.length):=k bg ag bj au
     have az:val b64 zs+b64^H*val b64 M=val b64 g*val b64 f:=by rw [kc,bm,a3];grind
     have ah:val b64 (zs.drop H)+val b64 M<b64^(g.length+f.length-H):=by
      have e5:b64^(g.length+f.length)=b64^H*b64^(g.length+f.length-H):=by rw [<- bG];congr 1;omega
      by_cases hc:val b64 (zs.drop H)+val b64 M<b64^(g.length+f.length-H)
      ·exact hc
      ·have:=aK (show b64^(g.length+f.length-H)<=val b64 (zs.drop H)+val b64 M by omega) (aQ b3)
       rw [dB] at this
       omega
     have cs:M.length<=g.length+f.length-H:=by
      have Mmi:Mw g9 A9 M.length (val b64 M):=⟨M,rfl,ao,a4,bl,rfl⟩
      exact Mmi.len_le (by decide) (by omega)
     refine Jl a2 ae.symm ao a1 (E.drop H) a4 (by omega) (by rw [ae];exact ah) (by omega) ?_
     intro us cm cl a9 bi bz
     refine ⟨rfl,?_⟩
     have aa:=J.whole (l:=H) (m:=g.length+f.length) (by omega) (by omega) (by omega) bz
     rw [aV (show zs.length<=g.length+f.length by omega),cC] at aa
     have br:(zs.take H++us).length=g.length+f.length:=by
      simp only [aH,aF];omega
     rw [<- br]
     refine R9 aa.sl ((E.take H).append a9) (by omega) (by omega) ?_
     intro m hm hM
     have bu:val b64 (zs.take H++us)=val b64 g*val b64 f:=by
      rw [H9,aF,aJ (by omega),bi,<- az,bt];grind
     rw [bu] at hM
     exact ⟨_,_,_,rfl,C _ _ _ _ (B0 ay aa.le) hm hM⟩
def I8{x y:Int}{an bn:Nat}(ma:Mw h A an x)(mb:Mw h B bn y)(ha:an<=ac)(hb:bn<=bc)(hl:an<=1000000000)(hl2:bn<=1000000000)(hK:∀ A' m c' h',h.le h'->m<=c'->Mw h' A' m (x*y)->K (.slice A' m c') h'):aZ prog D6 #[.slice A an ac,.slice B bn bc] h K:=
 C69 _ (aY _) ma mb ha hb hl hl2 hK
end
section
variable {h g:bB} {K:VP} {A B:Option bH} {ac bc:Nat}
def B4d{hi lo y:Int}(hhi:0<=hi/\hi<y)(hlo:0<=lo/\lo<18446744073709551616)(hy:y<18446744073709551616)
 (hK:K (.tuple #[U ((hi*18446744073709551616+lo)/y),U ((hi*18446744073709551616+lo)%y)]) h):aZ prog Hi #[U hi,U lo,U y] h K:=by
 obtain ⟨n,rfl⟩:∃ n:Nat,y=n:=⟨y.toNat,by omega⟩
 exact Tt hhi hlo (by omega) hK
def Vx{x:Int}{an w:Nat}(ma:Mw h A an x)(hw:0<w/\w<18446744073709551616)(hl:an<=1000000000)(hK:∀ A' m c' h',h.le h'->m<=c'->m<=an->Mw h' A' m (x/w)->K (.tuple #[.slice A' m c',U (x%w)]) h'):aZ prog Gw #[.slice A an ac,U w] h K:=by
 obtain ⟨a,rfl,C,E,J,rfl⟩:=ma
 refine Ya _ _ _ _ ?_
 unfold Ww
 refine K8 R5 (by omega) (by omega) (by omega) ?_
 intro b u
 rw [aC]
 refine ⟨_,_,_,rfl,?_⟩
 refine ⟨fun l h'=>∃ (k:Nat) (r:Int) (zs:List Int),l=[U r,I ((k:Int)-1)]/\k<=a.length/\zs.length=a.length/\Dig b64 zs/\(0<=r/\r<w)/\h'=blk .u64 C4 h b zs/\val b64 (a.drop k)=val b64 (zs.drop k)*w+r,fun l _=>(iAt l 1+1).toNat,⟨a.length,0,_,by rw [C1 (by omega) (by omega)],by omega,by simp,J1 (by decide) _,by omega,rfl,by simp [val]⟩,?_⟩
 rintro r i H ⟨k,D,zs,o,G,c,t,d,rfl,f⟩
 obtain ⟨rfl,rfl⟩:r=D/\i=(k:Int)-1:=by simpa using o
 have n:=Y9 (k:=.u64) (e:=C4) u zs
 refine B8 (fun z=>?_) (fun z=>?_)
 ·obtain ⟨j,rfl⟩:∃ j,k=j+1:=⟨k-1,by omega⟩
  have e:((j+1:Nat):Int)-1=(j:Int):=by omega
  rw [e]
  have B:=O7 E j
  refine (C.mono n).load rfl (by omega) (by omega) ?_
  rw [aC]
  refine Tt d B hw.2 ⟨_,_,rfl,?_⟩
  have y:0<=r*18446744073709551616+a.getD j 0:=by omega
  have g:0<=(r*18446744073709551616+a.getD j 0)/w/\(r*18446744073709551616+a.getD j 0)/w<18446744073709551616:=by
   constructor
   ·exact cF y (by omega)
   ·apply bK (by omega)
    have:(r+1)*18446744073709551616<=(w:Int)*18446744073709551616:=aE (by omega) (by decide)
    omega
  refine ⟨_,rfl,by omega,by omega,?_⟩
  refine Fp (zs:=zs) (i:=j) G8 (by omega) ?_
  rw [C1 (by omega) (by omega)]
  refine ⟨⟨j,_,zs.set j ((r*18446744073709551616+a.getD j 0)/w),rfl,by omega,by simpa using c,t.set g,⟨aU _ (by omega),aP _ (by omega)⟩,rfl,?_⟩,by simp only [iAt,aG,aI];omega⟩
  rw [Y8 (by omega),Ni b64 (by omega),f]
  have:=aO (r*18446744073709551616+a.getD j 0) w
  simp only [val]
  grind
 ·have p:k=0:=by omega
  subst p
  rw [cO,cO] at f
  rw [<- c]
  refine R9 (Ea _ _ _ _ _) t (aY _) (by omega) ?_
  intro m F s
  have g:val b64 a/w=val b64 zs:=by
   rw [f,fU,fT _ _ (by omega),bU d.1 d.2,dN]
  have q:val b64 a%w=r:=by
   rw [f,fU,gS,gM d.1 d.2]
  rw [<- g] at s
  rw [<- q]
  exact ⟨_,_,_,rfl,hK _ _ _ _ (Y9 u _) F (by omega) s⟩
def Nz{x:Int}{an w:Nat}(ma:Mw h A an x)(hw:0<w/\w<18446744073709551616)(hl:an<=1000000000)(hK:K (U (x%w)) h):aZ prog Bo #[.slice A an ac,U w] h K:=by
 obtain ⟨a,rfl,m,s,y,rfl⟩:=ma
 refine Rh _ _ _ _ ?_
 unfold Lg
 refine ⟨fun l q=>∃ (k:Nat) (r:Int) (Q:Int),l=[U r,I ((k:Int)-1)]/\k<=a.length/\(0<=r/\r<w)/\q=h/\val b64 (a.drop k)=Q*w+r,fun l _=>(iAt l 1+1).toNat,⟨a.length,0,0,by rw [C1 (by omega) (by omega)],by omega,by omega,rfl,by simp [val]⟩,?_⟩
 rintro r i u ⟨k,p,Q,f,t,g,rfl,b⟩
 obtain ⟨rfl,rfl⟩:r=p/\i=(k:Int)-1:=by simpa using f
 refine B8 (fun n=>?_) (fun n=>?_)
 ·obtain ⟨j,rfl⟩:∃ j,k=j+1:=⟨k-1,by omega⟩
  have e:((j+1:Nat):Int)-1=(j:Int):=by omega
  rw [e]
  have o:=O7 s j
  refine m.load rfl (by omega) (by omega) ?_
  rw [aC]
  refine Tt g o hw.2 ⟨_,_,rfl,?_⟩
  rw [C1 (by omega) (by omega)]
  refine ⟨⟨j,_,b64*Q+(r*18446744073709551616+a.getD j 0)/w,rfl,by omega,⟨aU _ (by omega),aP _ (by omega)⟩,rfl,?_⟩,by simp only [iAt,aG,aI];omega⟩
  rw [Ni b64 (by omega),b]
  have:=aO (r*18446744073709551616+a.getD j 0) w
  show _+(18446744073709551616:Int)*_=((18446744073709551616:Int)*_+_)*_+_
  grind
 ·have c:k=0:=by omega
  subst c
  rw [cO] at b
  have d:val b64 a%w=r:=by
   rw [b,fU,gS,gM g.1 g.2]
  rw [d] at hK;exact hK
def A21{us vs:List Int}{m wn dn:Nat}{X Y:Int}(su:SlI .u64 h A us)(sv:SlI .u64 h B vs)(hwn:wn=us.length)(hdn:dn=vs.length)(du:Dig b64 us)(dv:Dig b64 vs)(hu:us.length=m+3)(hv:vs.length=m+2)(hl:m<=10000000000)(h1:b64<=2*vs.getD (m+1) 0)(hX:val b64 us=X)(hY:val b64 vs=Y)(hlt:X<Y*b64)
 (hK:∀ q,0<=q->q<18446744073709551616->X<(q+1)*Y->(q-1)*Y<=X->K (U q) h):aZ prog Mi #[.slice A wn ac,.slice B dn bc] h K:=by
 subst hwn hdn
 have b:=C03 (B:=b64) (by decide) du dv hu hv h1 (by rw [hX,hY];exact hlt)
 rw [hX,hY] at b
 have gu:=O7 du (m+2)
 have k:=O7 du (m+1)
 have V:=O7 dv (m+1)
 have p:=b.v1r
 have a:=b.v2r
 have M:=b.u2r
 have Z:=b.V0
 have N:=b.U0
 refine A50 _ _ _ _ _ _ ?_
 unfold A51
 have L:B7 ((vs.length:Int)-1)=((m+1:Nat):Int):=by rw [C1 (by omega) (by omega)];omega
 have e2:B7 ((vs.length:Int)-2)=(m:Int):=by rw [C1 (by omega) (by omega)];omega
 have e3:((vs.length:Nat):Int)=((m+2:Nat):Int):=by omega
 rw [L,e2,e3]
 refine sv.load (by omega) (by omega) (by omega) ?_
 refine sv.load (by omega) (by omega) (by omega) ?_
 refine su.load rfl (by omega) (by omega) ?_
 simp only [aC]
 refine B8 (fun J=>?_) (fun J=>?_)
 ·have H:=b.top (by
   have:vs.getD (m+1) 0*b64<=us.getD (m+2) 0*b64:=aE J (by decide)
   omega)
  exact hK 18446744073709551615 (by omega) (by omega) H.2 H.1
 ·refine su.load rfl (by omega) (by omega) ?_
  refine su.load rfl (by omega) (by omega) ?_
  simp only [aC]
  refine B4d (by omega) k V.2 ⟨_,_,rfl,B5 h,?_⟩
  generalize hT:us.getD (m+2) 0*b64+us.getD (m+1) 0=T at b
  have R:us.getD (m+2) 0*18446744073709551616+us.getD (m+1) 0=T:=hT
  have D:0<=T:=b.top0
  have y:=b.init
  have u:=aO T (vs.getD (m+1) 0)
  have Q:=aU T (show vs.getD (m+1) 0≠0 by omega)
  have ab:=aP T (show 0<vs.getD (m+1) 0 by omega)
  have F:0<=T/vs.getD (m+1) 0:=cF D (by omega)
  have g:T/vs.getD (m+1) 0<18446744073709551616:=by
   apply bK (by omega)
   have:(us.getD (m+2) 0+1)*18446744073709551616<=vs.getD (m+1) 0*18446744073709551616:=aE (by omega) (by decide)
   have:=k.2
   have:18446744073709551616*vs.getD (m+1) 0=vs.getD (m+1) 0*18446744073709551616:=aS _ _
   omega
  refine ⟨fun l O=>∃ q r:Int,l=[U q,U r]/\O=h/\(0<=q/\q<18446744073709551616)/\(0<=r/\r<18446744073709551616)/\q*vs.getD (m+1) 0+r=T/\X<(q+1)*Y,fun l _=>(iAt l 0).toNat,⟨_,_,rfl,rfl,⟨F,g⟩,by omega,by rw [aS];exact u,y⟩,?_⟩
  rintro q r t ⟨q',r',z,rfl,i,hr,C,o⟩
  obtain ⟨rfl,rfl⟩:q=q'/\r=r':=by simpa using z
  have hm:0<=q*vs.getD m 0/\q*vs.getD m 0<=18446744073709551615*18446744073709551615:=⟨aT i.1 a.1,fC (by omega) (by have:=(O7 dv m).2;omega) a.1 (by decide)⟩
  have key:q*(vs.getD (m+1) 0*b64+vs.getD m 0)=(T-r)*18446744073709551616+q*vs.getD m 0:=by
   rw [<- C];show q*(vs.getD (m+1) 0*(18446744073709551616:Int)+vs.getD m 0)=_;grind
  have f:q*vs.getD m 0<=r*18446744073709551616+us.getD m 0->K (U q) t:=by
   intro aa
   refine hK q i.1 i.2 o (b.up (by show q<=(18446744073709551616:Int);omega) ?_)
   rw [key];show _<=T*(18446744073709551616:Int)+_;omega
  have e:¬ (q*vs.getD m 0<=r*18446744073709551616+us.getD m 0)->Br (decide (C3 (r+vs.getD (m+1) 0)<vs.getD (m+1) 0)) (K (U (C3 (q-1))) t) ((∃ q_1 r_1:Int,[U (C3 (q-1)),U (C3 (r+vs.getD (m+1) 0))]=[U q_1,U r_1]/\t=t/\(0<=q_1/\q_1<18446744073709551616)/\(0<=r_1/\r_1<18446744073709551616)/\q_1*vs.getD (m+1) 0+r_1=T/\X<(q_1+1)*Y)/\(iAt [U (C3 (q-1)),U (C3 (r+vs.getD (m+1) 0))] 0).toNat<(iAt [U q,U r] 0).toNat):=by
   intro hf
   have w:X<q*Y:=b.low i.1 (by rw [key];show T*(18446744073709551616:Int)+_<_;omega)
   have g:1<=q:=by
    by_cases E:1<=q
    ·exact E
    ·have:q=0:=by omega
     subst this;omega
   have c:X<(q-1+1)*Y:=by rw [Int.sub_add_cancel];exact w
   have d:(q-1)*vs.getD (m+1) 0+(r+vs.getD (m+1) 0)=T:=by grind
   rw [C5 (n:=q-1) (by omega) (by omega)]
   refine B8 (fun j=>?_) (fun j=>?_)
   ·rw [F6] at j
    have hb:(q-1)*vs.getD m 0<=18446744073709551616*vs.getD m 0:=aE (by omega) a.1
    have s:(q-1)*(vs.getD (m+1) 0*b64+vs.getD m 0)=(T-(r+vs.getD (m+1) 0))*18446744073709551616+(q-1)*vs.getD m 0:=by
     rw [<- d];show (q-1)*(vs.getD (m+1) 0*(18446744073709551616:Int)+vs.getD m 0)=_;grind
    refine hK (q-1) (by omega) (by omega) c (b.up (by show q-1<=(18446744073709551616:Int);omega) ?_)
    rw [s]
    have:=a.2
    show _<=T*(18446744073709551616:Int)+_
    have:vs.getD m 0<18446744073709551616:=a.2
    omega
   ·have G:r+vs.getD (m+1) 0<18446744073709551616:=by
     by_cases E:r+vs.getD (m+1) 0<18446744073709551616
     ·exact E
     ·rw [F6] at j;have:=p.2;have:vs.getD (m+1) 0<18446744073709551616:=p.2;omega
    rw [C5 (n:=r+vs.getD (m+1) 0) (by omega) G]
    exact ⟨⟨q-1,r+vs.getD (m+1) 0,rfl,rfl,by omega,by omega,d,c⟩,by simp only [iAt,aG];omega⟩
  refine Od i (by have:=a.2;exact ⟨a.1,this⟩) ⟨_,_,rfl,?_⟩
  have S:0<=us.getD m 0/\us.getD m 0<18446744073709551616:=O7 du m
  refine B8 (fun j=>f (by omega)) (fun j=>?_)
  refine D8 (fun W=>?_) (fun W=>e (by omega))
  refine su.load rfl (by omega) (by omega) ?_
  rw [aC]
  exact B8 (fun h5=>f (by omega)) (fun h5=>e (by omega))
end
section
variable {h g:bB} {K:VP} {bu bq:Nat} {pre qs:List Int} {VA:Option bH} {vs:List Int}
def C4i{n N:Nat}{ws:List Int}{q:Int}{J:LP}(hu:g bu=none)(hq:g bq=none)(hne:bu≠bq)(sv:SlI .u64 g VA vs)(dv:Dig b64 vs)(hn:n=vs.length)(dw:Dig b64 ws)(hN:N=(pre++ws).length)(hl:n<ws.length)(hbig:N<=4000000000)
 (hD:val b64 (ws.take n)+val b64 vs<2*b64^n) (hD0:b64^n<=val b64 (ws.take n)+val b64 vs) (htop:ws.getD n 0=18446744073709551615)
 (hJ:∀ ws',ws'.length=ws.length->Dig b64 ws'->ws'.drop (n+1)=ws.drop (n+1)->ws'.getD n 0=0->val b64 (ws'.take n)=val b64 (ws.take n)+val b64 vs-b64^n->J [U (C3 (q-1))] (Bj .u64 C4 g bu (pre++ws') bq qs)):
 Bs prog n VA n (some ⟨bu,0,none⟩) N (pre.length:Int) q J (Bj .u64 C4 g bu (pre++ws) bq qs):=by
 unfold Bs
 refine ⟨fun l G=>∃ (k:Nat) (c:Int) (zs:List Int),l=[U c,I k]/\k<=n/\zs.length=ws.length/\Dig b64 zs/\(0<=c/\c<=1)/\G=Bj .u64 C4 g bu (pre++zs) bq qs/\zs.drop k=ws.drop k/\val b64 (zs.take k)+c*b64^k=val b64 (ws.take k)+val b64 (vs.take k),fun l _=>n-(iAt l 1).toNat,⟨0,0,ws,rfl,by omega,rfl,dw,by omega,rfl,rfl,by simp [val]⟩,?_⟩
 rintro c i W ⟨k,R,zs,u,T,f,m,S,rfl,a,E⟩
 obtain ⟨rfl,rfl⟩:c=R/\i=(k:Int):=by simpa using u
 have s:g.le (Bj .u64 C4 g bu (pre++zs) bq qs):=Rd hu hq hne
 have D:SlI .u64 (Bj .u64 C4 g bu (pre++zs) bq qs) (some ⟨bu,0,none⟩) (pre++zs):=Wi hne
 have b:N=(pre++zs).length:=by rw [hN,aH,aH,f]
 have M:N=pre.length+zs.length:=by rw [b,aH]
 have z:B7 ((pre.length:Int)+k)=((k+pre.length:Nat):Int):=by rw [C1 (by omega) (by omega)];omega
 have y:B7 ((pre.length:Int)+n)=((n+pre.length:Nat):Int):=by rw [C1 (by omega) (by omega)];omega
 refine B8 (fun L=>?_) (fun L=>?_)
 ·have H:=O7 dv k
  have gz:=O7 m k
  have d:=E7 a
  have O:=C7 b64 vs k
  have Q:=C7 b64 ws k
  rw [z]
  refine (sv.mono s).load hn (by omega) (by omega) ?_
  refine D.load b (by omega) (by omega) ?_
  simp only [aC,Gr]
  refine Ec gz H S ⟨_,_,rfl,?_⟩
  refine ⟨_,rfl,by omega,by omega,?_⟩
  have o:=Q6 (P:=prog) (t:=C4) (k:=.u64) (e:=C4) (g:=g) (bu:=bu) (bq:=bq) (us:=pre++zs) (qs:=qs) (i:=((k+pre.length:Nat):Int)) (n:=(zs.getD k 0+vs.getD k 0+c)%18446744073709551616) G8 hne (by rw [aC];omega)
   (K:=fun _ p=>(∃ (k_1:Nat) (c_1:Int) (zs_1:List Int),[U ((zs.getD k 0+vs.getD k 0+c)/18446744073709551616),I (B7 ((k:Int)+1))]=[U c_1,I k_1]/\k_1<=n/\zs_1.length=ws.length/\Dig b64 zs_1/\(0<=c_1/\c_1<=1)/\p=Bj .u64 C4 g bu (pre++zs_1) bq qs/\zs_1.drop k_1=ws.drop k_1/\val b64 (zs_1.take k_1)+c_1*b64^k_1=val b64 (ws.take k_1)+val b64 (vs.take k_1))/\n-(iAt [U ((zs.getD k 0+vs.getD k 0+c)/18446744073709551616),I (B7 ((k:Int)+1))] 1).toNat<n-(iAt [U c,I k] 1).toNat)
  rw [aC] at o
  refine o ?_
  rw [Ll,C1 (n:=(k:Int)+1) (by omega) (by omega)]
  refine ⟨⟨k+1,_,zs.set k ((zs.getD k 0+vs.getD k 0+c)%18446744073709551616),rfl,by omega,by simpa using f,m.set (Fe _),by omega,rfl,?_,?_⟩,by simp only [iAt,aG,aI];omega⟩
  ·rw [D7 (by omega)];exact E5 a
  ·rw [D3 (by omega),F7,aF,aJ (by omega),bF,Cx,O,Q,<- d]
   grind
 ·have r:k=n:=by omega
  subst r
  have d:=E7 a
  rw [y]
  refine D.load b (by omega) (by omega) ?_
  rw [aC,Gr,d,htop]
  refine ⟨_,rfl,by omega,by omega,?_⟩
  have A:vs.take k=vs:=by rw [hn,aW]
  rw [A] at E
  have w:=N3 (by decide) (m.take k)
  rw [aF,aJ (by omega)] at w
  have V:=C9 (by decide) (m.take k)
  have B:c=1:=by
   by_cases C:c=0
   ·subst C;omega
   ·omega
  subst B
  have F:C3 (18446744073709551615+1)=0:=by rw [F6];omega
  rw [F]
  have o:=Q6 (P:=prog) (t:=C4) (k:=.u64) (e:=C4) (g:=g) (bu:=bu) (bq:=bq) (us:=pre++zs) (qs:=qs) (i:=((k+pre.length:Nat):Int)) (n:=0) G8 hne (by rw [aC];omega) (K:=fun _ j=>J [U (C3 (q-1))] j)
  rw [aC] at o
  refine o ?_
  rw [Ll]
  refine hJ (zs.set k 0) (by simpa using f) (m.set (by decide)) (by rw [D7 (by omega)];exact E5 a) (by simp [cR,show k<zs.length by omega]) ?_
  rw [gF (by omega)]
  omega
end
def B6u{g h':bB}{e:bV}{bu bq:Nat}{A:Option bH}{us qs:List Int}(hne:bu≠bq)(w:Win .u64 h' (blk .u64 e g bq qs) bu e A [] us []):h'=Bj .u64 e g bu us bq qs:=by
 rw [Ji hne,w.eq]
 simp [blk]
def B8b{g:bB}{e:bV}{bu bq:Nat}{us qs:List Int}(hu:g bu=none)(hne:bu≠bq):Win .u64 (Bj .u64 e g bu us bq qs) (blk .u64 e g bq qs) bu e (some ⟨bu,0,none⟩) [] us []:=by
 rw [Ji hne]
 refine Win.blk .u64 e ?_ us
 unfold blk;rw [C0 _ _ hne];exact hu
def A4n{P:dI}{t:bV}{k:dZ}{e:bV}{g:bB}{bu bq:Nat}{us qs:List Int}(one:P.cellsOf t=1/\(P.info? t).isSome=true)(hne:bu≠bq){n:Int}{i:Nat}(hi:i<us.length){K:Unit->bB->Prop}
 (x:K () (Bj k e g bu (us.set i n) bq qs)):wpH P (dP t (.pointer (some (eM ⟨bu,0,none⟩ (i*1)))) (.int k n)) K (Bj k e g bu us bq qs):=by
 have:=Q6 (P:=P) (t:=t) (k:=k) (e:=e) (g:=g) (bu:=bu) (bq:=bq) (us:=us) (qs:=qs) (i:=(i:Int)) (n:=n) (K:=K) one hne (by simpa using hi) (by simpa using x)
 simpa using this
def A4o{P:dI}{t:bV}{k:dZ}{e:bV}{g:bB}{bu bq:Nat}{us qs:List Int}(one:P.cellsOf t=1/\(P.info? t).isSome=true){n:Int}{i:Nat}(hi:i<qs.length){K:Unit->bB->Prop}
 (x:K () (Bj k e g bu us bq (qs.set i n))):wpH P (dP t (.pointer (some (eM ⟨bq,0,none⟩ (i*1)))) (.int k n)) K (Bj k e g bu us bq qs):=by
 have:=Wj (P:=P) (t:=t) (k:=k) (e:=e) (g:=g) (bu:=bu) (bq:=bq) (us:=us) (qs:=qs) (i:=(i:Int)) (n:=n) (K:=K) one (by simpa using hi) (by simpa using x)
 simpa using this
section
variable {h g:bB} {K:VP} {bu bq:Nat} {VA:Option bH} {vs us0:List Int}
set_option maxHeartbeats 1000000 in
def A67{s mm N nq vc xn:Nat}{a b Y:Int}(hu:g bu=none)(hq:g bq=none)(hne:bu≠bq)(sv:SlI .u64 g VA vs)(dv:Dig b64 vs)(hn:vs.length=mm+2)(hv1:b64<=2*vs.getD (mm+1) 0)(hs:s<64)(hY:val b64 vs=Y)(hYb:Y=b*2^s)(du:Dig b64 us0)(hN:us0.length=N)(hua:val b64 us0=a*2^s)(hxn:N=xn+1)(hnq:N=nq+(mm+2))(hnq1:1<=nq)(hbig:N<=1000000001)(htop:val b64 (us0.drop nq)<Y)
 (hK:∀ A1 m1 c1 A2 m2 c2 h',g.le h'->m1<=c1->m2<=c2->Mw h' A1 m1 (a/b)->Mw h' A2 m2 (a%b)->K (.tuple #[.slice A1 m1 c1,.slice A2 m2 c2]) h'):
 Bt prog xn (mm+2) K (s:Int) VA (mm+2) vc (some ⟨bu,0,none⟩) N N (some ⟨bq,0,none⟩) nq nq (Bj .u64 C4 g bu us0 bq (aD nq 0)):=by
 have hp:0<(2:Int)^s:=bM (by decide)
 have a1:Y<b64^(mm+2):=by rw [<- hY,<- hn];exact N3 (by decide) dv
 have a9:0<Y:=by have:=C9 (by decide) (du.drop nq);omega
 have e0:B7 ((xn:Int)-((mm+2:Nat):Int))=(nq:Int)-1:=by rw [C1 (by omega) (by omega)];omega
 unfold Bt
 refine ⟨fun l h'=>∃ (k:Nat) (us qs:List Int),l=[I ((k:Int)-1)]/\k<=nq/\us.length=N/\qs.length=nq/\Dig b64 us/\Dig b64 qs/\h'=Bj .u64 C4 g bu us bq qs/\val b64 (us.drop k)<Y/\val b64 us0=val b64 (qs.drop k)*Y*b64^k+val b64 us,fun l _=>(iAt l 0+1).toNat,⟨nq,us0,_,by rw [e0],by omega,hN,by simp,du,J1 (by decide) _,rfl,htop,by simp [val]⟩,?_⟩
 rintro j a2 ⟨k,us,qs,ao,hk,D,R,t,ae,rfl,ap,hv⟩
 obtain rfl:j=(k:Int)-1:=by simpa using ao
 have aa:g.le (Bj .u64 C4 g bu us bq qs):=Rd hu hq hne
 have su:SlI .u64 (Bj .u64 C4 g bu us bq qs) (some ⟨bu,0,none⟩) us:=Wi hne
 unfold Hw
 refine B8 (fun h1=>?_) (fun h1=>?_)
 ·obtain ⟨j,rfl⟩:∃ j,k=j+1:=⟨k-1,by omega⟩
  have ej:((j+1:Nat):Int)-1=(j:Int):=by omega
  rw [ej]
  have e1:B7 ((j:Int)+((mm+2:Nat):Int))=((j+(mm+2):Nat):Int):=by rw [C1 (by omega) (by omega)];omega
  have e2:B7 (((j+(mm+2):Nat):Int)+1)=((j+(mm+3):Nat):Int):=by rw [C1 (by omega) (by omega)];omega
  simp only [e1,e2,aC]
  have w:=t.drop j
  have L:(us.drop j).length=N-j:=by rw [aN,D]
  have y:val b64 ((us.drop j).drop (mm+3))=0:=by
   have:=Ef (B:=b64) (by decide) (n:=mm+2) (t.drop (j+1)) (by omega)
   rw [dJ] at this ⊢
   rw [show j+(mm+3)=j+1+(mm+2) by omega];exact this
  have az:=A37 b64 us j
  have am:val b64 (us.drop j)<Y*b64:=by
   have bb:=O7 t j
   rw [az]
   have t1:b64*(val b64 (us.drop (j+1))+1)<=b64*Y:=aK (by omega) (by decide)
   have t2:b64*(val b64 (us.drop (j+1))+1)=b64*val b64 (us.drop (j+1))+18446744073709551616:=by show (18446744073709551616:Int)*_=_;grind
   have t3:Y*b64=b64*Y:=aS _ _
   omega
  have E:=G1 b64 (us.drop j) (i:=mm+3) (by omega)
  rw [y,fR,fS] at E
  have ag:=I3 b64 (us.drop j) (mm+2)
  have hX:val b64 (us.drop j)=val b64 ((us.drop j).take (mm+2))+b64^(mm+2)*(us.drop j).getD (mm+2) 0:=by rw [E];exact ag
  refine ⟨⟨by omega,by omega⟩,⟨by omega,by omega⟩,?_⟩
  have sw:SlI .u64 (Bj .u64 C4 g bu us bq qs) (I5 (some ⟨bu,0,none⟩) N j 1) ((us.drop j).take (mm+3)):=by
   have:=su.cut (c:=N) (l:=j) (m:=j+(mm+3)) (by omega) (by omega) (by omega)
   rwa [show j+(mm+3)-j=mm+3 by omega] at this
  generalize hXX:val b64 (us.drop j)=X at *
  refine A21 (m:=mm) (X:=X) (Y:=Y) sw (sv.mono aa) (by rw [aF,L];omega) hn.symm (w.take _) dv (by rw [aF,L];omega) hn (by omega) hv1 E.symm hY am ?_
  intro q q0 q1 q2 q3
  refine ⟨_,rfl,⟨by omega,by omega⟩,⟨by omega,by omega⟩,?_⟩
  have w0:=B8b (e:=C4) (us:=us) (qs:=qs) hu hne
  have aq:SlI .u64 (blk .u64 C4 g bq qs) VA vs:=sv.mono (Y9 hq qs)
  have hW:(us.drop j).take (j+(mm+2)-j)=(us.drop j).take (mm+2):=by rw [show j+(mm+2)-j=mm+2 by omega]
  have w1:=w0.sub (l:=j) (m:=j+(mm+2)) (c:=N) (by omega) (by omega) (by omega)
  rw [hW] at w1
  have M:((us.drop j).take (mm+2)).length=mm+2:=by rw [aF,L];omega
  refine Kv w1 (by rw [M];omega) aq hn.symm (w.take _) dv (by rw [M,hn]) ⟨q0,q1⟩ (by omega) ?_
  intro W c h2 p C u G w2
  rw [M] at p G
  refine ⟨_,rfl,?_⟩
  have w3:=w0.whole (l:=j) (m:=j+(mm+2)) (by omega) (by omega) (by omega) w2
  have ad:=B6u hne w3
  have f:(us.take j).length=j:=by rw [aF,D];omega
  have al:us.drop (j+(mm+2))=(us.drop j).drop (mm+2):=by rw [dJ]
  rw [aR,al] at ad
  subst ad
  generalize hws:us.drop j=ws at *
  have o:(W++ws.drop (mm+2)).length=ws.length:=by rw [aH,aN];omega
  have dW:Dig b64 (W++ws.drop (mm+2)):=C.append (w.drop _)
  have S:(W++ws.drop (mm+2)).getD (mm+2) 0=ws.getD (mm+2) 0:=by
   simp only [cR]
   rw [gU (by omega),p,gK,List.getElem?_drop,dV]
  have ac:=O7 w (mm+2)
  have ak:(us.take j++(W++ws.drop (mm+2))).length=N:=by rw [aH,o,f];omega
  have aw:SlI .u64 (Bj .u64 C4 g bu (us.take j++(W++ws.drop (mm+2))) bq qs) (some ⟨bu,0,none⟩) (us.take j++(W++ws.drop (mm+2))):=Wi hne
  have ax:j+(mm+2)=(mm+2)+(us.take j).length:=by omega
  refine aw.load ak.symm (by omega) (by omega) ?_
  rw [aC,ax,Gr,S]
  refine ⟨_,rfl,by omega,by omega,?_⟩
  refine A4n (i:=mm+2+(us.take j).length) G8 hne (by omega) ?_
  rw [Ll]
  have hP:0<b64^(mm+2):=D9 (by decide) _
  have av:=N3 (by decide) C
  have a4:=C9 (by decide) C
  rw [p] at av
  rw [hY] at G
  have hD:X-q*Y=val b64 W+(ws.getD (mm+2) 0-c)*b64^(mm+2):=by rw [G,hX];grind
  have O:X-q*Y<Y:=by
   have:(q+1)*Y=q*Y+Y:=by grind
   omega
  have a5: -Y<=X-q*Y:=by
   have:(q-1)*Y=q*Y-Y:=by grind
   omega
  have ba:0<=X:=by
   have t1:=C9 (by decide) (w.take (mm+2))
   have t2:=aT (aQ hP) ac.1
   omega
  have a0:ws.getD (mm+2) 0-c=0\/ws.getD (mm+2) 0-c= -1:=by
   have t2:ws.getD (mm+2) 0-c<1:=by
    by_cases u:ws.getD (mm+2) 0-c<1
    ·exact u
    ·have:=aE (show 1<=ws.getD (mm+2) 0-c by omega) (aQ hP);omega
   have t3: -2<ws.getD (mm+2) 0-c:=by
    by_cases u: -2<ws.getD (mm+2) 0-c
    ·exact u
    ·have:=aE (show ws.getD (mm+2) 0-c <= -2 by omega) (aQ hP);omega
   omega
  have z:∀ v,((W++ws.drop (mm+2)).set (mm+2) v).take (mm+2)=W:=by
   intro v
   rw [gF (by omega),dE p]
  have T:∀ v,((W++ws.drop (mm+2)).set (mm+2) v).getD (mm+2) 0=v:=by
   intro v
   rw [cR,iG (by omega)];rfl
  have af:∀ v,((W++ws.drop (mm+2)).set (mm+2) v).drop (mm+3)=ws.drop (mm+3):=by
   intro v
   rw [D7 (by omega),show mm+3=(mm+2)+1 by omega,<- dJ,eR p,dJ]
  refine ⟨fun l h'=>∃ d r,l=[U r]/\h'=Bj .u64 C4 g bu (us.take j++d) bq qs/\d.length=ws.length/\Dig b64 d/\d.drop (mm+3)=ws.drop (mm+3)/\d.getD (mm+2) 0=0/\val b64 (d.take (mm+2))=X-r*Y/\0<=X-r*Y/\X-r*Y<Y/\0<=r/\r<18446744073709551616,B8 (fun h3=>?_) (fun h3=>?_),?_⟩
  ·have F:ws.getD (mm+2) 0-c= -1:=by omega
   rw [F] at hD ⊢
   have Q:C3 (-1)=18446744073709551615:=by rw [F6];omega
   rw [Q]
   have ai:1<=q:=by
    by_cases u:1<=q
    ·exact u
    ·have:q=0:=by omega
     subst this;omega
   have e5:(q-1)*Y=q*Y-Y:=by grind
   have bk:=C4i (g:=g) (bu:=bu) (bq:=bq) (pre:=us.take j) (qs:=qs) (VA:=VA) (vs:=vs) (n:=mm+2) (N:=N) (ws:=(W++ws.drop (mm+2)).set (mm+2) 18446744073709551615) (q:=q)
    (J:=fun l h'=>∃ d r,l=[U r]/\h'=Bj .u64 C4 g bu (us.take j++d) bq qs/\d.length=ws.length/\Dig b64 d/\d.drop (mm+3)=ws.drop (mm+3)/\d.getD (mm+2) 0=0/\val b64 (d.take (mm+2))=X-r*Y/\0<=X-r*Y/\X-r*Y<Y/\0<=r/\r<18446744073709551616)
    hu hq hne sv dv hn.symm (dW.set (by decide)) (by rw [aH,bO,o,f];omega) (by rw [bO,o];omega) (by omega) (by rw [z,hY];omega) (by rw [z,hY];omega) (T _) ?_
   ·rw [f] at bk;exact bk
   ·intro d g1 g2 g3 g4 g5
    rw [z,hY] at g5
    rw [C5 (n:=q-1) (by omega) (by omega)]
    refine ⟨d,q-1,rfl,rfl,by rw [g1,bO,o],g2,by rw [g3,af],g4,by omega,by omega,by omega,by omega,by omega⟩
  ·have H:ws.getD (mm+2) 0-c=0:=by omega
   rw [H] at hD ⊢
   have ar:C3 0=0:=by rw [F6];omega
   rw [ar]
   exact ⟨(W++ws.drop (mm+2)).set (mm+2) 0,q,rfl,rfl,by rw [bO,o],dW.set (by decide),af _,T _,by rw [z];omega,by omega,O,q0,q1⟩
  ·rintro q4 a6 ⟨d,r,ay,rfl,g1,g2,g3,g4,g5,g6,g7,g8,g9⟩
   obtain rfl:q4=r:=by simpa using ay
   refine ⟨_,rfl,by omega,by omega,?_⟩
   refine A4o (i:=j) G8 (by omega) ?_
   rw [C1 (by omega) (by omega)]
   have Z:val b64 d=X-q4*Y:=by
    have z1:=G1 b64 d (i:=mm+3) (by omega)
    rw [g3,y,I3,g4,g5] at z1
    simp at z1
    omega
   refine ⟨⟨j,us.take j++d,qs.set j q4,rfl,by omega,by rw [aH,g1,f];omega,by simpa using R,(t.take j).append g2,ae.set ⟨g8,g9⟩,rfl,?_,?_⟩,by simp only [iAt,aG];omega⟩
   ·rw [eR f,Z];exact g7
   ·have ab:=G1 b64 us (i:=j) (by omega)
    rw [hws,hXX] at ab
    rw [hv,Y8 (by omega),H9,f,Z,ab,bF]
    simp only [val]
    grind
 ·have aj:k=0:=by omega
  subst aj
  simp at ap hv
  have a7:0<b:=by
   by_cases u:0<b
   ·exact u
   ·have:=aE (show b<=0 by omega) (aQ hp);omega
  have a3:=C9 (by decide) t
  have hR:val b64 us=(a-val b64 qs*b)*2^s:=by
   rw [hua,hYb] at hv
   grind
  have ah:0<=a-val b64 qs*b:=by
   by_cases u:0<=a-val b64 qs*b
   ·exact u
   ·have:=aE (show a-val b64 qs*b <= -1 by omega) (aQ hp);omega
  have au:a-val b64 qs*b<b:=by
   by_cases u:a-val b64 qs*b<b
   ·exact u
   ·have:=aE (show b<=a-val b64 qs*b by omega) (aQ hp);omega
  have A:a/b=val b64 qs:=by
   have:a=(a-val b64 qs*b)+val b64 qs*b:=by omega
   rw [this,fT _ _ (by omega),bU ah au,dN]
  have V:a%b=a-val b64 qs*b:=by
   have:=Int.emod_def a b
   rw [this,A,aS]
  rw [A,V] at hK
  rw [<- R]
  refine R9 C0a ae (aY _) (by omega) ?_
  intro m1 Q M1
  refine ⟨_,_,_,rfl,?_⟩
  rw [<- D]
  refine R9 su t (aY _) (by omega) ?_
  intro m2 a8 M2
  refine ⟨_,_,_,rfl,?_⟩
  rw [C5 (by omega) (by omega)]
  refine Hq M2 (by have:=M2.len_le (by decide) (j:=mm+2) (by omega);omega) (by omega) ?_
  intro A3 m3 c3 h3 l3 k3 M3
  have an:val b64 us/2^s=a-val b64 qs*b:=by rw [hR,gG _ (by omega)]
  rw [an] at M3
  exact ⟨_,_,_,rfl,hK _ _ _ _ _ _ _ (B0 aa l3) (by omega) k3 (M1.mono l3) M3⟩
end
section
variable {h g:bB} {K:VP} {A B:Option bH} {ac bc:Nat}
set_option maxHeartbeats 1000000 in
def Fl{x y:Int}{an bn:Nat}(ma:Mw h A an x)(mb:Mw h B bn y)(ha:an<=ac)(hbc:bn<=bc)(hy:y≠0)(hl:an<=1000000000)(hl2:bn<=1000000000)
 (hK:∀ A1 m1 c1 A2 m2 c2 h',h.le h'->m1<=c1->m2<=c2->Mw h' A1 m1 (x/y)->Mw h' A2 m2 (x%y)->K (.tuple #[.slice A1 m1 c1,.slice A2 m2 c2]) h'):aZ prog K3 #[.slice A an ac,.slice B bn bc] h K:=by
 have C:=ma.nonneg (by decide)
 have af:=mb.nonneg (by decide)
 have a3:=mb.len_zero (by decide)
 have u:=ma.lt (by decide)
 have a5:=mb.lt (by decide)
 refine Sv _ _ _ _ _ _ ?_
 unfold Po
 refine J8 ma mb (by omega) ⟨_,rfl,B8 (fun z=>?_) (fun z=>D8 (fun h2=>?_) (fun h2=>?_))⟩
 ·have D:x<y:=by
   unfold Xl at z
   by_cases c:x<y
   ·exact c
   ·rw [iN c] at z
    by_cases O:x>y
    ·rw [iP O] at z;omega
    ·rw [iN O] at z;omega
  rw [bU C D,gM C D] at hK
  exact hK none 0 0 _ _ _ _ (B5 h) (aY _) ha Mag.zero ma
 ·obtain ⟨a,rfl,sy,W,ny,rfl⟩:=mb
  have R:a.length=1:=by omega
  obtain ⟨d,rfl⟩:∃ d,a=[d]:=by
   cases a with
   | nil=>simp at R
   | cons d r=>
    cases r with
    | nil=>exact ⟨d,rfl⟩
    | cons _ _=>simp at R
  rw [Z6] at hy af hK
  have hd:=W d (by simp)
  obtain ⟨w,rfl⟩:∃ w:Nat,d=w:=⟨d.toNat,by omega⟩
  refine sy.load rfl (by omega) (by simp) ?_
  show aZ _ _ #[_,U (w:Int)] _ _
  have hw:w<18446744073709551616:=by have:=hd.2;have:(w:Int)<18446744073709551616:=this;omega
  refine Vx ma ⟨by omega,hw⟩ hl ?_
  intro A' m c' h' aj hm a6 hM
  refine ⟨_,_,_,_,rfl,?_⟩
  refine Ch ⟨aU _ (by omega),by have:=aP x (show (0:Int)<w by omega);omega⟩ ?_
  intro A2 m2 c2 h3 F k3 M3
  exact ⟨_,_,_,rfl,hK _ _ _ _ _ _ _ (B0 aj F) hm k3 (hM.mono F) M3⟩
 ·have au:y<=x:=by
   unfold Xl at z
   by_cases c:x<y
   ·rw [iP c] at z;omega
   ·omega
  have a2:bn<=an:=mb.len_le (by decide) (dC au u)
  have al:=mb
  have ak:=ma
  obtain ⟨a,rfl,sy,W,ny,rfl⟩:=mb
  obtain ⟨mm,hmm⟩:∃ mm,a.length=mm+2:=⟨a.length-2,by omega⟩
  have gt:=O7 W (mm+1)
  have ao:=A3a (m:=mm+1) hmm ny
  obtain ⟨M,j⟩:=Ct (B:=b64) (by decide) W (m:=mm+1) hmm
  have e1:B7 ((a.length:Int)-1)=((mm+1:Nat):Int):=by rw [C1 (by omega) (by omega)];omega
  rw [e1]
  refine sy.load rfl (by omega) (by omega) ?_
  rw [aC]
  obtain ⟨t,ht⟩:∃ t:Nat,a.getD (mm+1) 0=t:=⟨(a.getD (mm+1) 0).toNat,by omega⟩
  rw [ht] at gt ao M j ⊢
  have p:t≠0:=by omega
  refine T2 (by omega) ⟨_,rfl,?_⟩
  obtain ⟨az,ax⟩:=Fq p
  have a0:O9 t<=64:=Jj (k:=64) (by omega)
  have ay:1<=O9 t:=by unfold O9;rw [iN p];omega
  obtain ⟨s,hs⟩:∃ s,s=64-O9 t:=⟨_,rfl⟩
  rw [<- hs]
  have E:s<64:=by omega
  have b:0<(2:Int)^s:=bM (by decide)
  have ai:=Az (s:=s) (by omega)
  have q:O9 t=64-s:=by omega
  have aa:(t:Int)+1<=2^(64-s):=by
   rw [<- q]
   have:((t+1:Nat):Int)<=((2^O9 t:Nat):Int):=by omega
   simpa using this
  have am:(2:Int)^(63-s)<=t:=by
   have:((2^(O9 t-1):Nat):Int)<=((t:Nat):Int):=by omega
   rw [show O9 t-1=63-s by omega] at this
   simpa using this
  have J:(2:Int)^s*2^(63-s)=9223372036854775808:=by
   rw [<- bG,show s+(63-s)=63 by omega];decide
  have ad:C3 (s:Int)=(s:Int):=C5 (by omega) (by omega)
  rw [ad]
  have g:=D9 (B:=b64) (by decide) (mm+1)
  have ag:val b64 a*2^s<b64^(mm+2):=by
   have t2:val b64 a*2^s<((t:Int)+1)*b64^(mm+1)*2^s:=bN M b
   have t3:((t:Int)+1)*b64^(mm+1)*2^s=((t:Int)+1)*2^s*b64^(mm+1):=by grind
   have t4:((t:Int)+1)*2^s*b64^(mm+1)<=18446744073709551616*b64^(mm+1):=by
    apply aE _ (aQ g)
    rw [<- ai,aS (2^s)]
    exact aE aa (aQ b)
   have t5:b64^(mm+2)=18446744073709551616*b64^(mm+1):=by rw [bF b64 (mm+1),aS]
   omega
  have a4:9223372036854775808*b64^(mm+1)<=val b64 a*2^s:=by
   have t1:(t:Int)*b64^(mm+1)*2^s<=val b64 a*2^s:=aE j (aQ b)
   have t2:9223372036854775808*b64^(mm+1)<=(t:Int)*2^s*b64^(mm+1):=by
    apply aE _ (aQ g)
    rw [<- J,aS (t:Int)]
    exact aK am (by omega)
   have t3:(t:Int)*2^s*b64^(mm+1)=(t:Int)*b64^(mm+1)*2^s:=by grind
   omega
  refine W7 al hbc hl2 (by omega) ?_
  intro A1 n1 c1 g1 l1 k1 M1
  refine ⟨_,_,_,rfl,?_⟩
  have ap:n1=mm+2:=by
   have q1:=M1.len_le (by decide) ag
   have q2:=M1.lt (by decide)
   by_cases c:n1=mm+2
   ·exact c
   ·have:=D4 (B:=b64) (by decide) (show n1<=mm+1 by omega)
    omega
  subst ap
  obtain ⟨X,T,sv,dv,nv,S⟩:=M1
  have av:b64<=2*X.getD (mm+1) 0:=by
   obtain ⟨q1,q2⟩:=Ct (B:=b64) (by decide) dv (m:=mm+1) T.symm
   rw [S] at q1
   have:9223372036854775808<X.getD (mm+1) 0+1:=by
    by_cases c:9223372036854775808<X.getD (mm+1) 0+1
    ·exact c
    ·have:=aE (show X.getD (mm+1) 0+1<=9223372036854775808 by omega) (aQ g);omega
   show (18446744073709551616:Int)<=_
   omega
  have eN:B7 ((an:Int)+1)=((an+1:Nat):Int):=by rw [C1 (by omega) (by omega)];omega
  rw [eN]
  refine K8 R5 (by omega) (by omega) (by omega) ?_
  intro bu aq
  rw [aC]
  refine ⟨_,_,_,rfl,?_⟩
  have w0:=Win.blk .u64 C4 aq (aD (an+1) 0)
  refine w0.call ?_
  refine W7 (ak.mono l1) ha hl (by omega) ?_
  intro A3 n3 c3 g3 F k3 M3 h4 w4
  refine ⟨_,_,_,rfl,?_⟩
  have ab:x*2^s<b64^(an+1):=by
   have t1:x*2^s<b64^an*2^s:=bN u b
   have t2:b64^an*2^s<=b64^an*18446744073709551616:=by
    apply aK _ (aQ (D9 (by decide) an))
    have:=D4 (B:=2) (by decide) (show s<=64 by omega)
    have e:(2:Int)^64=18446744073709551616:=by decide
    omega
   rw [bF];show _<b64^an*(18446744073709551616:Int);omega
  have a7:=M3.len_le (by decide) ab
  obtain ⟨us,ae,aw,ah,a1,H⟩:=M3
  refine Hk R5 w4 (by simp) (aw.mono w4.le) ae (by simp;omega) ?_
  intro h5 Z
  refine ⟨_,rfl,?_⟩
  rw [bI] at Z
  generalize hu0:us++aD (an+1-us.length) (0:Int)=us0 at Z
  have Q:us0.length=an+1:=by rw [<- hu0];simp;omega
  have o:Dig b64 us0:=by rw [<- hu0];exact ah.append (J1 (by decide) _)
  have l:val b64 us0=x*2^s:=by rw [<- hu0,Ds];exact H
  obtain ⟨nq,hnq⟩:∃ nq,an+1=nq+(mm+2):=⟨an+1-(mm+2),by omega⟩
  have eq:B7 (B7 ((an:Int)-(a.length:Int))+1)=(nq:Int):=by
   rw [C1 (n:=(an:Int)-(a.length:Int)) (by omega) (by omega),C1 (by omega) (by omega)];omega
  rw [eq]
  refine K8 R5 (by omega) (by omega) (by omega) ?_
  intro bq f
  rw [aC]
  refine ⟨_,_,_,rfl,?_⟩
  have ar:h5=blk .u64 C4 g3 bu us0:=by rw [Z.eq];simp [blk]
  subst ar
  have L:g3 bu=none:=Z.free
  have V:bu≠bq:=by
   rintro rfl
   unfold blk at f
   rw [C2] at f;cases f
  have G:g3 bq=none:=by
   have:=f
   unfold blk at this
   rwa [C0 _ _ V.symm] at this
  rw [hmm]
  refine A67 (us0:=us0) (N:=an+1) (xn:=an) L G V (sv.mono F) dv T.symm av E S rfl o Q l rfl hnq (by omega) (by omega) ?_ ?_
  ·have s1:=G1 b64 us0 (i:=nq) (by omega)
   have s2:=C9 (by decide) (o.take nq)
   have s3:val b64 us0<b64^an*2^s:=by
    rw [l];exact bN u b
   have s4:b64^(mm+1)<=val b64 a:=by
    have:=aE (show 1<=(t:Int) by omega) (aQ g);omega
   have s5:b64^nq*(b64^(mm+1)*2^s)<=b64^nq*(val b64 a*2^s):=aK (aE s4 (aQ b)) (aQ (D9 (by decide) nq))
   have s6:b64^nq*(b64^(mm+1)*2^s)=b64^an*2^s:=by
    rw [<- cZ,<- bG,show nq+(mm+1)=an by omega]
   by_cases c:val b64 (us0.drop nq)<val b64 a*2^s
   ·exact c
   ·have:=aK (show val b64 a*2^s<=val b64 (us0.drop nq) by omega) (aQ (D9 (B:=b64) (by decide) nq));omega
  ·intro A5 m5 c5 A6 m6 c6 h6 l6 k5 k6 M5 M6
   exact hK _ _ _ _ _ _ _ (B0 l1 (B0 F l6)) k5 k6 M5 M6
end
def A74{x a b p:Int}(h:a+p*b=x)(h0:0<=a)(h1:a<p):x/p=b/\x%p=a:=(Int.ediv_emod_unique (by omega)).2 ⟨h,h0,h1⟩
def Xt{P:dI}{h:bB}{A:Option bH}{n m c s:Nat}{cs:List dD}(hl:cs.length=n*s)(hc:cs=[]\/∃ a,A=some a/\∀ j v,cs[j]? = some v->h.cell? (a.add j)=some v){K:Array dD->bB->Prop}(x:K cs.toArray h):
 wpH P (Builtin.firstCells s n (.slice A m c)) K h:=by
 cases A with
 | none=>
  rcases hc with rfl|⟨a,e,_⟩
  ·exact x
  ·cases e
 | some a=>
  show wpH P (loadCells a (n*s)) K h
  rcases hc with rfl|⟨b,e,hc⟩
  ·exact W8 (cs:=[]) hl.symm (fun j v e=>by simp at e) x
  ·cases e
   exact W8 hl.symm hc x
def B87{P:dI}{t e ty:bV}{k:dZ}{bytes:Nat}(s:SliceT P t e (.int k 0) 1 bytes){h g:bB}{b:Nat}{A:Option bH}{pre post:List dD}{xs:List Int}{n c m d:Nat}(w:Win k h g b e A pre xs post)(hn:n=xs.length){B:Option bH}{ys:List Int}(sy:SlI k h B ys)(hm:min m xs.length=ys.length){K:VP}
 (x:∀ h',Win k h' g b e A pre (ys++xs.drop ys.length) post->K (I ys.length) h'):wpH P (fJ #[t,t] ty #[.slice A n c,.slice B m d]) K h:=by
 subst hn
 have j:ys.length<=xs.length:=by omega
 obtain ⟨i,q,y,o,r⟩:=s.parts
 unfold fJ
 simp only [dG,aG,aI,C8,F4 s.und,L9 q,H8,gH,o]
 have l:Nat.min m xs.length=ys.length:=hm
 rw [l]
 refine Xt (s:=1) (cs:=ys.map (bC k)) (by simp) sy ?_
 cases A with
 | none=>
  rcases w.at_ with f|f
  ·subst f
   have:ys=[]:=aM (by simpa using j)
   subst this
   exact x h (by simpa using w)
  ·cases f
 | some a=>
  simp only [C8]
  rcases w.at_ with f|f
  ·subst f
   have:ys=[]:=aM (by simpa using j)
   subst this
   exact x h (by simpa using w)
  ·cases f
   rw [w.eq]
   refine J9 (ys.map (bC k)) pre.length 0 (pre++xs.map (bC k)++post) (by simp;omega) (fun v p=>?_) ?_
   ·obtain ⟨u,_,rfl⟩:=List.mem_map.1 p;rfl
   ·refine x _ ⟨w.free,?_,?_⟩
    ·congr 3
     unfold L3
     rw [dV,aR pre,dE rfl,fV]
     rw [gN,aV (show pre.length<=pre.length+ys.length by omega),cK,cQ]
     rw [eI (by simpa using j),<- List.map_drop,dQ]
     simp only [aR]
    ·right;rfl
section
variable {h g:bB} {K:VP} {A B:Option bH} {ac bc:Nat}
def B9q(a n:Nat):(if (a:Int)<(n:Int) then (a:Int) else (n:Int))=((min n a:Nat):Int):=by split<;>omega
def Nh{xs:List Int}(d:Dig b64 xs)(n:Nat):val b64 xs/b64^n=val b64 (xs.drop (min n xs.length))/\val b64 xs%b64^n=val b64 (xs.take (min n xs.length)):=by
 by_cases c:n<=xs.length
 ·rw [aJ c]
  have e:=G1 b64 xs c
  have b:=C9 (by decide) (d.take n)
  have a:=N3 (by decide) (d.take n)
  rw [aF,aJ c] at a
  exact A74 e.symm b a
 ·rw [fK (by omega),fM,aW]
  have b:=C9 (by decide) d
  have a:=N3 (by decide) d
  have f:=D4 (B:=b64) (by decide) (show xs.length<=n by omega)
  exact A74 (by simp [val]) b (by omega)
def As{x:Int}{an n:Nat}(ma:Mw h A an x)(ha:an<=ac)(hK:∀ A' m c',m<=c'->m<=an->Mw h A' m (x/b64^n)->K (.slice A' m c') h):aZ prog W4 #[.slice A an ac,I n] h K:=by
 obtain ⟨b,rfl,c,a,e,rfl⟩:=ma
 refine A2e _ _ _ _ ?_
 unfold Zt
 rw [B9q,aC]
 refine ⟨⟨by omega,by omega⟩,hK _ _ _ (by omega) (by omega) ?_⟩
 rw [(Nh a n).1,<- aN]
 refine Mw.of (A26 c (by omega) ha) (a.drop _) ?_
 by_cases d:min n b.length<b.length
 ·exact Oc e d
 ·rw [aV (by omega)];exact Norm.nil
def Gq{x:Int}{an n:Nat}(ma:Mw h A an x)(ha:an<=ac)(hl:an<=10000000000)(hK:∀ A' m c',m<=c'->m<=n->m<=an->Mw h A' m (x%b64^n)->K (.slice A' m c') h):aZ prog Dj #[.slice A an ac,I n] h K:=by
 obtain ⟨c,rfl,b,a,d,rfl⟩:=ma
 refine A4u _ _ _ _ ?_
 unfold A4v
 rw [B9q,aC,J0,bX,bX]
 refine ⟨⟨by omega,by omega⟩,Ce (Kq b (m:=min n c.length) (by omega) ha) (a.take _) (by rw [aF];omega) (Nh a n).2.symm (by omega) (by omega) ?_⟩
 intro m e M
 exact ⟨_,_,_,rfl,hK _ _ _ (by omega) (by omega) (by omega) M⟩
def Is{x y:Int}{an bn n:Nat}(ma:Mw h A an x)(mb:Mw h B bn y)(hbn:bn<=n)(hl:n+an<=5000000000)(hK:∀ A' m c' h',h.le h'->m<=c'->Mw h' A' m (x*b64^n+y)->K (.slice A' m c') h'):aZ prog Mh #[.slice A an ac,.slice B bn bc,I n] h K:=by
 obtain ⟨a,rfl,r,z,G,rfl⟩:=ma
 obtain ⟨d,rfl,s,p,D,rfl⟩:=mb
 refine B8k _ _ _ _ _ _ _ ?_
 unfold C4n
 have o:B7 ((n:Int)+a.length)=((n+a.length:Nat):Int):=by rw [C1 (by omega) (by omega)];omega
 rw [o]
 refine K8 R5 (by omega) (by omega) (by omega) ?_
 intro b w
 rw [aC]
 refine ⟨_,_,_,rfl,?_⟩
 have j:=Win.blk .u64 C4 w (aD (n+a.length) 0)
 refine Hk R5 j (by simp) (s.mono j.le) rfl (by simp;omega) ?_
 intro F f
 refine ⟨_,rfl,⟨by omega,by omega⟩,?_⟩
 rw [bI] at f
 generalize hz:d++aD (n+a.length-d.length) (0:Int)=zs at f
 have u:zs.length=n+a.length:=by rw [<- hz];simp;omega
 have t:=f.sub (l:=n) (m:=n+a.length) (c:=n+a.length) (by omega) (by omega) (by omega)
 rw [aC]
 refine Hk R5 t (by rw [aF,aN];omega) (r.mono f.le) rfl (by rw [aF,aN];omega) ?_
 intro E k
 rw [aV (by rw [aF,aN];omega),cC] at k
 have g:=f.whole (l:=n) (m:=n+a.length) (by omega) (by omega) (by omega) k
 rw [aV (show zs.length<=n+a.length by omega),cC] at g
 have i:zs.take n=d++aD (n-d.length) 0:=by
  rw [<- hz,dM,aL (by omega),cH]
  congr 2;omega
 rw [i] at g
 refine ⟨_,rfl,Ce g.sl ((p.append (J1 (by decide) _)).append z) (by simp;omega) rfl (by omega) (by omega) ?_⟩
 intro m C M
 refine ⟨_,_,_,rfl,hK _ _ _ _ g.le C ?_⟩
 rw [H9,Ds] at M
 have e:(d++aD (n-d.length) (0:Int)).length=n:=by simp;omega
 rw [e] at M
 have q:val b64 a*b64^n+val b64 d=val b64 d+b64^n*val b64 a:=by rw [aS];omega
 rw [q];exact M
def C2g{x y:Int}(hx:0<=x/\x<18446744073709551616)(hy:0<=y/\y<18446744073709551616)(hK:K (.tuple #[U (x*y/18446744073709551616),U (x*y%18446744073709551616)]) h):aZ prog B40 #[U x,U y] h K:=by
 refine C39 _ _ ?_
 unfold C7z
 exact Od hx hy ⟨_,_,rfl,hK⟩
def A6e{v:Int}{n:Nat}(s:SlI .u64 h A [v])(hn:0<n)(hl:n<=1000000000)(hK:∀ A' h',h.le h'->SlI .u64 h' A' (aD n v)->K (.slice A' n n) h'):aZ prog Vm #[.slice A 1 ac,I n] h K:=by
 refine B11 _ _ _ _ ?_
 unfold B55
 refine B8 (fun e=>by omega) (fun _=>?_)
 rw [C5 (n:=((1:Nat):Int)) (by omega) (by omega),C5 (n:=(n:Int)) (by omega) (by omega)]
 refine C2g (by omega) (by omega) ⟨_,_,rfl,?_⟩
 have t:((1:Nat):Int)*(n:Int)/18446744073709551616=0:=by omega
 have B:((1:Nat):Int)*(n:Int)%18446744073709551616=n:=by omega
 rw [t,B]
 refine B8 (fun e=>by omega) (fun _=>?_)
 refine B8 (fun e=>by omega) (fun _=>?_)
 rw [C1 (n:=(n:Int)) (by omega) (by omega)]
 refine K8 R5 (by omega) (by omega) (by omega) ?_
 intro b F
 rw [aC]
 refine ⟨_,_,_,rfl,?_⟩
 have g:=Win.blk .u64 C4 F (aD n 0)
 refine Hk R5 g (by simp) (s.mono g.le) rfl (by simp;omega) ?_
 intro e p
 refine ⟨_,rfl,?_⟩
 rw [bI] at p
 refine ⟨fun l f=>∃ k:Nat,l=[I k]/\0<k/\k<=n/\Win .u64 f h b C4 (some ⟨b,0,none⟩) [] (aD k v++aD (n-k) 0) [],fun l _=>n-(iAt l 0).toNat,⟨1,rfl,by omega,hn,p⟩,?_⟩
 rintro i f ⟨k,d,y,a,w⟩
 obtain rfl:=sI1 d
 refine B8 (fun u=>?_) (fun u=>?_)
 ·have E:(aD k v++aD (n-k) (0:Int)).length=n:=by simp;omega
  refine ⟨⟨by omega,by omega⟩,⟨by omega,by omega⟩,?_⟩
  simp only [aC,J0,bX]
  have q:=w.sub (l:=k) (m:=n) (c:=n) (by omega) (by omega) (by omega)
  have z:((aD k v++aD (n-k) (0:Int)).drop k).take (n-k)=aD (n-k) 0:=by
   rw [eR (by simp),aL (by simp)]
  rw [z] at q
  have r:SlI .u64 f (some ⟨b,0,none⟩) (aD (min k (n-k)) v):=by
   have:=Kq w.sl (c:=n) (m:=min k (n-k)) (by omega) (by omega)
   rwa [cN (by simp;omega),cH,aJ (by omega)] at this
  refine B87 R5 q (by simp) r (by simp) ?_
  intro G o
  rw [cI] at o ⊢
  have j:=w.whole (l:=k) (m:=n) (by omega) (by omega) (by simp;omega) o
  have D:B7 ((k:Int)+(min k (n-k):Nat))=((k+min k (n-k):Nat):Int):=by rw [C1 (by omega) (by omega)];omega
  refine ⟨_,rfl,?_⟩
  rw [D]
  refine ⟨⟨_,rfl,by omega,by omega,?_⟩,?_⟩
  ·have C:(aD k v++aD (n-k) (0:Int)).take k++(aD (min k (n-k)) v++(aD (n-k) (0:Int)).drop (min k (n-k)))++(aD k v++aD (n-k) (0:Int)).drop n=aD (k+min k (n-k)) v++aD (n-(k+min k (n-k))) 0:=by
    rw [dE (by simp),aV (show (aD k v++aD (n-k) (0:Int)).length<=n by omega),cC,bI,<- aR,dY]
    congr 2;omega
   rw [C] at j
   exact j
  ·simp only [iAt,aG];omega
 ·have a:k=n:=by omega
  subst a
  have:=w.sl
  rw [gK,List.replicate_zero,cC] at this
  exact hK _ _ w.le this
end
def Mw.high{h:bB}{A:Option bH}{an ac k:Nat}{x:Int}(ma:Mw h A an x)(ha:an<=ac)(hk:k<=an):Mw h (I5 A ac k 1) (an-k) (x/b64^k):=by
 obtain ⟨f,rfl,c,b,d,rfl⟩:=ma
 have e:=(Nh b k).1
 rw [aJ hk] at e
 rw [e,<- aN]
 refine Mw.of (A26 c hk ha) (b.drop _) ?_
 by_cases a:k<f.length
 ·exact Oc d a
 ·rw [aV (by omega)];exact Norm.nil
def B73{x P X2 yh top:Int}(hP:0<P)(h1:x<P*P*(X2+1))(h2:P*top<=x)(hlt:X2<yh):top<P*yh:=by
 by_cases a:top<P*yh
 ·exact a
 ·have t1:P*(P*yh)<=P*top:=aK (by omega) (by omega)
  have b:P*P*(X2+1)<=P*P*yh:=aK (by omega) (aT (by omega) (by omega))
  rw [cZ P P yh] at b
  omega
def B74{x P X2 yh top:Int}(hP:0<P)(h1:P*P*X2<=x)(h2:x<P*(top+1))(hge:yh<=X2):P*yh<=top:=by
 by_cases a:P*yh<=top
 ·exact a
 ·have t1:P*(top+1)<=P*(P*yh):=aK (by omega) (by omega)
  have b:P*P*yh<=P*P*X2:=aK (by omega) (aT (by omega) (by omega))
  rw [cZ P P yh] at b
  omega
def C0v(N:Nat):Prop:=∀ {h:bB} {K:VP} {A B:Option bH} {ac bc an bn:Nat} {x y:Int},bn<=N->Mw h A an x->Mw h B bn y->an<=ac->bn<=bc->an<=1000000000->bn<=200000000->0<bn->9223372036854775808*b64^(bn-1)<=y->x<b64^bn*y->
 (∀ A1 m1 c1 A2 m2 c2 h',h.le h'->m1<=c1->m2<=c2->Mw h' A1 m1 (x/y)->Mw h' A2 m2 (x%y)->K (.tuple #[.slice A1 m1 c1,.slice A2 m2 c2]) h')->aZ prog Y4 #[.slice A an ac,.slice B bn bc] h K
section
variable {h g:bB} {K:VP} {A B:Option bH} {ac bc:Nat}
def Dz{x y:Int}:Xl x y<0↔x<y:=by
 unfold Xl
 by_cases a:x<y
 ·rw [iP a];simp [a]
 ·rw [iN a]
  by_cases b:x>y
  ·rw [iP b];simp [a]
  ·rw [iN b];simp [a]
set_option maxHeartbeats 1000000 in
def A62{x y q0 R0 pr:Int}{m bn nq cq np cp nr cr:Nat}{Aq Ap Ar:Option bH}(hx0:0<=x)(mb:Mw h B bn y)(hb:bn<=bc)(hl2:bn<=200000000)(hbm:bn=2*m)(mq:Mw h Aq nq q0)(hq:nq<=cq)(mp:Mw h Ap np pr)(hp2:pr<b64^bn)
 (mr:Mw h Ar nr R0) (hr:nr<=cr) (hq0:q0<b64^m) (hR:R0-pr=x-q0*y) (hy:x-q0*y<y)
 (hK:∀ A1 m1 c1 A2 m2 c2 h',h.le h'->m1<=c1->m2<=c2->Mw h' A1 m1 (x/y)->Mw h' A2 m2 (x%y)->K (.tuple #[.slice A1 m1 c1,.slice A2 m2 c2]) h'):
 Bq prog B bn bc K Aq nq cq Ap np cp Ar nr cr h:=by
 have G:=mb.lt (by decide)
 have F:=mb.nonneg (by decide)
 have H:=mp.nonneg (by decide)
 unfold Bq
 refine ⟨fun l c=>∃ (Aq Ar:Option bH) (nq cq nr cr:Nat) (q R:Int),l=[.slice Aq nq cq,.slice Ar nr cr]/\h.le c/\Mw c Aq nq q/\nq<=cq/\Mw c Ar nr R/\nr<=cr/\q<b64^m/\R-pr=x-q*y/\x-q*y<y,fun l c=>match l with|[.slice A n _,_]=>B35 b64 c A n|_=>0,⟨_,_,_,_,_,_,_,_,rfl,B5 h,mq,hq,mr,hr,hq0,hR,hy⟩,?_⟩
 rintro A1 D c1 A2 J c2 c ⟨Aq,Ar,nq,cq,nr,cr,q,R,r,e,mq,hq,mr,hr,hq0,hR,hy⟩
 simp only [bD,bW,and_true] at r
 obtain ⟨⟨rfl,rfl,rfl⟩,rfl,rfl,rfl⟩:=r
 have C:J<=bn+1:=mr.len_le (by decide) (by
  rw [bF]
  show R<b64^bn*18446744073709551616
  omega)
 have E:D<=m:=mq.len_le (by decide) hq0
 refine J8 mr (mp.mono e) (by omega) ⟨_,rfl,?_⟩
 refine B8 (fun g=>?_) (fun g=>?_)
 ·rw [Dz] at g
  have t:=mq.nonneg (by decide)
  have o:1<=q:=by
   by_cases L:1<=q
   ·exact L
   ·obtain rfl:q=0:=by omega
    omega
  refine T8 mr (mb.mono e) hr hb (by omega) (by omega) ?_
  intro A3 w c3 f d k M3
  refine ⟨_,_,_,rfl,Bn R5 rfl ?_⟩
  intro b i
  refine ⟨_,_,_,rfl,?_⟩
  have j:=Heap.le_put (.cells #[U 1] C4) i
  have M1:Mw (f.put b (.cells #[U 1] C4)) (some ⟨b,0,none⟩) 1 1:=⟨[1],rfl,SlI.new f b [1] C4 _,Dig.one (by decide),by simp [gD],Z6 _ _⟩
  refine I7 ((mq.mono d).mono j) M1 hq (by omega) o ?_
  intro A5 N c5 O s z M5
  refine ⟨_,_,_,rfl,⟨_,_,_,_,_,_,_,_,rfl,B0 e (B0 d (B0 j s)),M5,z,(M3.mono j).mono s,k,by omega,?_,?_⟩,?_⟩
  ·rw [Int.sub_mul];omega
  ·rw [Int.sub_mul];omega
  ·simp only [Bm M5,Bm mq];omega
 ·rw [Dz] at g
  refine I7 mr (mp.mono e) hr (by omega) (by omega) ?_
  intro A3 w c3 f d k M3
  obtain ⟨M,u⟩:=A74 (x:=x) (a:=R-pr) (b:=q) (p:=y) (by rw [hR,aS y];omega) (by omega) (by omega)
  refine ⟨_,_,_,rfl,hK _ _ _ _ _ _ _ (B0 e d) hq k ?_ ?_⟩
  ·rw [M];exact mq.mono d
  ·rw [u];exact M3
set_option maxHeartbeats 1000000 in
def Uc{N:Nat}(ih:C0v N){x y:Int}{an bn m:Nat}(hm:0<m)(hN:m<=N)(hbm:bn=2*m)(ma:Mw h A an x)(mb:Mw h B bn y)(ha:an<=ac)(hb:bn<=bc)(hl:an<=1000000000)(hl2:bn<=200000000)(htop:9223372036854775808*b64^(bn-1)<=y)(hxy:x<b64^m*y)
 (hK:∀ A1 m1 c1 A2 m2 c2 h',h.le h'->m1<=c1->m2<=c2->Mw h' A1 m1 (x/y)->Mw h' A2 m2 (x%y)->K (.tuple #[.slice A1 m1 c1,.slice A2 m2 c2]) h'):aZ prog Y3 #[.slice A an ac,.slice B bn bc] h K:=by
 have W:=ma.nonneg (by decide)
 have aw:=mb.nonneg (by decide)
 have ar:=mb.lt (by decide)
 have i:=D9 (B:=b64) (by decide) m
 have X:b64^bn=b64^m*b64^m:=by rw [<- bG];congr 1;omega
 have F:b64^(2*m)=b64^m*b64^m:=by rw [<- bG];congr 1;omega
 have ai:b64^(bn-1)=b64^m*b64^(m-1):=by rw [<- bG];congr 1;omega
 have a:=mb.high (k:=m) hb (by omega)
 rw [show bn-m=m by omega] at a
 have d:=a.nonneg (by decide)
 have ao:=a.lt (by decide)
 have dy:b64^m*(y/b64^m)+y%b64^m=y:=aO _ _
 have ab:=aU y (b:=b64^m) (by omega)
 have a3:=aP y i
 have dx:b64^m*(x/b64^m)+x%b64^m=x:=aO _ _
 have a5:=aU x (b:=b64^m) (by omega)
 have ay:=aP x i
 have a4:=D9 (B:=b64) (by decide) (m-1)
 have ae:9223372036854775808*b64^(m-1)<=y/b64^m:=by
  by_cases hc:9223372036854775808*b64^(m-1)<=y/b64^m
  ·exact hc
  ·have t1:b64^m*(y/b64^m+1)<=b64^m*(9223372036854775808*b64^(m-1)):=aK (by omega) (by omega)
   have Q:b64^m*(9223372036854775808*b64^(m-1))=9223372036854775808*(b64^m*b64^(m-1)):=by grind
   rw [ai] at htop
   rw [dB] at t1
   omega
 obtain ⟨ys,aa,sy,f,V,rfl⟩:=mb
 have mb:Mw h B bn (val b64 ys):=⟨ys,aa,sy,f,V,rfl⟩
 generalize hyv:val b64 ys=y at *
 refine Su _ _ _ _ _ _ ?_
 unfold Pn
 have eh:B7 (cT ((bn:Nat):Int) 2)=(m:Int):=by rw [bJ (by omega),C1 (by omega) (by omega)];omega
 have ah:B7 (2*(m:Int))=((2*m:Nat):Int):=by rw [C1 (by omega) (by omega)];omega
 simp only [eh,ah,aC,bX,J0]
 rw [show bn-m=m by omega]
 refine ⟨⟨by omega,by omega⟩,⟨by omega,by omega⟩,Ce (Kq sy (m:=m) (c:=bc) (by omega) (by omega)) (f.take m) (by rw [aF];omega) rfl (by omega) (by omega) ?_⟩
 intro yn ax Myl
 have w:=(Nh f m).2
 rw [aJ (by omega),hyv] at w
 rw [<- w] at Myl
 refine ⟨_,_,_,rfl,B5 h,As ma ha ?_⟩
 intro A1 n1 c1 k1 au M1
 refine ⟨_,_,_,rfl,?_⟩
 have C:=M1.nonneg (by decide)
 refine ⟨fun l M=>∃ (Aq Ar:Option bH) (J cq L cr:Nat) (q r:Int),l=[.slice Aq J cq,.slice Ar L cr]/\h.le M/\Mw M Aq J q/\J<=cq/\Mw M Ar L r/\L<=cr/\q<b64^m/\x/b64^m=q*(y/b64^m)+r/\x-q*y<y,?_,?_⟩
 ·refine As ma ha ?_
  intro A2 n2 c2 k2 aq M2
  refine ⟨_,_,_,rfl,J8 M2 a (by omega) ⟨_,rfl,?_⟩⟩
  have ag:b64^(2*m)*(x/b64^(2*m))+x%b64^(2*m)=x:=aO _ _
  have ad:=aU x (b:=b64^(2*m)) (by have:=D9 (B:=b64) (by decide) (2*m);omega)
  have T:=aP x (D9 (B:=b64) (by decide) (2*m))
  generalize x/b64^(2*m)=X2 at *
  rw [F] at ag ad T
  refine B8 (fun O=>?_) (fun O=>?_)
  ·rw [Dz] at O
   have R:=B73 (x:=x) (top:=x/b64^m) i (by rw [dB];omega) (by omega) O
   refine ih hN M1 a k1 (by omega) (by omega) (by omega) hm ae R ?_
   intro A3 n3 c3 A4 n4 c4 h3 n k3 k4 M3 M4
   have G:0<y/b64^m:=by omega
   have d1:=aO (x/b64^m) (y/b64^m)
   have d2:=aP (x/b64^m) G
   have d0:=M3.nonneg (by decide)
   refine ⟨_,_,_,_,_,_,rfl,_,_,_,_,_,_,_,_,rfl,n,M3,k3,M4,k4,bK G R,by rw [aS];omega,?_⟩
   generalize (x/b64^m)/(y/b64^m)=q at *
   generalize (x/b64^m)%(y/b64^m)=r at *
   generalize x/b64^m=top at *
   generalize y/b64^m=yh at *
   generalize y%b64^m=yl at *
   generalize x%b64^m=xl at *
   generalize b64^m=P at *
   have t1:P*(r+1)<=P*yh:=aK (by omega) (by omega)
   have Q:x-q*y=P*r+xl-q*yl:=by rw [<- dx,<- dy,<- d1];grind
   have t3:=aT d0 ab
   rw [dB] at t1
   omega
  ·rw [Dz] at O
   have R:=B74 (x:=x) (top:=x/b64^m) (yh:=y/b64^m) (X2:=X2) i (by omega) (by rw [dB];omega) (by omega)
   refine Bn R5 rfl ?_
   intro b af
   refine ⟨_,_,_,rfl,?_⟩
   have l4:=Heap.le_put (.cells #[U 18446744073709551615] C4) af
   refine A6e (v:=18446744073709551615) (SlI.new h b [18446744073709551615] C4 _) hm (by omega) ?_
   intro A5 h5 E s5
   refine ⟨_,_,_,rfl,?_⟩
   have o:=B0 l4 E
   refine Is (a.mono o) (Mag.zero (k:=.u64) (B:=b64)) (by omega) (by omega) ?_
   intro A6 n6 c6 h6 l6 k6 M6
   refine ⟨_,_,_,rfl,?_⟩
   have g:=B0 o l6
   refine I7 (M1.mono g) M6 k1 (by omega) (by rw [aS];omega) ?_
   intro A7 n7 c7 h7 t k7 M7
   have a2:n7<=an:=M7.len_le (by decide) (by
    have:=ma.lt (by decide)
    have t1:=aT d (aQ i)
    have Q:1*(x/b64^m)<=b64^m*(x/b64^m):=aE (by omega) C
    omega)
   refine ⟨_,_,_,rfl,?_⟩
   refine T8 M7 ((a.mono g).mono t) k7 (by omega) (by omega) (by omega) ?_
   intro A8 n8 c8 h8 l8 k8 M8
   have D:∀ j:Nat,val b64 (aD j 18446744073709551615)=b64^j-1:=by
    intro j
    induction j with
    | zero=>rfl
    | succ j ihj=>
     rw [List.replicate_succ,val,ihj,bF]
     show (18446744073709551615:Int)+18446744073709551616*(b64^j-1)=b64^j*18446744073709551616-1
     omega
   have M5:Mw h5 A5 m (b64^m-1):=by
    refine ⟨aD m 18446744073709551615,by simp,s5,?_,?_,D m⟩
    ·intro z hz
     have:=List.eq_of_mem_replicate hz
     subst this;decide
    ·obtain ⟨j,rfl⟩:∃ j,m=j+1:=⟨m-1,by omega⟩
     unfold gD
     rw [eG]
     simp
   refine ⟨_,_,_,rfl,_,_,_,_,_,_,_,_,rfl,B0 g (B0 t l8),((M5.mono l6).mono t).mono l8,aY _,M8,k8,by omega,?_,?_⟩
   ·grind
   ·have:(b64^m-1)*y=b64^m*y-y:=by grind
    omega
 ·rintro Aq' S a0 Ar' ak az M ⟨Aq,Ar,J,cq,L,cr,q,r,s,lh,H,hq,mr,hr,e,Z,al⟩
  simp only [bD,bW,and_true] at s
  obtain ⟨⟨rfl,rfl,rfl⟩,rfl,rfl,rfl⟩:=s
  have p:=H.nonneg (by decide)
  have ap:=mr.nonneg (by decide)
  have av:S<=m:=H.len_le (by decide) e
  have a1:ak<=an:=mr.len_le (by decide) (by
   have:=ma.lt (by decide)
   have t1:=aT p d
   have Q:1*(x/b64^m)<=b64^m*(x/b64^m):=aE (by omega) C
   omega)
  refine I8 H (Myl.mono lh) hq (by omega) (by omega) (by omega) ?_
  intro A3 n3 c3 h3 n k3 M3
  refine ⟨_,_,_,rfl,Gq (ma.mono (B0 lh n)) ha (by omega) ?_⟩
  intro A4 n4 c4 k4 aj am M4
  refine ⟨_,_,_,rfl,Is (mr.mono n) M4 aj (by omega) ?_⟩
  intro A5 n5 c5 h5 E k5 M5
  have u:=B0 lh (B0 n E)
  refine ⟨_,_,_,rfl,A62 (q0:=q) (m:=m) W (mb.mono u) hb hl2 hbm ((H.mono n).mono E) hq (M3.mono E) ?_ M5 k5 e ?_ al ?_⟩
  ·rw [X]
   have t1:q*(y%b64^m)<=q*b64^m:=aK (by omega) p
   have Q:q*b64^m<b64^m*b64^m:=bN e i
   omega
  ·generalize x/b64^m=top at *
   generalize y/b64^m=yh at *
   generalize y%b64^m=yl at *
   generalize x%b64^m=xl at *
   generalize b64^m=P at *
   rw [<- dx,<- dy,Z];grind
  ·intro A6 n6 c6 A7 n7 c7 h7 t k6 k7 M6 M7
   exact hK _ _ _ _ _ _ _ (B0 u t) k6 k7 M6 M7
end
set_option maxHeartbeats 1000000 in
def C43:∀ N,C0v N:=by
 intro N
 induction N with
 | zero=>intro h K A B H F O d x y V _ _ _ _ _ _ q;omega
 | succ N ih=>
  intro h K A B H F O d x y hN k g n E W j ad f i T
  have ab:=k.nonneg (by decide)
  have af:=g.nonneg (by decide)
  have e:0<y:=by
   have:=D9 (B:=b64) (by decide) (d-1);omega
  refine Sw _ _ _ _ _ _ ?_
  unfold Pp
  have c:aZ prog K3 #[.slice A O H,.slice B d F] h (fun r hp=>∃ (t22aA:Option bH) (t22an:Nat) (t22ac:Nat) (t22bA:Option bH) (t22bn:Nat) (t22bc:Nat),r= .tuple #[.slice t22aA t22an t22ac,.slice t22bA t22bn t22bc]/\K (.tuple #[.slice t22aA t22an t22ac,.slice t22bA t22bn t22bc]) hp):=by
   refine Fl k g n E (by omega) W (by omega) ?_
   intro A1 m1 c1 A2 m2 c2 h' l t J M1 M2
   exact ⟨_,_,_,_,_,_,rfl,T _ _ _ _ _ _ _ l t J M1 M2⟩
  refine B8 (fun V=>c) (fun V=>?_)
  refine F8 (fun q=>c) (fun q=>?_)
  rw [bY (by omega)] at q
  obtain ⟨m,hbm⟩:∃ m,d=2*m:=⟨d/2,by omega⟩
  have eh:B7 (cT ((d:Nat):Int) 2)=(m:Int):=by rw [bJ (by omega),C1 (by omega) (by omega)];omega
  simp only [eh]
  have M:=D9 (B:=b64) (by decide) m
  have o:b64^d=b64^m*b64^m:=by rw [<- bG];congr 1;omega
  have dx:b64^m*(x/b64^m)+x%b64^m=x:=aO _ _
  have aj:=aU x (b:=b64^m) (by omega)
  have ah:=aP x M
  rw [o] at i
  refine As k n ?_
  intro A1 n1 c1 t ae M1
  refine ⟨_,_,_,rfl,?_⟩
  have G:x/b64^m<b64^m*y:=by
   by_cases hc:x/b64^m<b64^m*y
   ·exact hc
   ·have t1:b64^m*(b64^m*y)<=b64^m*(x/b64^m):=aK (by omega) (by omega)
    rw [cZ] at i
    omega
  refine Uc ih (by omega) (by omega) hbm M1 g t E (by omega) j f G ?_
  intro A2 n2 c2 A3 n3 c3 h3 s J k3 M2 M3
  refine ⟨_,_,_,_,_,_,rfl,Gq (k.mono s) n (by omega) ?_⟩
  intro A4 n4 c4 k4 z L M4
  have d1:=aO (x/b64^m) y
  have d2:=aP (x/b64^m) e
  have d3:=aU (x/b64^m) (b:=y) (by omega)
  have w:x/b64^m/y<b64^m:=bK e G
  have ai:n3<=d:=M3.len_le (by decide) (by have:=g.lt (by decide);omega)
  have ag:n2<=m:=M2.len_le (by decide) w
  refine ⟨_,_,_,rfl,Is M3 M4 z (by omega) ?_⟩
  intro A5 n5 c5 h5 D k5 M5
  refine ⟨_,_,_,rfl,?_⟩
  have Q:(x/b64^m)%y*b64^m+x%b64^m<b64^m*y:=by
   have t1:b64^m*((x/b64^m)%y+1)<=b64^m*y:=aK (by omega) (by omega)
   rw [dB,aS] at t1
   omega
  have aa:n5<=d+m:=M5.len_le (by decide) (by
   have t1:b64^m*y<b64^m*b64^d:=cV (g.lt (by decide)) M
   rw [Nat.add_comm,bG];omega)
  refine Uc ih (by omega) (by omega) hbm M5 (g.mono (B0 s D)) k5 E (by omega) j f Q ?_
  intro A6 n6 c6 A7 n7 c7 h7 R k6 k7 M6 M7
  have u:n6<=m:=M6.len_le (by decide) (bK e Q)
  refine ⟨_,_,_,_,_,_,rfl,Is ((M2.mono D).mono R) M6 u (by omega) ?_⟩
  intro A8 n8 c8 h8 S k8 M8
  refine ⟨_,_,_,rfl,?_⟩
  have e1:=aO ((x/b64^m)%y*b64^m+x%b64^m) y
  have e2:=aP ((x/b64^m)%y*b64^m+x%b64^m) e
  have Z:=aU ((x/b64^m)%y*b64^m+x%b64^m) (b:=y) (by omega)
  have M7':=M7.mono S
  have C:=B0 s (B0 D (B0 R S))
  generalize ((x/b64^m)%y*b64^m+x%b64^m)/y=q2 at *
  obtain ⟨f1,X⟩:=A74 (x:=x) (a:=((x/b64^m)%y*b64^m+x%b64^m)%y) (b:=x/b64^m/y*b64^m+q2) (p:=y) (by
   generalize ((x/b64^m)%y*b64^m+x%b64^m)%y=r2 at *
   generalize x/b64^m/y=q1 at *
   generalize x/b64^m%y=r1 at *
   generalize x/b64^m=top at *
   generalize x%b64^m=xl at *
   generalize b64^m=P at *
   grind) Z e2
  refine T _ _ _ _ _ _ _ C k8 k7 ?_ ?_
  ·rw [f1];exact M8
  ·rw [X];exact M7'
def Za{ys:List Int}{k t s:Nat}(dy:Dig b64 ys)(hk:ys.length=k+1)(ht:ys.getD k 0=(t:Int))(ht0:t≠0)(hs:s=64-O9 t):s<64/\val b64 ys*2^s<b64^(k+1)/\9223372036854775808*b64^k<=val b64 ys*2^s:=by
 have r:=O7 dy k
 obtain ⟨e,a⟩:=Ct (B:=b64) (by decide) dy (m:=k) hk
 rw [ht] at r e a
 obtain ⟨o,n⟩:=Fq ht0
 have q:O9 t<=64:=Jj (k:=64) (by omega)
 have p:1<=O9 t:=by unfold O9;rw [iN ht0];omega
 have f:s<64:=by omega
 have b:0<(2:Int)^s:=bM (by decide)
 have j:=Az (s:=s) (by omega)
 have c:O9 t=64-s:=by omega
 have i:(t:Int)+1<=2^(64-s):=by
  rw [<- c]
  have:((t+1:Nat):Int)<=((2^O9 t:Nat):Int):=by omega
  simpa using this
 have l:(2:Int)^(63-s)<=t:=by
  have:((2^(O9 t-1):Nat):Int)<=((t:Nat):Int):=by omega
  rw [show O9 t-1=63-s by omega] at this
  simpa using this
 have d:(2:Int)^s*2^(63-s)=9223372036854775808:=by
  rw [<- bG,show s+(63-s)=63 by omega];decide
 have g:=D9 (B:=b64) (by decide) k
 refine ⟨f,?_,?_⟩
 ·have w:val b64 ys*2^s<((t:Int)+1)*b64^k*2^s:=bN e b
  have u:((t:Int)+1)*b64^k*2^s=((t:Int)+1)*2^s*b64^k:=by grind
  have z:((t:Int)+1)*2^s*b64^k<=18446744073709551616*b64^k:=by
   apply aE _ (aQ g)
   rw [<- j,aS (2^s)]
   exact aE i (aQ b)
  have y:b64^(k+1)=18446744073709551616*b64^k:=by rw [bF b64 k,aS]
  omega
 ·have t1:(t:Int)*b64^k*2^s<=val b64 ys*2^s:=aE a (aQ b)
  have w:9223372036854775808*b64^k<=(t:Int)*2^s*b64^k:=by
   apply aE _ (aQ g)
   rw [<- d,aS (t:Int)]
   exact aK l (by omega)
  have u:(t:Int)*2^s*b64^k=(t:Int)*b64^k*2^s:=by grind
  omega
section
variable {h g:bB} {K:VP} {A B:Option bH} {ac bc:Nat}
set_option maxHeartbeats 1000000 in
def A78{D V a b:Int}{S sh dn dc vc bn bq:Nat}{pieces t46:Int}{DA VA:Option bH}(hS:B7 ((B7 (cT (B7 ((B7 (((bn:Nat):Int)+pieces))-(1:Int))) pieces))*pieces)=(S:Int))
 (hsh:C3 (B7 ((B7 ((64:Int)*(B7 ((S:Int)-((bn:Nat):Int)))))+t46))=(sh:Int)) (hS0:0<S) (hS2:S<=200000000) (hsh2:sh<=100000000000) (hb:h bq=none) (hD:Mw h DA dn D) (hdc:dn<=dc) (hdn:0<dn) (hdl:dn<=2000000000) (hV:Mw h VA S V) (hvc:S<=vc) (hVt:9223372036854775808*b64^(S-1)<=V)
 (hDa:D=a*2^sh) (hVb:V=b*2^sh)
 (hK:∀ A1 m1 c1 A2 m2 c2 h',h.le h'->m1<=c1->m2<=c2->Mw h' A1 m1 (a/b)->Mw h' A2 m2 (a%b)->K (.tuple #[.slice A1 m1 c1,.slice A2 m2 c2]) h'):
 Bu prog bn K pieces t46 VA S vc DA dn dc (some ⟨bq,0,none⟩) (dn+S) (dn+S) (blk .u64 C4 h bq (aD (dn+S) 0)):=by
 have J:=hD.nonneg (by decide)
 have ai:=hD.lt (by decide)
 have z:=hV.lt (by decide)
 have o:0<V:=by have:=D9 (B:=b64) (by decide) (S-1);omega
 have T:0<(2:Int)^sh:=bM (by decide)
 have hQ:=D9 (B:=b64) (by decide) S
 unfold Bu
 simp only [hS,hsh]
 obtain ⟨nb,hnb⟩:∃ nb,nb=(dn-1)/S:=⟨_,rfl⟩
 have aj:nb*S<=dn-1:=by rw [hnb];exact Nat.div_mul_le_self _ _
 have ah:dn-1<nb*S+S:=by
  have M:=eQ (dn-1) S
  have h2:=fP (dn-1) hS0
  rw [<- hnb,fA] at M
  omega
 have e1:B7 (B7 (cT (B7 ((dn:Int)-1)) (S:Int))*(S:Int))=((nb+1:Nat):Int)*S-S:=by
  rw [C1 (n:=(dn:Int)-1) (by omega) (by omega),show (dn:Int)-1=((dn-1:Nat):Int) by omega,<- cP,<- hnb]
  have:nb<=dn-1:=by rw [hnb];exact eP _ _
  have R:(nb:Int)*(S:Int)=((nb*S:Nat):Int):=by simp
  rw [C1 (n:=(nb:Int)) (by omega) (by omega),R,C1 (by omega) (by omega),eS,Int.add_mul,R]
  omega
 refine ⟨fun l T=>∃ (j n c:Nat) (A:Option bH) (d:List Int) (r:Int) (g:bB),l=[.slice A n c,I ((j:Int)*S-S)]/\h.le g/\j*S+d.length=dn+S/\Dig b64 d/\Win .u64 T g bq C4 (some ⟨bq,0,none⟩) [] (aD (j*S) 0++d) []/\Mw g A n r/\n<=c/\r=(D/b64^(j*S))%V/\val b64 d=(D/b64^(j*S))/V,fun l _=>(iAt l 1+S).toNat,⟨nb+1,0,0,none,aD (dn-1+1-nb*S) 0,0,h,by rw [e1],B5 h,?_,J1 (by decide) _,?_,Mag.zero,aY _,?_,?_⟩,?_⟩
 ·rw [cI,fH,fG];omega
 ·rw [dY,show (nb+1)*S+(dn-1+1-nb*S)=dn+S by rw [fH,fG];omega]
  exact Win.blk .u64 C4 hb _
 ·have:=D4 (B:=b64) (by decide) (show dn<=(nb+1)*S by rw [fH,fG];omega)
  rw [bU J (by omega),gZ]
 ·have:=D4 (B:=b64) (by decide) (show dn<=(nb+1)*S by rw [fH,fG];omega)
  rw [bU J (by omega),Int.zero_ediv,De]
 rintro A1 n1 c1 st au ⟨j,n,c,A',d,r,g,E,lg,s,y,w,Mr,ay,t,f⟩
 simp only [bD,bW,bZ,and_true,true_and] at E
 obtain ⟨⟨rfl,rfl,rfl⟩,rfl⟩:=E
 refine B8 (fun M=>?_) (fun M=>?_)
 ·obtain ⟨i,rfl⟩:∃ i,j=i+1:=⟨j-1,by
   rcases j with _|j
   ·simp at M;omega
   ·rfl⟩
  obtain ⟨e,he⟩:∃ e,e=i*S:=⟨_,rfl⟩
  have C:(i+1)*S=e+S:=by rw [he,fH,fG]
  have ad:((i+1:Nat):Int)*(S:Int)-(S:Int)=(e:Int):=by rw [<- cD,C];omega
  rw [C] at s w t f
  rw [ad]
  have az:=D9 (B:=b64) (by decide) e
  refine w.call (As (hD.mono lg) hdc ?_)
  intro A2 n2 c2 k2 an M2 h2 w2
  refine ⟨_,_,_,rfl,w2.call (Gq M2 k2 (by omega) ?_)⟩
  intro A3 n3 c3 k3 ac ak M3 R w3
  have am:=Mr.nonneg (by decide)
  have al:r<V:=by rw [t];exact aP _ o
  have a0:n1<=S:=Mr.len_le (by decide) (by omega)
  refine ⟨_,_,_,rfl,w3.call (Is Mr M3 ac (by omega) ?_)⟩
  intro A4 n4 c4 g4 l4 k4 M4 h4 w4
  have ae:D/b64^(e+S)=D/b64^e/b64^S:=by rw [bG,fO (by omega)]
  rw [ae] at t f
  have dm:=aO (D/b64^e) (b64^S)
  have ap:=aU (D/b64^e) (b:=b64^S) (by omega)
  have av:=aP (D/b64^e) hQ
  generalize hD1:D/b64^e=D1 at *
  have q:r*b64^S+D1%b64^S<b64^S*V:=by
   have t1:b64^S*(r+1)<=b64^S*V:=aK (by omega) (by omega)
   rw [dB,aS] at t1
   omega
  have ar:n4<=S+S:=M4.len_le (by decide) (by
   have t1:b64^S*V<b64^S*b64^S:=cV z hQ
   rw [bG];omega)
  have F:=B0 lg l4
  refine ⟨_,_,_,rfl,w4.call (C43 S (aY _) M4 (hV.mono F) k4 hvc (by omega) hS2 hS0 hVt q ?_)⟩
  intro A5 n5 c5 A6 n6 c6 g6 l6 k5 k6 M5 M6 h6 O
  have aq:n5<=S:=M5.len_le (by decide) (bK o q)
  refine ⟨_,_,_,_,_,_,rfl,⟨by omega,by omega⟩,?_⟩
  rw [aC]
  have X:aD (e+S) (0:Int)++d=aD e 0++(aD S 0++d):=by rw [<- aR,dY]
  rw [X] at O
  have aw:(aD e (0:Int)++(aD S 0++d)).length=dn+S:=by simp only [aH,cI];omega
  have w7:=O.sub (l:=e) (m:=dn+S) (c:=dn+S) (by omega) (by omega) (by omega)
  have e7:((aD e (0:Int)++(aD S 0++d)).drop e).take (dn+S-e)=aD S 0++d:=by
   rw [eR (by simp),aL (by simp only [aH,cI];omega)]
  rw [e7] at w7
  obtain ⟨u,H,ag,ab,ao,G⟩:=M5
  refine Hk R5 w7 (by simp only [aH,cI];omega) (ag.mono O.le) H (by simp only [aH,cI];omega) ?_
  intro h8 w8
  rw [eI (by simp;omega),bI,<- aR u] at w8
  have k:(u++aD (S-u.length) (0:Int)).length=S:=by simp;omega
  have w9:=O.whole (l:=e) (m:=dn+S) (by omega) (by omega) (by rw [aH,k];omega) w8
  rw [dE (by simp),aV (show (aD e (0:Int)++(aD S 0++d)).length<=dn+S by omega),cC] at w9
  have e8:B7 ((e:Int)-(S:Int))=((i:Nat):Int)*S-S:=by
   rw [C1 (by omega) (by omega),he,cD]
  have ax:=aO (r*b64^S+D1%b64^S) V
  have N:=aU (r*b64^S+D1%b64^S) (b:=V) (by omega)
  have L:=aP (r*b64^S+D1%b64^S) o
  have af:=aO (D1/b64^S) V
  rw [<- t,<- f] at af
  obtain ⟨f1,Z⟩:=A74 (x:=D1) (a:=(r*b64^S+D1%b64^S)%V) (b:=val b64 u+b64^S*val b64 d) (p:=V) (by
   rw [G]
   generalize (r*b64^S+D1%b64^S)%V=r2 at *
   generalize hq2:(r*b64^S+D1%b64^S)/V=q2 at *
   generalize D1%b64^S=bl at *
   generalize D1/b64^S=D2 at *
   generalize b64^S=Q at *
   generalize val b64 d=W at *
   grind) N L
  refine ⟨_,rfl,?_⟩
  rw [e8]
  refine ⟨⟨i,_,_,_,(u++aD (S-u.length) 0)++d,_,g6,rfl,B0 F l6,?_,?_,?_,M6,k6,?_,?_⟩,?_⟩
  ·rw [aH,k];omega
  ·exact (ab.append (J1 (by decide) _)).append y
  ·rw [<- he];exact w9
  ·rw [<- he,hD1,Z]
  ·rw [<- he,hD1,f1,H9,k,Ds]
  ·simp only [iAt,aI,aG]
   rw [<- cD,<- he]
   omega
 ·obtain rfl:j=0:=by
   rcases j with _|j
   ·rfl
   ·rw [<- cD,fH,fG] at M
    omega
  rw [iA,List.replicate_zero,cQ] at w
  rw [iA,iH,Int.ediv_one] at t f
  rw [iA,eX] at s
  have aa:0<b:=by
   by_cases hc:0<b
   ·exact hc
   ·have:=aE (show b<=0 by omega) (aQ T);omega
  obtain ⟨f1,Z⟩:=A74 (x:=D) (a:=(a%b)*2^sh) (b:=a/b) (p:=V) (by
   have:=aO a b
   rw [hDa,hVb]
   conv=>rhs;rw [<- this]
   grind) (aT (aU _ (by omega)) (by omega)) (by rw [hVb];exact bN (aP _ aa) T)
  refine Ce w.sl y s.symm f (by omega) (by omega) ?_
  intro m2 k2 M2
  refine ⟨_,_,_,rfl,?_⟩
  refine Hq (Mr.mono w.le) (by have:=Mr.len_le (j:=S) (by decide) (by have:=aP D o;omega);omega) (by omega) ?_
  intro A3 n3 c3 R l3 k3 M3
  rw [t,Z,gG _ (by omega)] at M3
  rw [f1] at M2
  exact ⟨_,_,_,rfl,hK _ _ _ _ _ _ _ (B0 lg (B0 w.le l3)) k2 k3 (M2.mono l3) M3⟩
set_option maxHeartbeats 1000000 in
def Ra{x y:Int}{an bn:Nat}(ma:Mw h A an x)(mb:Mw h B bn y)(ha:an<=ac)(hbc:bn<=bc)(hl:an<=800000000)(hl2:bn<=100000000)(ha0:0<an)(hb0:0<bn)
 (hK:∀ A1 m1 c1 A2 m2 c2 h',h.le h'->m1<=c1->m2<=c2->Mw h' A1 m1 (x/y)->Mw h' A2 m2 (x%y)->K (.tuple #[.slice A1 m1 c1,.slice A2 m2 c2]) h'):aZ prog Dk #[.slice A an ac,.slice B bn bc] h K:=by
 have aa:=ma.nonneg (by decide)
 have ah:=ma.len_zero (by decide)
 have m:=ma.lt (by decide)
 refine Sy _ _ _ _ _ _ ?_
 unfold Pq Jo
 refine ⟨fun l W=>W=h/\∃ p:Nat,l=[I p]/\0<p/\p<=bn,fun l _=>bn-(iAt l 0).toNat,⟨rfl,1,rfl,by omega,by omega⟩,?_⟩
 rintro u W ⟨rfl,p,C,j,ab⟩
 obtain rfl:=sI1 C
 have R:B7 (cT (B7 (B7 ((bn:Int)+(p:Int))-1)) (p:Int))=(((bn+p-1)/p:Nat):Int):=by
  rw [C1 (n:=(bn:Int)+p) (by omega) (by omega),C1 (n:=(bn:Int)+p-1) (by omega) (by omega),show (bn:Int)+p-1=((bn+p-1:Nat):Int) by omega,<- cP]
  have:(bn+p-1)/p<=bn+p-1:=eP _ _
  generalize (bn+p-1)/p=q at *
  rw [C1 (by omega) (by omega)]
 refine B8 (fun d=>by omega) (fun _=>?_)
 obtain ⟨S,hS⟩:∃ S,S=(bn+p-1)/p*p:=⟨_,rfl⟩
 have ad:bn<=S/\S<=bn+p-1:=by
  have d:=eQ (bn+p-1) p
  have E:=fP (bn+p-1) j
  rw [fA,<- hS] at d
  omega
 have e2:B7 ((B7 (cT (B7 (B7 ((bn:Int)+(p:Int))-1)) (p:Int)))*(p:Int))=(S:Int):=by
  rw [R,<- cD,<- hS,C1 (by omega) (by omega)]
 refine B8 (fun d=>?_) (fun d=>?_)
 ·rw [R] at d
  have E:80<=(bn+p-1)/p:=by omega
  rw [Nat.le_div_iff_mul_le j] at E
  have M:B7 ((p:Int)*2)=((p*2:Nat):Int):=by rw [C1 (by omega) (by omega)];omega
  rw [M]
  exact ⟨⟨rfl,_,rfl,by omega,by omega⟩,by simp only [iAt,aG];omega⟩
 ·refine B8 (fun d=>by omega) (fun _=>?_)
  obtain ⟨k,hk⟩:∃ k,bn=k+1:=⟨bn-1,by omega⟩
  have L:=mb
  obtain ⟨a,H,sy,T,ny,rfl⟩:=mb
  have f:a.length=k+1:=by omega
  have gt:=O7 T k
  have F:=A3a f ny
  have M:B7 ((bn:Int)-1)=(k:Int):=by rw [C1 (by omega) (by omega)];omega
  rw [M]
  subst H
  refine sy.load rfl (by omega) (by omega) ?_
  rw [aC]
  obtain ⟨t,ht⟩:∃ t:Nat,a.getD k 0=t:=⟨(a.getD k 0).toNat,by omega⟩
  rw [ht] at gt F ⊢
  refine T2 (by omega) ⟨_,rfl,?_⟩
  obtain ⟨s,hs⟩:∃ s,s=64-O9 t:=⟨_,rfl⟩
  rw [<- hs]
  obtain ⟨Z,J,w⟩:=Za T f ht (by omega) hs
  simp only [e2]
  obtain ⟨sh,hsh⟩:∃ sh,sh=64*(S-a.length)+s:=⟨_,rfl⟩
  have e4:C3 (B7 (B7 (64*B7 ((S:Int)-(a.length:Int)))+(s:Int)))=(sh:Int):=by
   rw [C1 (n:=(S:Int)-(a.length:Int)) (by omega) (by omega),C1 (n:=64*((S:Int)-(a.length:Int))) (by omega) (by omega),C1 (by omega) (by omega),C5 (by omega) (by omega)]
   omega
  simp only [e4]
  have c:(2:Int)^sh=2^s*b64^(S-a.length):=by rw [hsh,bG,Ln,aS]
  have g:=D9 (B:=b64) (by decide) (S-a.length)
  have ae:0<(2:Int)^s:=bM (by decide)
  have r:0<(2:Int)^sh:=bM (by decide)
  have af:val b64 a*2^sh=val b64 a*2^s*b64^(S-a.length):=by rw [c,cZ]
  have O:val b64 a*2^sh<b64^S:=by
   have t1:val b64 a*2^s*b64^(S-a.length)<b64^(k+1)*b64^(S-a.length):=bN J g
   rw [<- bG,show k+1+(S-a.length)=S by omega] at t1
   omega
  have N:9223372036854775808*b64^(S-1)<=val b64 a*2^sh:=by
   have t1:9223372036854775808*b64^k*b64^(S-a.length)<=val b64 a*2^s*b64^(S-a.length):=aE w (aQ g)
   rw [cZ,<- bG,show k+(S-a.length)=S-1 by omega] at t1
   omega
  refine W7 L hbc (by omega) (by omega) ?_
  intro A1 b c1 d l1 k1 M1
  refine ⟨_,_,_,rfl,?_⟩
  have G:b=S:=by
   have q1:=M1.len_le (by decide) O
   have q2:=M1.lt (by decide)
   by_cases hc:b=S
   ·exact hc
   ·have:=D4 (B:=b64) (by decide) (show b<=S-1 by omega)
    have:=D9 (B:=b64) (by decide) (S-1)
    omega
  subst G
  refine W7 (ma.mono l1) ha (by omega) (by omega) ?_
  intro A2 o c2 E X k2 M2
  refine ⟨_,_,_,rfl,?_⟩
  have ag:o<=an+(1+(b-a.length)):=M2.len_le (by decide) (by
   have t1:x*2^sh<b64^an*2^sh:=bN m r
   have t2:(2:Int)^sh<=b64^(1+(b-a.length)):=by
    rw [c,bG]
    apply aE _ (aQ g)
    have:=D4 (B:=2) (by decide) (show s<=64 by omega)
    have e:(2:Int)^64=18446744073709551616:=by decide
    show (2:Int)^s<=b64^1
    rw [bF,iH]
    show (2:Int)^s<=1*18446744073709551616
    omega
   have t3:b64^an*2^sh<=b64^an*b64^(1+(b-a.length)):=aK t2 (aQ (D9 (by decide) an))
   rw [bG b64 an]
   omega)
  have i:0<o:=by
   rcases Nat.eq_zero_or_pos o with z|z
   ·have:=(M2.len_zero (by decide)).2 z
    rcases Int.mul_eq_zero.1 this with h3|h3<;>omega
   ·exact z
  have e5:B7 ((o:Int)+(b:Int))=((o+b:Nat):Int):=by rw [C1 (by omega) (by omega)];omega
  rw [e5]
  refine K8 R5 (by omega) (by omega) (by omega) ?_
  intro bq Q
  rw [aC]
  refine ⟨_,_,_,rfl,?_⟩
  refine B8 (fun d=>by omega) (fun _=>?_)
  refine A78 (D:=x*2^sh) (V:=val b64 a*2^sh) (sh:=sh) (S:=b) e2 e4 (by omega) (by omega) (by omega) Q M2 k2 i (by omega) (M1.mono X) k1 N rfl rfl ?_
  intro A3 n3 c3 A4 n4 c4 h4 l4 k3 k4 M3 M4
  exact hK _ _ _ _ _ _ _ (B0 l1 (B0 X l4)) k3 k4 M3 M4
def V1{x y:Int}{an bn:Nat}(ma:Mw h A an x)(mb:Mw h B bn y)(ha:an<=ac)(hbc:bn<=bc)(hy:y≠0)(hl:an<=800000000)(hl2:bn<=100000000)
 (hK:∀ A1 m1 c1 A2 m2 c2 h',h.le h'->m1<=c1->m2<=c2->Mw h' A1 m1 (x/y)->Mw h' A2 m2 (x%y)->K (.tuple #[.slice A1 m1 c1,.slice A2 m2 c2]) h'):aZ prog Q9 #[.slice A an ac,.slice B bn bc] h K:=by
 refine Wu _ _ _ _ _ _ ?_
 unfold Sg
 have a:aZ prog K3 #[.slice A an ac,.slice B bn bc] h (fun r d=>∃ (t22aA:Option bH) (t22an:Nat) (t22ac:Nat) (t22bA:Option bH) (t22bn:Nat) (t22bc:Nat),r= .tuple #[.slice t22aA t22an t22ac,.slice t22bA t22bn t22bc]/\K (.tuple #[.slice t22aA t22an t22ac,.slice t22bA t22bn t22bc]) d):=by
  refine Fl ma mb ha hbc hy (by omega) (by omega) ?_
  intro A1 m1 c1 A2 m2 c2 h' l c b M1 M2
  exact ⟨_,_,_,_,_,_,rfl,hK _ _ _ _ _ _ _ l c b M1 M2⟩
 refine B8 (fun f=>B8 (fun e=>?_) (fun _=>a)) (fun _=>a)
 rw [C1 (by omega) (by omega)] at e
 refine Ra ma mb ha hbc hl hl2 (by omega) (by omega) ?_
 intro A1 m1 c1 A2 m2 c2 h' l c b M1 M2
 exact ⟨_,_,_,_,_,_,rfl,hK _ _ _ _ _ _ _ l c b M1 M2⟩
end
def TZ(x k:Nat):Prop:=∃ m,x=2^k*(2*m+1)
def TZ.ex:∀ {x:Nat},x≠0->∃ k,TZ x k:=by
 intro x
 induction x using Nat.strongRecOn with
 | _ x ih=>
  intro h
  rcases Nat.mod_two_eq_zero_or_one x with a|a
  ·obtain ⟨k,m,b⟩:=ih (x/2) (by omega) (by omega)
   refine ⟨k+1,m,?_⟩
   rw [eZ,fA (2^k),fI,<- b];omega
  ·exact ⟨0,x/2,by omega⟩
def TZ.lt{x k n:Nat}(h:TZ x k)(hx:x<2^n):k<n:=by
 obtain ⟨m,rfl⟩:=h
 have b:2^k*1<=2^k*(2*m+1):=eV _ (by omega)
 exact (gX (a:=2) (by decide)).1 (by omega)
def B2w{a u v:Nat}:(2^a*u) ||| (2^a*v)=2^a*(u ||| v):=by
 apply Nat.eq_of_testBit_eq
 intro i
 simp only [Nat.testBit_or,hE,Bool.and_or_distrib_left]
def B9n{u v:Nat}(h:u%2=1\/v%2=1):(u ||| v)%2=1:=by simpa using h
def TZ.or'{x y a b:Nat}(hx:TZ x a)(hy:TZ y b)(hab:a<=b):TZ (x ||| y) a/\TZ (y ||| x) a:=by
 obtain ⟨m,rfl⟩:=hx
 obtain ⟨n,rfl⟩:=hy
 obtain ⟨d,rfl⟩:∃ d,b=a+d:=⟨b-a,by omega⟩
 rw [dS,fI,B2w,B2w]
 have e:=B9n (u:=2*m+1) (v:=2^d*(2*n+1)) (.inl (by omega))
 have c:=B9n (u:=2^d*(2*n+1)) (v:=2*m+1) (.inr (by omega))
 exact ⟨⟨_/2,by rw [<- eQ (_ ||| _) 2,e]⟩,⟨_/2,by rw [<- eQ (_ ||| _) 2,c]⟩⟩
def TZ.or{x y a b:Nat}(hx:TZ x a)(hy:TZ y b):TZ (x ||| y) (min a b):=by
 by_cases h:a<=b
 ·rw [aJ h];exact (hx.or' hy h).1
 ·rw [fK (by omega)];exact (hy.or' hx (by omega)).2
def TZ.bit{x k:Nat}(h:TZ x k)(hx:x<2^64):x &&& (2^64-x)=2^k:=by
 obtain ⟨m,rfl⟩:=h
 have g:0<2^k:=cX (by decide)
 have c:2^k*(2*m+1)=2^k*(2*m)+(2^k-1)+1:=by rw [fZ,cJ];omega
 apply Nat.eq_of_testBit_eq
 intro i
 rw [Nat.testBit_and]
 have e:(2^64-2^k*(2*m+1)).testBit i=(decide (i<64) && !(2^k*(2*m)+(2^k-1)).testBit i):=by
  rw [c];exact Nat.testBit_two_pow_sub_succ (by omega) i
 rw [e,Nat.testBit_two_pow_mul_add _ (by omega),hE,Nat.testBit_two_pow]
 by_cases b:i<k
 ·simp [b,show ¬ i>=k by omega,show ¬ k=i by omega]
 ·by_cases f:i=k
  ·subst f
   have a:i<64:=TZ.lt ⟨m,rfl⟩ hx
   simp [a,Nat.testBit_zero]
  ·obtain ⟨d,hd⟩:∃ d,i-k=d+1:=⟨i-k-1,by omega⟩
   rw [iN b,hd,Nat.testBit_succ,Nat.testBit_succ,show (2*m+1)/2=m by omega,show 2*m/2=m by omega]
   simp only [show ¬ k=i by omega,decide_false]
   cases m.testBit d<;>simp
def A0h{o k:Nat}(h:o%2=1):Nat.Coprime (2^k) o:=Nat.Coprime.pow_left k (by unfold Nat.Coprime;rw [Nat.gcd_rec,h];rfl)
def C22{x y a b m:Nat}(hx:x=2^a*(2*m+1))(hy:TZ y b):eF x y=2^(min a b)*eF (2*m+1) y:=by
 obtain ⟨n,rfl⟩:=hy
 subst hx
 have c:eF (2*m+1) (2^b*(2*n+1))=eF (2*m+1) (2*n+1):=dL (2*n+1) (A0h (by omega))
 rw [c]
 by_cases h:a<=b
 ·obtain ⟨d,rfl⟩:∃ d,b=a+d:=⟨b-a,by omega⟩
  rw [aJ h,dS,fI,Nat.gcd_mul_left,dL _ (A0h (by omega))]
 ·obtain ⟨d,rfl⟩:∃ d,a=b+d:=⟨a-b,by omega⟩
  rw [fK (by omega),dS,fI,Nat.gcd_mul_left,Nat.Coprime.gcd_mul_left_cancel _ (A0h (by omega))]
def A38(k:Nat):Nat:=(2^k*285870213051353865%18446744073709551616)/2^58
def Gtz(h:bB):Prop:=∀ k,k<64->h.cell? (eM ⟨0,0,none⟩ (A38 k*1))=some (Y k)
def Gtz.mono{h h':bB}(g:Gtz h)(l:h.le h'):Gtz h':=fun k a=>B9 l (g k a)
section
variable {h g:bB} {K:VP} {A B:Option bH} {ac bc:Nat}
def Lk{x k:Nat}(gl:Gtz h)(tz:TZ x k)(hx:x<18446744073709551616)(hK:K (I k) h):aZ prog N7 #[U x] h K:=by
 have f:=tz.lt (n:=64) hx
 have a:x≠0:=by
  obtain ⟨m,rfl⟩:=tz
  have:0<2^k:=cX (by decide)
  have:=Nat.mul_pos this (show 0<2*m+1 by omega)
  omega
 refine Nd _ ?_
 unfold Hy
 refine D8 (fun e=>by omega) (fun _=>?_)
 have b:C3 (0-(x:Int))=((2^64-x:Nat):Int):=by
  rw [F6];omega
 have d:Re .u64 (x:Int) ((2^64-x:Nat):Int)=((2^k:Nat):Int):=by
  rw [B4r (by omega) (by omega),aC,aC,tz.bit hx]
 have c:eK (C3 (((2^k:Nat):Int)*285870213051353865)) (2^(min ((58:Int)).toNat 64))=((A38 k:Nat):Int):=by
  show eK _ (2^(min 58 64))=_
  rw [B7g (by decide),F6]
  unfold A38
  rw [eE,gO,cD]
  rfl
 rw [b,d,c,aC]
 have g:A38 k<64:=by
  unfold A38
  have:(2^k*285870213051353865)%18446744073709551616<18446744073709551616:=fP _ (by decide)
  exact Nat.div_lt_of_lt_mul (by omega)
 refine ⟨⟨by omega,by omega⟩,_,gl k f,?_⟩
 rw [C1 (by omega) (by omega)]
 exact hK
def A49{x y:Nat}(gl:Gtz h)(hx:x<18446744073709551616)(hy:y<18446744073709551616)(hK:K (U (eF x y:Nat)) h):aZ prog Qq #[U x,U y] h K:=by
 refine A7e _ _ ?_
 unfold A98
 refine D8 (fun e=>?_) (fun e=>?_)
 ·obtain rfl:x=0:=by omega
  rw [A77 (by omega) (by omega)]
  simpa using hK
 refine D8 (fun E=>?_) (fun E=>?_)
 ·obtain rfl:y=0:=by omega
  rw [A77 (by omega) (by omega)]
  simpa using hK
 obtain ⟨a,j⟩:=TZ.ex (x:=x) (by omega)
 obtain ⟨b,p⟩:=TZ.ex (x:=y) (by omega)
 have O:=j.lt (n:=64) hx
 have S:=p.lt (n:=64) hy
 rw [A77 (by omega) (by omega),aC,aC]
 have k:x ||| y<18446744073709551616:=Nat.or_lt_two_pow (n:=64) hx hy
 refine Lk gl (j.or p) k ⟨_,rfl,?_⟩
 refine Lk gl j hx ⟨_,rfl,?_⟩
 refine B8 (fun i=>by omega) (fun _=>?_)
 obtain ⟨m,s⟩:=j
 have L:=C22 s p
 have A:eK (x:Int) (2^(min ((a:Int)).toNat 64))=((2*m+1:Nat):Int):=by
  rw [aC,B7g (by omega),show ((2:Int)^a)=((2^a:Nat):Int) by simp,<- eE,s,hG _ (cX (by decide))]
 rw [A]
 have z:2*m+1<=x:=by
  rw [s];exact iB _ (cX (by decide))
 refine ⟨fun l F=>F=h/\∃ u v:Nat,l=[U u,U v]/\u%2=1/\u<18446744073709551616/\v<18446744073709551616/\eF u v=eF (2*m+1) y,fun l _=>(iAt l 0+iAt l 1).toNat,⟨rfl,2*m+1,y,rfl,by omega,by omega,hy,rfl⟩,?_⟩
 rintro N Q J ⟨rfl,u,v,t,B,H,g,d⟩
 simp only [bD,bZ,and_true,true_and] at t
 obtain ⟨rfl,rfl⟩:=t
 refine F8 (fun i=>?_) (fun i=>?_)
 ·obtain ⟨c,q⟩:=TZ.ex (x:=v) (by omega)
  have R:=q.lt (n:=64) g
  refine Lk gl q g ⟨_,rfl,?_⟩
  refine B8 (fun i=>by omega) (fun _=>?_)
  obtain ⟨n,r⟩:=q
  have G:eK (v:Int) (2^(min ((c:Int)).toNat 64))=((2*n+1:Nat):Int):=by
   rw [aC,B7g (by omega),show ((2:Int)^c)=((2^c:Nat):Int) by simp,<- eE,r,hG _ (cX (by decide))]
  have w:2*n+1<=v:=by
   rw [r];exact iB _ (cX (by decide))
  have f:eF u (2*n+1)=eF u v:=by
   rw [r,dL _ (A0h B)]
  rw [G]
  refine B8 (fun D=>?_) (fun D=>?_)
  ·have o:C3 ((u:Int)-((2*n+1:Nat):Int))=((u-(2*n+1):Nat):Int):=by rw [C5 (by omega) (by omega)];omega
   rw [o]
   refine ⟨⟨rfl,_,_,rfl,by omega,by omega,by omega,?_⟩,?_⟩
   ·rw [iC (by omega),iE,f,d]
   ·simp only [iAt,aG,aI];omega
  ·have o:C3 (((2*n+1:Nat):Int)-(u:Int))=((2*n+1-u:Nat):Int):=by rw [C5 (by omega) (by omega)];omega
   rw [o]
   refine ⟨⟨rfl,_,_,rfl,by omega,by omega,by omega,?_⟩,?_⟩
   ·rw [iC (by omega),f,d]
   ·simp only [iAt,aG,aI];omega
 ·refine B8 (fun i=>by omega) (fun _=>?_)
  obtain rfl:v=0:=by omega
  rw [Nat.gcd_zero_right] at d
  rw [aC,aJ (show min a b<=64 by omega)]
  have M:(u:Int)*2^(min a b)=((eF x y:Nat):Int):=by
   rw [L,<- d,cD,aS];simp
  have C:eF x y<=x:=Nat.le_of_dvd (by omega) (Nat.gcd_dvd_left x y)
  rw [M,C5 (by omega) (by omega)]
  exact hK
end
def B24{xs:List Int}(d:Dig b64 xs){k s:Nat}(hl:xs.length<=k+2)(hs:s<=64):val b64 xs/(b64^k*2^(64-s))=xs.getD (k+1) 0*2^s+xs.getD k 0/2^(64-s):=by
 have c:=C7 b64 xs (k+1)
 have j:=C7 b64 xs k
 rw [aL (show xs.length<=k+1+1 by omega)] at c
 have i:=D9 (B:=b64) (by decide) k
 have e:0<(2:Int)^(64-s):=bM (by decide)
 have b:=Az (s:=s) hs
 have g:=C9 (by decide) (d.take k)
 have l:=N3 (by decide) (d.take k)
 have m:=D4 (B:=b64) (by decide) (show (xs.take k).length<=k by rw [aF];omega)
 rw [<- fO (aQ i)]
 have f:val b64 xs/b64^k=xs.getD k 0+18446744073709551616*xs.getD (k+1) 0:=by
  refine (A74 (a:=val b64 (xs.take k)) ?_ g (by omega)).1
  rw [c,j,bF]
  show _=val b64 (xs.take k)+_+b64^k*18446744073709551616*_
  grind
 rw [f,<- b,aS (2^s),cZ,fY _ _ (by omega),aS (2^s)]
 omega
section
variable {h g:bB} {K:VP} {A B:Option bH} {ac bc:Nat}
def C2r(a b u0 u1 v0 v1:Int)(odd:Bool):Prop:=(0<=u0/\u0<18446744073709551616)/\(0<=u1/\u1<18446744073709551616)/\(0<=v0/\v0<18446744073709551616)/\(0<=v1/\v1<18446744073709551616)/\(v0≠0->Leh a b u0 v0 u1 v1 (Ls a b u0 v0 odd) (Lr a b u1 v1 odd))
def B7f{a b F S W t20 t26 t33:Int}(hF:F=bor .u64 (C3 (t26*2^(min (C3 t20).toNat 64))) (eK t33 (2^(min (C3 ((64:Int)-(C3 t20))).toNat 64))))(hW:0<W)(hFa:F=a/W)(hSb:S=b/W)(hb0:0<=b)(hba:b<=a)(hF64:F<18446744073709551616)
 (hK:∀ u0 u1 v0 v1 odd,C2r a b u0 u1 v0 v1 odd->K (.agg #[U u0,U u1,U v0,U v1,.bool odd]) h):Jn prog K t20 t26 t33 S h:=by
 have da:=aO a W
 have db:=aO b W
 have u:=aU a (b:=W) (by omega)
 have w:=aP a hW
 have t:=aU b (b:=W) (by omega)
 have y:=aP b hW
 have r:0<=S:=by rw [hSb];exact cF hb0 (by omega)
 have s:S<=F:=by rw [hSb,hFa];exact Int.ediv_le_ediv hW hba
 unfold Jn
 rw [<- hF]
 refine ⟨fun l B=>B=h/\∃ (first c f d u0 u1 v0 v1:Int) (odd:Bool),l=[U first,U c,U f,U d,U u0,U u1,U v0,U v1,.bool odd]/\LS F S first c u0 v0 u1 v1 f d odd/\C2r a b u0 u1 v0 v1 odd/\f<=F/\d<=(if F=0 then 1 else F),fun l _=>(iAt l 1).toNat,⟨rfl,_,_,_,_,_,_,_,_,_,rfl,LS.init r s,⟨by omega,by omega,by omega,by omega,fun e=>absurd rfl e⟩,by omega,by split<;>omega⟩,?_⟩
 rintro first c f d u0 u1 v0 v1 odd B ⟨rfl,p,i,T,J,O,N,H,X,A,z,o,q,Q,R⟩
 simp only [bD,bZ,Value.bool.injEq,and_true,true_and] at z
 obtain ⟨rfl,rfl,rfl,rfl,rfl,rfl,rfl,rfl,rfl⟩:=z
 have C:=o.v2pos
 have k:=o.ord
 have M:=o.hF
 refine B8 (fun h1=>?_) (fun _=>hK _ _ _ _ _ q)
 have j:1<=c:=by omega
 have G:=o.bound2 j
 have V:first<=F:=by
  have t1:1*first<=d*first:=aE (by omega) (by omega)
  have t2:=aT (show 0<=v1 by omega) k.1
  omega
 rw [C5 (n:=first-c) (by omega) (by omega),C5 (n:=v1+d) (by omega) (by omega)]
 refine B8 (fun h2=>?_) (fun _=>hK _ _ _ _ _ q)
 refine B8 (fun e=>by omega) (fun _=>?_)
 refine B8 (fun e=>by omega) (fun _=>?_)
 rw [bY (by omega),bJ (by omega)]
 have g:=o.step (by omega) (by omega)
 have Z:=g.bound j
 have m:0<=first/c:=cF (by omega) (by omega)
 have D:first/c<=first:=fN _ (by omega)
 have L:=aT m (show 0<=f by omega)
 have E:=aT m (show 0<=d by omega)
 rw [C5 (n:=first/c) (by omega) (by omega),C5 (n:=first/c*f) (by omega) (by omega),C5 (n:=first/c*d) (by omega) (by omega),C5 (n:=u1+first/c*f) (by omega) (by omega),C5 (n:=v1+first/c*d) (by omega) (by omega)]
 refine ⟨⟨rfl,_,_,_,_,_,_,_,_,_,rfl,g,⟨⟨by omega,q.2.1.2⟩,⟨by omega,by omega⟩,⟨by omega,q.2.2.2.1.2⟩,⟨by omega,by omega⟩,fun e=>g.leh e hW (al:=a%W) (bl:=b%W) ?_ ?_ ⟨u,w⟩ ⟨t,y⟩⟩,by omega,by split<;>omega⟩,?_⟩
 ·rw [hFa,aS];omega
 ·rw [hSb,aS];omega
 ·have:=aP first (show 0<c by omega)
  have:=aU first (show c≠0 by omega)
  simp only [iAt,aI,aG];omega
set_option maxHeartbeats 1000000 in
def A0n{a b:Int}{an bn:Nat}(ma:Mw h A an a)(mb:Mw h B bn b)(hba:b<=a)(hb2:2<=bn)(hl:an<=1000000000)
 (hK:∀ u0 u1 v0 v1 odd,C2r a b u0 u1 v0 v1 odd->K (.agg #[U u0,U u1,U v0,U v1,.bool odd]) h):aZ prog Me #[.slice A an ac,.slice B bn bc] h K:=by
 have H:=mb.nonneg (by decide)
 have ad:bn<=an:=mb.len_le (by decide) (dC hba (ma.lt (by decide)))
 obtain ⟨k,rfl⟩:∃ k,an=k+2:=⟨an-2,by omega⟩
 obtain ⟨p,g,O,G,nx,rfl⟩:=ma
 obtain ⟨f,o,Q,J,ny,rfl⟩:=mb
 refine A4s _ _ _ _ _ _ ?_
 unfold A4t
 have e1:B7 (((k+2:Nat):Int)-1)=((k+1:Nat):Int):=by rw [C1 (by omega) (by omega)];omega
 have e2:B7 (((k+2:Nat):Int)-2)=(k:Int):=by rw [C1 (by omega) (by omega)];omega
 simp only [e1,e2]
 have gt:=O7 G (k+1)
 have S:=O7 G k
 have L:=A3a (m:=k+1) g.symm nx
 obtain ⟨t,ht⟩:∃ t:Nat,p.getD (k+1) 0=t:=⟨(p.getD (k+1) 0).toNat,by omega⟩
 rw [g]
 refine O.load rfl (by omega) (by omega) ?_
 rw [aC,ht]
 rw [ht] at gt L
 refine T2 (by omega) ⟨_,rfl,?_⟩
 obtain ⟨s,hs⟩:∃ s,s=64-O9 t:=⟨_,rfl⟩
 rw [<- hs]
 obtain ⟨Z,y,aa⟩:=Za G g.symm ht (by omega) hs
 refine O.load rfl (by omega) (by omega) ?_
 simp only [aC,ht]
 have i:C3 (s:Int)=s:=C5 (by omega) (by omega)
 have c:C3 (64-(s:Int))=((64-s:Nat):Int):=by rw [C5 (by omega) (by omega)];omega
 refine B8 (fun e=>by rw [i] at e;omega) (fun _=>?_)
 refine O.load rfl (by omega) (by omega) ?_
 simp only [aC]
 refine B8 (fun e=>by rw [i,c] at e;omega) (fun _=>?_)
 have M:0<(2:Int)^s:=bM (by decide)
 have j:0<(2:Int)^(64-s):=bM (by decide)
 have C:=Az (s:=s) (by omega)
 have V:=D9 (B:=b64) (by decide) k
 have T:0<b64^k*2^(64-s):=Int.mul_pos V j
 have r:=B24 G (k:=k) (s:=s) (by omega) (by omega)
 have d:=B24 J (k:=k) (s:=s) (by omega) (by omega)
 have q:val b64 p/(b64^k*2^(64-s))<18446744073709551616:=by
  apply bK T
  have t1:18446744073709551616*(b64^k*2^(64-s))*2^s=18446744073709551616*b64^k*(2^s*2^(64-s)):=by grind
  rw [C] at t1
  have R:b64^(k+1+1)=18446744073709551616*b64^k*18446744073709551616:=by
   rw [bF,bF]
   show b64^k*18446744073709551616*18446744073709551616=_
   grind
  rw [R,<- t1] at y
  exact Int.lt_of_mul_lt_mul_right y (by omega)
 have ab:val b64 f/(b64^k*2^(64-s))<=val b64 p/(b64^k*2^(64-s)):=Int.ediv_le_ediv T hba
 have q1:∀ z:Int,0<=z/\z<18446744073709551616->0<=z/2^(64-s)/\z/2^(64-s)<2^s:=fun z E=>
  ⟨cF E.1 (by omega),bK j (by rw [C];exact E.2)⟩
 have n:∀ u z:Int,0<=u->0<=z/\z<18446744073709551616->u*2^s+z/2^(64-s)<18446744073709551616->bor .u64 (C3 (u*2^(min (C3 (s:Int)).toNat 64))) (eK z (2^(min (C3 (64-C3 (s:Int))).toNat 64)))=u*2^s+z/2^(64-s):=by
  intro u z X E W
  have:=q1 z E
  have:=aT X (aQ M)
  rw [i,c,aC,aC,B7g (by omega),aJ (show s<=64 by omega),C5 (by omega) (by omega),A4m X (by omega) W]
 have gy:=O7 J (k+1)
 have N:=O7 J k
 rw [ht] at r
 refine ⟨fun l hp=>hp=h/\l=[U (val b64 f/(b64^k*2^(64-s)))],?_,?_⟩
 ·refine D8 (fun e=>?_) (fun e=>?_)
  ·rw [o]
   refine Q.load rfl (by omega) (by omega) ?_
   simp only [aC]
   refine B8 (fun e=>by rw [i] at e;omega) (fun _=>?_)
   refine Q.load rfl (by omega) (by omega) ?_
   simp only [aC]
   refine B8 (fun e=>by rw [i,c] at e;omega) (fun _=>?_)
   rw [n _ _ gy.1 N (by omega),d]
   first|exact ⟨rfl,rfl⟩|exact ⟨trivial,rfl⟩
  ·refine D8 (fun e=>?_) (fun e=>?_)
   ·rw [o]
    refine Q.load rfl (by omega) (by omega) ?_
    simp only [aC]
    refine B8 (fun e=>by rw [i,c] at e;omega) (fun _=>?_)
    have:f.getD (k+1) 0=0:=by simp [cR,cW (show f.length<=k+1 by omega)]
    rw [this,fQ,dN] at d
    rw [i,c,aC,B7g (by omega),d]
    first|exact ⟨rfl,rfl⟩|exact ⟨trivial,rfl⟩
   ·have t1:f.getD (k+1) 0=0:=by simp [cR,cW (show f.length<=k+1 by omega)]
    have R:f.getD k 0=0:=by simp [cR,cW (show f.length<=k by omega)]
    rw [t1,R,fQ,dN,Int.zero_ediv] at d
    rw [d]
    exact ⟨rfl,rfl⟩
 ·rintro D ae ⟨rfl,w⟩
  simp only [bD,bZ,and_true,true_and] at w
  subst w
  exact B7f (F:=val b64 p/(b64^k*2^(64-s))) (by rw [n _ _ (by omega) S (by omega),r]) T rfl rfl H hba q hK
end
def Win.swap{k k':dZ}{h g1 g:bB}{ba bb:Nat}{e e':bV}{A B:Option bH}{pa qa pb qb:List dD}{us bs:List Int}(wa:Win k h g1 ba e A pa us qa)(wb:Win k' g1 g bb e' B pb bs qb):∃ g2,Win k' h g2 bb e' B pb bs qb/\Win k g2 g ba e A pa us qa:=by
 have a:ba≠bb:=by
  rintro rfl
  have:=wa.free
  rw [wb.eq,C2] at this
  cases this
 have b:g ba=none:=by
  have:=wa.free
  rwa [wb.eq,C0 _ _ a] at this
 refine ⟨g.put ba (.cells (pa++us.map (bC k)++qa).toArray e),⟨?_,?_,wb.at_⟩,⟨b,rfl,wa.at_⟩⟩
 ·rw [C0 _ _ a.symm];exact wb.free
 ·rw [wa.eq,wb.eq];exact Heap.put_comm _ _ _ a.symm
def A0l{z y c:Int}(hz:0<=z/\z<18446744073709551616)(hy:0<=y/\y<18446744073709551616)(hc:0<=c/\c<=1):(z-y-c)%18446744073709551616=z-y-c+18446744073709551616*(if z-y-c<0 then 1 else 0):=by
 split<;>omega
def A42(z:Int):z%18446744073709551616=z-18446744073709551616*(z/18446744073709551616):=by omega
def Of{x y c:Int}(hx:0<=x/\x<18446744073709551616)(hy:0<=y/\y<18446744073709551616)(hc:0<=c/\c<18446744073709551616):0<=(x*y+c)/18446744073709551616/\(x*y+c)/18446744073709551616<18446744073709551616:=by
 have a:=aT hx.1 hy.1
 have b:x*y<=18446744073709551615*y:=aE (by omega) hy.1
 omega
def pin{v w B m:Int}(h:v=w+B*m)(hv:0<=v/\v<B)(hw:0<=w/\w<B):v=w:=by
 have a:0<B:=by omega
 by_cases b:m <= -1
 ·have:=aK b (aQ a);omega
 ·by_cases c:1<=m
  ·have:=aK c (aQ a);omega
  ·obtain rfl:m=0:=by omega
   omega
section
variable {h g g1:bB} {K:VP} {A B:Option bH} {ac bc an bn ba bb:Nat} {e:bV} {qa qb:List dD}
set_option maxHeartbeats 1000000 in
def B0t{us bs:List Int}{u0 u1 v0 v1:Int}{odd:Bool}(wa:Win .u64 h g1 ba e A [] us qa)(wb:Win .u64 g1 g bb e B [] bs qb)(ha:an=us.length)(hb:bn=bs.length)(hab:us.length=bs.length)(da:Dig b64 us)(db:Dig b64 bs)(hl:us.length<=1000000000)(hu0:0<=u0/\u0<18446744073709551616)(hu1:0<=u1/\u1<18446744073709551616)(hv0:0<=v0/\v0<18446744073709551616)(hv1:0<=v1/\v1<18446744073709551616)
 (hX0:0<=Ls (val b64 us) (val b64 bs) u0 v0 odd/\Ls (val b64 us) (val b64 bs) u0 v0 odd<b64^us.length) (hX1:0<=Lr (val b64 us) (val b64 bs) u1 v1 odd/\Lr (val b64 us) (val b64 bs) u1 v1 odd<b64^us.length)
 (hK:∀ us' bs' h' g1',us'.length=us.length->bs'.length=us.length->Dig b64 us'->Dig b64 bs'->val b64 us'=Ls (val b64 us) (val b64 bs) u0 v0 odd->val b64 bs'=Lr (val b64 us) (val b64 bs) u1 v1 odd->Win .u64 h' g1' ba e A [] us' qa->Win .u64 g1' g bb e B [] bs' qb->K (.tuple #[]) h'):
 aZ prog A1i #[.agg #[U u0,U u1,U v0,U v1,.bool odd],.slice A an ac,.slice B bn bc] h K:=by
 subst ha hb
 refine B58 _ _ _ _ _ _ _ _ _ _ _ ?_
 unfold C0g
 refine ⟨fun l hp=>∃ (k:Nat) (f d b c T S:Int) (o z:List Int) (g1:bB),l=[U f,U d,U b,U c,U T,U S,I k]/\k<=us.length/\o.length=us.length/\z.length=us.length/\Dig b64 o/\Dig b64 z/\(0<=f/\f<18446744073709551616)/\(0<=d/\d<18446744073709551616)/\(0<=b/\b<18446744073709551616)/\(0<=c/\c<18446744073709551616)/\(0<=T/\T<=1)/\(0<=S/\S<=1)/\Win .u64 hp g1 ba e A [] o qa/\Win .u64 g1 g bb e B [] z qb/\o.drop k=us.drop k/\z.drop k=bs.drop k/\
  val b64 (o.take k)=Ls (val b64 (us.take k)) (val b64 (bs.take k)) u0 v0 odd+b64^k*((if odd then d-f else f-d)+T)/\val b64 (z.take k)=Lr (val b64 (us.take k)) (val b64 (bs.take k)) u1 v1 odd+b64^k*((if odd then c-b else b-c)+S),fun l _=>us.length-(iAt l 6).toNat,⟨0,0,0,0,0,0,0,us,bs,g1,rfl,by omega,rfl,hab.symm,da,db,by omega,by omega,by omega,by omega,by omega,by omega,wa,wb,rfl,rfl,by simp [val,Ls],by simp [val,Lr]⟩,?_⟩
 rintro f d b c T S i hp ⟨k,ah,ad,ag,ae,ai,ab,o,z,g1,R,hk,a,n,O,M,hP,hQ,hR,hT,w,u,N,Q,L,H,m,s⟩
 simp only [bD,bZ,and_true,true_and] at R
 obtain ⟨rfl,rfl,rfl,rfl,rfl,rfl,rfl⟩:=R
 refine B8 (fun h1=>?_) (fun h1=>?_)
 ·have gx:=O7 O k
  have W:=O7 M k
  have j:=E7 L
  have C:=E7 H
  have vx:=C7 b64 us k
  have Z:=C7 b64 bs k
  obtain ⟨g2,aa,af⟩:=N.swap Q
  refine N.sl.load a.symm (by omega) (by omega) ?_
  refine aa.sl.load (by omega) (by omega) (by omega) ?_
  simp only [aC]
  obtain ⟨aA,hA,_⟩:=SlV.at N.sl (i:=k) (by simp;omega)
  obtain ⟨aB,hB,_⟩:=SlV.at Q.sl (i:=k) (by simp;omega)
  generalize hx0:o.getD k 0=x at *
  generalize hy0:z.getD k 0=y at *
  refine U5 gx hu0 hP ⟨_,_,rfl,?_⟩
  refine U5 W hv0 hQ ⟨_,_,rfl,?_⟩
  refine U5 W hv1 hR ⟨_,_,rfl,?_⟩
  refine U5 gx hu1 hT ⟨_,_,rfl,?_⟩
  have bP:=Of gx hu0 hP
  have bQ:=Of W hv0 hQ
  have bR:=Of W hv1 hR
  have bT:=Of gx hu1 hT
  have X:=Fe (x*u0+f)
  have mQ:=Fe (y*v0+d)
  have mR:=Fe (y*v1+b)
  have mT:=Fe (x*u1+c)
  have kP:=A42 (x*u0+f)
  have kQ:=A42 (y*v0+d)
  have kR:=A42 (y*v1+b)
  have kT:=A42 (x*u1+c)
  have ek:B7 ((k:Int)+1)=((k+1:Nat):Int):=by rw [C1 (by omega) (by omega)];omega
  rw [ek]
  generalize (x*u0+f)/18446744073709551616=cP2 at *
  generalize (y*v0+d)/18446744073709551616=cQ2 at *
  generalize (y*v1+b)/18446744073709551616=cR2 at *
  generalize (x*u1+c)/18446744073709551616=cT2 at *
  generalize (x*u0+f)%18446744073709551616=p at *
  generalize (y*v0+d)%18446744073709551616=q at *
  generalize (y*v1+b)%18446744073709551616=r at *
  generalize (x*u1+c)%18446744073709551616=t at *
  have D:b64^(k+1)=b64^k*18446744073709551616:=bF _ _
  cases odd with
  | true=>
   refine Br.of (fun _=>?_) (fun e=>by cases e)
   refine Gf X mQ w ⟨_,_,rfl,aA,hA,by omega,by omega,N.storeN G8 hA (by omega) ?_⟩
   intro h2 w2
   refine Gf mR mT u ⟨_,_,rfl,aB,hB,by omega,by omega,?_⟩
   obtain ⟨g3,F,G⟩:=w2.swap Q
   refine F.storeN G8 hB (by omega) ?_
   intro h4 w4
   obtain ⟨g5,E,J⟩:=w4.swap G
   refine ⟨⟨k+1,_,_,_,_,_,_,_,_,g5,rfl,by omega,by simpa using a,by simpa using n,O.set (Fe _),M.set (Fe _),bP,bQ,bR,bT,by split<;>omega,by split<;>omega,E,J,?_,?_,?_,?_⟩,by simp only [iAt,aG,aI];omega⟩
   ·rw [D7 (by omega)];exact E5 L
   ·rw [D7 (by omega)];exact E5 H
   ·rw [D3 (by omega),F7,aF,aJ (by omega),D,vx,Z,<- j,<- C,m,A0l X mQ w]
    simp only [Ls,if_true]
    grind
   ·rw [D3 (by omega),F7,aF,aJ (by omega),D,vx,Z,<- j,<- C,s,A0l mR mT u]
    simp only [Lr,if_true]
    grind
  | false=>
   refine Br.of (fun e=>by cases e) (fun _=>?_)
   refine Gf mQ X w ⟨_,_,rfl,aA,hA,by omega,by omega,N.storeN G8 hA (by omega) ?_⟩
   intro h2 w2
   refine Gf mT mR u ⟨_,_,rfl,aB,hB,by omega,by omega,?_⟩
   obtain ⟨g3,F,G⟩:=w2.swap Q
   refine F.storeN G8 hB (by omega) ?_
   intro h4 w4
   obtain ⟨g5,E,J⟩:=w4.swap G
   refine ⟨⟨k+1,_,_,_,_,_,_,_,_,g5,rfl,by omega,by simpa using a,by simpa using n,O.set (Fe _),M.set (Fe _),bP,bQ,bR,bT,by split<;>omega,by split<;>omega,E,J,?_,?_,?_,?_⟩,by simp only [iAt,aG,aI];omega⟩
   ·rw [D7 (by omega)];exact E5 L
   ·rw [D7 (by omega)];exact E5 H
   ·rw [D3 (by omega),F7,aF,aJ (by omega),D,vx,Z,<- j,<- C,m,A0l mQ X w]
    simp only [Ls,fF,if_false]
    grind
   ·rw [D3 (by omega),F7,aF,aJ (by omega),D,vx,Z,<- j,<- C,s,A0l mT mR u]
    simp only [Lr,fF,if_false]
    grind
 ·obtain rfl:k=us.length:=by omega
  rw [aL (show o.length<=us.length by omega),aW,aL (show bs.length<=us.length by omega)] at m
  rw [aL (show z.length<=us.length by omega),aW,aL (show bs.length<=us.length by omega)] at s
  have bx:=N3 (by decide) O
  have V:=N3 (by decide) M
  rw [a] at bx
  rw [n] at V
  exact hK o z hp g1 a n O M (pin m ⟨C9 (by decide) O,bx⟩ hX0) (pin s ⟨C9 (by decide) M,V⟩ hX1) N Q
end
def Win.priv{k:dZ}{h g:bB}{b m c:Nat}{e:bV}{A:Option bH}{xs:List Int}{post:List dD}(w:Win k h g b e A [] xs post)(hx:xs≠[])(hc:c=xs.length+post.length)(hm:m<=xs.length):eO h g e 1 A m c ((xs.take m).map (bC k)):=by
 refine ⟨by simp;omega,by omega,.inr ⟨b,xs.map (bC k)++post,?_,w.free,?_,by simp;omega,?_⟩⟩
 ·rcases w.at_ with a|a
  ·exact absurd a hx
  ·simpa using a
 ·have:=w.eq
  rwa [cQ] at this
 ·rw [cJ,cN (by simp;omega),List.map_take]
def Fv{k:dZ}{h g:bB}{n c:Nat}{e:bV}{A:Option bH}{xs:List Int}(p:eO h g e 1 A n c (xs.map (bC k)))(hx:xs≠[]):∃ b post,Win k h g b e A [] xs post/\c=xs.length+post.length:=by
 obtain ⟨d,q,f⟩:=p
 rw [fV] at d
 rcases f with ⟨o,rfl⟩|⟨b,a,l,i,rfl,m,j⟩
 ·exact absurd (aM (by omega)) hx
 ·refine ⟨b,a.drop (n*1),⟨i,?_,.inr l⟩,?_⟩
  ·rw [cQ,<- j,cL]
  ·rw [aN];omega
def Priv.swap{h g1 g:bB}{e e':bV}{s s' n c m d:Nat}{A B:Option bH}{xs ys:List dD}(pa:eO h g1 e s A n c xs)(pb:eO g1 g e' s' B m d ys):∃ g2,eO h g2 e' s' B m d ys/\eO g2 g e s A n c xs:=by
 obtain ⟨l,k,y⟩:=pa
 obtain ⟨j,o,u⟩:=pb
 rcases y with ⟨E,rfl⟩|⟨i,b,w,a,rfl,r⟩
 ·exact ⟨g,⟨j,o,u⟩,⟨l,k,.inl ⟨E,rfl⟩⟩⟩
 ·rcases u with ⟨z,rfl⟩|⟨t,q,D,p,rfl,C⟩
  ·exact ⟨_,⟨j,o,.inl ⟨z,rfl⟩⟩,⟨l,k,.inr ⟨i,b,w,a,rfl,r⟩⟩⟩
  ·have f:i≠t:=by
    rintro rfl
    rw [C2] at a;cases a
   rw [C0 _ _ f] at a
   refine ⟨g.put i (.cells b.toArray e),⟨j,o,.inr ⟨t,q,D,?_,Heap.put_comm _ _ _ f.symm,C⟩⟩,⟨l,k,.inr ⟨i,b,w,a,rfl,r⟩⟩⟩
   rw [C0 _ _ f.symm];exact p
abbrev Pw(h g:bB)(A:Option bH)(n c:Nat)(us:List Int):Prop:=eO h g C4 1 A n c (us.map (bC .u64))
def GI(h:bB)(G:Nat)(hp:bB)(A:Option bH)(n c:Nat)(B:Option bH)(m d:Nat):Prop:=∃ (us vs:List Int) (g1 g:bB),h.le g/\Pw hp g1 A n c us/\Pw g1 g B m d vs/\Dig b64 us/\Dig b64 vs/\gD us/\gD vs/\n=us.length/\m=vs.length/\val b64 vs<=val b64 us/\gL (val b64 us) (val b64 vs)=G/\us.length<=100000000
def B3n{a b:Int}(ha:0<=a)(hb:0<=b):gL b (a%b)=gL a b:=by
 obtain ⟨x,rfl⟩:=dU ha
 obtain ⟨y,rfl⟩:=dU hb
 rw [<- gO,dT,dT,iE x,iE y,<- Nat.gcd_rec]
section
variable {h g:bB} {K:VP} {A B:Option bH} {ac bc:Nat}
set_option maxHeartbeats 1000000 in
def B7v{G an bn:Nat}{hp:bB}(gl:Gtz h)(gi:GI h G hp A an ac B bn bc)(hK:∀ A' m c' h',h.le h'->m<=c'->Mw h' A' m (G:Int)->K (.slice A' m c') h'):My prog K A an ac B bn bc hp:=by
 unfold My
 refine ⟨fun l hp=>∃ (A B:Option bH) (n c m d:Nat),l=[.slice A n c,.slice B m d]/\GI h G hp A n c B m d,fun l hp=>match l with|[_,.slice B n _]=>B35 b64 hp B n|_=>0,⟨_,_,_,_,_,_,rfl,gi⟩,?_⟩
 rintro A1 V c1 B1 m1 d1 hp ⟨A,B,n,c,m,d,hl,p,o,g1,g,lg,E,W,du,dv,nu,nv,hn,X,T,a,bo⟩
 simp only [bD,bW,and_true] at hl
 obtain ⟨⟨rfl,rfl,rfl⟩,rfl,rfl,rfl⟩:=hl
 have Ma:Mw hp A1 V (val b64 p):=⟨p,hn,E.slV,du,nu,rfl⟩
 have Mb:Mw hp B1 m1 (val b64 o):=⟨o,X,SlV.mono E.le W.slV,dv,nv,rfl⟩
 have am:=E.2.1
 have a0:=W.2.1
 have Q:=C9 (by decide) du
 have au:=C9 (by decide) dv
 have a8:m1<=V:=Mb.len_le (by decide) (dC T (Ma.lt (by decide)))
 have L:h.le hp:=B0 lg (B0 W.le E.le)
 have ar:=Mb.len_zero (by decide)
 refine B8 (fun h1=>?_) (fun h1=>?_)
 ·refine A0n Ma Mb T (by omega) (by omega) ?_
  intro u0 u1 v0 v1 bm st
  refine ⟨_,_,_,_,_,rfl,D8 (fun e=>?_) (fun e=>?_)⟩
  ·refine V1 Ma Mb am a0 (by omega) (by omega) (by omega) ?_
   intro A2 m2 c2 A3 m3 c3 h6 l6 q k3 M2 M3
   refine ⟨_,_,_,_,_,_,rfl,?_⟩
   have br:m3<=m1:=M3.len_le (by decide) (by have:=aP (val b64 p) (show 0<val b64 o by omega);have:=Mb.lt (by decide);omega)
   obtain ⟨ws,a9,aw,D,aa,a7⟩:=M3
   refine Fn aw a9 (by omega) ?_
   intro A4 c4 h7 g7 l7 p7
   obtain ⟨g2,N,H⟩:=E.swap W
   obtain ⟨g8,l8,az⟩:=N.after (B0 l6 l7)
   obtain ⟨g9,a2,av⟩:=Priv.swap p7 az
   have bl:=aP (val b64 p) (show 0<val b64 o by omega)
   have Mn:Mw h7 A4 ws.length (val b64 ws):=⟨ws,rfl,p7.slV,D,aa,rfl⟩
   refine ⟨_,_,_,rfl,⟨_,_,_,_,_,_,rfl,o,ws,g9,g8,B0 lg (B0 H.le l8),a2,av,dv,D,nv,aa,X,rfl,by omega,?_,by omega⟩,?_⟩
   ·rw [a7,B3n Q au];exact a
   ·simp only [Bm Mn,Bm Mb]
    have:=C9 (by decide) D
    omega
  ·obtain ⟨Z,ai,ak,ao,lh⟩:=st
   have lh:=lh e
   unfold Sf
   obtain ⟨g2,N,H⟩:=E.swap W
   refine ⟨fun l hp=>∃ (B:Option bH) (m d j:Nat) (g1 g:bB),l=[.slice B m d]/\h.le g/\Pw hp g1 B m d (o++aD j 0)/\Pw g1 g A1 V c1 p/\m=o.length+j/\m<=V,fun l _=>match l with|[.slice _ m _]=>V-m|_=>0,⟨B1,m1,d1,0,g2,g,rfl,lg,by simpa using N,H,by omega,a8⟩,?_⟩
   rintro B2 m2 d2 bj ⟨B',m',d',j,g3,g4,ah,ag,ab,ad,bi,bg⟩
   simp only [bD,bW,and_true] at ah
   obtain ⟨rfl,rfl,rfl⟩:=ah
   refine B8 (fun h2=>?_) (fun h2=>?_)
   ·refine Eh R5 ab rfl rfl (by omega) (by omega) ?_
    intro A5 c5 h5 g5 l5 p5
    obtain ⟨g6,l6,a3⟩:=ad.after l5
    refine ⟨⟨A5,m2+1,c5,j+1,g5,g6,rfl,B0 ag l6,?_,a3,by omega,by omega⟩,by simp only;omega⟩
    have p6:=p5
    rw [<- List.map_singleton (f:=bC .u64),<- dQ,aR,<- eG] at p6
    exact p6
   ·obtain ⟨g5,ax,a4⟩:=ab.swap ad
    have s:(o++aD j (0:Int)).length=p.length:=by simp;omega
    have i:p≠[]:=by rintro rfl;simp at hn;omega
    have af:o++aD j (0:Int)≠[]:=by intro h0;rw [h0] at s;simp at s;exact i (aM s.symm)
    obtain ⟨ba,qa,wa,bq⟩:=Fv ax i
    obtain ⟨bb,qb,wb,bt⟩:=Fv a4 af
    have a5:=lh.gcd
    have bh:=lh.ord
    have a1:=lh.le
    have bf:val b64 o<b64^p.length:=by rw [<- hn];exact dC T (Ma.lt (by decide))
    refine B0t wa wb hn (by omega) s.symm du (dv.append (J1 (by decide) _)) (by omega) Z ai ak ao (by rw [Ds];omega) (by rw [Ds];omega) ?_
    intro y k h6 g6 z C ay al M u J aq
    rw [Ds] at M u
    have R:y≠[]:=by rintro rfl;simp at z;exact i (aM z.symm)
    have S:k≠[]:=by rintro rfl;simp at C;exact i (aM C.symm)
    refine ⟨rfl,?_⟩
    rw [show V=y.length by omega]
    refine Et J.sl (by omega) (by omega) ?_
    intro k1 a6 bd aj
    refine ⟨_,_,_,rfl,?_⟩
    rw [show m2=k.length by omega]
    refine Et (SlV.mono J.le aq.sl) (by omega) (by omega) ?_
    intro q be ae O
    have pA:=J.priv (m:=k1) (c:=c1) R (by omega) a6
    have pB:=aq.priv (m:=q) (c:=d2) S (by omega) be
    have e1:(y.take k1).length=k1:=by rw [aF];omega
    have e2:(k.take q).length=q:=by rw [aF];omega
    have Mn:Mw h6 B2 q (val b64 (k.take q)):=⟨k.take q,e2.symm,SlV.mono pA.le pB.slV,al.take _,ae,rfl⟩
    refine ⟨_,_,_,rfl,⟨_,_,_,_,_,_,rfl,y.take k1,k.take q,_,_,ag,pA,pB,ay.take _,al.take _,bd,ae,e1.symm,e2.symm,?_,?_,by omega⟩,?_⟩
    ·rw [aj,O,M,u];omega
    ·rw [aj,O,M,u,a5];exact a
    ·simp only [Bm Mn,Bm Mb]
     rw [O,u];omega
 ·refine D8 (fun h2=>?_) (fun h2=>?_)
  ·have h0:val b64 o=0:=ar.2 (by omega)
   rw [h0,Int.gcd_zero_right] at a
   refine hK _ _ _ _ L am ?_
   rw [<- a,Int.natAbs_of_nonneg Q];exact Ma
  ·have bk:m1=1:=by omega
   obtain ⟨w,rfl⟩:∃ w,o=[w]:=by
    rcases o with _|⟨w,_|⟨w',r⟩⟩
    ·simp at X;omega
    ·exact ⟨w,rfl⟩
    ·simp at X;omega
   have hw:=dv w (by simp)
   rw [Z6] at *
   obtain ⟨t,rfl⟩:∃ t:Nat,w=(t:Int):=dU hw.1
   have bp:(t:Int)<18446744073709551616:=hw.2
   have ap:0<t:=by omega
   have sb:SlI .u64 hp B1 [(t:Int)]:=SlV.mono E.le W.slV
   refine sb.load X (by omega) (by omega) ?_
   refine sb.load X (by omega) (by omega) ?_
   show aZ _ _ #[_,U ((t:Nat):Int)] _ _
   refine Nz Ma ⟨ap,by omega⟩ (by omega) ⟨_,rfl,B5 _,?_⟩
   have r0:=aU (val b64 p) (b:=(t:Int)) (by omega)
   have r1:=aP (val b64 p) (show (0:Int)<(t:Int) by omega)
   have F:=B3n Q (show (0:Int)<=(t:Int) by omega)
   obtain ⟨r,hr⟩:=dU r0
   rw [hr] at r1 F ⊢
   show aZ _ _ #[U ((t:Nat):Int),_] _ _
   refine A49 (gl.mono L) (by omega) (by omega) ⟨_,rfl,B5 _,?_⟩
   rw [dT] at F
   have a1:eF t r<=t:=Nat.le_of_dvd ap (Nat.gcd_dvd_left t r)
   refine Ch (by omega) ?_
   intro A2 m2 c2 h2 l2 q M2
   rw [F,a] at M2
   exact ⟨_,_,_,rfl,l2,hK _ _ _ _ (B0 L l2) q M2⟩
def Oj{x y:Int}{an bn:Nat}(gl:Gtz h)(ma:Mw h A an x)(mb:Mw h B bn y)(ha:an<=ac)(hb:bn<=bc)(hl:an<=100000000)(hl2:bn<=100000000)(hK:∀ A' m c' h',h.le h'->m<=c'->Mw h' A' m (gL x y:Int)->K (.slice A' m c') h'):aZ prog Gv #[.slice A an ac,.slice B bn bc] h K:=by
 refine A4w _ _ _ _ _ _ ?_
 unfold A4x
 refine ⟨fun l p=>p=h/\∃ (A B:Option bH) (n c m d:Nat) (f e:Int),l=[.slice A n c,.slice B m d]/\Mw h A n f/\Mw h B m e/\e<=f/\n<=c/\m<=d/\n<=100000000/\m<=100000000/\gL f e=gL x y,?_,?_⟩
 ·refine J8 ma mb (by omega) ⟨_,rfl,B8 (fun b=>?_) (fun b=>?_)⟩
  ·rw [Dz] at b
   exact ⟨rfl,_,_,_,_,_,_,_,_,rfl,mb,ma,by omega,hb,ha,hl2,hl,Int.gcd_comm _ _⟩
  ·rw [Dz] at b
   exact ⟨rfl,_,_,_,_,_,_,_,_,rfl,ma,mb,by omega,ha,hb,hl,hl2,rfl⟩
 ·rintro A1 R c1 B1 m1 d1 p ⟨rfl,A2,B2,n,c,m,d,f,e,a,M1,M2,i,H,T,Z,W,o⟩
  simp only [bD,bW,and_true] at a
  obtain ⟨⟨rfl,rfl,rfl⟩,rfl,rfl,rfl⟩:=a
  have g:=M1.nonneg (by decide)
  refine D8 (fun b=>?_) (fun b=>?_)
  ·have:e=0:=(M2.len_zero (by decide)).2 (by omega)
   subst this
   rw [Int.gcd_zero_right] at o
   refine hK _ _ _ _ (B5 _) H ?_
   rw [<- o,Int.natAbs_of_nonneg g];exact M1
  ·obtain ⟨w,k,J,E,F,rfl⟩:=M1
   obtain ⟨D,j,C,M,nv,rfl⟩:=M2
   refine Fn J k (by omega) ?_
   intro A3 c3 Q S q r
   refine ⟨_,_,_,rfl,?_⟩
   refine Fn (SlV.mono (B0 q r.le) C) j (by omega) ?_
   intro A4 c4 V X G s
   refine ⟨_,_,_,rfl,?_⟩
   obtain ⟨O,L,t⟩:=r.after G
   obtain ⟨z,u,N⟩:=Priv.swap s t
   exact B7v gl ⟨w,D,z,O,B0 q L,u,N,E,M,F,nv,rfl,rfl,i,o,by omega⟩ hK
end
structure ZI (h:bB) (s:Bool) (A:Option bH) (n c:Nat) (z:Int):Prop where
 cap:n<=c
 mag:Mw h A n (z.natAbs:Int)
 sgn:s=decide (z<0)
def ZI.mono{h h':bB}{s:Bool}{A:Option bH}{n c:Nat}{z:Int}(i:ZI h s A n c z)(l:h.le h'):ZI h' s A n c z:=⟨i.cap,i.mag.mono l,i.sgn⟩
def ZI.zero{h:bB}{A:Option bH}:ZI h false A 0 0 0:=⟨aY _,Mag.zero,rfl⟩
def ZI.len{h:bB}{s:Bool}{A:Option bH}{n c m:Nat}{z:Int}(i:ZI h s A n c z)(hz:ZB m z)(hm:m<=6400000000):n<=100000000:=by
 obtain ⟨k,hk⟩:∃ k,k=100000000:=⟨_,rfl⟩
 rw [<- hk]
 refine i.mag.len_le (by decide) ?_
 rw [Ln]
 have b:(z.natAbs:Int)<2^m:=by
  have:((z.natAbs:Nat):Int)<((2^m:Nat):Int):=Int.ofNat_lt.2 hz
  simpa using this
 have a:=D4 (B:=2) (by decide) (show m<=64*k by omega)
 exact Int.lt_of_lt_of_le b a
def ZI.zeroIff{h:bB}{s:Bool}{A:Option bH}{n c:Nat}{z:Int}(i:ZI h s A n c z):z=0↔n=0:=by
 have:=i.mag.len_zero (by decide)
 omega
section
variable {h g:bB} {K:VP} {A B:Option bH} {s s':Bool} {an ac bn bc m:Nat} {x y:Int}
def Q3{v:Nat}{n c:Nat}{neg:Bool}(M:Mw h A n (v:Int))(hc:n<=c)(hK:∀ s,ZI h s A n c (if neg then -(v:Int) else v)->K (.agg #[.bool s,.slice A n c]) h):aZ prog S2 #[.bool neg,.slice A n c] h K:=by
 have a:=M.len_zero (by decide)
 refine B10 _ _ _ _ ?_
 unfold B54
 cases neg with
 | true=>
  refine Br.of (fun _=>hK _ ⟨hc,?_,?_⟩) (fun e=>by cases e)
  ·simpa using M
  ·simp only [if_true,decide_eq_decide];omega
 | false=>
  refine Br.of (fun e=>by cases e) (fun _=>hK _ ⟨hc,?_,?_⟩)
  ·simpa using M
  ·simp
def Dc(i:ZI h s A an ac x)(hK:∀ s',ZI h s' A an ac (-x)->K (.agg #[.bool s',.slice A an ac]) h):aZ prog Ol #[.agg #[.bool s,.slice A an ac]] h K:=by
 refine C2j _ _ _ _ ?_
 unfold C7d
 refine Q3 (neg:= !s) i.mag i.cap ?_
 intro c b
 have e:(if (!s)=true then -(x.natAbs:Int) else x.natAbs)= -x:=by
  have:=i.sgn
  by_cases a:x<0
  ·simp only [a,decide_true] at this;subst this;simp;omega
  ·simp only [a,decide_false] at this;subst this;simp;omega
 rw [e] at b
 exact ⟨_,_,_,_,rfl,hK _ b⟩
def Es(i:ZI h s A an ac x)(j:ZI h s' B bn bc y)(hx:ZB m x)(hy:ZB m y)(hm:m<=6400000000)(hK:∀ s1 A' n' c' h',h.le h'->ZI h' s1 A' n' c' (x+y)->K (.agg #[.bool s1,.slice A' n' c']) h'):aZ prog Rv #[.agg #[.bool s,.slice A an ac],.agg #[.bool s',.slice B bn bc]] h K:=by
 have q:=i.len hx hm
 have p:=j.len hy hm
 have f:=i.sgn
 have a:=j.sgn
 refine C2o _ _ _ _ _ _ _ _ ?_
 unfold C7h
 refine Br.of (fun e=>?_) (fun e=>?_)
 ·have e:s=s':=by simpa using e
  subst e
  refine T8 i.mag j.mag i.cap j.cap (by omega) (by omega) ?_
  intro A1 o c1 b d l M1
  refine ⟨_,_,_,rfl,d,?_⟩
  rw [<- eS] at M1
  refine Q3 (neg:=s) M1 l ?_
  intro s1 c
  refine ⟨_,_,_,_,rfl,B5 _,hK _ _ _ _ _ d ?_⟩
  have g:(if s=true then -((x.natAbs+y.natAbs:Nat):Int) else ((x.natAbs+y.natAbs:Nat):Int))=x+y:=by
   cases s with
   | true=>have b:=of_decide_eq_true f.symm;have k:=of_decide_eq_true a.symm;simp;omega
   | false=>have b:=of_decide_eq_false f.symm;have k:=of_decide_eq_false a.symm;simp;omega
  rw [g] at c
  exact c
 ·have e:s≠s':=by simpa using e
  refine J8 i.mag j.mag (by omega) ⟨_,rfl,B8 (fun b=>?_) (fun b=>?_)⟩
  ·have n:¬ (x.natAbs:Int)<y.natAbs:=by rw [<- Dz];omega
   refine I7 i.mag j.mag i.cap (by omega) (by omega) ?_
   intro A1 o c1 b d l M1
   refine ⟨_,_,_,rfl,d,?_⟩
   rw [show (x.natAbs:Int)-y.natAbs=((x.natAbs-y.natAbs:Nat):Int) by omega] at M1
   refine Q3 (neg:=s) M1 l ?_
   intro s1 c
   refine ⟨_,_,_,_,rfl,B5 _,hK _ _ _ _ _ d ?_⟩
   have g:(if s=true then -((x.natAbs-y.natAbs:Nat):Int) else ((x.natAbs-y.natAbs:Nat):Int))=x+y:=by
    cases s with
    | true=>cases s' with
     | true=>exact absurd rfl e
     | false=>have b:=of_decide_eq_true f.symm;have k:=of_decide_eq_false a.symm;rw [iP rfl];omega
    | false=>cases s' with
     | true=>have b:=of_decide_eq_false f.symm;have k:=of_decide_eq_true a.symm;rw [iN (by simp)];omega
     | false=>exact absurd rfl e
   rw [g] at c
   exact c
  ·have n:(x.natAbs:Int)<y.natAbs:=by rw [<- Dz];omega
   refine I7 j.mag i.mag j.cap (by omega) (by omega) ?_
   intro A1 o c1 b d l M1
   refine ⟨_,_,_,rfl,d,?_⟩
   rw [show (y.natAbs:Int)-x.natAbs=((y.natAbs-x.natAbs:Nat):Int) by omega] at M1
   refine Q3 (neg:=s') M1 l ?_
   intro s1 c
   refine ⟨_,_,_,_,rfl,B5 _,hK _ _ _ _ _ d ?_⟩
   have g:(if s'=true then -((y.natAbs-x.natAbs:Nat):Int) else ((y.natAbs-x.natAbs:Nat):Int))=x+y:=by
    cases s with
    | true=>cases s' with
     | true=>exact absurd rfl e
     | false=>have b:=of_decide_eq_true f.symm;have k:=of_decide_eq_false a.symm;rw [iN (by simp)];omega
    | false=>cases s' with
     | true=>have b:=of_decide_eq_false f.symm;have k:=of_decide_eq_true a.symm;rw [iP rfl];omega
     | false=>exact absurd rfl e
   rw [g] at c
   exact c
def N2(i:ZI h s A an ac x)(j:ZI h s' B bn bc y)(hx:ZB m x)(hy:ZB m y)(hm:m<=6400000000)(hK:∀ s1 A' n' c' h',h.le h'->ZI h' s1 A' n' c' (x*y)->K (.agg #[.bool s1,.slice A' n' c']) h'):aZ prog Cc #[.agg #[.bool s,.slice A an ac],.agg #[.bool s',.slice B bn bc]] h K:=by
 have n:=i.len hx hm
 have k:=j.len hy hm
 have b:=i.sgn
 have a:=j.sgn
 refine C2k _ _ _ _ _ _ _ _ ?_
 unfold C7e
 refine I8 i.mag j.mag i.cap j.cap (by omega) (by omega) ?_
 intro A1 l c1 g d f M1
 refine ⟨_,_,_,rfl,d,?_⟩
 rw [<- cD] at M1
 refine Q3 (neg:= !(s==s')) M1 f ?_
 intro s1 c
 refine ⟨_,_,_,_,rfl,B5 _,hK _ _ _ _ _ d ?_⟩
 have e:(if (!(s==s'))=true then -((x.natAbs*y.natAbs:Nat):Int) else ((x.natAbs*y.natAbs:Nat):Int))=x*y:=by
  rw [cD]
  cases s with
  | true=>cases s' with
   | true=>rw [show (x.natAbs:Int)= -x by have:=of_decide_eq_true b.symm;omega,show (y.natAbs:Int)= -y by have:=of_decide_eq_true a.symm;omega];show -x * -y=x*y;exact Int.neg_mul_neg x y
   | false=>rw [show (x.natAbs:Int)= -x by have:=of_decide_eq_true b.symm;omega,show (y.natAbs:Int)=y by have:=of_decide_eq_false a.symm;omega];show -(-x*y)=x*y;rw [Int.neg_mul,Int.neg_neg]
  | false=>cases s' with
   | true=>rw [show (x.natAbs:Int)=x by have:=of_decide_eq_false b.symm;omega,show (y.natAbs:Int)= -y by have:=of_decide_eq_true a.symm;omega];show -(x * -y)=x*y;rw [Int.mul_neg,Int.neg_neg]
   | false=>rw [show (x.natAbs:Int)=x by have:=of_decide_eq_false b.symm;omega,show (y.natAbs:Int)=y by have:=of_decide_eq_false a.symm;omega];rfl
 rw [e] at c
 exact c
def Dd(gl:Gtz h)(i:ZI h s A an ac x)(j:ZI h s' B bn bc y)(hx:ZB m x)(hy:ZB m y)(hm:m<=6400000000)(hK:∀ A' n' c' h',h.le h'->ZI h' false A' n' c' (gL x y:Int)->K (.agg #[.bool false,.slice A' n' c']) h'):aZ prog Om #[.agg #[.bool s,.slice A an ac],.agg #[.bool s',.slice B bn bc]] h K:=by
 have d:=i.len hx hm
 have a:=j.len hy hm
 refine C2m _ _ _ _ _ _ _ _ ?_
 unfold C7g
 refine Oj gl i.mag j.mag i.cap j.cap d a ?_
 intro A1 f c1 e b c M1
 refine ⟨_,_,_,rfl,hK _ _ _ _ b ⟨c,?_,?_⟩⟩
 ·rw [dT] at M1
  rw [cU]
  exact M1
 ·simp
def Qa(i:ZI h s A an ac x)(hK:K (I (Int.sign x)) h):aZ prog Vk #[.agg #[.bool s,.slice A an ac]] h K:=by
 have c:=i.zeroIff
 have b:=i.sgn
 refine B8i _ _ _ _ ?_
 unfold C4l
 refine D8 (fun e=>?_) (fun e=>?_)
 ·obtain rfl:x=0:=by omega
  simpa using hK
 ·refine Br.of (fun a=>?_) (fun a=>?_)
  ·subst a
   have:=of_decide_eq_true b.symm
   rw [Int.sign_eq_neg_one_of_neg this] at hK;exact hK
  ·subst a
   have:=of_decide_eq_false b.symm
   rw [Int.sign_eq_one_of_pos (by omega)] at hK;exact hK
end
section
variable {h g:bB} {K:VP} {A B:Option bH} {s s':Bool} {an ac bn bc m:Nat} {x y:Int}
def Bb(hs:s=decide (x<0)):(s=true/\x= -(x.natAbs:Int))\/(s=false/\x=(x.natAbs:Int)):=by
 by_cases h:x<0
 ·left;exact ⟨by rw [hs];simpa using h,by omega⟩
 ·right;exact ⟨by rw [hs];simpa using h,by omega⟩
def B76(a b:Nat):(a:Int).tdiv b=((a/b:Nat):Int)/\(-(a:Int)).tdiv (-(b:Int))=((a/b:Nat):Int)/\(-(a:Int)).tdiv b= -((a/b:Nat):Int)/\(a:Int).tdiv (-(b:Int))= -((a/b:Nat):Int):=by
 refine ⟨(cP a b).symm,?_,?_,?_⟩
 ·rw [Int.neg_tdiv,Int.tdiv_neg,Int.neg_neg,cP]
 ·rw [Int.neg_tdiv,cP]
 ·rw [Int.tdiv_neg,cP]
def B72(a b:Nat):(a:Int).tmod b=((a%b:Nat):Int)/\(-(a:Int)).tmod (-(b:Int))= -((a%b:Nat):Int)/\(-(a:Int)).tmod b= -((a%b:Nat):Int)/\(a:Int).tmod (-(b:Int))=((a%b:Nat):Int):=by
 refine ⟨(dK a b).symm,?_,?_,?_⟩
 ·rw [Int.neg_tmod,Int.tmod_neg,dK]
 ·rw [Int.neg_tmod,dK]
 ·rw [Int.tmod_neg,dK]
def A2z(i:ZI h s A an ac x)(j:ZI h s' B bn bc y)(hx:ZB m x)(hy:ZB m y)(hm:m<=6400000000)(hy0:y≠0)(hK:∀ s1 A1 n1 c1 s2 A2 n2 c2 h',h.le h'->ZI h' s1 A1 n1 c1 (x.tdiv y)->ZI h' s2 A2 n2 c2 (x.tmod y)->K (.tuple #[.agg #[.bool s1,.slice A1 n1 c1],.agg #[.bool s2,.slice A2 n2 c2]]) h'):aZ prog Vl #[.agg #[.bool s,.slice A an ac],.agg #[.bool s',.slice B bn bc]] h K:=by
 have r:=i.len hx hm
 have p:=j.len hy hm
 have o:=j.zeroIff
 have a:=Bb i.sgn
 have d:=Bb j.sgn
 refine B0x _ _ _ _ _ _ _ _ ?_
 unfold B4y
 refine D8 (fun e=>by omega) (fun _=>?_)
 refine V1 i.mag j.mag i.cap j.cap (by omega) (by omega) (by omega) ?_
 intro A1 q c1 A2 l c2 n g k f M1 M2
 refine ⟨_,_,_,_,_,_,rfl,?_⟩
 rw [<- eE] at M1
 rw [<- gO] at M2
 refine Q3 (neg:= !(s==s')) M1 k ?_
 intro s1 c
 refine ⟨_,_,_,_,rfl,B5 _,?_⟩
 refine Q3 (neg:=s) M2 f ?_
 intro s2 b
 refine ⟨_,_,_,_,rfl,B5 _,hK _ _ _ _ _ _ _ _ _ g ?_ ?_⟩
 ·have e:(if (!(s==s'))=true then -((x.natAbs/y.natAbs:Nat):Int) else ((x.natAbs/y.natAbs:Nat):Int))=x.tdiv y:=by
   have t:=B76 x.natAbs y.natAbs
   rcases a with ⟨rfl,hx'⟩|⟨rfl,hx'⟩<;>rcases d with ⟨rfl,hy'⟩|⟨rfl,hy'⟩<;>rw [<- hx',<- hy'] at t
   ·exact t.2.1.symm
   ·exact t.2.2.1.symm
   ·exact t.2.2.2.symm
   ·exact t.1.symm
  rw [e] at c;exact c
 ·have e:(if s=true then -((x.natAbs%y.natAbs:Nat):Int) else ((x.natAbs%y.natAbs:Nat):Int))=x.tmod y:=by
   have t:=B72 x.natAbs y.natAbs
   rcases a with ⟨rfl,hx'⟩|⟨rfl,hx'⟩<;>rcases d with ⟨rfl,hy'⟩|⟨rfl,hy'⟩<;>rw [<- hx',<- hy'] at t
   ·exact t.2.1.symm
   ·exact t.2.2.1.symm
   ·exact t.2.2.2.symm
   ·exact t.1.symm
  rw [e] at b;exact b
def F5(i:ZI h s A an ac x)(hK:K (.bool (decide (x=0))) h):aZ prog F0 #[.agg #[.bool s,.slice A an ac]] h K:=by
 have b:=i.zeroIff
 refine B0y _ _ _ _ ?_
 unfold B4z
 have:((an:Int)==0)=decide (x=0):=by
  by_cases a:x=0
  ·simp [a,b.1 a]
  ·have:¬ an=0:=fun e=>a (b.2 e)
   simp [a,this]
 rw [this];exact hK
def V3(i:ZI h s A an ac x)(hK:K (.bool (decide (x=1))) h):aZ prog Ci #[.agg #[.bool s,.slice A an ac]] h K:=by
 have f:=Bb i.sgn
 have k:=i.zeroIff
 have M:=i.mag
 refine B50 _ _ _ _ ?_
 unfold C0b
 rcases f with ⟨rfl,l⟩|⟨rfl,l⟩
 ·refine Br.of (fun e=>by cases e) (fun _=>?_)
  rw [show decide (x=1)=false by simp;omega] at hK;exact hK
 ·refine Br.of (fun _=>?_) (fun e=>by cases e)
  obtain ⟨d,a,g,o,n,c⟩:=M
  refine D8 (fun e=>?_) (fun e=>?_)
  ·obtain ⟨w,rfl⟩:∃ w,d=[w]:=by
    rcases d with _|⟨w,_|⟨m,r⟩⟩
    ·simp at a;omega
    ·exact ⟨w,rfl⟩
    ·simp at a;omega
   refine g.load a (by omega) (by omega) ?_
   rw [Z6] at c
   show K (.bool (w==1)) h
   have:(w==1)=decide (x=1):=by
    by_cases b:x=1
    ·have:w=1:=by omega
     simp [b,this]
    ·have:¬ w=1:=by omega
     simp [b,this]
   rw [this];exact hK
  ·have:¬ x=1:=by
    rintro rfl
    have b:=i.mag.len_le (j:=1) (by decide) (by decide)
    have p:¬ an=0:=fun e=>by have:=k.2 e;omega
    omega
   rw [show decide (x=1)=false by simp [this]] at hK;exact hK
def R7(i:ZI h s A an ac x)(j:ZI h s' B bn bc y)(hx:ZB m x)(hy:ZB m y)(hm:m<=6400000000)(hy0:y≠0)(hK:∀ s1 A1 n1 c1 h',h.le h'->ZI h' s1 A1 n1 c1 (x.tdiv y)->K (.agg #[.bool s1,.slice A1 n1 c1]) h'):aZ prog Fg #[.agg #[.bool s,.slice A an ac],.agg #[.bool s',.slice B bn bc]] h K:=by
 refine C2i _ _ _ _ _ _ _ _ ?_
 unfold C7c
 refine V3 j ⟨_,rfl,B8 (fun e=>?_) (fun e=>?_)⟩
 ·subst e
  exact hK _ _ _ _ _ (B5 _) (by rw [Int.tdiv_one];exact i)
 ·refine A2z i j hx hy hm hy0 ?_
  intro s1 A1 n1 c1 c A2 f c2 d b a g
  exact ⟨_,_,_,_,_,_,_,_,rfl,hK _ _ _ _ _ b a⟩
def A5t(i:ZI h s A an ac x)(j:ZI h s' B bn bc y)(hx:ZB m x)(hm:m<=6400000000)(hK:K (.bool (decide (x=y))) h):aZ prog A1h #[.agg #[.bool s,.slice A an ac],.agg #[.bool s',.slice B bn bc]] h K:=by
 have l:=i.len hx hm
 have f:=Bb i.sgn
 have g:=Bb j.sgn
 have c:=i.sgn
 have d:=j.sgn
 refine B52 _ _ _ _ _ _ _ _ ?_
 unfold C0d
 refine Br.of (fun e=>?_) (fun e=>?_)
 ·have e:s=s':=by simpa using e
  refine J8 i.mag j.mag (by omega) ⟨_,rfl,?_⟩
  have:(Xl (x.natAbs:Int) y.natAbs==0)=decide (x=y):=by
   by_cases b:x=y
   ·subst b;unfold Xl;simp
   ·have k:¬ x.natAbs=y.natAbs:=by
     rcases f with ⟨rfl,hx'⟩|⟨rfl,hx'⟩<;>rcases g with ⟨a,hy'⟩|⟨a,hy'⟩<;>(rw [<- e] at a)<;>first|omega|(cases a)
    unfold Xl
    by_cases a:(x.natAbs:Int)<y.natAbs
    ·rw [iP a];simp [b]
    ·rw [iN a,iP (by omega)];simp [b]
  rw [this];exact hK
 ·have e:s≠s':=by simpa using e
  have:¬ x=y:=by rintro rfl;exact e (c.trans d.symm)
  rw [show decide (x=y)=false by simp [this]] at hK;exact hK
def Db{n:Int}(h1: -9223372036854775808<=n)(h2:n<=9223372036854775807)(hK:∀ s1 A1 n1 c1 h',h.le h'->ZI h' s1 A1 n1 c1 n->K (.agg #[.bool s1,.slice A1 n1 c1]) h'):aZ prog Rw #[I n] h K:=by
 refine C2p _ ?_
 unfold C7i
 refine B8 (fun b=>?_) (fun b=>?_)
 ·have e:C3 (0-C3 n)=(n.natAbs:Int):=by rw [F6,F6];omega
  rw [e]
  refine Ch (by omega) ?_
  intro A1 d c1 h1 c a M1
  exact ⟨_,_,_,rfl,hK _ _ _ _ _ c ⟨a,M1,by simpa using b⟩⟩
 ·have e:C3 n=(n.natAbs:Int):=by rw [F6];omega
  rw [e]
  refine Ch (by omega) ?_
  intro A1 d c1 h1 c a M1
  exact ⟨_,_,_,rfl,hK _ _ _ _ _ c ⟨a,M1,by simpa using b⟩⟩
end
def A9t{P:dI}{t d e:bV}(ht:P.underlying t=some .string)(hd:P.underlying d=some (.slice e))(he:P.underlying e=some (.int .u8)){h:bB}{l:List UInt8}{K:VP}
 (x:∀ A c h',h.le h'->l.length<=c->SlV h' A (yv l)->K (.slice A l.length c) h'):wpH P (convert t d (.string (bs l))) K h:=by
 unfold convert
 simp only [C8,F4 ht,F4 hd,F4 he]
 unfold Conv.stringToBytes
 simp only [C8]
 refine Jy rfl (fun tt=>?_)
 have a:(bs l).size=l.length:=by simp [bs,fE]
 have f:l.length<=(Question.appendCap (bs l).size 0 e).cut tt:=by
  rw [a];simp only [Question.cut];omega
 generalize (Question.appendCap (bs l).size 0 e).cut tt=cap at *
 rw [S9]
 intro b p
 generalize hcs:((bs l).data.map (fun b=>bC .u8 b.toNat)++fW (cap-(bs l).size) (bC .u8 0))=cs
 have m:h.le (h.put b (.cells cs e (cs.size,cs.size+1))):=Heap.le_put _ p
 have j:(h.put b (.cells cs e)).freeze { block:=b,off:=cs.size } 1=h.put b (.cells cs e (cs.size,cs.size+1)):=by
  unfold Heap.freeze
  rw [iN (by decide)]
  funext k
  by_cases g:k=b
  ·subst g
   simp only [if_true,C2,gQ]
   rfl
  ·rw [iN g,C0 _ _ g,C0 _ _ g]
 refine ⟨cs,e,_,C2 _ _ _,?_⟩
 refine ⟨⟨_,C2 _ _ _⟩,?_⟩
 show K (.slice (some ⟨b,0,none⟩) (bs l).size cap) ((h.put b (.cells cs e)).freeze { block:=b,off:=cs.size } 1)
 rw [j,a]
 refine x _ _ _ m f (.inr ⟨_,rfl,?_⟩)
 intro i v n
 have q:i<l.length:=by
  have:=(List.getElem?_eq_some_iff.1 n).1
  simpa [yv] using this
 have o:eM ⟨b,0,none⟩ i=⟨b,i,none⟩:=by rw [E6,eX]
 rw [o,E8,<- hcs,Array.getElem?_append_left (by simp [bs];exact q)]
 rw [<- n]
 simp [yv,bs]
def ZB.tdiv{m:Nat}{x y:Int}(h:ZB m x):ZB m (x.tdiv y):=by
 unfold ZB at *
 rw [Int.natAbs_tdiv]
 exact Nat.lt_of_le_of_lt (eP _ _) h
section
variable {h g:bB} {K:VP} {A B:Option bH} {s s':Bool} {an ac bn bc m:Nat} {x y:Int}
end
def B0a{ws:List Int}{k:Nat}(d:Dig b64 ws)(hl:ws.length=k+1)(h:b64^k<=val b64 ws):gD ws:=by
 unfold gD
 intro e
 rw [gV,hl,gI] at e
 have:=(Ct (B:=b64) (by decide) d hl).1
 have a:ws.getD k 0=0:=by simp [cR,e]
 rw [a] at this
 omega
section
variable {h g:bB} {K:VP} {A B:Option bH} {ac bc:Nat}
def B89{Invv:LP}{muv:LN}{d1:ByteArray}{n c:Nat}{chunk base:Int}{us:List Int}{hp hp2:bB}(p:Pw hp2 g A n c us)(hn:n=us.length)(du:Dig b64 us)(nu:gD us)(hl:n<=100000000)(hch:0<=chunk/\chunk<18446744073709551616)(hba:1<=base/\base<18446744073709551616)
 (hK:∀ A' n' c' us' h' g',g.le g'->Pw h' g' A' n' c' us'->n'=us'.length->n'<=n+1->Dig b64 us'->gD us'->val b64 us'=chunk+base*val b64 us->Invv [.string ((d1).extract ((B7 ((dO (B7 (((fE d1:Nat):Int)-(1:Int))) (19:Int))+(1:Int))).toNat) ((d1).size)),.slice A' n' c'] h'/\muv [.string ((d1).extract ((B7 ((dO (B7 (((fE d1:Nat):Int)-(1:Int))) (19:Int))+(1:Int))).toNat) ((d1).size)),.slice A' n' c'] h'<muv [.string d1,.slice A n c] hp):
 Z1 prog Invv muv d1 A n c chunk base hp hp2:=by
 have E:=C9 (by decide) du
 unfold Z1
 refine ⟨fun l o=>∃ (k:Nat) (j:Int) (d:List Int),l=[U j,I k]/\k<=n/\(0<=j/\j<18446744073709551616)/\d.length=us.length/\Dig b64 d/\Pw o g A n c d/\d.drop k=us.drop k/\val b64 (d.take k)+b64^k*j=chunk+base*val b64 (us.take k),fun l _=>n-(iAt l 1).toNat,⟨0,chunk,us,rfl,by omega,hch,rfl,du,p,rfl,by simp [val]⟩,?_⟩
 rintro j i o ⟨k,F,d,C,hk,s,e,t,pw,z,B⟩
 obtain ⟨rfl,rfl⟩:j=F/\i=(k:Int):=by simpa using C
 refine B8 (fun W=>?_) (fun W=>?_)
 ·have N:=O7 t k
  have G:=E7 z
  have T:=C7 b64 us k
  have y:d≠[]:=by rintro rfl;simp at e;omega
  obtain ⟨b,Q,w,hc⟩:=Fv pw y
  refine w.sl.load (by omega) (by omega) (by omega) ?_
  simp only [aC]
  generalize hx:d.getD k 0=x at *
  refine U5 N (by omega) s ⟨_,_,rfl,?_⟩
  obtain ⟨a,O,_⟩:=SlV.at w.sl (i:=k) (by simp;omega)
  refine ⟨a,O,by omega,by omega,w.storeN G8 O (by omega) ?_⟩
  intro h4 X
  have bP:=Of N (show 0<=base/\base<18446744073709551616 by omega) s
  have V:=A42 (x*base+j)
  have R:B7 ((k:Int)+1)=((k+1:Nat):Int):=by rw [C1 (by omega) (by omega)];omega
  rw [R]
  have J:=X.priv (m:=n) (c:=c) (by intro S;have:=congrArg gP S;rw [bO,gR] at this;exact y (aM this)) (by simpa using hc) (by simp;omega)
  rw [aL (by simp;omega)] at J
  refine ⟨⟨k+1,_,_,rfl,by omega,bP,by simpa using e,t.set (Fe _),J,?_,?_⟩,by simp only [iAt,aG,aI];omega⟩
  ·rw [D7 (by omega)];exact E5 z
  ·rw [D3 (by omega),F7,aF,aJ (by omega),bF,T,<- G,V]
   show _+b64^k*_+b64^k*18446744073709551616*_=_
   generalize (x*base+j)/18446744073709551616=q at *
   grind
 ·obtain rfl:k=n:=by omega
  rw [aL (show d.length<=k by omega),aL (show us.length<=k by omega)] at B
  refine F8 (fun D=>?_) (fun D=>?_)
  ·refine Eh R5 pw rfl rfl (by omega) (by omega) ?_
   intro A5 c5 h5 g5 Z L
   rw [<- List.map_singleton (f:=bC .u64),<- dQ] at L
   refine hK A5 (k+1) c5 (d++[j]) h5 g5 Z L (by simp;omega) (by omega) (t.append (Dig.one s)) ?_ ?_
   ·unfold gD;simpa using D
   ·rw [F7,<- B,e,<- hn]
  ·subst D
   rw [fR,fS] at B
   refine hK A k c d o g (B5 _) pw (by omega) (by omega) t ?_ B
   rcases us with _|⟨u,r⟩
   ·have:d=[]:=aM (by simpa using e)
    rw [this];exact Norm.nil
   ·refine B0a (k:=r.length) t (by simpa using e) ?_
    have M:Mw hp2 A k (val b64 (u::r)):=⟨_,hn,p.slV,du,nu,rfl⟩
    have H:=M.ge (by decide) (by simp at hn;omega)
    rw [show k-1=r.length by simp at hn;omega] at H
    have:1*val b64 (u::r)<=base*val b64 (u::r):=aE hba.1 E
    omega
end
section
variable {h g:bB} {K:VP} {A B:Option bH} {ac bc:Nat}
def B9f{k:Nat}(h:k<=19):10^k<=10000000000000000000:=fB (bL (by decide) h) (by decide)
def B0s{Invv:LP}{muv:LN}{d1:ByteArray}{n c tn:Nat}{T:Option bH}{l:List UInt8}{hp hp1:bB}(sv:SlV hp1 T (yv l))(ht:tn=l.length)(hd:∀ c∈l,J2 c)(h19:l.length<=19)
 (hK:(0<=B7 ((dO (B7 (((fE d1:Nat):Int)-(1:Int))) (19:Int))+(1:Int))/\B7 ((dO (B7 (((fE d1:Nat):Int)-(1:Int))) (19:Int))+(1:Int))<=(((d1).size:Nat):Int))/\Z1 prog Invv muv d1 A n c (N8 l:Int) ((10^l.length:Nat):Int) hp hp1):
 Eo prog Invv muv d1 A n c T tn hp1 hp:=by
 subst ht
 unfold Eo
 refine ⟨fun s hp=>hp=hp1/\∃ k:Nat,s=[U (N8 (l.take k)),U ((10^k:Nat):Int),I k]/\k<=l.length,fun s _=>l.length-(iAt s 2).toNat,⟨rfl,0,by simp [N8],by omega⟩,?_⟩
 rintro y B i r ⟨rfl,k,b,z⟩
 simp only [bD,bZ,and_true,true_and] at b
 obtain ⟨rfl,rfl,rfl⟩:=b
 refine B8 (fun o=>?_) (fun o=>?_)
 ·have d:k<l.length:=by omega
  obtain ⟨a,t,g⟩:=SlV.at sv (i:=k) (by rw [Ic];omega)
  have j:=hd l[k] (eC d)
  have e:=Qz (l:=l.take k) (fun c g=>hd c (gC g))
  rw [aF,aJ (by omega)] at e
  have w:=B9f (k:=k+1) (by omega)
  have f:10^(k+1)=10^k*10:=eZ _ _
  refine ⟨a,t,by omega,by omega,((l[k].toNat:Nat):Int),?_,?_⟩
  ·rw [aC,cJ,g];simp [yv]
  ·unfold J2 at j
   have m:C3 (wu8 (((l[k].toNat:Nat):Int)-48))=((l[k].toNat-48:Nat):Int):=by
    rw [A33 (by omega) (by omega),C5 (by omega) (by omega)];omega
   have q:C3 (C3 (10*((N8 (l.take k):Nat):Int))+C3 (wu8 (((l[k].toNat:Nat):Int)-48)))=((N8 (l.take (k+1)):Nat):Int):=by
    rw [m,C5 (n:=10*((N8 (l.take k):Nat):Int)) (by omega) (by omega),C5 (by omega) (by omega),dX d,Pe];omega
   have p:C3 (((10^k:Nat):Int)*10)=((10^(k+1):Nat):Int):=by rw [C5 (by omega) (by omega),f];simp
   have u:B7 ((k:Int)+1)=((k+1:Nat):Int):=by rw [C1 (by omega) (by omega)];omega
   rw [q,p,u]
   exact ⟨⟨rfl,k+1,rfl,by omega⟩,by simp only [iAt,aG,aI];omega⟩
 ·obtain rfl:k=l.length:=by omega
  rw [aW]
  exact hK
def Sq{l:List UInt8}(hd:∀ c∈l,J2 c)(hl:l.length<=100000000)(hK:∀ A n c h',h.le h'->n<=c->Mw h' A n (N8 l:Int)->K (.slice A n c) h'):aZ prog O1 #[.string (bs l)] h K:=by
 refine Ws _ ?_
 unfold Sd Lh
 refine ⟨fun s D=>∃ (f a:List UInt8) (e:List Int) (A:Option bH) (n c:Nat) (g:bB),s=[.string (bs a),.slice A n c]/\l=f++a/\h.le g/\Pw D g A n c e/\n=e.length/\Dig b64 e/\gD e/\val b64 e=(N8 f:Int)/\n<=f.length,fun s _=>match s with|[.string d,_]=>d.size|_=>0,⟨[],l,[],none,0,0,h,rfl,rfl,B5 h,Priv.nil _ _ _ _,rfl,Dig.nil,Norm.nil,rfl,by omega⟩,?_⟩
 rintro d1 A1 n1 c1 D ⟨f,a,e,A2,n2,c2,g,H,b,J,p,L,E,F,B,Z⟩
 simp only [bD,bW,Value.string.injEq,and_true] at H
 obtain ⟨rfl,rfl,rfl,rfl⟩:=H
 have G:l.length=f.length+a.length:=by rw [b,aH]
 rw [L5]
 refine B8 (fun N=>?_) (fun N=>?_)
 ·obtain ⟨sz,hsz⟩:∃ sz,sz=(a.length-1)%19+1:=⟨_,rfl⟩
  have i:B7 (dO (B7 ((a.length:Int)-1)) 19+1)=(sz:Int):=by
   rw [C1 (n:=(a.length:Int)-1) (by omega) (by omega),bY (by omega),C1 (by omega) (by omega)];omega
  rw [i,aC,O8]
  refine ⟨⟨by omega,by omega⟩,A9t Z7 Hr.und Ev ?_⟩
  intro T tc h2 R O C
  refine ⟨_,_,_,rfl,?_⟩
  have S:(a.drop 0).take (sz-0)=a.take sz:=by simp
  rw [S] at C ⊢
  have m:(a.take sz).length=sz:=by rw [aF];omega
  obtain ⟨g2,o,W⟩:=p.after R
  refine B0s C rfl (fun c z=>hd c (by rw [b];exact List.mem_append_right _ (gC z))) (by omega) ?_
  rw [L5,i]
  refine ⟨⟨by omega,by omega⟩,?_⟩
  have j:=Qz (l:=a.take sz) (fun c z=>hd c (by rw [b];exact List.mem_append_right _ (gC z)))
  rw [m] at j ⊢
  have ht:=B9f (k:=sz) (by omega)
  have aa:0<10^sz:=cX (by decide)
  refine B89 W L E F (by omega) (by omega) (by omega) ?_
  intro A' Q V y h' g' q X r M w t u
  rw [L5,i,aC,O8,aL (by rw [aN];omega)]
  refine ⟨⟨f++a.take sz,a.drop sz,y,A',Q,V,g',rfl,by rw [aR,cL];exact b,B0 J (B0 o q),X,r,w,t,?_,by rw [aH,m];omega⟩,?_⟩
  ·rw [u,B,Hj,m,eS,cD,aS];omega
  ·simp only [L5,aN];omega
 ·have:a=[]:=aM (by omega)
  subst this
  rw [cC] at b
  subst b
  exact hK _ _ _ _ (B0 J p.le) p.2.1 ⟨e,L,p.slV,E,F,B⟩
end
def zb(l:List UInt8):List Int:=l.map fun c=>(c.toNat:Int)
def Ia(l:List UInt8):(zb l).length=l.length:=by simp [zb]
def A31(a b:List UInt8):zb (a++b)=zb a++zb b:=by simp [zb]
def C3f(l:List UInt8):(zb l).map (bC .u8)=yv l:=by simp [zb,yv]
def A9z:∀ v,v<100->K0[2*v+1]? = some (dch (v%10))/\K0[2*v]? = some (dch (v/10)):=by decide +kernel
def A3b(a:Nat):dO (a:Int) 100=((a%100:Nat):Int):=(dK a 100).symm
def tm4(a:Nat):dO (a:Int) 10000=((a%10000:Nat):Int):=(dK a 10000).symm
def tm8(a:Nat):dO (a:Int) 100000000=((a%100000000:Nat):Int):=(dK a 100000000).symm
def A63(a:Nat):cT (a:Int) 100=((a/100:Nat):Int):=(cP a 100).symm
def td4(a:Nat):cT (a:Int) 10000=((a/10000:Nat):Int):=(cP a 10000).symm
def td8(a:Nat):cT (a:Int) 100000000=((a/100000000:Nat):Int):=(cP a 100000000).symm
def Hz{a:Nat}(h:a<4294967296):H0 (a:Int)=a:=P7 (by omega) (by omega)
def Oe(a:Nat):(a:Int)*2=((2*a:Nat):Int):=by omega
def A7d(a:Nat):(a:Int)+1=((a+1:Nat):Int):=by omega
def FBI(g:bB)(b:Nat)(e:bV)(A:Option bH)(pre post:List dD)(N u0 nd u:Nat)(hp:bB):Prop:=
 ∃ (ys:List Int) (t:List UInt8),Win .u8 hp g b e A pre (ys++zb t) post/\ys.length=nd/\nd+t.length=N/\pad N u0=pad nd u++t/\u<10^nd
section
variable {P:dI} {h g:bB} {K:VP} {A:Option bH} {b:Nat} {e:bV} {pre post:List dD}
def Lo(one:P.cellsOf 5=1/\(P.info? 5).isSome=true){N u0 j u:Nat}(f:FBI g b e A pre post N u0 (j+2) u h){E1 E0 I1 I2:Int}(h1:E1=((2*(u%100)+1:Nat):Int))(h0:E0=((2*(u%100):Nat):Int))(hI1:I1=((j+1:Nat):Int))(hI2:I2=(j:Int)){C:bB->Prop}(hC:∀ h',FBI g b e A pre post N u0 j (u/100) h'->C h'):
 ∃ (t:UInt8),(0<=E1/\K0[E1.toNat]? = some t)/\∃ (t0:UInt8),(0<=E0/\K0[E0.toNat]? = some t0)/\∃ a1,A=some a1/\0<=I1/\I1<((N:Nat):Int)/\wpH P (dP 5 (.pointer (some (eM a1 (I1.toNat*1)))) (Y ((t.toNat:Nat):Int))) (fun _ hp1=>∃ a2,A=some a2/\0<=I2/\I2<((N:Nat):Int)/\wpH P (dP 5 (.pointer (some (eM a2 (I2.toNat*1)))) (Y ((t0.toNat:Nat):Int))) (fun _ hp2=>C hp2) hp1) h:=by
 subst h1 h0 hI1 hI2
 obtain ⟨c,t,w,B,D,r,i⟩:=f
 obtain ⟨s,l⟩:=A9z (u%100) (by omega)
 have z:∃ a,A=some a:=by
  rcases w.at_ with h0|h0
  ·have:=congrArg gP h0
   rw [aH,gR] at this;omega
  ·exact ⟨_,h0⟩
 obtain ⟨a,d⟩:=z
 have m:(c++zb t).length=N:=by rw [aH,Ia];omega
 refine ⟨_,⟨by omega,by rw [aC];exact s⟩,_,⟨by omega,by rw [aC];exact l⟩,a,d,by omega,by omega,?_⟩
 rw [aC]
 refine w.storeN one d (by omega) ?_
 intro E y
 refine ⟨a,d,by omega,by omega,?_⟩
 rw [aC]
 refine y.storeN one d (by rw [bO];omega) ?_
 intro q k
 refine hC q ⟨c.take j,[dch (u/10%10),dch (u%10)]++t,?_,by rw [aF];omega,by simp;omega,?_,?_⟩
 ·have n:((c++zb t).set (j+1) ((dch (u%100%10)).toNat:Int)).set j ((dch (u%100/10)).toNat:Int)=c.take j++zb ([dch (u/10%10),dch (u%10)]++t):=by
   have o:c=c.take j++[c[j]'(by omega),c[j+1]'(by omega)]:=by
    conv=>lhs;rw [<- cL j c]
    congr 1
    rw [cG (by omega),cG (by omega),aV (by omega)]
   have p:(c.take j).length=j:=by rw [aF];omega
   rw [o,show u%100%10=u%10 by omega,show u%100/10=u/10%10 by omega]
   generalize c[j]'_=y0
   generalize c[j+1]'_=y1
   rw [cN (by omega),aL (show (c.take j).length<=j by omega)]
   generalize c.take j=zs at *
   rw [aR,fX _ _ (by omega),fX _ _ (by omega),p,A31]
   simp [zb]
  rw [n] at k;exact k
 ·rw [r,C1u];simp
 ·rw [dS] at i
  exact Nat.div_lt_of_lt_mul (by rw [fA];exact i)
end
section
variable {h g:bB} {K:VP} {A:Option bH} {b:Nat} {e:bV} {pre post:List dD}
def Nj:prog.cellsOf 5=1/\(prog.info? 5).isSome=true:=A9x
def C45{N u0 nd x:Nat}(hN:N<=24)(f:FBI g b e A pre post N u0 nd x h)(hn:nd<2)(hK:∀ h',Win .u8 h' g b e A pre (zb (pad N u0)) post->K (.tuple #[]) h'):Bz prog A N K nd x h:=by
 obtain ⟨j,t,w,c,hN,l,k⟩:=f
 unfold Bz
 refine B8 (fun p=>?_) (fun p=>?_)
 ·obtain rfl:nd=1:=by omega
  obtain ⟨y,rfl⟩:∃ y,j=[y]:=by
   rcases j with _|⟨y,_|⟨z,r⟩⟩
   ·simp at c
   ·exact ⟨y,rfl⟩
   ·simp at c
  have s:∃ a,A=some a:=by
   rcases w.at_ with d|d
   ·simp at d
   ·exact ⟨_,d⟩
  obtain ⟨a,m⟩:=s
  refine ⟨a,m,by omega,by omega,?_⟩
  rw [show ((0:Int)).toNat=0 from rfl]
  refine w.storeN Nj m (by simp) ?_
  intro q n
  refine hK q ?_
  have i:x<10:=by simpa using k
  have ev:wu8 (H0 (48+(x:Int)))=((dch x).toNat:Int):=by
   rw [P7 (by omega) (by omega),A33 (by omega) (by omega),Fm i];omega
  rw [ev] at n
  have o:pad 1 x=[dch x]:=by
   rw [Tg,B2t _ (by omega),show x%10=x by omega];rfl
  rw [l,o,A31]
  simpa [zb] using n
 ·obtain rfl:nd=0:=by omega
  have:j=[]:=aM c
  subst this
  have i:x=0:=by simpa using k
  refine hK h ?_
  rw [l,B2t _ i]
  simpa using w
def C44{N u0 nd x:Nat}(hN:N<=24)(f:FBI g b e A pre post N u0 nd x h)(hn:nd<4)(hK:∀ h',Win .u8 h' g b e A pre (zb (pad N u0)) post->K (.tuple #[]) h'):Ca prog A N K nd x h:=by
 unfold Ca
 have s:x<10000:=by
  obtain ⟨_,_,_,_,_,_,m⟩:=f
  exact cM m (fB (bL (by decide) (show nd<=4 by omega)) (by decide))
 refine ⟨fun l d=>∃ nd x:Nat,l=[I nd,U32 x]/\FBI g b e A pre post N u0 nd x d/\nd<2,B8 (fun n=>?_) (fun n=>?_),?_⟩
 ·obtain ⟨j,rfl⟩:∃ j,nd=j+2:=⟨nd-2,by omega⟩
  refine Lo Nj f ?_ ?_ (by rw [C1 (by omega) (by omega)];omega) (by rw [C1 (by omega) (by omega)];omega) ?_
  ·simp (disch:=omega) only [A3b,Hz,Oe,A7d]
  ·simp (disch:=omega) only [A3b,Hz,Oe]
  ·intro t q
   refine ⟨j,x/100,?_,q,by omega⟩
   rw [C1 (by omega) (by omega),A63,Hz (by omega)]
   simp only [bD,bZ,and_true,true_and];omega
 ·exact ⟨nd,x,rfl,f,by omega⟩
 ·rintro c r d ⟨o,p,k,i,a⟩
  obtain ⟨rfl,rfl⟩:c=(o:Int)/\r=(p:Int):=by simpa using k
  exact C45 hN i a hK
def Af{u an ac:Nat}{xs:List Int}(w:Win .u8 h g b e A pre xs post)(hn:an=xs.length)(hN:an<=24)(hu:u<10^an)(hu2:u<18446744073709551616)(hK:∀ h',Win .u8 h' g b e A pre (zb (pad an u)) post->K (.tuple #[]) h'):aZ prog S5 #[.slice A an ac,U (u:Int)] h K:=by
 refine Td _ _ _ _ ?_
 unfold Px
 refine ⟨fun l d=>∃ a v:Nat,l=[U v,I a]/\FBI g b e A pre post an u a v d/\v<=u,fun l _=>(iAt l 1).toNat,⟨an,u,rfl,⟨xs,[],by simpa [zb] using w,hn.symm,by simp,by simp,hu⟩,aY _⟩,?_⟩
 rintro D m d ⟨a,v,q,f,M⟩
 obtain ⟨rfl,rfl⟩:D=(v:Int)/\m=(a:Int):=by simpa using q
 have y:a<=an:=by obtain ⟨_,_,_,_,hN,_,_⟩:=f;omega
 refine B8 (fun z=>?_) (fun z=>?_)
 ·obtain ⟨j,rfl⟩:∃ j,a=j+8:=⟨a-8,by omega⟩
  refine Lo (j:=j+6) Nj f ?_ ?_ (by rw [C1 (by omega) (by omega)];omega) (by rw [C1 (by omega) (by omega)];omega) ?_
  ·simp (disch:=omega) only [tm8,tm4,A3b,Hz,Oe,A7d];omega
  ·simp (disch:=omega) only [tm8,tm4,A3b,Hz,Oe];omega
  intro p C
  refine Lo (j:=j+4) Nj C ?_ ?_ (by rw [C1 (by omega) (by omega)];omega) (by rw [C1 (by omega) (by omega)];omega) ?_
  ·simp (disch:=omega) only [tm8,tm4,A63,Hz,Oe,A7d];omega
  ·simp (disch:=omega) only [tm8,tm4,A63,Hz,Oe];omega
  intro t c
  refine Lo (j:=j+2) Nj c ?_ ?_ (by rw [C1 (by omega) (by omega)];omega) (by rw [C1 (by omega) (by omega)];omega) ?_
  ·simp (disch:=omega) only [tm8,A3b,td4,Hz,Oe,A7d];omega
  ·simp (disch:=omega) only [tm8,A3b,td4,Hz,Oe];omega
  intro B i
  refine Lo (j:=j) Nj i ?_ ?_ (by rw [C1 (by omega) (by omega)];omega) (by rw [C1 (by omega) (by omega)];omega) ?_
  ·simp (disch:=omega) only [tm8,A63,td4,Hz,Oe,A7d];omega
  ·simp (disch:=omega) only [tm8,A63,td4,Hz,Oe];omega
  intro N L
  have r:B7 (((j+8:Nat):Int)-8)=(j:Int):=by rw [C1 (by omega) (by omega)];omega
  have E:C3 (cT (v:Int) 100000000)=((v/100/100/100/100:Nat):Int):=by
   rw [td8,C5 (by omega) (by omega)];omega
  rw [r,E]
  exact ⟨⟨j,_,rfl,L,by omega⟩,by simp only [iAt,aG,aI];omega⟩
 ·have J:v<100000000:=by
   obtain ⟨_,_,_,_,_,_,hu⟩:=f
   exact cM hu (fB (bL (by decide) (show a<=8 by omega)) (by decide))
  refine ⟨fun l d=>∃ a x:Nat,l=[I a,U32 x]/\FBI g b e A pre post an u a x d/\a<4,B8 (fun p=>?_) (fun p=>?_),?_⟩
  ·obtain ⟨j,rfl⟩:∃ j,a=j+4:=⟨a-4,by omega⟩
   refine Lo (j:=j+2) Nj f ?_ ?_ (by rw [C1 (by omega) (by omega)];omega) (by rw [C1 (by omega) (by omega)];omega) ?_
   ·simp (disch:=omega) only [tm4,A3b,Hz,Oe,A7d];omega
   ·simp (disch:=omega) only [tm4,A3b,Hz,Oe];omega
   intro t c
   refine Lo (j:=j) Nj c ?_ ?_ (by rw [C1 (by omega) (by omega)];omega) (by rw [C1 (by omega) (by omega)];omega) ?_
   ·simp (disch:=omega) only [tm4,A63,Hz,Oe,A7d];omega
   ·simp (disch:=omega) only [tm4,A63,Hz,Oe];omega
   intro B i
   refine ⟨j,v/100/100,?_,i,by omega⟩
   rw [C1 (by omega) (by omega),Hz (by omega),td4,Hz (by omega)]
   simp only [bD,bZ,and_true,true_and];omega
  ·exact ⟨a,v,by rw [Hz (by omega)],f,by omega⟩
  ·rintro n H F ⟨s,G,o,c,k⟩
   obtain ⟨rfl,rfl⟩:n=(s:Int)/\H=(G:Int):=by simpa using o
   exact C44 hN c k hK
end
def Vi{P:dI}{h:bB}{l:List UInt8}{m:Nat}{ys:List dD}(hy:ys=yv l)(hm:m=l.length){K:Array dD->bB->Prop}(x:K ys.toArray h):wpH P (Builtin.firstCells 1 m (.string (bs l))) K h:=by
 subst hm hy
 show K _ h
 have e:((bs l).extract 0 l.length).data.map (fun b=>bC .u8 b.toNat)=(yv l).toArray:=by
  rw [O8]
  apply Array.toList_inj.1
  simp [bs,yv]
 rw [e];exact x
def Wk{P:dI}{t e e' ty:bV}{z:dD}{bytes:Nat}(st:SliceT P t e z 1 bytes){h g:bB}{A:Option bH}{n c:Nat}{xs:List dD}(p:eO h g e' 1 A n c xs)
 {B:Option bH} {m d:Nat} {ys:List dD} (hy:ys.length=m) (hc:SlV h B ys) (h1:∀ v∈ys,A5q v=true) (hb:(2*(n+m)+192)*bytes<=281474976710656) (hm:n+m<=9223372036854775807) {K:VP}
 (x1:n+m<=c->∀ h',eO h' g e' 1 A (n+m) c (xs++ys)->K (.slice A (n+m) c) h') (x2:c<n+m->∀ A' c' h' g',g.le g'->eO h' g' e 1 A' (n+m) c' (xs++ys)->K (.slice A' (n+m) c') h'):
 wpH P (dR #[t,t] ty #[.slice A n c,.slice B m d]) K h:=by
 obtain ⟨i,H,hz,L,D⟩:=st.parts
 have Q:=st.pos
 have F:=p.1
 rw [cJ] at F
 unfold dR
 simp only [dG,aG,aI,C8,F4 st.und,L9 H,H8,fF,if_false,gH,L,Bool.not_false,if_true]
 by_cases f:n+m<=c
 ·simp only [f,if_true,C8]
  refine N5 (by omega) hc ?_
  rcases p.2.2 with ⟨W,hg⟩|⟨b,k,hA,J,hh,o,C⟩
  ·have T:n=0:=by omega
   have M:m=0:=by omega
   subst T;subst hg
   have w:ys=[]:=aM (by omega)
   have R:xs=[]:=aM (by omega)
   have E:K (.slice A (0+m) c) h:=x1 f h ⟨by rw [w,R,M];rfl,by omega,.inl ⟨W,rfl⟩⟩
   subst w
   cases A with
   | none=>exact E
   | some a=>exact E
  ·subst hA
   simp only [C8,E6,eX]
   rw [hh]
   rw [cJ] at o C ⊢
   refine J9 ys.toArray.toList n 0 k ?_ (fun v X=>h1 v (by simpa using X)) ?_
   ·simp only
    omega
   ·simp only [H8,dV]
    refine x1 f _ ⟨by rw [aH];omega,f,.inr ⟨b,_,rfl,J,rfl,?_,?_⟩⟩
    ·simp only [L3,aH,aF,aN,o,hy];omega
    ·have y:(k.take n).length=n:=by rw [aF,o];omega
     unfold L3
     have t1:(k.take n).take (n+m)=k.take n:=aL (by rw [y];omega)
     have t2:ys.take m=ys:=aL (by omega)
     rw [cJ,aR,dM,y,cK,dM,t1,t2,hy,gK,List.take_zero,cC,C]
 ·have s:c<n+m:=by omega
  simp only [f,if_false,C8,J3 H,D]
  have N:=Qi s
  have Z:Builtin.nextslicecap (n+m) c*bytes<=281474976710656:=fB (Nat.mul_le_mul_right _ N) hb
  rw [iN (by rintro ⟨h',_⟩;simp only [IntKind.max,IntKind.signed,IntKind.bits] at h';simp at h';omega)]
  simp only [C8,J3 H,D]
  rw [iN (by simp only [show (2^48:Nat)=281474976710656 from rfl];omega)]
  simp only [H8,C8]
  refine Jy rfl fun tt=>?_
  simp only [Fx,J3 H]
  have u:xs=[]\/∃ a,A=some a/\∀ j v,xs[j]? = some v->h.cell? (a.add j)=some v:=p.slV
  refine N5 p.1 u ?_
  refine N5 (by omega) hc ?_
  simp only [S8 H hz,S9]
  intro b l
  have r:∃ q,(Question.appendCap (n+m) c e).cut tt=q/\n+m<=q:=⟨_,rfl,by simp only [Question.cut];omega⟩
  obtain ⟨q,O,S⟩:=r
  rw [O]
  have G:=p.le
  refine x2 s _ q _ h G ⟨by rw [aH];omega,S,.inr ⟨b,xs++ys++(dH z.cells (q-(n+m))).toList,rfl,l,?_,?_,?_⟩⟩
  ·congr 1;simp
  ·have V:(dH z.cells (q-(n+m))).toList.length=q-(n+m):=by simp [dH,st.cells]
   rw [aH,aH,F,hy,V];omega
  ·rw [cJ,cN (by rw [aH];omega),aL (by rw [aH];omega)]
def B0u{P:dI}{t e e' ty t2:bV}{z:dD}{bytes:Nat}(st:SliceT P t e z 1 bytes)(hu:P.underlying t2=some .string){h g:bB}{A:Option bH}{n c:Nat}{xs:List dD}(p:eO h g e' 1 A n c xs)
 {m:Nat} {l:List UInt8} {ys:List dD} (hly:ys=yv l) (hm0:m=l.length) (hy:ys.length=m) (h1:∀ v∈ys,A5q v=true) (hb:(2*(n+m)+192)*bytes<=281474976710656) (hm:n+m<=9223372036854775807) {K:VP}
 (x1:n+m<=c->∀ h',eO h' g e' 1 A (n+m) c (xs++ys)->K (.slice A (n+m) c) h') (x2:c<n+m->∀ A' c' h' g',g.le g'->eO h' g' e 1 A' (n+m) c' (xs++ys)->K (.slice A' (n+m) c') h'):
 wpH P (dR #[t,t2] ty #[.slice A n c,.string (bs l)]) K h:=by
 obtain ⟨i,G,Z,J,C⟩:=st.parts
 have N:=st.pos
 have E:=p.1
 rw [cJ] at E
 unfold dR
 simp only [dG,aG,aI,C8,F4 st.und,F4 hu,L9 G,H8,fF,if_false,gH,J,Bool.not_false,if_true,L5,<- hm0]
 by_cases d:n+m<=c
 ·simp only [d,if_true,C8]
  refine Vi hly hm0 ?_
  rcases p.2.2 with ⟨T,hg⟩|⟨b,f,hA,H,X,o,B⟩
  ·have R:n=0:=by omega
   have hm0:m=0:=by omega
   subst R;subst hg
   have w:ys=[]:=aM (by omega)
   have O:xs=[]:=aM (by omega)
   have D:K (.slice A (0+m) c) h:=x1 d h ⟨by rw [w,O,hm0];rfl,by omega,.inl ⟨T,rfl⟩⟩
   subst w
   cases A with
   | none=>exact D
   | some a=>exact D
  ·subst hA
   simp only [C8,E6,eX]
   rw [X]
   rw [cJ] at o B ⊢
   refine J9 ys.toArray.toList n 0 f ?_ (fun v V=>h1 v (by simpa using V)) ?_
   ·simp only
    omega
   ·simp only [H8,dV]
    refine x1 d _ ⟨by rw [aH];omega,d,.inr ⟨b,_,rfl,H,rfl,?_,?_⟩⟩
    ·simp only [L3,aH,aF,aN,o,hy];omega
    ·have y:(f.take n).length=n:=by rw [aF,o];omega
     unfold L3
     have t1:(f.take n).take (n+m)=f.take n:=aL (by rw [y];omega)
     have t2:ys.take m=ys:=aL (by omega)
     rw [cJ,aR,dM,y,cK,dM,t1,t2,hy,gK,List.take_zero,cC,B]
 ·have s:c<n+m:=by omega
  simp only [d,if_false,C8,J3 G,C]
  have L:=Qi s
  have W:Builtin.nextslicecap (n+m) c*bytes<=281474976710656:=fB (Nat.mul_le_mul_right _ L) hb
  rw [iN (by rintro ⟨h',_⟩;simp only [IntKind.max,IntKind.signed,IntKind.bits] at h';simp at h';omega)]
  simp only [C8,J3 G,C]
  rw [iN (by simp only [show (2^48:Nat)=281474976710656 from rfl];omega)]
  simp only [H8,C8]
  refine Jy rfl fun tt=>?_
  simp only [Fx,J3 G]
  have u:xs=[]\/∃ a,A=some a/\∀ j v,xs[j]? = some v->h.cell? (a.add j)=some v:=p.slV
  refine N5 p.1 u ?_
  refine Vi hly hm0 ?_
  simp only [S8 G Z,S9]
  intro b k
  have r:∃ q,(Question.appendCap (n+m) c e).cut tt=q/\n+m<=q:=⟨_,rfl,by simp only [Question.cut];omega⟩
  obtain ⟨q,M,Q⟩:=r
  rw [M]
  have F:=p.le
  refine x2 s _ q _ h F ⟨by rw [aH];omega,Q,.inr ⟨b,xs++ys++(dH z.cells (q-(n+m))).toList,rfl,k,?_,?_,?_⟩⟩
  ·congr 1;simp
  ·have S:(dH z.cells (q-(n+m))).toList.length=q-(n+m):=by simp [dH,st.cells]
   rw [aH,aH,E,hy,S];omega
  ·rw [cJ,cN (by rw [aH];omega),aL (by rw [aH];omega)]
def A0w(l:List UInt8):∀ v∈yv l,A5q v=true:=by
 intro v a
 simp only [yv,List.mem_map] at a
 obtain ⟨c,_,rfl⟩:=a
 rfl
def Hl{P:dI}{t:bV}{z v:dD}(hz:(P.info? t).map (fun i=>i.zero)=some (some z)){K:VP}{h:bB}(x:∀ b,h b=none->K (.pointer (some ⟨b,0,none⟩)) (h.put b (.cells z.cells t))):wpH P (Instr.alloc t true v) K h:=by
 cases hi:P.info? t with
 | none=>rw [hi] at hz;cases hz
 | some i=>
  rw [hi] at hz
  simp only [gQ,gJ] at hz
  unfold Instr.alloc
  simp only [C8,S8 hi hz]
  unfold newVar
  simp only [S9,H8]
  exact x
def A97:(prog.info? Ua).map (fun i=>i.zero)=some (some (.agg (fW 24 (.int .u8 0)))):=by kernel_rfl
def Gp(h:bB):Prop:=∀ k,k<20->h.cell? (eM ⟨3,0,none⟩ (k*1))=some (U ((10^k:Nat):Int))
def Gp.mono{h h':bB}(g:Gp h)(l:h.le h'):Gp h':=fun k a=>B9 l (g k a)
section
variable {h g:bB} {K:VP}
def Yq{i:Nat}(hi:i<100)(hK:K (.string (bs (P0 i))) h):aZ prog Tk #[I i] h K:=by
 refine B5i _ ?_
 unfold C0k
 have key:∀ i:Nat,i<100->(i<10->A13.extract i (i+1)=bs (P0 i))/\(¬ i<10->K0.extract (2*i) (2*i+2)=bs (P0 i)):=by
  intro i hi
  have c:P0 i=if i<10 then [dch i] else [dch (i/10),dch (i%10)]:=by
   split
   ·by_cases b:i=0
    ·subst b;rfl
    ·rw [Aw b,Cd b,show i/10=0 by omega,K7,show i%10=i by omega];rfl
   ·rw [Aw (by omega),Cd (by omega),Cd (by omega),show i/10/10=0 by omega,K7,show i/10%10=i/10 by omega];rfl
  rw [c]
  revert i
  decide +kernel
 obtain ⟨g,d⟩:=key i hi
 refine B8 (fun f=>?_) (fun f=>?_)
 ·have a:B7 ((i:Int)+1)=((i+1:Nat):Int):=by rw [C1 (by omega) (by omega)];omega
  rw [a,aC,aC,g (by omega)]
  exact ⟨⟨by omega,by show _<=((36:Nat):Int);omega⟩,⟨by omega,by omega⟩,hK⟩
 ·have a:B7 ((i:Int)*2)=((2*i:Nat):Int):=by rw [C1 (by omega) (by omega)];omega
  have e:B7 (((2*i:Nat):Int)+2)=((2*i+2:Nat):Int):=by rw [C1 (by omega) (by omega)];omega
  rw [a,e,aC,aC,d (by omega)]
  exact ⟨⟨by omega,by show _<=((200:Nat):Int);omega⟩,⟨by omega,by omega⟩,hK⟩
def Ei{d:Nat}(gp:Gp h)(h0:d≠0)(hd:d<18446744073709551616)(hK:K (I ((dd d).length:Int)) h):aZ prog Bf #[U (d:Int)] h K:=by
 refine A2h _ ?_
 unfold Zw
 have e:O9 d<=64:=Jj hd
 obtain ⟨_,_,c⟩:=B9p (O9 d) (by omega)
 refine A8g hd ⟨_,rfl,A2i _ ?_⟩
 unfold Zx
 have a:eK (B7 ((O9 d:Int)*78913)) (2^(min ((18:Int)).toNat 64))=((ndg (O9 d):Nat):Int):=by
  rw [show (2:Int)^(min ((18:Int)).toNat 64)=262144 by decide,fD _ (by decide),C1 (by omega) (by omega)]
  unfold ndg;omega
 rw [a]
 refine ⟨_,rfl,⟨by omega,by omega⟩,_,by rw [aC];exact gp _ (by omega),B5j _ ?_⟩
 unfold C0l
 rw [C3z h0 hd] at hK
 refine B8 (fun b=>⟨_,rfl,?_⟩) (fun b=>⟨_,rfl,?_⟩)
 ·rw [iP (by omega)] at hK
  rw [C1 (by omega) (by omega)]
  exact hK
 ·rw [iN (by omega)] at hK
  rw [C1 (by omega) (by omega)]
  exact hK
def Wl{e':bV}{A:Option bH}{n c i:Nat}{l:List UInt8}(gp:Gp h)(p:eO h g e' 1 A n c (yv l))(hi:i<18446744073709551616)(hn:n<=1000000000000)
 (hK:∀ A' c' e2 h' g',g.le g'->eO h' g' e2 1 A' (n+(P0 i).length) c' (yv (l++P0 i))->(n+(P0 i).length<=c->A'=A/\c'=c/\e2=e')->(e'=H2->e2=H2)->K (.slice A' (n+(P0 i).length:Nat) c') h'):aZ prog Ha #[.slice A n c,U (i:Int),I 10] h K:=by
 refine Yf _ _ _ _ _ ?_
 unfold Xc
 refine D8 (fun _=>?_) (fun e=>absurd rfl e)
 have j:(P0 i).length<=20:=(Tu (by decide)).2 (by show i<10^20;omega)
 refine B8 (fun G=>?_) (fun G=>?_)
 ·rw [C1 (by omega) (by omega)]
  refine Yq (by omega) ⟨_,rfl,?_⟩
  refine B0u Hr Z7 p (l:=P0 i) rfl rfl (Ic _) (A0w _) (by omega) (by omega) ?_ ?_
  ·intro y h' a
   rw [<- W6] at a
   exact ⟨_,_,_,rfl,hK _ _ _ _ _ (B5 _) a (fun _=>⟨rfl,rfl,rfl⟩) id⟩
  ·intro y A' c' h' g' z a
   rw [<- W6] at a
   exact ⟨_,_,_,rfl,hK _ _ _ _ _ z a (fun e=>by omega) (fun _=>rfl)⟩
 ·refine Hl A97 ?_
  intro b f
  have H:(Value.agg (fW 24 (.int .u8 0))).cells=((aD 24 (0:Int)).map (bC .u8)).toArray:=by rfl
  rw [H]
  have D:Win .u8 (h.put b (.cells ((aD 24 (0:Int)).map (bC .u8)).toArray Ua)) h b Ua (some ⟨b,0,none⟩) [] (aD 24 (0:Int)) []:=⟨f,by simp,.inr rfl⟩
  generalize (h.put b (.cells ((aD 24 (0:Int)).map (bC .u8)).toArray Ua))=h1' at *
  refine ⟨_,rfl,Ei (gp.mono D.le) (by omega) hi ⟨_,rfl,?_⟩⟩
  have r:P0 i=dd i:=Aw (by omega)
  rw [r] at j hK
  refine ⟨⟨by omega,by omega⟩,?_⟩
  rw [aC,bX]
  have F:=D.sub (l:=0) (m:=(dd i).length) (c:=24) (by omega) (by simp;omega) (by simp)
  have q:((aD 24 (0:Int)).drop 0).take ((dd i).length-0)=aD (dd i).length 0:=by
   rw [cO,cH,bX,aJ (by omega)]
  rw [q] at F
  have s:i<10^(dd i).length:=S6.1 (aY _)
  refine Af F (by simp) (by omega) s hi ?_
  intro E u
  refine ⟨rfl,⟨by omega,by omega⟩,?_⟩
  have B:pad (dd i).length i=dd i:=by simp [pad]
  rw [B] at u
  have M:SlV E (I5 (some ⟨b,0,none⟩) 24 0 1) (yv (dd i)):=by
   have:=u.sl
   unfold SlI at this
   rw [C3f] at this
   exact this
  have w:=u.eq
  obtain ⟨o,ho⟩:∃ o,E=h.put b o:=⟨_,w⟩
  subst ho
  have J:=p.put f o
  have d:g.le (g.put b o):=by
   intro k L C
   have t:k≠b:=by
    rintro rfl
    rw [p.le k L C] at f;cases f
   rw [C0 _ _ t];exact C
  refine Wk Hr J (Ic _) M (A0w _) (by omega) (by omega) ?_ ?_
  ·intro y h' a
   rw [<- W6] at a
   exact ⟨_,_,_,rfl,hK _ _ _ _ _ d a (fun _=>⟨rfl,rfl,rfl⟩) id⟩
  ·intro y A' c' h' g' z a
   rw [<- W6] at a
   exact ⟨_,_,_,rfl,hK _ _ _ _ _ (B0 d z) a (fun e=>by omega) (fun _=>rfl)⟩
end
structure Ext (g:bB) (e':bV) (A:Option bH) (n c:Nat) (l t:List UInt8) (A':Option bH) (n' c':Nat) (e2:bV) (g' h':bB):Prop where
 le:g.le g'
 priv:eO h' g' e2 1 A' n' c' (yv (l++t))
 len:n'=n+t.length
 fit:n+t.length<=c->A'=A/\c'=c/\e2=e'
 tag:e'=H2->e2=H2
def Ext.trans{g g1 g2 h1 h2:bB}{e' e1 e2:bV}{A A1 A2:Option bH}{n c n1 c1 n2 c2:Nat}{l t s:List UInt8}(x:Ext g e' A n c l t A1 n1 c1 e1 g1 h1)(y:Ext g1 e1 A1 n1 c1 (l++t) s A2 n2 c2 e2 g2 h2):Ext g e' A n c l (t++s) A2 n2 c2 e2 g2 h2:=by
 refine ⟨B0 x.le y.le,?_,?_,?_,fun e=>y.tag (x.tag e)⟩
 ·have:=y.priv;rwa [aR] at this
 ·rw [y.len,x.len,aH];omega
 ·intro a
  rw [aH] at a
  obtain ⟨rfl,rfl,rfl⟩:=x.fit (by omega)
  have b:=x.len
  exact y.fit (by omega)
section
variable {h g:bB} {K:VP} {A:Option bH} {n c:Nat} {e':bV} {l:List UInt8}
def Hs{i:Nat}(gp:Gp h)(p:eO h g e' 1 A n c (yv l))(hi:i<18446744073709551616)(hn:n<=1000000000000)
 (hK:∀ A' n' c' e2 g' h',Ext g e' A n c l (P0 i) A' n' c' e2 g' h'->K (.slice A' n' c') h'):aZ prog Hg #[.slice A n c,U (i:Int),I 10] h K:=by
 refine Yl _ _ _ _ _ ?_
 unfold Xi
 refine Wl gp p hi hn ?_
 intro A' c' e2 h' g' d e b a
 exact ⟨_,_,_,rfl,hK _ _ _ _ _ _ ⟨d,e,rfl,b,a⟩⟩
def Oa{ch:UInt8}{v:Int}(hv:v=(ch.toNat:Int))(p:eO h g e' 1 A n c (yv l))(hn:n<=1000000000000){KK:Option bH->Nat->Nat->bB->Prop}
 (x:∀ A' n' c' e2 g' h',Ext g e' A n c l [ch] A' n' c' e2 g' h'->KK A' n' c' h'):
 wpH prog (Instr.buildSlice If 1 #[(0,Y v)]) (fun v1 hp1=>∃ (A1:Option bH) (n1 c1:Nat),v1= .slice A1 n1 c1/\wpH prog (dR #[If,If] If #[.slice A n c,.slice A1 n1 c1]) (fun v2 hp2=>∃ (A2:Option bH) (n2 c2:Nat),v2= .slice A2 n2 c2/\KK A2 n2 c2 hp2) hp1) h:=by
 subst hv
 refine Bn Hr rfl ?_
 intro b a
 refine ⟨_,_,_,rfl,?_⟩
 have y:=p.put a (.cells #[Y (ch.toNat:Int)] H2)
 have f:g.le (g.put b (.cells #[Y (ch.toNat:Int)] H2)):=by
  intro k r o
  have i:k≠b:=by
   rintro rfl
   rw [p.le k r o] at a;cases a
  rw [C0 _ _ i];exact o
 have s:SlV (h.put b (.cells #[Y (ch.toNat:Int)] H2)) (some ⟨b,0,none⟩) (yv [ch]):=by
  refine .inr ⟨_,rfl,fun j u q=>?_⟩
  rw [E6,E8]
  match j with
  | 0=>simpa [yv] using q
  | j+1=>simp [yv] at q
 refine Wk Hr y (m:=1) (ys:=yv [ch]) rfl s (A0w _) (by omega) (by omega) ?_ ?_
 ·intro t h' d
  rw [<- W6] at d
  exact ⟨_,_,_,rfl,x _ _ _ _ _ _ ⟨f,d,rfl,fun _=>⟨rfl,rfl,rfl⟩,id⟩⟩
 ·intro t A' c' h' g' w d
  rw [<- W6] at d
  exact ⟨_,_,_,rfl,x _ _ _ _ _ _ ⟨B0 f w,d,rfl,fun e=>by simp at e;omega,fun _=>rfl⟩⟩
def A80{i:Int}(h:i<0):Nl i=[45]++P0 i.natAbs:=by unfold Nl;rw [iP h];rfl
def Te{i:Int}(h:¬ i<0):Nl i=P0 i.natAbs:=by unfold Nl;rw [iN h]
def A34{b:Nat}{e:bV}{B:Option bH}{pre post:List dD}{s:List UInt8}(w:Win .u8 h g b e B pre (zb s) post):SlV h B (yv s):=by
 have:=w.sl
 unfold SlI at this
 rw [C3f] at this
 exact this
def Xs{i:Int}(gp:Gp h)(h1: -9223372036854775808<=i)(h2:i<9223372036854775808)(hK:K (.string (bs (Nl i))) h):aZ prog Jd #[I i,I 10] h K:=by
 refine FCall.pure (A2t _ _ ?_)
 unfold A09
 refine A2k _ _ ?_
 unfold Zz
 refine D8 (fun _=>?_) (fun e=>absurd rfl e)
 refine ⟨fun L n=>L=[.bool (decide (0<=i/\i<100))]/\n=h,B8 (fun f=>⟨by simp [f],rfl⟩) (fun f=>⟨by simp [f],rfl⟩),?_⟩
 rintro y n ⟨J,rfl⟩
 obtain rfl:y=decide (0<=i/\i<100):=by simpa using J
 refine B8 (fun f=>?_) (fun f=>?_)
 ·obtain ⟨k,rfl⟩:∃ k:Nat,i=k:=⟨i.toNat,by omega⟩
  refine Yq (by omega) ⟨_,rfl,⟨_,rfl,B5 _,?_⟩⟩
  rw [Te (by omega)] at hK
  exact hK
 ·refine Hl A97 ?_
  intro b M
  have G:(Value.agg (fW 24 (.int .u8 0))).cells=((aD 24 (0:Int)).map (bC .u8)).toArray:=by rfl
  rw [G]
  have q:Win .u8 (n.put b (.cells ((aD 24 (0:Int)).map (bC .u8)).toArray Ua)) n b Ua (some ⟨b,0,none⟩) [] (aD 24 (0:Int)) []:=⟨M,by simp,.inr rfl⟩
  generalize (n.put b (.cells ((aD 24 (0:Int)).map (bC .u8)).toArray Ua))=hp1 at *
  refine ⟨_,rfl,?_⟩
  obtain ⟨u,hu⟩:∃ u:Nat,u=i.natAbs:=⟨_,rfl⟩
  have a:u≠0:=by omega
  have C:P0 u=dd u:=Aw a
  have D:(dd u).length<=20:=S6.2 (by show u<10^20;omega)
  have z:B7 (1+(((dd u).length:Nat):Int))=((1+(dd u).length:Nat):Int):=by rw [C1 (by omega) (by omega)];omega
  have w:=q.sub (l:=1) (m:=1+(dd u).length) (c:=24) (by omega) (by simp;omega) (by simp)
  have r:((aD 24 (0:Int)).drop 1).take (1+(dd u).length-1)=aD (dd u).length 0:=by
   rw [bI,cH,aJ (by omega)];congr 1;omega
  rw [r] at w
  have g:u<10^(dd u).length:=S6.1 (aY _)
  have p:pad (dd u).length u=dd u:=by simp [pad]
  have j:1+(dd u).length-1=(dd u).length:=by omega
  refine B8 (fun o=>?_) (fun o=>?_)
  ·rw [A80 o,<- hu,C] at hK
   have e:C3 (0-C3 i)=(u:Int):=by rw [F6,F6];omega
   rw [e]
   refine Ei (gp.mono q.le) a (by omega) ⟨_,rfl,?_⟩
   rw [z,aC]
   refine ⟨⟨by omega,by omega⟩,⟨by omega,by omega⟩,?_⟩
   rw [show ((1:Int)).toNat=1 from rfl,j]
   refine Af w (by simp) (by omega) g (by omega) ?_
   intro t d
   rw [p] at d
   refine ⟨rfl,B8 (fun _=>?_) (fun s=>absurd o s)⟩
   have E:=q.whole (l:=1) (m:=1+(dd u).length) (by omega) (by simp;omega) (by rw [Ia];omega) d
   refine ⟨⟨by omega,by omega⟩,?_⟩
   rw [show ((0:Int)).toNat=0 from rfl]
   refine E.storeN Nj rfl (by simp) ?_
   intro H B
   refine ⟨⟨by omega,by omega⟩,?_⟩
   have A:=B.sub (l:=0) (m:=1+(dd u).length) (c:=24) (by omega) (by simp [Ia];omega) (by simp [Ia];omega)
   have F:((((aD 24 (0:Int)).take 1++zb (dd u)++(aD 24 (0:Int)).drop (1+(dd u).length)).set 0 45).drop 0).take (1+(dd u).length-0)=zb ([45]++dd u):=by
    rw [cO,cH,show min 1 24=1 from rfl,show aD 1 (0:Int)=[0] from rfl,aR,List.singleton_append,List.set_cons_zero,bX,Nat.add_comm 1,List.take_succ_cons,dE (Ia _)]
    rfl
   rw [F] at A
   refine Nn Hr.und Ev Z7 (A34 A) (by simp;omega) ⟨_,rfl,_,rfl,?_,hK⟩
   exact B.le
  ·rw [Te o,<- hu,C] at hK
   have e:C3 i=(u:Int):=by rw [F6];omega
   rw [e]
   refine Ei (gp.mono q.le) a (by omega) ⟨_,rfl,?_⟩
   rw [z,aC]
   refine ⟨⟨by omega,by omega⟩,⟨by omega,by omega⟩,?_⟩
   rw [show ((1:Int)).toNat=1 from rfl,j]
   refine Af w (by simp) (by omega) g (by omega) ?_
   intro t d
   rw [p] at d
   refine ⟨rfl,B8 (fun s=>absurd s o) (fun _=>?_)⟩
   refine ⟨⟨by omega,by omega⟩,⟨by omega,by omega⟩,?_⟩
   exact Nn Hr.und Ev Z7 (A34 d) rfl ⟨_,rfl,_,rfl,d.le,hK⟩
def Xw{s q:List UInt8}(hK:K (.tuple #[.string (bs (if q <+: s then s.drop q.length else s)),.bool (decide (q <+: s))]) h):aZ prog Je #[.string (bs s),.string (bs q)] h K:=by
 refine A2u _ _ ?_
 unfold A0a
 refine A2l _ _ ?_
 unfold A00
 have b:aZ prog Iy #[.string (bs s),.string (bs q)] h (fun r b=>r= .bool (decide (q <+: s))/\b=h):=by
  refine A2j _ _ ?_
  unfold Zy
  simp only [L5]
  refine B8 (fun a=>?_) (fun a=>?_)
  ·refine ⟨⟨by omega,by omega⟩,?_,trivial⟩
   rw [aC,O8,Lb]
   congr 1
   rw [decide_eq_decide,cO,bX,List.prefix_iff_eq_take]
   exact eq_comm
  ·refine ⟨?_,trivial⟩
   congr 1
   symm
   rw [decide_eq_false_iff_not]
   intro d
   have:=d.length_le
   omega
 refine b.mono ?_
 rintro r c ⟨rfl,rfl⟩
 refine ⟨_,rfl,Br.not (B8 (fun a=>?_) (fun a=>?_))⟩
 ·rw [iP a,decide_eq_true a] at hK
  have:=a.length_le
  simp only [L5]
  refine ⟨⟨by omega,by omega⟩,_,_,rfl,?_⟩
  rw [aC,O8,aL (by rw [aN];omega)]
  exact hK
 ·rw [iN a,decide_eq_false a] at hK
  exact ⟨_,_,rfl,hK⟩
end
abbrev cB:Int:=10000000000000000000
section
variable {h g:bB} {K:VP} {A B:Option bH} {ac bc:Nat}
def C4j{Invv:LP}{muv:LN}{WA CA:Option bH}{wn wc cn cc:Nat}{us:List Int}{hp1 g1:bB}(p:Pw hp1 g1 WA wn wc us)(hne:us≠[])(hwn:wn=us.length)(du:Dig b64 us)(hl:wn<=100000000)
 (hK:∀ (ws:List Int) (m:Nat) (r:Int) (hp2:bB),Pw hp2 g1 WA m wc (ws.take m)->m=(ws.take m).length->m<=wn->gD (ws.take m)->Dig b64 (ws.take m)->val b64 us=val b64 (ws.take m)*cB+r->(0<=r/\r<cB)->
  wpH prog (Instr.buildSlice Am 1 #[(0,U r)]) (fun v hp6=>∃ (t44A:Option bH) (t44n:Nat) (t44c:Nat),v= .slice t44A t44n t44c/\wpH prog (dR #[Am,Am] Am #[.slice CA cn cc,.slice t44A t44n t44c]) (fun v1 hp7=>∃ (t45A:Option bH) (t45n:Nat) (t45c:Nat),v1= .slice t45A t45n t45c/\Invv [.slice WA m wc,.slice t45A t45n t45c] hp7/\muv [.slice WA m wc,.slice t45A t45n t45c] hp7<muv [.slice WA wn wc,.slice CA cn cc] hp1) hp6) hp2):
 Dp prog Invv muv WA wn wc CA cn cc hp1:=by
 obtain ⟨b,f,F,T⟩:=Fv p hne
 unfold Dp
 refine ⟨fun s L=>∃ (k:Nat) (r:Int) (ws:List Int),s=[U r,I ((k:Int)-1)]/\k<=wn/\(0<=r/\r<cB)/\ws.length=us.length/\Dig b64 ws/\Win .u64 L g1 b C4 WA [] ws f/\ws.take k=us.take k/\val b64 (us.drop k)=val b64 (ws.drop k)*cB+r,fun s _=>(iAt s 1+1).toNat,⟨wn,0,us,by rw [C1 (by omega) (by omega)],by omega,by decide,rfl,du,F,rfl,by rw [aV (by omega)];simp [val]⟩,?_⟩
 rintro c i hp2 ⟨k,r,ws,O,Q,z,d,o,w,l,t⟩
 obtain ⟨rfl,rfl⟩:c=r/\i=(k:Int)-1:=by simpa using O
 refine B8 (fun G=>?_) (fun G=>?_)
 ·obtain ⟨j,rfl⟩:∃ j,k=j+1:=⟨k-1,by omega⟩
  have e:((j+1:Nat):Int)-1=(j:Int):=by omega
  rw [e]
  have H:=O7 o j
  refine w.sl.load (by omega) (by omega) (by omega) ?_
  rw [aC]
  refine Tt (y:=10000000000000000000) z H (by decide) ⟨_,_,rfl,?_⟩
  have C:us.getD j 0=ws.getD j 0:=by
   have n:(ws.take (j+1)).getD j 0=(us.take (j+1)).getD j 0:=by rw [l]
   simpa [cR,List.getElem?_take] using n.symm
  generalize hx:ws.getD j 0=x at *
  have N:0<=c/\c<10000000000000000000:=z
  have R:0<=c*18446744073709551616+x:=by omega
  have D:0<=(c*18446744073709551616+x)/10000000000000000000/\(c*18446744073709551616+x)/10000000000000000000<18446744073709551616:=by omega
  obtain ⟨a,A,_⟩:=SlV.at w.sl (i:=j) (by simp;omega)
  refine ⟨a,A,by omega,by omega,w.storeN G8 A (by omega) ?_⟩
  intro S J
  rw [C1 (by omega) (by omega)]
  refine ⟨⟨j,_,_,rfl,by omega,by show _/\_<(10000000000000000000:Int);omega,by simpa using d,o.set D,J,?_,?_⟩,by simp only [iAt,aG,aI];omega⟩
  ·rw [gF (by omega)]
   have n:=congrArg (List.take j) l
   rw [List.take_take,List.take_take,aJ (by omega)] at n
   exact n
  ·rw [Y8 (by omega),Ni b64 (by omega),t,C]
   have:=aO (c*18446744073709551616+x) 10000000000000000000
   simp only [val]
   generalize (c*18446744073709551616+x)/10000000000000000000=q at *
   generalize (c*18446744073709551616+x)%10000000000000000000=s at *
   grind
 ·obtain rfl:k=0:=by omega
  rw [cO,cO] at t
  rw [show wn=ws.length by omega] at hK ⊢
  refine Et w.sl (by omega) (by omega) ?_
  intro m B M u
  refine ⟨_,_,_,rfl,?_⟩
  have g:ws≠[]:=by intro E;apply hne;exact aM (by rw [<- d,E];rfl)
  exact hK ws m c hp2 (w.priv g (by omega) B) (by rw [aF];omega) B M (o.take m) (by rw [u];exact t) z
end
def nv:List Nat->Nat
 | []=>0
 | c::r=>c+10^19*nv r
def B31(ns:List Nat)(c:Nat):((nv (ns++[c]):Nat):Int)=(nv ns:Int)+cB^ns.length*(c:Int):=by
 induction ns with
 | nil=>simp [nv]
 | cons d r ih=>
  have e:((10^19:Nat):Int)=cB:=by decide
  simp only [List.cons_append,nv,fL,bF,eS,cD,ih,e]
  grind
def C68{ns:List Nat}(h:∀ c∈ns,c<10^19):nv ns<10^(19*ns.length):=by
 induction ns with
 | nil=>simp [nv]
 | cons d r ih=>
  have e:=h d (by simp)
  have b:=ih fun c a=>h c (by simp [a])
  simp only [nv,fL]
  rw [show 19*(r.length+1)=19+19*r.length by omega,dS]
  have:=eV (10^19) (show nv r+1<=10^(19*r.length) by omega)
  rw [fZ] at this;omega
def C67{ns:List Nat}(hne:ns≠[])(h:ns.getLast? ≠ some 0):nv ns≠0:=by
 induction ns with
 | nil=>exact absurd rfl hne
 | cons d r ih=>
  cases r with
  | nil=>simp at h;simp [nv];exact h
  | cons e s=>
   have:=ih (by simp) (by simpa [List.getLast?_cons_cons] using h)
   simp only [nv] at this ⊢
   have a:0<10^19*(e+10^19*nv s):=Nat.mul_pos (by decide) (by omega)
   omega
def B7o{c:Nat}:aD (19-(P0 c).length) 48++P0 c=pad 19 c:=by
 unfold P0 pad
 split
 ·rename_i h;subst h;rw [K7];rfl
 ·rfl
def B2u{c w:Nat}(h:c≠0):aD (w-(P0 c).length) 48++P0 c=pad w c:=by
 unfold P0 pad;rw [iN h]
def B08{w n k:Nat}(h:n<10^k):(pad w n).length<=w+k:=by
 unfold pad
 have:=S6.2 h
 rw [aH,cI];omega
def B1n(W:Nat)(ns:List Nat)(k:Nat):List UInt8:=if k<ns.length then pad (W-19*k) (nv (ns.drop k)) else []
def B71{W:Nat}{ns:List Nat}(h:∀ c∈ns,c<10^19)(k:Nat):(B1n W ns k).length<=W+19*ns.length:=by
 unfold B1n
 split
 ·have:=B08 (w:=W-19*k) (C68 (ns:=ns.drop k) fun c a=>h c (List.mem_of_mem_drop a))
  rw [aN] at this;omega
 ·simp
def B23{W:Nat}{ns:List Nat}(hb:∀ c∈ns,c<10^19)(ht:ns.getLast? ≠ some 0){j:Nat}(hj:j<ns.length):B1n W ns j=B1n W ns (j+1)++(aD ((if j+1=ns.length then max (P0 ns[j]).length (W-19*j) else 19)-(P0 ns[j]).length) 48++P0 ns[j]):=by
 have e:ns.drop j=ns[j]::ns.drop (j+1):=cG hj
 unfold B1n
 rw [iP hj,e]
 by_cases h:j+1=ns.length
 ·rw [iN (by omega),iP h,cQ,aV (by omega)]
  have a:ns[j]≠0:=by
   intro b
   apply ht
   rw [gV,<- h,gI,cY hj,b]
  rw [show max (P0 ns[j]).length (W-19*j)-(P0 ns[j]).length=(W-19*j)-(P0 ns[j]).length by omega,B2u a]
  simp [nv]
 ·rw [iP (by omega),iN h,B7o]
  have f:nv (ns.drop (j+1))≠0:=by
   apply C67
   ·intro d;have:=congrArg gP d;rw [aN] at this;simp at this;omega
   ·rw [List.getLast?_drop,iN (by omega)];exact ht
  have:=A3v (w:=W-19*j) (h:=nv (ns.drop (j+1))) (l:=ns[j]) (k:=19) (hb _ (eC hj)) (.inl f)
  rw [Nat.sub_sub] at this
  rw [show 19*(j+1)=19*j+19 by omega,<- this]
  congr 1
  simp only [nv];rw [fA];omega
def Priv.clear{h g:bB}{e:bV}{A:Option bH}{n c:Nat}{xs:List dD}(p:eO h g e 1 A n c xs):eO h g e 1 A 0 c []:=by
 obtain ⟨l,o,a⟩:=p
 refine ⟨by simp,by omega,?_⟩
 rcases a with a|⟨b,d,j,k,i,f,m⟩
 ·exact .inl a
 ·exact .inr ⟨b,d,j,k,i,f,by simp⟩
def nz(ns:List Nat):List Int:=ns.map fun (x:Nat)=>(x:Int)
def Bx(g:bB)(eT:bV)(A:Option bH)(n c:Nat)(l:List UInt8)(p:bH)(CA:Option bH)(ns:List Nat)(bl t:List UInt8)(tA:Option bH)(tn tc:Nat)(hp:bB):Prop:=
 ∃ e2 gA gB,Ext g eT A n c l t tA tn tc e2 gA hp/\eO gA gB B1y 1 (some p) bl.length 20 (yv bl)/\g.le gB/\SlI .u64 gB CA (nz ns)
section
variable {h g:bB} {K:VP} {A CA:Option bH} {n c:Nat} {eT:bV} {l:List UInt8} {p:bH} {ns:List Nat}
def A7w{bl t s:List UInt8}{tA tA':Option bH}{tn tc tn' tc':Nat}{e2 e3:bV}{gA gB g' hp hp':bB}(x:Ext g eT A n c l t tA tn tc e2 gA hp)(q:eO gA gB B1y 1 (some p) bl.length 20 (yv bl))(lg:g.le gB)(sc:SlI .u64 gB CA (nz ns))(y:Ext gA e2 tA tn tc (l++t) s tA' tn' tc' e3 g' hp'):Bx g eT A n c l p CA ns bl (t++s) tA' tn' tc' hp':=by
 obtain ⟨a,b,d⟩:=q.after y.le
 exact ⟨e3,g',a,x.trans y,d,B0 lg b,sc.mono b⟩
def B8e{Invv2:LP}{muv2:LN}{tA:Option bH}{tn tc q:Nat}{first:Bool}{i1 size:Int}{bl t:List UInt8}{hp9 hp11:bB}(x:Bx g eT A n c l p CA ns bl t tA tn tc hp11)(hq:B7 (size-((bl.length:Nat):Int))=(q:Int))(hb:n+t.length+q+bl.length<=100000000000)
 (hK:∀ tA' tn' tc' hp',Bx g eT A n c l p CA ns bl (t++(aD q 48++bl)) tA' tn' tc' hp'->Invv2 [.slice tA' tn' tc',.bool false,I (B7 (i1-1))] hp'/\muv2 [.slice tA' tn' tc',.bool false,I (B7 (i1-1))] hp'<muv2 [.slice tA tn tc,.bool first,I i1] hp9):
 Bw prog Invv2 muv2 tA tn tc first i1 (some p) bl.length 20 size hp9 hp11:=by
 unfold Bw
 rw [hq]
 refine ⟨fun s i=>∃ (k:Nat) (tA:Option bH) (tn tc:Nat),s=[.slice tA tn tc,I k]/\k<=q/\Bx g eT A n c l p CA ns bl (t++aD k 48) tA tn tc i,fun s _=>q-(iAt s 1).toNat,⟨0,tA,tn,tc,rfl,by omega,by simpa using x⟩,?_⟩
 rintro F C H O w ⟨k,S,T,G,d,W,e2,gA,gB,ex,f,o,m⟩
 simp only [bD,bW,bZ,and_true,true_and] at d
 obtain ⟨⟨rfl,rfl,rfl⟩,rfl⟩:=d
 have b:=ex.len
 rw [aH,cI] at b
 refine B8 (fun D=>?_) (fun D=>?_)
 ·refine Oa (ch:=48) rfl ex.priv (by omega) ?_
  intro A' X J Z Q r y
  rw [C1 (by omega) (by omega)]
  refine ⟨⟨k+1,_,_,_,rfl,by omega,?_⟩,by simp only [iAt,aG,aI];omega⟩
  have:=A7w ex f o m y
  rwa [aR,<- eG] at this
 ·obtain rfl:k=q:=by omega
  refine ⟨fun s i=>∃ (tA:Option bH) (tn tc:Nat),s=[.slice tA tn tc]/\Bx g eT A n c l p CA ns bl (t++(aD k 48++bl)) tA tn tc i,?_,?_⟩
  ·refine Wk Hr ex.priv (Ic bl) (SlV.mono ex.priv.le f.slV) (A0w _) (by omega) (by omega) ?_ ?_
   ·intro V r a
    rw [<- W6] at a
    refine ⟨_,_,_,rfl,_,_,_,rfl,?_⟩
    have:=A7w ex f o m (s:=bl) ⟨B5 _,a,rfl,fun _=>⟨rfl,rfl,rfl⟩,id⟩
    rwa [aR] at this
   ·intro V A' J r Q j a
    rw [<- W6] at a
    refine ⟨_,_,_,rfl,_,_,_,rfl,?_⟩
    have:=A7w ex f o m (s:=bl) ⟨j,a,rfl,fun e=>by omega,fun _=>rfl⟩
    rwa [aR] at this
  ·rintro L M z u ⟨R,B,N,d,E⟩
   simp only [bD,bW,and_true] at d
   obtain ⟨rfl,rfl,rfl⟩:=d
   exact hK _ _ _ _ E
def B8c{W tn tc:Nat}{tA:Option bH}{t:List UInt8}{e2:bV}{gA hp9:bB}(x:Ext g eT A n c l t tA tn tc e2 gA hp9)(hW:W<=10000000000)(hb:tn<=10000000000)(hK:∀ A' n' c' e3 g' h',Ext g eT A n c l (t++aD W 48) A' n' c' e3 g' h'->K (.slice A' n' c') h'):Bv prog (W:Int) K tA tn tc hp9:=by
 unfold Bv
 refine ⟨fun s o=>∃ (k:Nat) (tA:Option bH) (tn' tc:Nat) (e3:bV) (g':bB),s=[.slice tA tn' tc,I k]/\k<=W/\tn'=tn+k/\Ext g eT A n c l (t++aD k 48) tA tn' tc e3 g' o,fun s _=>W-(iAt s 1).toNat,⟨0,tA,tn,tc,e2,gA,rfl,by omega,rfl,by simpa using x⟩,?_⟩
 rintro r e f i a ⟨k,p,q,w,e3,g',b,z,d,ex⟩
 simp only [bD,bW,bZ,and_true,true_and] at b
 obtain ⟨⟨rfl,rfl,rfl⟩,rfl⟩:=b
 refine B8 (fun j=>?_) (fun j=>?_)
 ·refine Oa (ch:=48) rfl ex.priv (by omega) ?_
  intro A' n' c' u m h' y
  rw [C1 (by omega) (by omega)]
  refine ⟨⟨k+1,_,_,_,u,m,rfl,by omega,?_,?_⟩,by simp only [iAt,aG,aI];omega⟩
  ·have:=y.len;simp at this;omega
  ·have:=ex.trans y
   rwa [aR,<- eG] at this
 ·obtain rfl:k=W:=by omega
  exact hK _ _ _ _ _ _ ex
def B8d{W cn:Nat}{tA:Option bH}{tn tc:Nat}{hp8:bB}{b:Nat}(gp:Gp g)(hp:p=⟨b,0,none⟩)(x:Bx g eT A n c l p CA ns [] [] tA tn tc hp8)(hcn:cn=ns.length)(hb:∀ c∈ns,c<10^19)(ht:ns.getLast? ≠ some 0)(hW:W<=1000000000)(hn:n<=1000000000)(hnl:ns.length<=1000000000)
 (hK:∀ A' n' c' e3 g' h',Ext g eT A n c l (pad W (nv ns)) A' n' c' e3 g' h'->K (.slice A' n' c') h'):By prog tA tn tc (W:Int) K CA cn p hp8:=by
 subst hcn
 have f:I5 (some p) 20 0 1=some p:=by rw [hp];rfl
 unfold By
 refine ⟨fun s hp=>∃ (k:Nat) (tA:Option bH) (tn tc:Nat) (J:List UInt8),s=[.slice tA tn tc,.bool (decide (k=ns.length)),I ((k:Int)-1)]/\k<=ns.length/\Bx g eT A n c l p CA ns J (B1n W ns k) tA tn tc hp,fun s _=>(iAt s 2+1).toNat,⟨ns.length,tA,tn,tc,[],by rw [C1 (by omega) (by omega)];simp,aY _,by unfold B1n;rw [iN (by omega)];exact x⟩,?_⟩
 rintro t o u first i1 ab ⟨k,ac,ad,aa,J,R,hk,H,gA,gB,ex,C,D,L⟩
 simp only [bD,bW,bZ,Value.bool.injEq,and_true,true_and] at R
 obtain ⟨⟨rfl,rfl,rfl⟩,rfl,rfl⟩:=R
 have O:=ex.len
 have X:=B71 (W:=W) hb k
 refine B8 (fun Z=>?_) (fun Z=>?_)
 ·obtain ⟨j,rfl⟩:∃ j,k=j+1:=⟨k-1,by omega⟩
  have e:((j+1:Nat):Int)-1=(j:Int):=by omega
  rw [e]
  have B:j<ns.length:=by omega
  refine ⟨⟨by omega,by omega⟩,?_⟩
  refine (L.mono (B0 C.le ex.priv.le)).load (by simp [nz]) (by omega) (by simp;omega) ?_
  have hz:(nz ns).getD (j:Int).toNat 0=((ns[j]:Nat):Int):=by
   rw [aC];simp [nz,cR,B]
  rw [hz,f,show ((0:Int)).toNat-0=0 from rfl,show 20-0=20 from rfl]
  have a:=hb ns[j] (eC B)
  have S:(P0 ns[j]).length<=20:=(Tu (by decide)).2 (cM a (by decide))
  refine ex.priv.call ?_
  refine Hs (l:=[]) (gp.mono (B0 D C.le)) C.clear (cM a (by decide)) (by omega) ?_
  intro A' n' c' e3 g' V y h' pt
  obtain ⟨rfl,rfl,rfl⟩:=y.fit (by omega)
  have G:=y.len
  rw [eX] at G
  subst G
  refine ⟨_,_,_,rfl,?_⟩
  have x2:Bx g eT A n c l p CA ns (P0 ns[j]) (B1n W ns (j+1)) t o u h':=
   ⟨H,V,g',⟨B0 D (B0 y.le y.priv.le),pt,ex.len,ex.fit,ex.tag⟩,by simpa using y.priv,B0 D y.le,L.mono y.le⟩
  refine ⟨fun s hp=>s=[I (((if j+1=ns.length then max (P0 ns[j]).length (W-19*j) else 19):Nat):Int)]/\hp=h',B8 (fun d=>⟨?_,rfl⟩) (fun d=>⟨by rw [iN d];rfl,rfl⟩),?_⟩
  ·rw [iP d,C1 (n:=19*(j:Int)) (by omega) (by omega),C1 (by omega) (by omega)]
   simp only [bD,bZ,and_true,true_and]
   by_cases Q:(W:Int)-19*(j:Int)>(((P0 ns[j]).length:Nat):Int)
   ·rw [iP Q];omega
   ·rw [iN Q];omega
  ·rintro i N ⟨z,rfl⟩
   obtain rfl:i=(((if j+1=ns.length then max (P0 ns[j]).length (W-19*j) else 19):Nat):Int):=by simpa using z
   have M:(P0 ns[j]).length<=19:=(Tu (by decide)).2 a
   generalize hsz:(if j+1=ns.length then max (P0 ns[j]).length (W-19*j) else 19)=sz at *
   have F:(P0 ns[j]).length<=sz/\sz<=W+20:=by
    rw [<- hsz];split<;>omega
   refine B8e (q:=sz-(P0 ns[j]).length) x2 (by rw [C1 (by omega) (by omega)];omega) (by have:=ex.len;omega) ?_
   intro m E r T x3
   rw [C1 (by omega) (by omega)]
   refine ⟨⟨j,m,E,r,P0 ns[j],?_,by omega,?_⟩,by simp only [iAt,aG,aI];omega⟩
   ·rw [show decide (j=ns.length)=false by simp;omega]
   ·rw [B23 hb ht B,hsz];exact x3
 ·obtain rfl:k=0:=by omega
  refine B8 (fun d=>?_) (fun d=>?_)
  ·have w:ns=[]:=aM d.symm
   subst w
   refine B8c ex (by omega) (by omega) ?_
   intro A' n' c' e3 g' h' y
   refine hK _ _ _ e3 g' _ ?_
   have:B1n W [] 0++aD W 48=pad W (nv []):=by simp [B1n,nv,pad,K7]
   rwa [this] at y
  ·refine hK _ _ _ H gA _ ?_
   ·have:B1n W ns 0=pad W (nv ns):=by unfold B1n;rw [iP (by omega)];simp
    rw [<- this];exact ex
end
