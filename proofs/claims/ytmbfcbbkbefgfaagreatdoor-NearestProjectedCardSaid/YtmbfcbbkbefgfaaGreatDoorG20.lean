/- A part. -/
import Derived.Test.YtmbfcbbkbefgfaaGreatDoorG18
import Derived.Test.YtmbfcbbkbefgfaaGreatDoorG19
import Derived.Test.YtmbfcbbkbefgfaaGreatDoorG10
open Go.Proofs.Tryz
set_option linter.all false
open _root_.Go.Addr renaming add->eE
open _root_.Array renaming replicate->fQ
open Bool renaming false_eq_true->eS
open _root_.Go.Builtin renaming zeroCells->dF,append_->dQ,copy_->fB,lenOf->fY
open _root_.ByteArray renaming size->eR
open _root_.Go.Extern.MathBitsCarry renaming m64->aX,pair->gN
open _root_.Go.Instr renaming storeAt->dO
open Int renaming toNat_natCast->aC,mul_le_mul_of_nonneg_right->aD,mul_le_mul_of_nonneg_left->aJ,mul_ediv_add_emod->aO,emod_lt_of_pos->aP,le_of_lt->aQ,mul_comm->aR,mul_nonneg->aS,emod_nonneg->aT,pow_add->bD,pow_succ->bG,tdiv_eq_ediv_of_nonneg->bH,ediv_lt_of_lt_mul->bJ,pow_pos->bL,mul_lt_mul_of_pos_right->bM,ediv_eq_zero_of_lt->bU,tmod_eq_emod_of_nonneg->bW,ediv_nonneg->bY,natCast_mul->cD,ofNat_tdiv->cL,tdiv->cM,natAbs_natCast->cN,mul_lt_mul_of_pos_left->cO,mul_assoc->cX,mul_add->cY,lt_of_le_of_lt->dA,ofNat_tmod->dI,zero_add->dL,tmod->dN,gcd_natCast_natCast->dR,eq_ofNat_of_zero_le->dS,natCast_ediv->dZ,fdiv->eD,sign_eq_neg_one_of_neg->eO,mul_le_mul->eP,fdiv_eq_ediv_of_nonneg->eQ,ediv_le_self->fE,ediv_ediv_of_nonneg->fF,zero_mul->fI,sign_eq_one_of_pos->fJ,mul_zero->fK,add_zero->fL,add_mul_ediv_right->fM,add_comm->fN,natCast_add->fP,add_mul_ediv_left->fS,mul_ediv_cancel->fX,gcd->gD,emod_eq_of_lt->gE,natCast_emod->gH,add_mul_emod_self_right->gL,zero_emod->gQ,toNat_pow_of_nonneg->gU,pow_zero->hO
open List renaming replicate->aE,length_take->aF,getElem?_cons_zero->aG,length_append->aH,take_of_length_le->aK,getElem?_cons_succ->aL,eq_nil_of_length_eq_zero->aM,length_drop->aN,append_assoc->aU,take_length->aV,drop_of_length_le->aY,drop_replicate->bF,length_set->bN,append_nil->bX,take_replicate->bZ,drop_eq_getElem_cons->cH,take_append_drop->cI,take_append_of_le_length->cJ,drop_zero->cK,length_replicate->cP,getElem?_eq_none->cQ,nil_append->cT,getD->cU,take_left'->dB,length_singleton->dD,getElem?_toArray->dE,drop_drop->dH,take_append->dK,getElem?_eq_getElem->dM,map_append->dP,take_succ_eq_append_getElem->dV,replicate_append_replicate->dX,drop_append_of_le_length->eC,drop_left'->eI,drop_length->fD,length_map->fO,set_append_right->fR,mem_of_mem_take->fT,take_set_of_le->fW,getElem_mem->gF,drop_append->gG,length_nil->gK,getElem?_append_right->gM,take_add->gP,getElem?_set_self->hG
open List.cons renaming injEq->bO
open Nat renaming min_eq_left->aI,le_refl->aZ,pow_le_pow_right->bK,sub_zero->bV,mul_one->cF,add_sub_cancel_left->cG,pow_pos->cW,lt_of_lt_of_le->cZ,pow_succ->dT,add_zero->dU,gcd->eA,pow_add->eB,div_le_self->eF,div_add_mod->eG,pow_le_pow_left->eJ,le_trans->eK,mod_lt->eM,one_mul->eV,add_mul->eZ,mul_assoc->fA,min_eq_right->fC,zero_add->fG,mul_comm->fH,mul_le_mul_left->fV,sub_self->gC,mul_add->gI,pow_lt_pow_iff_right->gO,testBit_two_pow_mul->gR,mul_div_cancel_left->gS,zero_mul->gV,le_mul_of_pos_left->gW,gcd_sub_self_right->gX,gcd_comm->gY,div_div_eq_div_mul->gZ
open Nat.Coprime renaming gcd_mul_left_cancel_right->dJ
open Option renaming map_some->gJ
open Option.some renaming injEq->fZ
open _root_.Go.Value renaming int->bB
open _root_.Go.Value.int renaming injEq->cR
open _root_.Go.Value.slice renaming injEq->cV
open _root_.Go renaming Addr->bI,TypeId->cC,Value->dC,Program->dG,IntKind->dY
open _root_.Go.Proofs.YtmbfcbbkbefgfaaGreatDoor renaming FCall->aW,Heap->bC,Priv->eU,Norm->fU
namespace Go.Proofs.YtmbfcbbkbefgfaaGreatDoor
set_option maxRecDepth 20000
open Go
def Ct:prog.underlying F9=some (.int .u8):=by kernel_rfl
def T7:prog.underlying B20=some .string:=by kernel_rfl
def pv:List Nat->Nat
 | []=>0
 | d::r=>d+1000000000*pv r
def C1n(ps:List Nat)(d:Nat):pv (ps++[d])=pv ps+10^(9*ps.length)*d:=by
 induction ps with
 | nil=>simp [pv]
 | cons p ps ih=>
  simp only [List.cons_append,pv,ih,List.length_cons]
  rw [show 9*(ps.length+1)=9*ps.length+9 by omega,eB,show 10^9=1000000000 by decide]
  grind
def B0a(ps:List Nat)(k:Nat):pv (ps.drop k)<=pv ps:=by
 induction ps generalizing k with
 | nil=>simp
 | cons p ps ih=>
  cases k with
  | zero=>simp
  | succ k=>have:=ih k;simp only [List.drop_succ_cons,pv];omega
def C1o{ps:List Nat}{k:Nat}(h:k<ps.length):pv (ps.drop k)=ps[k]+1000000000*pv (ps.drop (k+1)):=by
 rw [cH h];rfl
def pw(e:Nat):Nat:=if e=0 then 0 else 10^(e-1)
def A0j(e:Nat):pw (e+1)=10^e:=by simp [pw]
def B35(e:Nat):pw (e+1)/10=pw e:=by
 rw [A0j]
 cases e with
 | zero=>simp [pw]
 | succ e=>rw [A0j,dT,Nat.mul_div_cancel _ (by decide)]
def C2e(V d:Nat)(hd:d<10):dd (10*V+d)=if V≠0\/d≠0 then dd V++[dch d] else dd V:=by
 by_cases h:10*V+d=0
 ·have b:V=0:=by omega
  have a:d=0:=by omega
  subst b a
  simp
 ·rw [iP (by omega),U5 h,show (10*V+d)/10=V by omega,show (10*V+d)%10=d by omega]
def B0t(n:Nat):(dd n).length=0↔n=0:=by
 constructor
 ·intro h
  by_cases a:n=0
  ·exact a
  ·exact absurd (aM h) (B8b a)
 ·rintro rfl;rw [I6];rfl
section
variable {h h':bC} {K:VP} {A B:Option bI} {n c n' c':Nat} {s s':Bool} {x y z:Int} {m:Nat} {p q:Rat} {a b w:QV}
def Vu(i:NI h s A n c z)(hz:ZB m z)(hm:m<=1000000000)(hK:K (.string (bs (O1 z.natAbs))) h):aW prog Ou #[.agg #[.bool s,.slice A n c]] h K:=by
 have h0:=i.zero_iff
 have ax:=i.len hz hm
 refine FCall.pure (B1g _ _ _ _ ?_)
 unfold B6a
 refine D9 (fun e=>?_) (fun e=>?_)
 ·have:z=0:=h0.1 (by omega)
  subst this
  exact ⟨B4 h,hK⟩
 ·have ba:z≠0:=fun e1=>e (by have:=h0.2 e1;omega)
  generalize hZ:z.natAbs=Z at *
  have bb:Z<2^m:=by rw [<- hZ];exact hz
  rw [Ag (show Z≠0 by omega)] at hK
  have x:=i.mag
  rw [hZ] at x
  refine ⟨fun l q=>∃ (b:List Nat) (X:Nat) (A B:Option bI) (c J mc:Nat) (g:bC),l=[.slice A b.length c,.slice B J mc]/\h.le g/\eU q g C4 1 A b.length c (b.map fun (d:Nat)=>U32 (d:Int))/\Mg g B J X/\J<=100000000/\(∀ d∈b,d<1000000000)/\Z=pv b+10^(9*b.length)*X/\29*b.length<=m+29,fun l q=>match l with|[_,.slice B n _]=>B3r b32 q B n|_=>0,⟨[],Z,none,A,0,n,c,h,rfl,B4 h,Priv.nil _ _ _ _,x,ax,by simp,by simp [pv],by simp⟩,?_⟩
  rintro A1 n1 c1 B1 J mc q ⟨b,X,A1',B1',a1,aq,az,g,hl,M,P1,M1,q1,N,p,a5⟩
  obtain ⟨⟨rfl,rfl,rfl⟩,rfl,rfl,rfl⟩:(A1=A1'/\n1=b.length/\c1=a1)/\B1=B1'/\J=aq/\mc=az:=by simpa using hl
  have a9:=M1.len_zero (by decide)
  refine B6 (fun h1=>?_) (fun h1=>?_)
  ·have hX:X≠0:=by omega
   have a6:29*b.length<m:=by
    have h2:2^(29*b.length)<=10^(9*b.length):=by
     rw [Nat.pow_mul,Nat.pow_mul]
     exact eJ (by decide) _
    have h3:10^(9*b.length)*1<=10^(9*b.length)*X:=fV _ (by omega)
    exact (gO (a:=2) (by decide)).1 (by omega)
   refine P1.call ?_
   refine Nq M1 (by decide) q1 ?_
   intro A2 m2 c2 h2 l2 k2 k3 M2 h3 P3
   refine ⟨_,_,_,_,rfl,?_⟩
   have L:((X:Int)%1000000000)=((X%1000000000:Nat):Int):=by omega
   have R:((X:Int)/1000000000)=((X/1000000000:Nat):Int):=by omega
   rw [R] at M2
   rw [L]
   refine Ea Qb P3 rfl rfl (by omega) (by omega) ?_
   intro A4 c4 h4 g4 l4 P4
   have M4:Mg g4 A2 m2 ((X/1000000000:Nat):Int):=M2.mono l4
   refine ⟨⟨b++[X%1000000000],X/1000000000,A4,A2,c4,m2,c2,g4,by simp,B0 M (B0 l2 l4),by simpa using P4,M4,by omega,?_,?_,?_⟩,?_⟩
   ·intro d hd
    rcases List.mem_append.1 hd with u|u
    ·exact N d u
    ·rw [List.mem_singleton.1 u];exact eM _ (by decide)
   ·rw [C1n,aH,dD,gI,eB,p,Nat.add_assoc,fA,<- gI,show 10^(9*1)=1000000000 by decide,Nat.mod_add_div]
   ·rw [aH,dD];omega
   ·show B3r b32 h4 A2 m2<B3r b32 q B1 J
    rw [Az (M4.mono P4.le),Az (M1.mono P1.le)]
    simp only [aC]
    exact Nat.div_lt_self (by omega) (by decide)
  ·have hX:X=0:=by omega
   subst hX
   rw [Nat.mul_zero,dU] at p
   have ap:SlV q A1 (b.map fun (d:Nat)=>U32 (d:Int)):=P1.slV
   have a8:b.length≠0:=by
    intro e0
    rw [aM e0] at p
    simp [pv] at p;omega
   have am:∀ V,V<=Z->(dd V).length<=m:=by
    intro V hV
    apply R5.2
    have:2^m<=10^m:=eJ (by decide) _
    omega
   have e1:B5 ((b.length:Int)-1)=(b.length:Int)-1:=B7 (by omega) (by omega)
   rw [e1]
   refine ⟨fun l h4=>∃ (k:Nat) (A:Option bI) (n c:Nat) (g:bC),l=[.slice A n c,I ((k:Int)-1)]/\k<=b.length/\q.le g/\n=(dd (pv (b.drop k))).length/\eU h4 g F9 1 A n c (yv (dd (pv (b.drop k)))),fun l _=>(iAt l 1+1).toNat,⟨b.length,none,0,0,q,rfl,aZ _,B4 q,by simp [pv,I6],by simpa [pv,I6,yv] using Priv.nil _ _ _ _⟩,?_⟩
   rintro A2 n2 c2 i2 h4 ⟨k,A2',an,ai,g4,a0,hk,lg,y,P2⟩
   obtain ⟨⟨rfl,rfl,rfl⟩,rfl⟩:(A2=A2'/\n2=an/\c2=ai)/\i2=(k:Int)-1:=by simpa using a0
   refine B6 (fun h2=>?_) (fun h2=>?_)
   ·obtain ⟨j,rfl⟩:∃ j,k=j+1:=⟨k-1,by omega⟩
    have ej:((j+1:Nat):Int)-1=(j:Int):=by omega
    rw [ej]
    have hj:j<b.length:=by omega
    have aw:=C1o hj
    have C:b[j]<1000000000:=N _ (gF hj)
    have a4:=B0a b j
    refine ⟨fun l u=>∃ (e:Nat) (A:Option bI) (n c:Nat) (g:bC),l=[.slice A n c,U32 (pw e:Int)]/\e<=9/\q.le g/\n=(dd (pv (b.drop (j+1))*10^(9-e)+b[j]/10^e)).length/\eU u g F9 1 A n c (yv (dd (pv (b.drop (j+1))*10^(9-e)+b[j]/10^e))),fun l _=>(iAt l 1).toNat,⟨9,A2,n2,c2,g4,rfl,by omega,lg,?_,?_⟩,?_⟩
    ·rw [Nat.div_eq_of_lt (by simpa using C)];simpa using y
    ·rw [Nat.div_eq_of_lt (by simpa using C)];simpa using P2
    rintro A5 T c5 d u ⟨e,A5',ak,a3,g5,ag,he,r,t,P5⟩
    obtain ⟨⟨rfl,rfl,rfl⟩,rfl⟩:(A5=A5'/\T=ak/\c5=a3)/\d=(pw e:Int):=by simpa using ag
    generalize hV:pv (b.drop (j+1))*10^(9-e)+b[j]/10^e=V at *
    refine B6 (fun S=>?_) (fun S=>?_)
    ·obtain ⟨f,rfl⟩:∃ f,e=f+1:=by
      cases e with
      | zero=>simp [pw] at S
      | succ f=>exact ⟨f,rfl⟩
     have F:pw (f+1)=10^f:=A0j f
     have ar:0<10^f:=cW (by decide)
     have a7:10^f<=100000000:=by
      have:10^f<=10^8:=bK (by decide) (by omega)
      simpa using this
     have E:pv (b.drop (j+1))*10^(9-f)+b[j]/10^f=10*V+b[j]/10^f%10:=by
      rw [<- hV,show 9-f=(9-(f+1))+1 by omega,dT,dT,<- gZ,gI]
      have:=eG (b[j]/10^f) 10
      grind
     have Q:10*V+b[j]/10^f%10<=Z:=by
      rw [<- E]
      have H:10^(9-f)*10^f=1000000000:=by rw [<- eB,show 9-f+f=9 by omega]
      have t2:10^(9-f)<=1000000000:=by rw [<- H];exact Nat.le_mul_of_pos_right _ ar
      have t3:pv (b.drop (j+1))*10^(9-f)<=pv (b.drop (j+1))*1000000000:=fV _ t2
      have t4:=eF b[j] (10^f)
      omega
     have ec:wu8 (F7 ((48:Int)+dN (F7 (cM (b[j]:Int) ((pw (f+1):Nat):Int))) 10))=((48+b[j]/10^f%10:Nat):Int):=by
      rw [F]
      have H:cM (b[j]:Int) ((10^f:Nat):Int)=((b[j]/10^f:Nat):Int):=by rw [<- cL]
      rw [H]
      have t2:b[j]/10^f<1000000000:=Nat.lt_of_le_of_lt (eF _ _) C
      clear H
      generalize b[j]/10^f=D at t2 ⊢
      rw [O4 (n:=(D:Int)) (by omega) (by omega)]
      have t3:dN (D:Int) 10=((D%10:Nat):Int):=by
       rw [bW (by omega)];omega
      rw [t3,O4 (by omega) (by omega),Yb (by omega) (by omega)];omega
     have w:b[j]/10^f%10<10:=eM _ (by decide)
     have O:SlV u A1 (b.map fun (d:Nat)=>U32 (d:Int)):=ap.mono (B0 r P5.le)
     refine ⟨fun l S=>∃ (A:Option bI) (n c:Nat) (g:bC),l=[.slice A n c]/\q.le g/\n=(dd (10*V+b[j]/10^f%10)).length/\eU S g F9 1 A n c (yv (dd (10*V+b[j]/10^f%10))),?_,?_⟩
     ·obtain ⟨ad,ac,G⟩:=SlV.at O (i:=j) (by simpa using hj)
      refine ⟨ad,ac,by omega,by omega,(b[j]:Int),by rw [aC,cF,G];simp,?_⟩
      refine B6 (fun e0=>absurd e0 (by omega)) (fun _=>?_)
      rw [ec]
      have o:=C2e V (b[j]/10^f%10) w
      have ay:=B0t V
      refine ⟨fun l W=>l=[.bool (decide (V≠0\/b[j]/10^f%10≠0))]/\W=u,B6 (fun W=>⟨?_,rfl⟩) (fun W=>⟨?_,rfl⟩),?_⟩
      ·have:V≠0:=by omega
       simp [this]
      ·have:V=0:=by omega
       have e2:∀ D:Nat,(((48+D:Nat):Int) != 48)=decide (V≠0\/D≠0):=by
        intro D
        rw [Bool.eq_iff_iff,bne_iff_ne,decide_eq_true_iff];omega
       rw [e2]
      rintro tb W ⟨au,rfl⟩
      obtain rfl:tb=decide (V≠0\/b[j]/10^f%10≠0):=by simpa using au
      refine B6 (fun h8=>?_) (fun h8=>?_)
      ·rw [iP h8] at o
       have av:=am _ Q
       rw [o,aH,dD] at av
       refine Ea Eo P5 rfl rfl (by omega) (by omega) ?_
       intro A9 c9 h9 g9 l9 P9
       refine ⟨A9,T+1,c9,g9,rfl,B0 r l9,by rw [o,aH,t];rfl,?_⟩
       rw [o,U7]
       have:yv [dch (b[j]/10^f%10)]=[Y ((48+b[j]/10^f%10:Nat):Int)]:=by
        simp only [yv,List.map_cons,List.map_nil,Ff w]
       rw [this];exact P9
      ·rw [iN h8] at o
       exact ⟨A5,T,c5,g5,rfl,r,by rw [o];exact t,by rw [o];exact P5⟩
     ·rintro A9 n9 c9 h9 ⟨A9',ah,aj,g9,aa,af,ao,P9⟩
      obtain ⟨rfl,rfl,rfl⟩:A9=A9'/\n9=ah/\c9=aj:=by simpa using aa
      have ed:F7 (cM ((pw (f+1):Nat):Int) 10)=((pw f:Nat):Int):=by
       have H:cM ((pw (f+1):Nat):Int) 10=((pw (f+1)/10:Nat):Int):=by rw [dZ,bH (by omega)];rfl
       rw [H,B35,O4 (by omega) (by have:=B35 f;rw [F] at this;omega)]
      rw [ed]
      refine ⟨⟨f,A9,n9,c9,g9,rfl,by omega,af,by rw [E];exact ao,by rw [E];exact P9⟩,?_⟩
      simp only [iAt,aG,aL,aC]
      have:=B35 f
      rw [F] at this ⊢
      omega
    ·have a2:e=0:=by
      cases e with
      | zero=>rfl
      | succ f=>rw [A0j] at S;have:0<10^f:=cW (by decide);omega
     subst a2
     have al:V=pv (b.drop j):=by rw [<- hV,aw];simp;omega
     rw [al] at P5 t
     rw [B7 (by omega) (by omega)]
     exact ⟨⟨j,A5,T,c5,g5,rfl,by omega,r,t,P5⟩,by simp only [iAt,aG,aL];omega⟩
   ·have ae:k=0:=by omega
    subst ae
    rw [cK,<- p] at P2 y
    refine Kb Eo.und Ct T7 P2.slV y ?_
    exact ⟨_,rfl,B0 M (B0 P1.le (B0 lg P2.le)),hK⟩
end
def Zb(a:Array UInt8):({ data:=a }:ByteArray)=bs a.toList:=by simp [bs]
def Dc{l:List UInt8}(h:∀ c∈l,G9 c):J4 l<2^(4*l.length):=by
 have b:=Gz h
 have a:10^l.length<=16^l.length:=eJ (by decide) _
 have d:16^l.length=2^(4*l.length):=by rw [Nat.pow_mul]
 omega
def B9z{h:bC}{A:Option bI}{n m:Nat}{X:Nat}(M:Mg h A n X)(hx:X<2^m)(hm:m<=1000000000):n<=100000000:=by
 have:=B3w (j:=32) (by decide) M (m:=m) (by have:((X:Nat):Int)<((2^m:Nat):Int):=by omega
                                            simpa using this)
 omega
section
variable {h h':bC} {K:VP} {A B:Option bI} {n c n' c':Nat} {s s':Bool} {x y z:Int} {m:Nat} {p q:Rat} {a b w:QV} {l:List UInt8}
def In(hl:l.length<=200000000)(hK:∀ s A n c ok h',h.le h'->(ok=true->(∀ c∈l,G9 c)/\l≠[]/\NI h' s A n c (J4 l))->(ok=false->¬ ((∀ c∈l,G9 c)/\l≠[]))->K (.tuple #[.agg #[.bool s,.slice A n c],.bool ok]) h'):aW prog Ca #[.string (bs l)] h K:=by
 refine Xv _ ?_
 unfold Wv
 simp only [I7]
 refine ⟨fun L F=>∃ (i:Nat) (A:Option bI) (n c:Nat),L=[.slice A n c,I i,.bool false,.slice none 0 0]/\i<=l.length/\h.le F/\(∀ c∈l.take i,G9 c)/\Mg F A n (J4 (l.take i))/\n<=c,fun L _=>l.length-(iAt L 1).toNat,⟨0,none,0,0,rfl,by omega,B4 h,by simp,Mag.zero,aZ _⟩,?_⟩
 rintro A1 n1 c1 N X A2 n2 c2 F ⟨i,A1',S,Z,hL,hi,w,d,M,E⟩
 obtain ⟨⟨rfl,rfl,rfl⟩,rfl,rfl,rfl,rfl,rfl⟩:(A1=A1'/\n1=S/\c1=Z)/\N=(i:Int)/\X=false/\A2=none/\n2=0/\c2=0:=by simpa using hL
 refine B6 (fun h1=>?_) (fun h1=>?_)
 ·refine ⟨fun L T=>∃ (k:Nat),L=[I ((i+k:Nat):Int),U32 (J4 ((l.drop i).take k):Nat),U32 ((10^k:Nat):Int),.bool false,.slice none 0 0]/\0<k/\k<=9/\i+k<=l.length/\T=F/\(∀ c∈(l.drop i).take k,G9 c),?_,?_⟩
  ·refine ⟨fun L T=>∃ (k:Nat),L=[I ((i+k:Nat):Int),U32 (J4 ((l.drop i).take k):Nat),U32 ((10^k:Nat):Int),I k,.bool false,.slice none 0 0]/\k<=9/\i+k<=l.length/\T=F/\(∀ c∈(l.drop i).take k,G9 c),fun L _=>9-(iAt L 3).toNat,⟨0,by simp [J4],by omega,by omega,rfl,by simp⟩,?_⟩
   rintro i2 v f k2 B A3 n3 c3 J ⟨k,r,u,o,rfl,a⟩
   obtain ⟨rfl,rfl,rfl,rfl,rfl,rfl,rfl,rfl⟩:i2=((i+k:Nat):Int)/\v=((J4 ((l.drop i).take k):Nat):Int)/\f=((10^k:Nat):Int)/\k2=(k:Int)/\B=false/\A3=none/\n3=0/\c3=0:=by simpa using r
   refine B6 (fun h2=>B6 (fun h3=>?_) (fun h3=>?_)) (fun h2=>?_)
   ·have C:i+k<l.length:=by omega
    have g:(bs l)[((i+k:Nat):Int).toNat]? = some l[i+k]:=by rw [aC,Jc,dM C]
    have p:¬ G9 l[i+k]->∀ s A n c,K (.tuple #[.agg #[.bool s,.slice A n c],.bool false]) J:=by
     intro hb s A n c
     exact hK _ _ _ _ _ _ w (fun e=>by cases e) (fun _ ⟨y,_⟩=>hb (y _ (gF C)))
    refine ⟨l[i+k],⟨by omega,g⟩,B6 (fun G=>?_) (fun G=>?_)⟩
    ·exact p (fun hd=>by unfold G9 at hd;omega) _ _ _ _
    ·refine ⟨l[i+k],⟨by omega,g⟩,B6 (fun y=>?_) (fun y=>?_)⟩
     ·exact p (fun hd=>by unfold G9 at hd;omega) _ _ _ _
     ·have aa:G9 l[i+k]:=by unfold G9;omega
      refine ⟨l[i+k],⟨by omega,g⟩,?_⟩
      have j:(l.drop i).take (k+1)=(l.drop i).take k++[l[i+k]]:=by
       rw [dV (by rw [aN];omega)];simp
      have ad:J4 ((l.drop i).take k)<10^k:=by
       have:=Gz a
       rwa [aF,aN,aI (by omega)] at this
      have R:10^k<=100000000:=by
       have:10^k<=10^8:=bK (by decide) (by omega)
       simpa using this
      have x:B5 (((i+k:Nat):Int)+1)=((i+(k+1):Nat):Int):=by rw [B7 (by omega) (by omega)];omega
      have e2:B5 ((k:Int)+1)=((k+1:Nat):Int):=by rw [B7 (by omega) (by omega)];omega
      have e3:F7 (((10^k:Nat):Int)*10)=((10^(k+1):Nat):Int):=by rw [dT,O4 (by omega) (by omega)];omega
      have e4:F7 (F7 (((J4 ((l.drop i).take k):Nat):Int)*10)+F7 (wu8 ((l[i+k].toNat:Int)-48)))=((J4 ((l.drop i).take (k+1)):Nat):Int):=by
       rw [j,Iz,Yb (by omega) (by omega),O4 (n:=(l[i+k].toNat:Int)-48) (by omega) (by omega),O4 (n:=((J4 ((l.drop i).take k):Nat):Int)*10) (by omega) (by omega),O4 (by omega) (by omega)];omega
      rw [x,e2,e3,e4]
      refine ⟨⟨k+1,rfl,by omega,by omega,rfl,?_⟩,by simp only [iAt,aG,aL];omega⟩
      rw [j]
      intro c E
      rcases List.mem_append.1 E with q|q
      ·exact a c q
      ·rw [List.mem_singleton.1 q];exact aa
   ·exact ⟨k,rfl,by omega,u,o,rfl,a⟩
   ·exact ⟨k,rfl,by omega,u,o,rfl,a⟩
  ·rintro i2 v f D A3 n3 c3 t ⟨k,r,af,u,o,rfl,a⟩
   obtain ⟨rfl,rfl,rfl,rfl,rfl,rfl,rfl⟩:i2=((i+k:Nat):Int)/\v=((J4 ((l.drop i).take k):Nat):Int)/\f=((10^k:Nat):Int)/\D=false/\A3=none/\n3=0/\c3=0:=by simpa using r
   have ad:J4 ((l.drop i).take k)<10^k:=by
    have:=Gz a
    rwa [aF,aN,aI (by omega)] at this
   have R:0<10^k/\10^k<=1000000000:=by
    have:10^k<=10^9:=bK (by decide) (by omega)
    exact ⟨cW (by decide),by simpa using this⟩
   have O:((l.drop i).take k).length=k:=by rw [aF,aN];omega
   have j:l.take (i+k)=l.take i++(l.drop i).take k:=gP
   have z:∀ c∈l.take (i+k),G9 c:=by
    rw [j];intro c E
    rcases List.mem_append.1 E with q|q
    ·exact d c q
    ·exact a c q
   have W:J4 (l.take (i+k))=J4 (l.take i)*10^k+J4 ((l.drop i).take k):=by rw [j,Ha,O]
   have ae:J4 (l.take i)<2^(4*l.length):=cZ (Dc d) (bK (by decide) (by rw [aF];omega))
   have ag:J4 (l.take (i+k))<2^(4*l.length):=cZ (Dc z) (bK (by decide) (by rw [aF];omega))
   have ac:=B9z M ae (by omega)
   refine Ba Qb rfl ?_
   intro H V
   refine ⟨_,_,_,rfl,?_⟩
   have lf:=Heap.le_put (h:=t) (b:=H) (.cells #[U32 ((10^k:Nat):Int)] C4) V
   have Mf:Mg (t.put H (.cells #[U32 ((10^k:Nat):Int)] C4)) (some ⟨H,0,none⟩) 1 ((10^k:Nat):Int):=
    ⟨[((10^k:Nat):Int)],rfl,SlI.new t H [((10^k:Nat):Int)] C4 _,Dig.one ⟨by omega,by show _<(4294967296:Int);omega⟩,by simp only [fU,List.getLast?_singleton,ne_eq,fZ];omega,X4 _ _⟩
   refine Ut (M.mono lf) Mf ac (by omega) ?_
   intro A4 m4 c4 G l4 k4 M4
   refine ⟨_,_,_,rfl,?_⟩
   refine Ba Qb rfl ?_
   intro bv Q
   refine ⟨_,_,_,rfl,?_⟩
   have lv:=Heap.le_put (h:=G) (b:=bv) (.cells #[U32 ((J4 ((l.drop i).take k):Nat):Int)] C4) Q
   refine Z8 (xs:=[((J4 ((l.drop i).take k):Nat):Int)]) (SlI.new G bv _ C4 _) (Dig.one ⟨by omega,by show _<(4294967296:Int);omega⟩) (aZ _) (by simp) ?_
   intro m5 k5 M5
   refine ⟨_,_,_,rfl,?_⟩
   rw [X4] at M5
   have e4:((J4 (l.take i):Nat):Int)*((10^k:Nat):Int)=((J4 (l.take i)*10^k:Nat):Int):=by rw [cD]
   rw [e4] at M4
   refine Wc (M4.mono lv) M5 (B9z M4 (m:=4*l.length) (by omega) (by omega)) (by simp at k5;omega) ?_
   intro A6 m6 c6 q l6 k6 M6
   have e6:((J4 (l.take i)*10^k:Nat):Int)+((J4 ((l.drop i).take k):Nat):Int)=((J4 (l.take (i+k)):Nat):Int):=by rw [W];omega
   rw [e6] at M6
   exact ⟨_,_,_,rfl,⟨i+k,A6,m6,c6,rfl,o,B0 w (B0 lf (B0 l4 (B0 lv l6))),z,M6,k6⟩,by simp only [iAt,aG,aL];omega⟩
 ·have:i=l.length:=by omega
  subst this
  rw [aV] at d M
  refine N9 M E ?_
  intro s1 N
  refine ⟨_,_,_,_,rfl,?_⟩
  have e:(!((bs l).toList==({ data:=#[] }:ByteArray).toList))=decide (l≠[]):=by
   rw [Zb,Lf];simp
  rw [e]
  refine hK _ _ _ _ _ _ w (fun x=>⟨d,by simpa using x,N⟩) (fun x=>?_)
  have:l=[]:=by simpa using x
  rintro ⟨_,y⟩;exact y this
def Dd{n m:Nat}(h:n<2^m):(O1 n).length<=m+1:=by
 rw [Pc (by omega)]
 have:2^m<=10^(m+1):=eK (eJ (by decide) m) (bK (by decide) (by omega))
 omega
def A32(i:NQ h w q)(hq:Sz m q)(hm:m<=1000000000)(hK:K (.string (bs (H1 q))) h):aW prog Qs #[w.v] h K:=by
 have f:=i.num.sg
 have c:=i.den_zero
 refine B94 _ _ _ _ _ _ _ _ ?_
 unfold C5a
 have s:=Dd hq.num
 have o:=Dd (n:=q.den) (m:=m) (by have:=hq.den;unfold ZB at this;simpa using this)
 refine Vu i.num hq.num hm ⟨_,rfl,?_⟩
 refine ⟨fun l k=>l=[.string (bs (Hs q.num))]/\k=h,Br.of (fun e=>?_) (fun e=>?_),?_⟩
 ·have a:q.num<0:=by rw [f] at e;simpa using e
  refine ⟨?_,?_,rfl⟩
  ·rw [Zb,I7,I7];simp;omega
  ·rw [Zb,Jd];unfold Hs;rw [iP a];rfl
 ·have a:¬ q.num<0:=by rw [f] at e;simpa using e
  exact ⟨by unfold Hs;rw [iN a],rfl⟩
 rintro t p ⟨g,rfl⟩
 obtain rfl:t=bs (Hs q.num):=by simpa using g
 have r:(Hs q.num).length<=m+2:=by
  unfold Hs;split
  ·rw [List.length_cons];omega
  ·omega
 refine B6 (fun e=>?_) (fun e=>?_)
 ·have d:¬ q.den=1:=fun j=>by have:=c.2 j;omega
  have b:=i.den
  rw [iN d] at b
  refine Vu b hq.den hm ⟨_,rfl,?_,?_,?_⟩
  ·rw [Zb,I7,I7,cN];simp;omega
  ·rw [Zb,Jd,I7,I7,cN];simp;omega
  ·rw [Zb,Jd,Jd,cN]
   unfold H1 at hK
   rw [iN d] at hK
   exact hK
 ·have d:q.den=1:=c.1 (by omega)
  unfold H1 at hK
  rw [iP d,bX] at hK
  exact hK
def C1c{t a r a' r':List UInt8}(h1:t=a++r)(h2:∀ c∈a,c≠47)(h3:r=[]\/r.head? = some 47)(g1:t=a'++r')(g2:∀ c∈a',c≠47)(g3:r'=[]\/r'.head? = some 47):a=a'/\r=r':=by
 induction a generalizing t a' with
 | nil=>
  cases a' with
  | nil=>simp at h1 g1;exact ⟨rfl,h1.symm.trans g1⟩
  | cons c a'=>
   exfalso
   subst h1
   rcases h3 with h3|h3
   ·subst h3;simp at g1
   ·rw [g1] at h3
    simp at h3
    exact g2 c (by simp) h3
 | cons c a ih=>
  cases a' with
  | nil=>
   exfalso
   subst g1
   rcases g3 with g3|g3
   ·subst g3;simp at h1
   ·rw [h1] at g3
    simp at g3
    exact h2 c (by simp) g3
  | cons c' a'=>
   subst h1
   simp at g1
   obtain ⟨rfl,g1⟩:=g1
   obtain ⟨e,d⟩:=ih rfl (fun x b=>h2 x (by simp [b])) g1 (fun x b=>g2 x (by simp [b]))
   exact ⟨by rw [e],d⟩
def B24(q:Rat):H1 q=(if q.num<0 then [45] else [])++(O1 q.num.natAbs++(if q.den=1 then [] else 47::O1 q.den)):=by
 unfold H1 Hs;split<;>simp
def B4s(n:Nat):∀ c∈O1 n,c≠47:=fun c a=>(A8r (Pe n c a)).2
def Vk{neg:Bool}{q:Rat}(h:neg=decide (q.num<0)):Rat.divInt (if neg=true then -((q.num.natAbs:Nat):Int) else ((q.num.natAbs:Nat):Int)) q.den=q:=by
 have:(if neg=true then -((q.num.natAbs:Nat):Int) else ((q.num.natAbs:Nat):Int))=q.num:=by
  rw [h]
  by_cases a:q.num<0
  ·rw [iP (by simpa using a)];omega
  ·rw [iN (by simpa using a)];omega
 rw [this,Rat.num_divInt_den]
def B32(hl:l.length<=100000000)(hK1:∀ q,l=H1 q->∀ w h',h.le h'->NQ h' w q->K (.tuple #[w.v,.bool true]) h')(hK0:¬ IsNum l->∀ (w:QV) h',h.le h'->K (.tuple #[w.v,.bool false]) h'):aW prog A6y #[.string (bs l)] h K:=by
 refine B96 _ ?_
 unfold C5c
 simp only [I7]
 refine ⟨fun L h'=>L=[.bool (l.head? == some 45)]/\h'=h,B6 (fun D=>?_) (fun D=>?_),?_⟩
 ·cases l with
  | nil=>simp at D
  | cons c r=>
   refine ⟨c,⟨by omega,by rw [Jc];rfl⟩,?_,rfl⟩
   have:((c.toNat:Int)==45)=((c::r).head? == some 45):=by
    rw [Bool.eq_iff_iff,beq_iff_eq,beq_iff_eq,List.head?_cons,fZ]
    constructor
    ·intro e;apply UInt8.toNat_inj.1;show c.toNat=45;omega
    ·rintro rfl;rfl
   rw [this]
 ·have:l=[]:=aM (by omega)
  subst this;exact ⟨rfl,rfl⟩
 rintro neg hp ⟨hL,rfl⟩
 obtain rfl:neg=(l.head? == some 45):=by simpa using hL
 refine ⟨fun L h'=>L=[.string (bs (if (l.head? == some 45) then l.drop 1 else l))]/\h'=hp,Br.of (fun e=>?_) (fun e=>?_),?_⟩
 ·have ah:1<=l.length:=by
   cases l with
   | nil=>simp at e
   | cons _ _=>simp
  refine ⟨⟨by omega,by omega⟩,?_,rfl⟩
  rw [iP e,L0,aK (by rw [aN];show _<=l.length-1;exact aZ _)];rfl
 ·rw [iN (by rw [e];simp)];exact ⟨rfl,rfl⟩
 rintro t0 G ⟨T,rfl⟩
 generalize ht:(if (l.head? == some 45) then l.drop 1 else l)=t at *
 obtain rfl:t0=bs t:=by simpa using T
 have am:t.length<=l.length:=by rw [<- ht];split<;>simp
 have ae:l=(if (l.head? == some 45) then [45] else [])++t:=by
  rw [<- ht]
  cases l with
  | nil=>simp
  | cons c r=>
   by_cases s:c=45
   ·subst s;simp
   ·simp [s]
 have g:∀ q,l=H1 q->(l.head? == some 45)=decide (q.num<0)/\t=O1 q.num.natAbs++(if q.den=1 then [] else 47::O1 q.den):=by
  intro q e
  have f:=Id q
  rw [<- e] at f
  have hh:=f.head
  refine ⟨hh.symm,?_⟩
  have p:=ae
  rw [<- hh,e,B24 q] at p
  by_cases z:q.num<0
  ·simp [z] at p;exact p.symm
  ·simp [z] at p;exact p.symm
 refine ⟨fun L h'=>∃ a:Nat,L=[I a]/\h'=G/\a<=t.length/\(∀ c∈t.take a,c≠47)/\(t.drop a=[]\/(t.drop a).head? = some 47),?_,?_⟩
 ·simp only [I7]
  refine ⟨fun L h'=>∃ i:Nat,L=[I t.length,I i]/\h'=G/\i<=t.length/\(∀ c∈t.take i,c≠47),fun L _=>t.length-(iAt L 1).toNat,⟨0,rfl,rfl,by omega,by simp⟩,?_⟩
  rintro aa i1 ao ⟨i,af,rfl,hi,m⟩
  obtain ⟨rfl,rfl⟩:aa=(t.length:Int)/\i1=(i:Int):=by simpa using af
  refine B6 (fun D=>?_) (fun D=>?_)
  ·have B:i<t.length:=by omega
   refine ⟨t[i],⟨by omega,by rw [aC,Jc,dM B]⟩,D9 (fun Z=>?_) (fun Z=>?_)⟩
   ·refine ⟨i,rfl,rfl,hi,m,.inr ?_⟩
    rw [List.head?_drop,dM B]
    congr 1
    apply UInt8.toNat_inj.1
    show t[i].toNat=47
    omega
   ·rw [B7 (by omega) (by omega)]
    refine ⟨⟨i+1,rfl,rfl,by omega,?_⟩,by simp only [iAt,aG,aL];omega⟩
    rw [dV B]
    intro c s
    rcases List.mem_append.1 s with O|O
    ·exact m c O
    ·rw [List.mem_singleton.1 O]
     intro e;rw [e] at Z;exact Z rfl
  ·have:i=t.length:=by omega
   subst this
   exact ⟨t.length,rfl,rfl,aZ _,m,.inl (by simp)⟩
 rintro ak ad ⟨a,ac,rfl,ap,m,k⟩
 obtain rfl:=sI1 ac
 simp only [I7,L0,aC,cK,bV]
 refine ⟨⟨by omega,by omega⟩,?_⟩
 have j:t=t.take a++t.drop a:=(cI a t).symm
 have b:∀ q,l=H1 q->t.take a=O1 q.num.natAbs/\t.drop a=(if q.den=1 then [] else 47::O1 q.den):=by
  intro q e
  refine C1c j m k (g q e).2 (B4s _) ?_
  split
  ·left;rfl
  ·right;rfl
 refine In (by rw [aF];omega) ?_
 intro s1 A1 n1 c1 aj D H k1 k0
 refine ⟨_,_,_,_,_,rfl,P6 (Br.of (fun e=>?_) (fun e=>?_))⟩
 ·obtain ⟨dg,al,iN⟩:=k1 e
  have J:ZB (4*l.length) (J4 (t.take a):Int):=by
   unfold ZB
   rw [cN]
   exact cZ (Dc dg) (bK (by decide) (by rw [aF];omega))
  have im:=iN.mag
  rw [cN] at im
  refine N9 im iN.cap ?_
  intro s2 i2
  refine ⟨_,_,_,_,rfl,?_⟩
  have d:ZB (4*l.length) (if (l.head? == some 45)=true then -((J4 (t.take a):Nat):Int) else ((J4 (t.take a):Nat):Int)):=by
   split
   ·exact J.neg
   ·exact J
  have M:∀ (C:Rat) (w:QV) (o:bC),ad.le o->NQ o w C->Sz (4*l.length+1) C->(∀ q,l=H1 q->q=C)->
   aW prog Qs #[w.v] o (fun r5 E=>∃ (t79:ByteArray),r5= .string t79/\Heap.le o E/\K (.tuple #[w.v,.bool (ByteArray.toList t79==ByteArray.toList (bs l))]) E):=by
   intro C w o Q N ag V
   refine A32 N ag (by omega) ⟨_,rfl,B4 _,?_⟩
   rw [Lf]
   by_cases s:H1 C=l
   ·rw [decide_eq_true s]
    exact hK1 C s.symm w o Q N
   ·rw [decide_eq_false s]
    refine hK0 ?_ w o Q
    rintro ⟨q,e⟩
    exact s (by rw [<- V q e];exact e.symm)
  refine B6 (fun p=>?_) (fun p=>?_)
  ·have e3:B5 ((a:Int)+1)=((a+1:Nat):Int):=by rw [B7 (by omega) (by omega)];omega
   rw [e3]
   refine ⟨⟨by omega,by omega⟩,?_⟩
   rw [aC,aK (show (t.drop (a+1)).length<=t.length-(a+1) by rw [aN];omega)]
   have hb:t.drop a=47::t.drop (a+1):=by
    rcases k with z|z
    ·have:=congrArg List.length z;rw [aN] at this;simp at this;omega
    ·rw [List.head?_drop] at z
     have u:a<t.length:=by omega
     rw [dM u] at z
     rw [cH u]
     congr 1
     simpa using z
   refine In (by rw [aN];omega) ?_
   intro s3 A3 n3 c3 an O R j1 j0
   have n:∀ q,l=H1 q->q.den≠1/\t.drop (a+1)=O1 q.den:=by
    intro q e
    have:=(b q e).2
    rw [hb] at this
    by_cases A:q.den=1
    ·simp [A] at this
    ·simp [A] at this;exact ⟨A,this⟩
   refine ⟨_,_,_,_,_,rfl,P6 (Br.of (fun X=>?_) (fun X=>?_))⟩
   ·obtain ⟨W,ai,iD⟩:=j1 X
    refine A3d iD ⟨_,rfl,D9 (fun e5=>?_) (fun e5=>?_)⟩
    ·refine hK0 ?_ ⟨false,none,0,0,false,none,0,0⟩ _ (B0 H R)
     rintro ⟨q,e⟩
     have S:=(n q e).2
     have h7:((J4 (t.drop (a+1)):Nat):Int)=0:=Int.sign_eq_zero_iff_zero.1 e5
     rw [S,As] at h7
     exact q.den_nz (by omega)
    ·have y:((J4 (t.drop (a+1)):Nat):Int)≠0:=fun e6=>e5 (by rw [e6];rfl)
     have x:ZB (4*l.length) (J4 (t.drop (a+1)):Int):=by
      unfold ZB
      rw [cN]
      exact cZ (Dc W) (bK (by decide) (by rw [aN];omega))
     refine Ez (i2.mono R) iD y d x (by omega) ?_
     intro w o Q N
     refine ⟨_,_,_,_,_,_,_,_,rfl,?_⟩
     refine M _ w o (B0 H (B0 R Q)) N ((Fo y d x).mono (by omega)) ?_
     intro q e
     rw [(b q e).1,(n q e).2,As,As]
     exact (Vk (g q e).1).symm
   ·refine hK0 ?_ ⟨false,none,0,0,false,none,0,0⟩ _ (B0 H R)
    rintro ⟨q,e⟩
    exact j0 X (by rw [(n q e).2];exact ⟨Pe _,Vt _⟩)
  ·have F:a=t.length:=by omega
   refine M _ ⟨s2,A1,n1,c1,false,none,0,0⟩ D H (NQ.whole i2) (Sz.int (d.mono (by omega)) (by omega)) ?_
   intro q e
   have S:=(b q e).2
   rw [F,fD] at S
   have A:q.den=1:=by
    by_cases A:q.den=1
    ·exact A
    ·simp [A] at S
   rw [(b q e).1,As]
   have:=Vk (g q e).1
   rw [A] at this
   rw [<- Kp]
   exact this.symm
 ·refine hK0 ?_ ⟨false,none,0,0,false,none,0,0⟩ _ H
  rintro ⟨q,p⟩
  exact k0 e (by rw [(b q p).1];exact ⟨Pe _,Vt _⟩)
end
def ndg(x:Nat):Nat:=x*78913/262144
def B9x:∀ x,x<65->2^x<=10^(ndg x+1)/\(ndg x=0\/10^(ndg x-1)<=2^(x-1))/\ndg x<=19:=by decide
def A4j{n k:Nat}(h1:10^k<=n)(h2:n<10^(k+1)):(dd n).length=k+1:=by
 have a:=(R5 (n:=n) (k:=k+1)).2 h2
 have b:¬ (dd n).length<=k:=fun e=>by have:=R5.1 e;omega
 omega
def C49{d:Nat}(h0:d≠0)(h:d<2^64):(dd d).length=ndg (O3 d)+(if 10^ndg (O3 d)<=d then 1 else 0):=by
 have i:=Jf h
 obtain ⟨g,j⟩:=Fj h0
 obtain ⟨f,b,e⟩:=B9x (O3 d) (by omega)
 split
 ·rename_i a
  exact A4j a (by omega)
 ·rename_i a
  rcases b with b|b
  ·rw [b] at a;simp at a;omega
  ·obtain ⟨k,hk⟩:∃ k,ndg (O3 d)=k+1:=by
    by_cases c:ndg (O3 d)=0
    ·rw [c] at a;simp at a;omega
    ·exact ⟨ndg (O3 d)-1,by omega⟩
   rw [hk] at a b ⊢
   rw [Nat.add_sub_cancel] at b
   rw [dU]
   exact A4j (by omega) (by omega)
def C1r(w n:Nat):pad (w+2) n=pad w (n/100)++[dch (n/10%10),dch (n%10)]:=by
 rw [Tg,Tg,gZ];simp
def B3f(n:Nat)(h:n=0):pad 0 n=[]:=by subst h;simp [pad,I6]
abbrev b64:Int:=18446744073709551616
abbrev Mw(h:bC)(A:Option bI)(len:Nat)(n:Int):Prop:=Mag .u64 b64 h A len n
structure Win (k:dY) (h g:bC) (b:Nat) (e:cC) (A:Option bI) (pre:List dC) (xs:List Int) (post:List dC):Prop where
 free:g b=none
 eq:h=g.put b (.cells (pre++xs.map (bB k)++post).toArray e)
 at_:xs=[]\/A=some ⟨b,pre.length,none⟩
section
variable {k:dY} {h g:bC} {b:Nat} {e:cC} {A:Option bI} {pre post:List dC} {xs:List Int}
def Win.le(w:Win k h g b e A pre xs post):g.le h:=by rw [w.eq];exact Heap.le_put _ w.free
def Win.sl(w:Win k h g b e A pre xs post):SlI k h A xs:=by
 rcases w.at_ with rfl|d
 ·exact SlI.nil
 ·right
  refine ⟨_,d,fun i v a=>?_⟩
  rw [w.eq,E5,E4]
  have c:i<(xs.map (bB k)).length:=by
   by_cases f:i<(xs.map (bB k)).length
   ·exact f
   ·rw [cQ (by omega)] at a;cases a
  simp only [dE]
  rw [aU,gM (by omega),cG,List.getElem?_append_left c]
  exact a
def Win.store{P:dG}{t:cC}(one:P.cellsOf t=1/\(P.info? t).isSome=true)(w:Win k h g b e A pre xs post){a:bI}(ha:A=some a){i v:Int}(h0:0<=i)(h1:i<xs.length){K:Unit->bC->Prop}
 (x:∀ h',Win k h' g b e A pre (xs.set i.toNat v) post->K () h'):wpH P (dO t (.pointer (some (eE a (i.toNat*1)))) (.int k v)) K h:=by
 have d:i.toNat<xs.length:=by omega
 have c:A=some ⟨b,pre.length,none⟩:=by
  rcases w.at_ with rfl|c
  ·simp at d
  ·exact c
 rw [ha] at c
 cases c
 rw [w.eq,E5,cF]
 refine Er one.1 one.2 rfl rfl (by simp;omega) ?_
 refine x _ ⟨w.free,?_,.inr ha⟩
 have:(pre++xs.map (bB k)++post).toArray.setIfInBounds (pre.length+i.toNat) (.int k v)=(pre++(xs.set i.toNat v).map (bB k)++post).toArray:=by
  rw [List.map_set]
  simp only [List.setIfInBounds_toArray,aU]
  congr 1
  rw [fR _ _ (by omega),cG,List.set_append_left _ _ (by simpa using d)]
 rw [this]
def Win.storeN{P:dG}{t:cC}(one:P.cellsOf t=1/\(P.info? t).isSome=true)(w:Win k h g b e A pre xs post){a:bI}(ha:A=some a){i:Nat}{v:Int}(h1:i<xs.length){K:Unit->bC->Prop}
 (x:∀ h',Win k h' g b e A pre (xs.set i v) post->K () h'):wpH P (dO t (.pointer (some (eE a (i*1)))) (.int k v)) K h:=by
 have:=w.store one ha (i:=(i:Int)) (v:=v) (K:=K) (by omega) (by omega) (by simpa using x)
 simpa using this
def Win.call{P:dG}{f:FuncId}{args:Array dC}(w:Win k h g b e A pre xs post){K:VP}(x:aW P f args g (fun r h0=>∀ h',Win k h' h0 b e A pre xs post->K r h')):aW P f args h K:=by
 rw [w.eq]
 exact FCall.frame w.free x fun r h0 a c=>c _ ⟨a,rfl,w.at_⟩
def Win.blk(k:dY)(e:cC){g:bC}{b:Nat}(hb:g b=none)(zs:List Int):Win k (Go.Proofs.YtmbfcbbkbefgfaaGreatDoor.blk k e g b zs) g b e (some ⟨b,0,none⟩) [] zs []:=
 ⟨hb,by simp [Go.Proofs.YtmbfcbbkbefgfaaGreatDoor.blk],.inr rfl⟩
def Win.sub(w:Win k h g b e A pre xs post){l m c:Nat}(hl:l<=m)(hm:m<=xs.length)(hc:xs.length<=c):
 Win k h g b e (J9 A c l 1) (pre++(xs.take l).map (bB k)) ((xs.drop l).take (m-l)) ((xs.drop m).map (bB k)++post):=by
 refine ⟨w.free,?_,?_⟩
 ·rw [w.eq]
  congr 3
  have:xs=xs.take l++((xs.drop l).take (m-l)++xs.drop m):=by
   have a:xs.drop m=(xs.drop l).drop (m-l):=by rw [dH];congr 1;omega
   rw [a,cI,cI]
  conv=>lhs;rw [this]
  simp [dP,aU]
 ·by_cases f:m-l=0
  ·left;simp [f]
  ·right
   rcases w.at_ with rfl|d
   ·simp at hm;omega
   ·unfold J9
    rw [iN (by omega),d]
    simp only [gJ,E5,cF,aH,fO,aF]
    rw [aI (by omega)]
def Win.whole{h' g':bC}(w:Win k h g b e A pre xs post){l m:Nat}(hl:l<=m)(hm:m<=xs.length){B:Option bI}{ys:List Int}(hy:ys.length=m-l)(v:Win k h' g' b e B (pre++(xs.take l).map (bB k)) ys ((xs.drop m).map (bB k)++post)):
 Win k h' g' b e A pre (xs.take l++ys++xs.drop m) post:=by
 refine ⟨v.free,?_,?_⟩
 ·rw [v.eq]
  congr 3
  simp [dP,aU]
 ·rcases w.at_ with rfl|a
  ·left
   simp at hm
   have:ys=[]:=aM (by omega)
   simp [this]
  ·exact .inr a
def Priv.win{n c:Nat}(p:eU h g e 1 A n c (xs.map (bB k)))(hx:xs≠[]):∃ b post,Win k h g b e A [] xs post:=by
 obtain ⟨f,q,j⟩:=p
 rcases j with ⟨o,rfl⟩|⟨b,a,i,d,rfl,m,l⟩
 ·simp at f
  exact absurd (aM (by omega)) hx
 ·refine ⟨b,a.drop (n*1),d,?_,.inr i⟩
  rw [cT,<- l,cI]
end
def Fi{P:dG}{t:cC}(one:P.cellsOf t=1/\(P.info? t).isSome=true){k:dY}{n:Int}{i:Nat}{g:bC}{b:Nat}{e:cC}{zs:List Int}(hi:i<zs.length){K:Unit->bC->Prop}
 (x:K () (blk k e g b (zs.set i n))):wpH P (dO t (.pointer (some (eE ⟨b,0,none⟩ (i*1)))) (.int k n)) K (blk k e g b zs):=by
 have:=R6 (P:=P) (t:=t) one (k:=k) (n:=n) (i:=(i:Int)) (g:=g) (b:=b) (e:=e) (zs:=zs) (K:=K) (by simpa using hi) (by simpa using x)
 simpa using this
def Hb{P:dG}{t e e' ty:cC}{k:dY}{bytes:Nat}(s:SliceT P t e' (.int k 0) 1 bytes){h g:bC}{b:Nat}{A:Option bI}{pre post:List dC}{xs:List Int}{n c m d:Nat}(w:Win k h g b e A pre xs post)(hn:n=xs.length){B:Option bI}{ys:List Int}(sy:SlI k h B ys)(hm:m=ys.length)(hle:ys.length<=xs.length){K:VP}
 (x:∀ h',Win k h' g b e A pre (ys++xs.drop ys.length) post->K (I ys.length) h'):wpH P (fB #[t,t] ty #[.slice A n c,.slice B m d]) K h:=by
 subst hn hm
 obtain ⟨i,o,r,l,q⟩:=s.parts
 unfold fB
 simp only [dE,aG,aL,C6,E9 s.und,N6 o,G1,fY,l]
 have j:Nat.min ys.length xs.length=ys.length:=aI hle
 rw [j]
 refine L7 (s:=1) (cs:=ys.map (bB k)) (by simp) sy ?_
 cases A with
 | none=>
  rcases w.at_ with f|f
  ·subst f
   have:ys=[]:=aM (by simpa using hle)
   subst this
   exact x h (by simpa using w)
  ·cases f
 | some a=>
  simp only [C6]
  rcases w.at_ with f|f
  ·subst f
   have:ys=[]:=aM (by simpa using hle)
   subst this
   exact x h (by simpa using w)
  ·cases f
   rw [w.eq]
   refine J7 (ys.map (bB k)) pre.length 0 (pre++xs.map (bB k)++post) (by simp;omega) (fun v p=>?_) ?_
   ·obtain ⟨u,_,rfl⟩:=List.mem_map.1 p;rfl
   ·refine x _ ⟨w.free,?_,?_⟩
    ·congr 3
     unfold N7
     rw [dU,aU pre,dB rfl,fO]
     rw [gG,aY (show pre.length<=pre.length+ys.length by omega),cG,cT]
     rw [eC (by simpa using hle),<- List.map_drop,dP]
     simp only [aU]
    ·right;rfl
def A87{P:dG}{nm:String}{x y c:Int}(hc:0<=c/\c<=1){f:Nat × Nat × Nat->dC}:Qg P (Extern.MathBitsCarry.three nm #[U x,U y,U c] >>= fun p=>pure (f p))=some (f (x.toNat,y.toNat,c.toNat)):=by
 obtain rfl|rfl:c=0\/c=1:=by omega
 ·rfl
 ·rfl
def B3x:aX=18446744073709551616:=by decide
def Dw{h:bC}{K:VP}{x y c:Int}(hx:0<=x/\x<18446744073709551616)(hy:0<=y/\y<18446744073709551616)(hc:0<=c/\c<=1)(hK:K (.tuple #[U ((x+y+c)%18446744073709551616),U ((x+y+c)/18446744073709551616)]) h):ECall prog T2 #[U x,U y,U c] h K:=by
 refine C03 B1n (A87 (P:=prog) hc (f:=fun p=>gN ((p.1+p.2.1+p.2.2)%aX) ((p.1+p.2.1+p.2.2)/aX))) ?_
 have a:((x.toNat+y.toNat+c.toNat)%aX:Nat)=(((x+y+c)%18446744073709551616:Int)):=by
  rw [B3x]
  omega
 have b:((x.toNat+y.toNat+c.toNat)/aX:Nat)=(((x+y+c)/18446744073709551616:Int)):=by
  rw [B3x]
  omega
 show K (.tuple #[U ((x.toNat+y.toNat+c.toNat)%aX:Nat),U ((x.toNat+y.toNat+c.toNat)/aX:Nat)]) h
 rw [a,b];exact hK
def Ga{h:bC}{K:VP}{x y c:Int}(hx:0<=x/\x<18446744073709551616)(hy:0<=y/\y<18446744073709551616)(hc:0<=c/\c<=1)(hK:K (.tuple #[U ((x-y-c)%18446744073709551616),U (if x-y-c<0 then 1 else 0)]) h):ECall prog Cc #[U x,U y,U c] h K:=by
 refine C03 B1l (A87 (P:=prog) hc (f:=fun p=>gN ((p.1+aX-p.2.1-p.2.2)%aX) (if p.1<p.2.1+p.2.2 then 1 else 0))) ?_
 have a:((x.toNat+aX-y.toNat-c.toNat)%aX:Nat)=(((x-y-c)%18446744073709551616:Int)):=by
  rw [B3x]
  omega
 have b:(((if x.toNat<y.toNat+c.toNat then 1 else 0:Nat):Nat):Int)=(if x-y-c<0 then 1 else 0):=by
  split<;>split<;>omega
 show K (.tuple #[U ((x.toNat+aX-y.toNat-c.toNat)%aX:Nat),U ((if x.toNat<y.toNat+c.toNat then 1 else 0:Nat):Nat)]) h
 rw [a,b];exact hK
def Fg(x y:Int):Int:=if x<y then -1 else if x>y then 1 else 0
def B3p{h:bC}{K:VP}{x:Int}(hK:K (.bool false) h):aW prog Km #[I x] h K:=by
 refine A7u _ ?_
 unfold A9s
 have:(x != x)=false:=by simp
 rw [this];exact hK
def B3o{h:bC}{K:VP}{x:Int}(hK:K (.bool false) h):aW prog Cb #[U x] h K:=by
 refine Xy _ ?_
 unfold Wy
 have:(x != x)=false:=by simp
 rw [this];exact hK
def B3q{h:bC}{K:VP}{x:Int}(hK:K (.bool false) h):aW prog Dp #[I x] h K:=by
 refine A2i _ ?_
 unfold Zx
 have:(x != x)=false:=by simp
 rw [this];exact hK
def B4z{h:bC}{K:VP}{x y:Int}(hK:K (I (Fg x y)) h):aW prog A1m #[I x,I y] h K:=by
 refine B6p _ _ ?_
 unfold C10
 refine B3p ⟨_,rfl,B3p ⟨_,rfl,?_⟩⟩
 unfold Fg at hK
 refine B6 (fun a=>?_) (fun a=>B6 (fun b=>?_) (fun b=>?_))
 ·rw [iP a] at hK;exact hK
 ·rw [iN a,iP b] at hK;exact hK
 ·rw [iN a,iN b] at hK;exact hK
def B4w{h:bC}{K:VP}{x y:Int}(hK:K (I (Fg x y)) h):aW prog Mm #[U x,U y] h K:=by
 refine A5k _ _ ?_
 unfold A5l
 refine B3o ⟨_,rfl,B3o ⟨_,rfl,?_⟩⟩
 unfold Fg at hK
 refine B6 (fun a=>?_) (fun a=>B6 (fun b=>?_) (fun b=>?_))
 ·rw [iP a] at hK;exact hK
 ·rw [iN a,iP b] at hK;exact hK
 ·rw [iN a,iN b] at hK;exact hK
def B50{h:bC}{K:VP}{x y:Int}(hK:K (I (Fg x y)) h):aW prog Qx #[I x,I y] h K:=by
 refine A7z _ _ ?_
 unfold A9x
 refine B3q ⟨_,rfl,B3q ⟨_,rfl,?_⟩⟩
 unfold Fg at hK
 refine B6 (fun a=>?_) (fun a=>B6 (fun b=>?_) (fun b=>?_))
 ·rw [iP a] at hK;exact hK
 ·rw [iN a,iP b] at hK;exact hK
 ·rw [iN a,iN b] at hK;exact hK
def Ny{h:bC}{K:VP}{x y:Int}(hx:0<=x/\x<18446744073709551616)(hy:0<=y/\y<18446744073709551616)(hK:K (.tuple #[U (x*y/18446744073709551616),U (x*y%18446744073709551616)]) h):aW prog Gx #[U x,U y] h K:=by
 refine B6r _ _ ?_
 unfold C11
 rw [Cp hx,Cp hy]
 simp only [Xd]
 obtain ⟨d,b,c,e,a⟩:=A6n hx hy (x1:=x/4294967296) (x0:=x%4294967296) (y1:=y/4294967296) (y0:=y%4294967296) (by omega) (by omega) (by omega) (by omega)
 generalize x/4294967296*(y/4294967296)=p11 at *
 generalize x/4294967296*(y%4294967296)=p10 at *
 generalize x%4294967296*(y/4294967296)=p01 at *
 generalize x%4294967296*(y%4294967296)=p00 at *
 rw [C3 (n:=p00) (by omega) (by omega),C3 (n:=p10) (by omega) (by omega),C3 (n:=p01) (by omega) (by omega),C3 (n:=p11) (by omega) (by omega)]
 rw [C3 (n:=p10+p00/4294967296) (by omega) (by omega),Cp (by omega)]
 rw [C3 (n:=(p10+p00/4294967296)%4294967296+p01) (by omega) (by omega)]
 rw [C3 (n:=p11+(p10+p00/4294967296)/4294967296) (by omega) (by omega),C3 (by omega) (by omega),E6]
 have:p11+(p10+p00/4294967296)/4294967296+((p10+p00/4294967296)%4294967296+p01)/4294967296=x*y/18446744073709551616:=by
  rw [a];omega
 rw [this];exact hK
def S9{h:bC}{K:VP}{x y c:Int}(hx:0<=x/\x<18446744073709551616)(hy:0<=y/\y<18446744073709551616)(hc:0<=c/\c<18446744073709551616)(hK:K (.tuple #[U ((x*y+c)%18446744073709551616),U ((x*y+c)/18446744073709551616)]) h):aW prog N3 #[U x,U y,U c] h K:=by
 have d:0<=x*y/\x*y<=18446744073709551615*18446744073709551615:=⟨aS hx.1 hy.1,eP (by omega) (by omega) hy.1 (by decide)⟩
 refine Wi _ _ _ ?_
 unfold Rz
 refine Ny hx hy ⟨_,_,rfl,?_⟩
 refine Dw (by omega) hc (by omega) ⟨_,_,rfl,?_⟩
 rw [C3 (by omega) (by omega)]
 have a:(x*y%18446744073709551616+c+0)%18446744073709551616=(x*y+c)%18446744073709551616:=by omega
 have b:x*y/18446744073709551616+(x*y%18446744073709551616+c+0)/18446744073709551616=(x*y+c)/18446744073709551616:=by omega
 rw [a,b];exact hK
def C2j(a:Array UInt8):({ data:=a }:ByteArray)=bs a.toList:=by simp [bs]
def B3y:List UInt8:=[0,1,2,2,3,3,3,3,4,4,4,4,4,4,4,4,5,5,5,5,5,5,5,5,5,5,5,5,5,5,5,5]++aE 32 6++aE 64 7++aE 128 8
def B0g:∀ i,i<256->(B3y[i]?).map UInt8.toNat=some (O3 i):=by decide
def A1z{x s:Nat}(h:2^s<=x):O3 x=s+O3 (x/2^s):=by
 have a:0<2^s:=cW (by decide)
 have b:x/2^s≠0:=by
  have:=Nat.div_pos h a;omega
 have:=Zc (l:=x%2^s) (t:=x/2^s) (j:=s) (eM _ a) b
 rw [Nat.mod_add_div] at this
 exact this
def A8p{h:bC}{K:VP}{x:Nat}(hx:x<18446744073709551616)(hK:K (I (O3 x)) h):aW prog Tq #[U x] h K:=by
 refine B6s _ ?_
 unfold C12
 have m:∀ (y s:Nat),s<=64->eD (y:Int) (2^(min ((s:Int)).toNat 64))=((y/2^s:Nat):Int):=by
  intro y s r
  rw [aC,aI r,eQ _ (aQ (bL (by decide)))]
  simp
 refine ⟨fun l d=>∃ (y n:Nat),l=[U y,I n]/\d=h/\y<4294967296/\O3 x=n+O3 y/\n<=32,B6 (fun g=>?_) (fun g=>?_),?_⟩
 ·refine ⟨x/2^32,32,?_,rfl,by omega,A1z (by omega),by omega⟩
  rw [show (32:Int)=((32:Nat):Int) from rfl,m x 32 (by omega)]
 ·exact ⟨x,0,rfl,rfl,by omega,by omega,by omega⟩
 rintro i f d ⟨y,n,b,rfl,e,a,q⟩
 obtain ⟨rfl,rfl⟩:i=(y:Int)/\f=(n:Int):=by simpa using b
 refine ⟨fun l p=>∃ (y n:Nat),l=[U y,I n]/\p=d/\y<65536/\O3 x=n+O3 y/\n<=48,B6 (fun g=>?_) (fun g=>?_),?_⟩
 ·refine ⟨y/2^16,n+16,?_,rfl,by omega,by rw [a,A1z (x:=y) (s:=16) (by omega)];omega,by omega⟩
  rw [show (16:Int)=((16:Nat):Int) from rfl,m y 16 (by omega),B7 (by omega) (by omega)];rfl
 ·exact ⟨y,n,rfl,rfl,by omega,a,by omega⟩
 clear a e b
 rintro i f d ⟨y,n,b,rfl,e,a,q⟩
 obtain ⟨rfl,rfl⟩:i=(y:Int)/\f=(n:Int):=by simpa using b
 refine ⟨fun l p=>∃ (y n:Nat),l=[U y,I n]/\p=d/\y<256/\O3 x=n+O3 y/\n<=56,B6 (fun g=>?_) (fun g=>?_),?_⟩
 ·refine ⟨y/2^8,n+8,?_,rfl,by omega,by rw [a,A1z (x:=y) (s:=8) (by omega)];omega,by omega⟩
  rw [show (8:Int)=((8:Nat):Int) from rfl,m y 8 (by omega),B7 (by omega) (by omega)];rfl
 ·exact ⟨y,n,rfl,rfl,by omega,a,by omega⟩
 clear a e b
 rintro i f d ⟨y,n,b,rfl,e,a,q⟩
 obtain ⟨rfl,rfl⟩:i=(y:Int)/\f=(n:Int):=by simpa using b
 rw [Yb (by omega) (by omega),aC]
 have j:=B0g y e
 cases hc:B3y[y]? with
 | none=>rw [hc] at j;cases j
 | some c=>
  rw [hc] at j
  have o:c.toNat=O3 y:=by simpa using j
  refine ⟨c,⟨by omega,?_⟩,?_⟩
  ·try unfold A8o
   rw [C2j,Jc];exact hc
  ·have t:O3 y<=8:=Jf (k:=8) (by omega)
   rw [o,B7 (n:=((O3 y:Nat):Int)) (by omega) (by omega),B7 (by omega) (by omega),<- fP,<- a]
   exact hK
def R9{h:bC}{K:VP}{x:Nat}(hx:x<18446744073709551616)(hK:K (I ((64-O3 x:Nat):Int)) h):aW prog J8 #[U x] h K:=by
 refine Pv _ ?_
 unfold Ju
 refine A8p hx ⟨_,rfl,?_⟩
 have a:O3 x<=64:=Jf (k:=64) (by omega)
 rw [B7 (by omega) (by omega)]
 have:(64:Int)-((O3 x:Nat):Int)=((64-O3 x:Nat):Int):=by omega
 rw [this];exact hK
def A4m{a b:Int}{s:Nat}(ha:0<=a)(hb:0<=b/\b<2^s)(hab:a*2^s+b<18446744073709551616):bor .u64 (a*2^s) b=a*2^s+b:=by
 have d:0<(2:Int)^s:=bL (by decide)
 have f:0<=a*2^s:=aS ha (by omega)
 rw [A7a (by omega) (by omega)]
 have e:(a*2^s).toNat=2^s*a.toNat:=by
  rw [Int.toNat_mul ha (by omega),fH,gU (by decide)];rfl
 have c:b.toNat<2^s:=by
  have:((2^s:Nat):Int)=(2:Int)^s:=by simp
  omega
 rw [e,A8l c,<- e];omega
def Ah{s:Nat}(hs:s<=64):(2:Int)^s*2^(64-s)=18446744073709551616:=by
 rw [<- bD,show s+(64-s)=64 by omega];decide
def B7l{x:Int}{s:Nat}(hs:s<=64):eD x (2^(min s 64))=x/2^s:=by
 rw [aI hs];exact eQ x (aQ (bL (by decide)))
def Est.exact{B top u2 v1 v2 U V:Int}(e:Est B 1 top u2 0 v1 v2 0 U V){q:Int}(h:q*(v1*B+v2)<=top*B+u2):q*V<=U:=by
 have d:=e.hU
 have b:=e.hV
 have a:U=top*B+u2:=by rw [d];omega
 have c:V=v1*B+v2:=by rw [b];omega
 rw [a,c];exact h
section
variable {h:bC} {K:VP}
def B4t{T u2 v1 v2 X Y:Int}{hp:bC}{J:Int->bC->Prop}(es:Est 4294967296 1 T u2 0 v1 v2 0 X Y)(_hT:T<18446744073709551616)
 (hJ:∀ q,0<=q->q*Y<=X->X<(q+1)*Y->J q hp):
 ∃ (Inv:Int->Int->bC->Prop) (mu:Int->Int->bC->Nat),Inv (T/v1) (T%v1) hp/\
  ∀ q r hp1,Inv q r hp1->(q>=4294967296->Inv q r hp1)/\0<=q/\q<=4294967297/\0<=r/\r<4294967296/\hp1=hp/\
   (q<4294967296->¬ (q*v2>4294967296*r+u2)->J q hp1)/\
   ((q>=4294967296\/q*v2>4294967296*r+u2)->1<=q/\(r+v1>=4294967296->J (q-1) hp1)/\(r+v1<4294967296->Inv (q-1) (r+v1) hp1/\mu (q-1) (r+v1) hp1<mu q r hp1)):=by
 obtain ⟨F,G⟩:=es.first
 have j:=es.init
 have z:=es.V0
 have x:=es.U0
 have C:=es.v1r
 have l:=es.v2r
 have y:=es.u2r
 have c:=es.top0
 have k:0<=T/v1:=bY c (by omega)
 have m:=aO T v1
 have p:=aT T (show v1≠0 by omega)
 have A:=aP T (show 0<v1 by omega)
 refine ⟨fun q r hp1=>hp1=hp/\0<=q/\q<=4294967297/\0<=r/\r<4294967296/\q*v1+r=T/\X<(q+1)*Y,fun q _ _=>q.toNat,⟨rfl,k,by omega,p,by omega,by rw [aR];exact m,j⟩,?_⟩
 rintro q r hp1 ⟨rfl,g,t,u,w,d,f⟩
 have key:q*(v1*4294967296+v2)=(T-r)*4294967296+q*v2:=by rw [<- d];grind
 refine ⟨fun _=>⟨rfl,g,t,u,w,d,f⟩,g,t,u,w,rfl,fun i E=>hJ q g (es.exact (by omega)) f,fun e=>?_⟩
 have n:X<q*Y:=by
  rcases e with i|i
  ·exact es.big i
  ·exact es.low g (by omega)
 have o:1<=q:=by
  by_cases D:1<=q
  ·exact D
  ·have:q=0:=by omega
   subst this;omega
 have b:X<(q-1+1)*Y:=by rw [Int.sub_add_cancel];exact n
 have a:(q-1)*v1+(r+v1)=T:=by grind
 refine ⟨o,fun B=>?_,fun B=>⟨⟨rfl,by omega,by omega,by omega,by omega,a,b⟩,by show (q-1).toNat<q.toNat;omega⟩⟩
 have s:(q-1)*(v1*4294967296+v2)=(T-(r+v1))*4294967296+(q-1)*v2:=by rw [<- a];grind
 have i:(q-1)*v2<=4294967296*v2:=aD (by omega) l.1
 exact hJ (q-1) (by omega) (es.exact (by omega)) b
def Ts{hi lo:Int}{y:Nat}(hhi:0<=hi/\hi<y)(hlo:0<=lo/\lo<18446744073709551616)(hy:y<18446744073709551616)
 (hK:K (.tuple #[U ((hi*18446744073709551616+lo)/y),U ((hi*18446744073709551616+lo)%y)]) h):aW prog Gy #[U hi,U lo,U y] h K:=by
 refine B6t _ _ _ ?_
 unfold C13
 refine D9 (fun e=>absurd e (by omega)) (fun _=>?_)
 refine B6 (fun e=>absurd e (by omega)) (fun _=>?_)
 refine D9 (fun e=>?_) (fun ba=>?_)
 ·refine B6 (fun e=>absurd e (by omega)) (fun _=>?_)
  refine B6 (fun e=>absurd e (by omega)) (fun _=>?_)
  subst e
  rw [fI,dL] at hK
  rw [bH hlo.1,bW hlo.1,C3 (bY hlo.1 (by omega)) (dA (fE _ hlo.1) hlo.2)]
  exact hK
 refine R9 hy ⟨_,rfl,?_⟩
 have W:y≠0:=by omega
 obtain ⟨be,bb⟩:=Fj W
 have ax:O3 y<=64:=Jf (k:=64) (by omega)
 have a3:1<=O3 y:=by unfold O3;rw [iN W];omega
 obtain ⟨s,hs⟩:∃ s,s=64-O3 y:=⟨_,rfl⟩
 rw [<- hs]
 have ay:s<64:=by omega
 have j:0<(2:Int)^s:=bL (by decide)
 have C:=Ah (s:=s) (by omega)
 have ai:0<(2:Int)^(64-s):=bL (by decide)
 have E:O3 y=64-s:=by omega
 have aj:(y:Int)<2^(64-s):=by
  rw [<- E]
  have:((y:Nat):Int)<((2^O3 y:Nat):Int):=by omega
  simpa using this
 have ap:(2:Int)^(63-s)<=y:=by
  have:((2^(O3 y-1):Nat):Int)<=((y:Nat):Int):=by omega
  rw [show O3 y-1=63-s by omega] at this
  simpa using this
 have V:(2:Int)^s*2^(63-s)=9223372036854775808:=by
  rw [<- bD,show s+(63-s)=63 by omega];decide
 have ao:C0 (s:Int)=(s:Int):=C3 (by omega) (by omega)
 have an:C0 ((64:Int)-s)=((64-s:Nat):Int):=by rw [C3 (by omega) (by omega)];omega
 have N:(y:Int)*2^s<18446744073709551616:=by
  rw [<- C,aR];exact cO aj j
 have av:9223372036854775808<=(y:Int)*2^s:=by
  rw [<- V,aR (y:Int)];exact aJ ap (by omega)
 have eY:C0 ((y:Int)*2^(min s 64))=(y:Int)*2^s:=by rw [aI (by omega),C3 (by omega) N]
 have bd:hi*2^s+2^s<=(y:Int)*2^s:=by
  have:=aD (show hi+1<=(y:Int) by omega) (aQ j)
  rw [Int.add_mul] at this;omega
 have G:0<=hi*2^s:=aS hhi.1 (by omega)
 have ac:0<=lo/2^(64-s)/\lo/2^(64-s)<2^s:=by
  refine ⟨bY hlo.1 (by omega),bJ ai ?_⟩
  rw [C];exact hlo.2
 have eT:bor .u64 (C0 (hi*2^(min s 64))) (eD lo (2^(min (64-s) 64)))=hi*2^s+lo/2^(64-s):=by
  rw [aI (show s<=64 by omega),C3 G (by omega),B7l (by omega),A4m hhi.1 ac (by omega)]
 have eL:C0 (lo*2^(min s 64))=lo*2^s%18446744073709551616:=by rw [aI (by omega),E6]
 have a5:0<=lo*2^s%18446744073709551616/\lo*2^s%18446744073709551616<18446744073709551616:=⟨aT _ (by decide),aP _ (by decide)⟩
 have hN:(hi*18446744073709551616+lo)*2^s=(hi*2^s+lo/2^(64-s))*18446744073709551616+lo*2^s%18446744073709551616:=by
  have d1:lo*2^s/18446744073709551616=lo/2^(64-s):=by
   rw [<- C,aR lo,Int.mul_ediv_mul_of_pos _ _ j]
  have d2:=aO (lo*2^s) 18446744073709551616
  rw [d1] at d2
  grind
 generalize hTT:hi*2^s+lo/2^(64-s)=T at *
 generalize hLL:lo*2^s%18446744073709551616=L at *
 generalize hYY:(y:Int)*2^s=Y at *
 have t:0<=T/\T<Y:=by omega
 unfold A5n A5p A5m A5o
 simp only [ao,an,aC,eY,eT,eL,Xd]
 rw [Cp (by omega),Cp (by omega)]
 have e1:Est 4294967296 1 T (L/4294967296) 0 (Y/4294967296) (Y%4294967296) 0 (T*4294967296+L/4294967296) Y:=
  ⟨by decide,by decide,by omega,by omega,by omega,by omega,by omega,by omega,t.1,by omega,by omega⟩
 refine B6 (fun e=>absurd e (by omega)) (fun _=>?_)
 refine B6 (fun e=>absurd e (by omega)) (fun _=>?_)
 refine B6 (fun e=>absurd e (by omega)) (fun _=>?_)
 refine B6 (fun e=>absurd e (by omega)) (fun _=>?_)
 refine B6 (fun e=>absurd e (by omega)) (fun _=>?_)
 have Z:∀ {q w:Int},0<=q->q<=4294967296->0<=w->w<4294967296->0<=q*w/\q*w<18446744073709551616:=by
  intro q w a b c d
  refine ⟨aS a c,?_⟩
  have:=eP b (show w<=4294967295 by omega) c (by decide)
  omega
 refine ⟨fun l hp=>∃ q,l=[U q]/\hp=h/\0<=q/\q*Y<=T*4294967296+L/4294967296/\T*4294967296+L/4294967296<(q+1)*Y,?_,?_⟩
 ·obtain ⟨Inv,mu,i0,st⟩:=B4t (hp:=h) (J:=fun q hp=>∃ i,[U q]=[U i]/\hp=h/\0<=i/\i*Y<=T*4294967296+L/4294967296/\T*4294967296+L/4294967296<(i+1)*Y) e1 (by omega) (fun q a b c=>⟨q,rfl,rfl,a,b,c⟩)
  refine ⟨fun l hp=>∃ q r,l=[U q,U r]/\Inv q r hp,fun l hp=>mu (iAt l 0) (iAt l 1) hp,⟨T/(Y/4294967296),T%(Y/4294967296),?_,i0⟩,?_⟩
  ·have dm:=aO T (Y/4294967296)
   have M:=bY t.1 (show 0<=Y/4294967296 by omega)
   have d1:T/(Y/4294967296)<=T:=fE _ t.1
   have d2:=aT T (show Y/4294967296≠0 by omega)
   rw [bH t.1,C3 (n:=T/(Y/4294967296)) M (by omega),aR (T/(Y/4294967296))]
   have d3:=aS (show 0<=Y/4294967296 by omega) M
   rw [C3 (n:=Y/4294967296*(T/(Y/4294967296))) d3 (by omega),C3 (by omega) (by omega)]
   have:T-Y/4294967296*(T/(Y/4294967296))=T%(Y/4294967296):=by omega
   rw [this]
  rintro q r m ⟨i,r',hl,hI⟩
  obtain ⟨rfl,rfl⟩:q=i/\r=r':=by simpa using hl
  obtain ⟨_,f,g,r0,r1,rfl,ok,D⟩:=st q r m hI
  have X:=Z (q:=4294967296) (w:=r) (by omega) (by omega) r0 r1
  refine ⟨fun l hp=>l=[]/\hp=m/\(q>=4294967296\/q*(Y%4294967296)>4294967296*r+L/4294967296),B6 (fun S=>⟨rfl,rfl,.inl S⟩) (fun S=>?_),?_⟩
  ·have Q:=Z (q:=q) (w:=Y%4294967296) f (by omega) (by omega) (by omega)
   rw [C3 Q.1 Q.2,C3 X.1 X.2,C3 (n:=4294967296*r+L/4294967296) (by omega) (by omega)]
   exact B6 (fun x=>⟨rfl,rfl,.inr x⟩) (fun x=>ok (by omega) x)
  ·rintro al ⟨_,rfl,o⟩
   obtain ⟨g1,g2,O⟩:=D o
   rw [C3 (n:=r+Y/4294967296) (by omega) (by omega),C3 (n:=q-1) (by omega) (by omega)]
   exact B6 (fun H=>g2 H) (fun H=>⟨⟨_,_,rfl,(O (by omega)).1⟩,(O (by omega)).2⟩)
 rintro g A ⟨ae,af,rfl,am,a8,a7⟩
 obtain rfl:g=ae:=by simpa using af
 have a0:g<4294967296:=by
  by_cases z:g<4294967296
  ·exact z
  ·have:=aD (show 4294967296<=g by omega) (show 0<=Y by omega);omega
 have bc:(g+1)*Y=g*Y+Y:=by grind
 have a1:0<=g*Y:=aS am (by omega)
 have aa:C0 (C0 (C0 (T*4294967296)+L/4294967296)-C0 (g*Y))=T*4294967296+L/4294967296-g*Y:=by
  simp only [E6];omega
 simp only [aa]
 generalize hRR:T*4294967296+L/4294967296-g*Y=R at *
 have p:0<=R/\R<Y:=by omega
 refine B6 (fun e=>absurd e (by omega)) (fun _=>?_)
 have e2:Est 4294967296 1 R (L%4294967296) 0 (Y/4294967296) (Y%4294967296) 0 (R*4294967296+L%4294967296) Y:=
  ⟨by decide,by decide,by omega,by omega,by omega,by omega,by omega,by omega,p.1,by omega,by omega⟩
 refine ⟨fun l hp=>∃ q,l=[U q]/\hp=A/\0<=q/\q*Y<=R*4294967296+L%4294967296/\R*4294967296+L%4294967296<(q+1)*Y,?_,?_⟩
 ·obtain ⟨Inv,mu,i0,st⟩:=B4t (hp:=A) (J:=fun q hp=>∃ i,[U q]=[U i]/\hp=A/\0<=i/\i*Y<=R*4294967296+L%4294967296/\R*4294967296+L%4294967296<(i+1)*Y) e2 (by omega) (fun q a b c=>⟨q,rfl,rfl,a,b,c⟩)
  refine ⟨fun l hp=>∃ q r,l=[U r,U q]/\Inv q r hp,fun l hp=>mu (iAt l 1) (iAt l 0) hp,⟨R/(Y/4294967296),R%(Y/4294967296),?_,i0⟩,?_⟩
  ·have dm:=aO R (Y/4294967296)
   have M:=bY p.1 (show 0<=Y/4294967296 by omega)
   have d1:R/(Y/4294967296)<=R:=fE _ p.1
   have d2:=aT R (show Y/4294967296≠0 by omega)
   rw [bH p.1,C3 (n:=R/(Y/4294967296)) M (by omega),aR (R/(Y/4294967296))]
   have d3:=aS (show 0<=Y/4294967296 by omega) M
   rw [C3 (n:=Y/4294967296*(R/(Y/4294967296))) d3 (by omega),C3 (by omega) (by omega)]
   have:R-Y/4294967296*(R/(Y/4294967296))=R%(Y/4294967296):=by omega
   rw [this]
  rintro r q m ⟨i,r',hl,hI⟩
  obtain ⟨rfl,rfl⟩:r=r'/\q=i:=by simpa using hl
  obtain ⟨_,f,g,r0,r1,rfl,ok,D⟩:=st q r m hI
  have X:=Z (q:=4294967296) (w:=r) (by omega) (by omega) r0 r1
  refine ⟨fun l hp=>l=[]/\hp=m/\(q>=4294967296\/q*(Y%4294967296)>4294967296*r+L%4294967296),B6 (fun S=>⟨rfl,rfl,.inl S⟩) (fun S=>?_),?_⟩
  ·have Q:=Z (q:=q) (w:=Y%4294967296) f (by omega) (by omega) (by omega)
   rw [C3 Q.1 Q.2,C3 X.1 X.2,C3 (n:=4294967296*r+L%4294967296) (by omega) (by omega)]
   exact B6 (fun x=>⟨rfl,rfl,.inr x⟩) (fun x=>ok (by omega) x)
  ·rintro al ⟨_,rfl,o⟩
   obtain ⟨g1,g2,O⟩:=D o
   rw [C3 (n:=r+Y/4294967296) (by omega) (by omega),C3 (n:=q-1) (by omega) (by omega)]
   exact B6 (fun H=>g2 H) (fun H=>⟨⟨_,_,rfl,(O (by omega)).1⟩,(O (by omega)).2⟩)
 rintro f a2 ⟨aq,ag,rfl,ar,a4,a9⟩
 obtain rfl:f=aq:=by simpa using ag
 refine B6 (fun e=>absurd e (by omega)) (fun _=>?_)
 have au:f<4294967296:=by
  by_cases z:f<4294967296
  ·exact z
  ·have:=aD (show 4294967296<=f by omega) (show 0<=Y by omega);omega
 have a6:(f+1)*Y=f*Y+Y:=by grind
 have az:0<=f*Y:=aS ar (by omega)
 have ah:C0 (C0 (C0 (R*4294967296)+L%4294967296)-C0 (f*Y))=R*4294967296+L%4294967296-f*Y:=by
  simp only [E6];omega
 rw [ah,C3 (n:=g*4294967296) (by omega) (by omega),C3 (n:=g*4294967296+f) (by omega) (by omega),B7l (by omega)]
 have aw:(hi*18446744073709551616+lo)*2^s=(g*4294967296+f)*(y*2^s)+(R*4294967296+L%4294967296-f*Y):=by
  rw [hN,hYY]
  have:T*18446744073709551616+L=(T*4294967296+L/4294967296)*4294967296+L%4294967296:=by omega
  rw [this]
  have:T*4294967296+L/4294967296=R+g*Y:=by omega
  rw [this];grind
 have B:R*4294967296+L%4294967296-f*Y=(hi*18446744073709551616+lo-(g*4294967296+f)*y)*2^s:=by grind
 rw [B,fX _ (show (2:Int)^s≠0 by omega)]
 have ak:0<=hi*18446744073709551616+lo-(g*4294967296+f)*y:=by
  by_cases z:0<=hi*18446744073709551616+lo-(g*4294967296+f)*y
  ·exact z
  ·have:=aD (show hi*18446744073709551616+lo-(g*4294967296+f)*y <= -1 by omega) (aQ j);omega
 have ad:hi*18446744073709551616+lo-(g*4294967296+f)*y<y:=by
  by_cases z:hi*18446744073709551616+lo-(g*4294967296+f)*y<y
  ·exact z
  ·have:=aD (show (y:Int)<=hi*18446744073709551616+lo-(g*4294967296+f)*y by omega) (aQ j);omega
 have u:(hi*18446744073709551616+lo)/y=g*4294967296+f:=by
  have:hi*18446744073709551616+lo=(hi*18446744073709551616+lo-(g*4294967296+f)*y)+(g*4294967296+f)*y:=by omega
  rw [this,fM _ _ (by omega),bU ak ad,dL]
 have F:(hi*18446744073709551616+lo)%y=hi*18446744073709551616+lo-(g*4294967296+f)*y:=by
  rw [Int.emod_def,u,aR (y:Int)]
 rw [u,F] at hK
 exact hK
end
def O2{xs:List Int}(d:Dig b64 xs)(i:Nat):0<=xs.getD i 0/\xs.getD i 0<18446744073709551616:=d.getD (by decide) i
def Ew(c:Int):0<=c%18446744073709551616/\c%18446744073709551616<b64:=⟨aT _ (by decide),aP _ (by decide)⟩
section
variable {h g:bC} {K:VP} {A B:Option bI} {ac bc:Nat}
def El{xs:List Int}(s:SlI .u64 h A xs)(hc:xs.length<=ac)(hl:xs.length<=10000000000)(hK:∀ m,m<=xs.length->fU (xs.take m)->val b64 (xs.take m)=val b64 xs->K (.slice A m ac) h):aW prog I5 #[.slice A xs.length ac] h K:=by
 refine B8r _ _ _ ?_
 unfold C4y
 refine ⟨fun l f=>∃ m:Nat,l=[I m]/\m<=xs.length/\f=h/\val b64 (xs.take m)=val b64 xs,fun l _=>(iAt l 0).toNat,⟨xs.length,rfl,aZ _,rfl,by rw [aV]⟩,?_⟩
 rintro n o ⟨m,b,g,rfl,d⟩
 obtain rfl:=sI1 b
 refine B6 (fun k=>?_) (fun k=>?_)
 ·obtain ⟨j,rfl⟩:∃ j,m=j+1:=⟨m-1,by omega⟩
  have e:B5 (((j+1:Nat):Int)-1)=(j:Int):=by rw [B7 (by omega) (by omega)];omega
  rw [e]
  have a:=O6 b64 (xs:=xs) (i:=j) (by omega)
  refine s.load rfl (by omega) (by omega) ?_
  rw [aC]
  refine D9 (fun c=>?_) (fun c=>?_)
  ·exact ⟨⟨j,rfl,by omega,rfl,by rw [c] at a;omega⟩,by simp only [iAt,aG];omega⟩
  ·refine ⟨⟨by omega,by omega⟩,?_⟩
   rw [H9,aC,bV,bV]
   refine hK (j+1) g ?_ d
   rw [If (by omega)];exact A3q c
 ·have:m=0:=by omega
  subst this
  refine ⟨⟨by omega,by omega⟩,?_⟩
  rw [H9,aC,bV,bV]
  exact hK 0 (by omega) Norm.nil d
def Q9{xs:List Int}(s:SlI .u64 h A xs)(hd:Dig b64 xs)(hc:xs.length<=ac)(hl:xs.length<=10000000000)(hK:∀ m,m<=xs.length->Mw h A m (val b64 xs)->K (.slice A m ac) h):aW prog I5 #[.slice A xs.length ac] h K:=by
 refine El s hc hl ?_
 intro m a d b
 refine hK m a ⟨xs.take m,by simp;omega,?_,hd.take m,d,b⟩
 have:=s.cut (c:=ac) (l:=0) (m:=m) (by omega) a hc
 simpa [H9] using this
def Bu{w:Int}(hw:0<=w/\w<18446744073709551616)(hK:∀ A m c h',h.le h'->m<=c->Mw h' A m w->K (.slice A m c) h'):aW prog Y5 #[U w] h K:=by
 refine A51 _ ?_
 unfold A52
 refine D9 (fun e=>?_) (fun e=>?_)
 ·subst e;exact hK none 0 0 h (B4 h) (aZ _) Mag.zero
 ·refine Ba Q4 rfl ?_
  intro b a
  exact ⟨_,_,_,rfl,hK _ _ _ _ (Heap.le_put _ a) (aZ _) ⟨[w],rfl,SlI.new h b [w] C1 _,Dig.one hw,by simpa [fU] using e,X4 _ _⟩⟩
def F8{x y:Int}{an bn:Nat}(ma:Mw h A an x)(mb:Mw h B bn y)(hl:an<=10000000000)(hK:K (I (Fg x y)) h):aW prog F1 #[.slice A an ac,.slice B bn bc] h K:=by
 obtain ⟨a,rfl,r,f,t,rfl⟩:=ma
 obtain ⟨b,rfl,q,g,w,rfl⟩:=mb
 refine St _ _ _ _ _ _ ?_
 unfold Po
 refine I8 (fun u=>?_) (fun u=>?_)
 ·refine B4z ⟨_,rfl,?_⟩
  have:Fg (a.length:Int) (b.length:Int)=Fg (val b64 a) (val b64 b):=by
   unfold Fg
   by_cases p:a.length<b.length
   ·have:=Jz (by decide) f g w p
    rw [iP (by omega),iP this]
   ·have:=Jz (by decide) g f t (by omega)
    rw [iN (by omega),iP (by omega),iN (by omega),iP (by omega)]
  rw [this];exact hK
 ·have d:a.length=b.length:=by omega
  refine ⟨fun l z=>∃ k:Nat,l=[I ((k:Int)-1)]/\k<=a.length/\z=h/\a.drop k=b.drop k,fun l _=>(iAt l 0+1).toNat,⟨a.length,?_,aZ _,rfl,?_⟩,?_⟩
  ·rw [B7 (by omega) (by omega)]
  ·rw [fD,d,fD]
  rintro i D ⟨k,o,C,rfl,c⟩
  obtain rfl:i=(k:Int)-1:=by simpa using o
  refine B6 (fun p=>?_) (fun p=>?_)
  ·obtain ⟨j,rfl⟩:∃ j,k=j+1:=⟨k-1,by omega⟩
   have e:((j+1:Nat):Int)-1=(j:Int):=by omega
   rw [e]
   refine r.load rfl (by omega) (by omega) ?_
   refine q.load rfl (by omega) (by omega) ?_
   rw [aC]
   refine I8 (fun s=>?_) (fun s=>?_)
   ·refine r.load rfl (by omega) (by omega) ?_
    refine q.load rfl (by omega) (by omega) ?_
    rw [aC]
    refine B4w ⟨_,rfl,B4 _,?_⟩
    have:Fg (a.getD j 0) (b.getD j 0)=Fg (val b64 a) (val b64 b):=by
     unfold Fg
     by_cases m:a.getD j 0<b.getD j 0
     ·have:=Jy (by decide) f g (i:=j) (by omega) (by omega) c m
      rw [iP m,iP this]
     ·have:=Jy (by decide) g f (i:=j) (by omega) (by omega) c.symm (by omega)
      rw [iN m,iP (by omega),iN (by omega),iP (by omega)]
    rw [this];exact hK
   ·rw [B7 (by omega) (by omega)]
    refine ⟨⟨j,rfl,by omega,rfl,?_⟩,by simp only [iAt,aG];omega⟩
    rw [cH (show j<a.length by omega),cH (show j<b.length by omega),c]
    congr 1
    simpa [cU,show j<a.length by omega,show j<b.length by omega] using s
  ·have n:k=0:=by omega
   subst n
   simp at c
   subst c
   have:Fg (val b64 a) (val b64 a)=0:=by unfold Fg;rw [iN (by omega),iN (by omega)]
   rw [this] at hK;exact hK
def Fh{xs:List Int}{an:Nat}(s:SlI .u64 h A xs)(hn:an=xs.length)(hl:xs.length<=10000000000)(hK:∀ A' c' h' g',h.le g'->eU h' g' C1 1 A' xs.length c' (xs.map (bB .u64))->K (.slice A' xs.length c') h'):aW prog Gq #[.slice A an ac] h K:=by
 subst hn
 refine B5k _ _ _ ?_
 unfold C0d
 refine Br.of (fun e=>?_) (fun e=>?_)
 ·have m:A=none:=by simpa using e
  have g:xs=[]:=by
   rcases s with k|⟨a,f,_⟩
   ·simpa using k
   ·rw [m] at f;cases f
  subst g
  exact hK none 0 h h (B4 h) (by simpa using Priv.nil _ _ _ _)
 ·refine A6p Q4 ?_
  intro b j
  refine ⟨_,_,_,rfl,?_⟩
  have c:=Heap.le_put (h:=h) (b:=b) (.cells #[] C1) j
  refine Pf Q4 (Priv.nil _ _ _ _) (ys:=xs.map (bB .u64)) (by simp) (SlI.mono c s) (fun v i=>?_) (by omega) (by omega) ?_
  ·obtain ⟨a,_,rfl⟩:=List.mem_map.1 i;rfl
  ·intro A' c' h' g' l d
   simp only [fG,cT] at d ⊢
   exact ⟨_,_,_,rfl,hK _ _ _ _ (B0 c l) d⟩
variable {b:Nat} {e:cC} {pre post:List dC}
def Ji{xs ys:List Int}{an bn:Nat}(w:Win .u64 h g b e A pre xs post)(hn:an=xs.length)(sy:SlI .u64 g B ys)(hm:bn=ys.length)(dx:Dig b64 xs)(dy:Dig b64 ys)(hle:ys.length<=xs.length)(hfit:val b64 xs+val b64 ys<b64^xs.length)(hl:xs.length<=10000000000)
 (hK:∀ xs' h',xs'.length=xs.length->Dig b64 xs'->val b64 xs'=val b64 xs+val b64 ys->Win .u64 h' g b e A pre xs' post->K (.tuple #[]) h'):aW prog U3 #[.slice A an ac,.slice B bn bc] h K:=by
 subst hn hm
 refine A7k _ _ _ _ _ _ ?_
 unfold A9i
 refine ⟨fun l t=>∃ (k:Nat) (c:Int) (zs:List Int),l=[U c,I k]/\k<=ys.length/\zs.length=xs.length/\Dig b64 zs/\(0<=c/\c<=1)/\Win .u64 t g b e A pre zs post/\zs.drop k=xs.drop k/\val b64 (zs.take k)+c*b64^k=val b64 (xs.take k)+val b64 (ys.take k),fun l _=>ys.length-(iAt l 1).toNat,⟨0,0,xs,rfl,by omega,rfl,dx,by omega,w,rfl,by simp [val]⟩,?_⟩
 rintro c i t ⟨k,C,zs,q,J,d,p,x,m,f,u⟩
 obtain ⟨rfl,rfl⟩:c=C/\i=(k:Int):=by simpa using q
 refine B6 (fun z=>?_) (fun z=>?_)
 ·have O:=O2 dy k
  have E:=O2 p k
  have s:=E7 f
  have F:=C5 b64 xs k
  have L:=C5 b64 ys k
  refine (sy.mono m.le).load rfl (by omega) (by omega) ?_
  refine m.sl.load d.symm (by omega) (by omega) ?_
  simp only [aC]
  refine Dw E O x ⟨_,_,rfl,?_⟩
  obtain ⟨a,y,_⟩:=SlV.at m.sl (i:=k) (by simp;omega)
  refine ⟨a,y,by omega,by omega,m.storeN F5 y (by omega) ?_⟩
  intro h' H
  rw [B7 (n:=(k:Int)+1) (by omega) (by omega)]
  refine ⟨⟨k+1,_,_,rfl,by omega,by simpa using d,p.set (Ew _),by omega,H,?_,?_⟩,by simp only [iAt,aG,aL];omega⟩
  ·rw [D5 (by omega)];exact D7 f
  ·rw [C9 (by omega),F0,aF,aI (by omega),bG,Co,F,L,<- s]
   grind
 ·have r:k=ys.length:=by omega
  subst r
  rw [aV] at u
  refine ⟨fun l t=>∃ (k:Nat) (c:Int) (zs:List Int),l=[U c,I k]/\ys.length<=k/\k<=xs.length/\zs.length=xs.length/\Dig b64 zs/\(0<=c/\c<=1)/\Win .u64 t g b e A pre zs post/\zs.drop k=xs.drop k/\val b64 (zs.take k)+c*b64^k=val b64 (xs.take k)+val b64 ys,fun l _=>xs.length-(iAt l 1).toNat,⟨ys.length,c,zs,rfl,by omega,by omega,d,p,x,m,f,u⟩,?_⟩
  clear u f m p d x J z
  rintro c i t ⟨k,C,zs,q,M,J,d,p,x,m,f,u⟩
  obtain ⟨rfl,rfl⟩:c=C/\i=(k:Int):=by simpa using q
  have o:=F4 b64 zs (i:=k) (by omega)
  have j:=F4 b64 xs (i:=k) (by omega)
  refine I8 (fun N=>B6 (fun z=>?_) (fun z=>?_)) (fun N=>?_)
  ·have E:=O2 p k
   have s:=E7 f
   have F:=C5 b64 xs k
   refine m.sl.load d.symm (by omega) (by omega) ?_
   simp only [aC]
   refine Dw E (by omega) x ⟨_,_,rfl,?_⟩
   obtain ⟨a,y,_⟩:=SlV.at m.sl (i:=k) (by simp;omega)
   refine ⟨a,y,by omega,by omega,m.storeN F5 y (by omega) ?_⟩
   intro h' H
   rw [B7 (n:=(k:Int)+1) (by omega) (by omega)]
   refine ⟨⟨k+1,_,_,rfl,by omega,by omega,by simpa using d,p.set (Ew _),by omega,H,?_,?_⟩,by simp only [iAt,aG,aL];omega⟩
   ·rw [D5 (by omega)];exact D7 f
   ·rw [C9 (by omega),F0,aF,aI (by omega),bG,Co,F,<- s]
    grind
  ·exfalso
   have r:k=xs.length:=by omega
   subst r
   have G:c=1:=by omega
   subst G
   rw [aV] at u
   have:=C7 (by decide) (p.take xs.length)
   omega
  ·have D:c=0:=by omega
   subst D
   refine hK zs t d p ?_ m
   rw [o,j,f];omega
def Ep{xs ys:List Int}{an bn:Nat}(w:Win .u64 h g b e A pre xs post)(hn:an=xs.length)(sy:SlI .u64 g B ys)(hm:bn=ys.length)(dx:Dig b64 xs)(dy:Dig b64 ys)(hle:ys.length<=xs.length)(hfit:val b64 ys<=val b64 xs)(hl:xs.length<=10000000000)
 (hK:∀ xs' h',xs'.length=xs.length->Dig b64 xs'->val b64 xs'=val b64 xs-val b64 ys->Win .u64 h' g b e A pre xs' post->K (.tuple #[]) h'):aW prog V4 #[.slice A an ac,.slice B bn bc] h K:=by
 subst hn hm
 refine Sn _ _ _ _ _ _ ?_
 unfold Ph
 have key:∀ {z y c:Int},(0<=z/\z<18446744073709551616)->(0<=y/\y<18446744073709551616)->(0<=c/\c<=1)->(z-y-c)%18446744073709551616=z-y-c+18446744073709551616*(if z-y-c<0 then 1 else 0):=by
  intro z y c T S q;split<;>omega
 refine ⟨fun l x=>∃ (k:Nat) (c:Int) (zs:List Int),l=[U c,I k]/\k<=ys.length/\zs.length=xs.length/\Dig b64 zs/\(0<=c/\c<=1)/\Win .u64 x g b e A pre zs post/\zs.drop k=xs.drop k/\val b64 (zs.take k)=val b64 (xs.take k)-val b64 (ys.take k)+c*b64^k,fun l _=>ys.length-(iAt l 1).toNat,⟨0,0,xs,rfl,by omega,rfl,dx,by omega,w,rfl,by simp [val]⟩,?_⟩
 rintro c i x ⟨k,F,zs,r,M,d,p,q,m,f,s⟩
 obtain ⟨rfl,rfl⟩:c=F/\i=(k:Int):=by simpa using r
 refine B6 (fun E=>?_) (fun E=>?_)
 ·have N:=O2 dy k
  have C:=O2 p k
  have u:=E7 f
  have H:=C5 b64 xs k
  have O:=C5 b64 ys k
  refine (sy.mono m.le).load rfl (by omega) (by omega) ?_
  refine m.sl.load d.symm (by omega) (by omega) ?_
  simp only [aC]
  refine Ga C N q ⟨_,_,rfl,?_⟩
  obtain ⟨a,D,_⟩:=SlV.at m.sl (i:=k) (by simp;omega)
  refine ⟨a,D,by omega,by omega,m.storeN F5 D (by omega) ?_⟩
  intro h' L
  rw [B7 (n:=(k:Int)+1) (by omega) (by omega)]
  refine ⟨⟨k+1,_,_,rfl,by omega,by simpa using d,p.set (Ew _),by split<;>omega,L,?_,?_⟩,by simp only [iAt,aG,aL];omega⟩
  ·rw [D5 (by omega)];exact D7 f
  ·rw [C9 (by omega),F0,aF,aI (by omega),bG,H,O,<- u,s,key C N q]
   grind
 ·have t:k=ys.length:=by omega
  subst t
  rw [aV] at s
  refine ⟨fun l x=>∃ (k:Nat) (c:Int) (zs:List Int),l=[U c,I k]/\ys.length<=k/\k<=xs.length/\zs.length=xs.length/\Dig b64 zs/\(0<=c/\c<=1)/\Win .u64 x g b e A pre zs post/\zs.drop k=xs.drop k/\val b64 (zs.take k)=val b64 (xs.take k)-val b64 ys+c*b64^k,fun l _=>xs.length-(iAt l 1).toNat,⟨ys.length,c,zs,rfl,by omega,by omega,d,p,q,m,f,s⟩,?_⟩
  clear s f m p d q M E
  rintro c i x ⟨k,F,zs,r,Q,M,d,p,q,m,f,s⟩
  obtain ⟨rfl,rfl⟩:c=F/\i=(k:Int):=by simpa using r
  have o:=F4 b64 zs (i:=k) (by omega)
  have j:=F4 b64 xs (i:=k) (by omega)
  refine I8 (fun R=>B6 (fun E=>?_) (fun E=>?_)) (fun R=>?_)
  ·have C:=O2 p k
   have u:=E7 f
   have H:=C5 b64 xs k
   refine m.sl.load d.symm (by omega) (by omega) ?_
   simp only [aC]
   refine Ga C (by omega) q ⟨_,_,rfl,?_⟩
   obtain ⟨a,D,_⟩:=SlV.at m.sl (i:=k) (by simp;omega)
   refine ⟨a,D,by omega,by omega,m.storeN F5 D (by omega) ?_⟩
   intro h' L
   rw [B7 (n:=(k:Int)+1) (by omega) (by omega)]
   refine ⟨⟨k+1,_,_,rfl,by omega,by omega,by simpa using d,p.set (Ew _),by split<;>omega,L,?_,?_⟩,by simp only [iAt,aG,aL];omega⟩
   ·rw [D5 (by omega)];exact D7 f
   ·rw [C9 (by omega),F0,aF,aI (by omega),bG,H,<- u,s,key C (y:=0) (by omega) q]
    grind
  ·exfalso
   have t:k=xs.length:=by omega
   subst t
   have J:c=1:=by omega
   subst J
   rw [aV] at s
   have:=L6 (by decide) (p.take xs.length)
   rw [aF,aI (by omega)] at this
   omega
  ·have G:c=0:=by omega
   subst G
   refine hK zs x d p ?_ m
   rw [o,j,f];omega
def A21{x y:Int}{an bn:Nat}(ma:Mw h A an x)(mb:Mw h B bn y)(hab:bn<=an)(hl:an<=4000000000)(hb0:bn≠0)(hK:∀ A' m c' h',h.le h'->m<=c'->Mw h' A' m (x+y)->K (.slice A' m c') h'):
 wpH prog (Instr.makeSlice Z7 (I (B5 ((an:Int)+1))) (I (B5 ((an:Int)+1)))) (fun v hp1=>∃ (t20A:Option bI) (t20n:Nat) (t20c:Nat),v= .slice t20A t20n t20c/\∀ ty,wpH prog (fB #[Z7,Z7] ty #[.slice t20A t20n t20c,.slice A an ac]) (fun v1 hp2=>∃ (t23:Int),v1=I t23/\aW prog U3 #[.slice t20A t20n t20c,.slice B bn bc] hp2 (fun r hp3=>r= .tuple #[]/\aW prog I5 #[.slice t20A t20n t20c] hp3 (fun r1 hp4=>∃ (t28A:Option bI) (t28n:Nat) (t28c:Nat),r1= .slice t28A t28n t28c/\K (.slice t28A t28n t28c) hp4))) hp1) h:=by
 obtain ⟨a,rfl,u,l,G,rfl⟩:=ma
 obtain ⟨J,rfl,t,n,M,rfl⟩:=mb
 have s:B5 ((a.length:Int)+1)=((a.length+1:Nat):Int):=by rw [B7 (by omega) (by omega)];omega
 rw [s]
 refine J6 Q4 (by omega) (by omega) (by omega) ?_
 intro b z
 rw [aC]
 refine ⟨_,_,_,rfl,fun ty=>?_⟩
 have q:=Win.blk .u64 C1 z (aE (a.length+1) 0)
 refine Hb Q4 q (by simp) (SlI.mono q.le u) rfl (by simp) ?_
 intro H p
 refine ⟨_,rfl,?_⟩
 have c:(aE (a.length+1) (0:Int)).drop a.length=[0]:=by rw [bF];simp [cG]
 rw [c] at p
 have e:val b64 (a++[0])=val b64 a:=by rw [F0];omega
 have w:=L6 (by decide) l
 have E:=L6 (by decide) n
 have D:=D0 (B:=b64) (by decide) hab
 have i:b64^(a.length+1)=b64^a.length*18446744073709551616:=bG _ _
 have C:=D6 (B:=b64) (by decide) a.length
 refine Ji p (by simp) t rfl (l.append (Dig.one (by decide))) n (by simp;omega) ?_ (by simp;omega) ?_
 ·rw [e,aH,dD,i];omega
 intro zs L f g j o
 refine ⟨rfl,?_⟩
 have d:zs.length=a.length+1:=by rw [f];simp
 rw [<- d]
 refine Q9 o.sl g (by omega) (by omega) ?_
 intro m F k
 rw [j,e] at k
 exact ⟨_,_,_,rfl,hK _ _ _ _ o.le F k⟩
def S3{x y:Int}{an bn:Nat}(ma:Mw h A an x)(mb:Mw h B bn y)(ha:an<=ac)(hb:bn<=bc)(hl:an<=4000000000)(hl2:bn<=4000000000)(hK:∀ A' m c' h',h.le h'->m<=c'->Mw h' A' m (x+y)->K (.slice A' m c') h'):aW prog O9 #[.slice A an ac,.slice B bn bc] h K:=by
 refine A55 _ _ _ _ _ _ ?_
 unfold A56
 refine ⟨fun l h'=>h'=h/\∃ (A1 B1:Option bI) (b d c1 c2:Nat) (o f:Int),l=[.slice A1 b c1,.slice B1 d c2]/\Mw h A1 b o/\Mw h B1 d f/\d<=b/\b<=4000000000/\b<=c1/\o+f=x+y,B6 (fun u=>?_) (fun u=>?_),?_⟩
 ·exact ⟨rfl,_,_,_,_,_,_,y,x,rfl,mb,ma,by omega,hl2,hb,fN _ _⟩
 ·exact ⟨rfl,_,_,_,_,_,_,x,y,rfl,ma,mb,by omega,hl,ha,rfl⟩
 ·rintro A1 b c1 B1 d c2 z ⟨rfl,A1',B1',g,a,j,c,o,f,e,q,p,s,k,n,i⟩
  obtain ⟨⟨rfl,rfl,rfl⟩,rfl,rfl,rfl⟩:(A1=A1'/\b=g/\c1=j)/\B1=B1'/\d=a/\c2=c:=by simpa using e
  rw [<- i] at hK
  refine D9 (fun t=>?_) (fun t=>?_)
  ·have:=(p.len_zero (by decide)).2 (by omega)
   subst this
   rw [fL] at hK
   exact hK _ _ _ _ (B4 _) n q
  ·refine Jv _ (A21 (ac:=c1) (bc:=c2) q p s k (by omega) hK) ?_
   rintro v h' ⟨A2,a,c,w,r⟩
   exact ⟨A2,a,c,w,r _⟩
def H2{x y:Int}{an bn:Nat}(ma:Mw h A an x)(mb:Mw h B bn y)(ha:an<=ac)(hl:an<=4000000000)(hxy:y<=x)(hK:∀ A' m c' h',h.le h'->m<=c'->Mw h' A' m (x-y)->K (.slice A' m c') h'):aW prog G8 #[.slice A an ac,.slice B bn bc] h K:=by
 have a:bn<=an:=mb.len_le (by decide) (dA hxy (ma.lt (by decide)))
 refine Rc _ _ _ _ _ _ ?_
 unfold Lh
 refine D9 (fun q=>?_) (fun q=>?_)
 ·have:=(mb.len_zero (by decide)).2 (by omega)
  subst this
  rw [Int.sub_zero] at hK
  exact hK _ _ _ _ (B4 _) ha ma
 ·obtain ⟨w,rfl,p,l,s,rfl⟩:=ma
  obtain ⟨u,rfl,o,n,C,rfl⟩:=mb
  refine Fh p rfl (by omega) ?_
  intro A1 c1 t D j c
  refine ⟨_,_,_,rfl,?_⟩
  obtain ⟨b,k,r⟩:=c.win (by rintro rfl;rw [gK] at a;omega)
  refine Ep r rfl (o.mono j) rfl l n a hxy (by omega) ?_
  intro zs z d e f i
  refine ⟨rfl,?_⟩
  rw [<- d]
  refine Q9 i.sl e (by have:=c.2.1;omega) (by omega) ?_
  intro m E g
  rw [f] at g
  exact ⟨_,_,_,rfl,hK _ _ _ _ (B0 j i.le) (by have:=c.2.1;omega) g⟩
def Jh{zs xs:List Int}{an bn:Nat}{wd:Int}(w:Win .u64 h g b e A pre zs post)(hn:an=zs.length)(sx:SlI .u64 g B xs)(hm:bn=xs.length)(dz:Dig b64 zs)(dx:Dig b64 xs)(hle:zs.length=xs.length)(hw:0<=wd/\wd<18446744073709551616)(hl:xs.length<=10000000000)
 (hK:∀ zs' c h',zs'.length=zs.length->Dig b64 zs'->(0<=c/\c<18446744073709551616)->val b64 zs'+c*b64^zs.length=val b64 zs+val b64 xs*wd->Win .u64 h' g b e A pre zs' post->K (U c) h'):aW prog By #[.slice A an ac,.slice B bn bc,U wd] h K:=by
 subst hn hm
 refine Xq _ _ _ _ _ _ _ ?_
 unfold Wm
 refine ⟨fun l r=>∃ (k:Nat) (c:Int) (d:List Int),l=[U c,I k]/\k<=xs.length/\d.length=zs.length/\Dig b64 d/\(0<=c/\c<18446744073709551616)/\Win .u64 r g b e A pre d post/\d.drop k=zs.drop k/\val b64 (d.take k)+c*b64^k=val b64 (zs.take k)+val b64 (xs.take k)*wd,fun l _=>xs.length-(iAt l 1).toNat,⟨0,0,zs,rfl,by omega,rfl,dz,by omega,w,rfl,by simp [val]⟩,?_⟩
 rintro c i r ⟨k,z,d,o,H,f,q,x,j,m,u⟩
 obtain ⟨rfl,rfl⟩:c=z/\i=(k:Int):=by simpa using o
 refine B6 (fun C=>?_) (fun C=>?_)
 ·have t:=O2 dx k
  have D:=O2 q k
  have s:=E7 m
  have F:=C5 b64 xs k
  have E:=C5 b64 zs k
  have hm:0<=xs.getD k 0*wd/\xs.getD k 0*wd<=18446744073709551615*18446744073709551615:=⟨aS t.1 hw.1,eP (by omega) (by omega) hw.1 (by decide)⟩
  refine (sx.mono j.le).load rfl (by omega) (by omega) ?_
  rw [aC]
  refine Ny t hw ⟨_,_,rfl,?_⟩
  generalize hmm:xs.getD k 0*wd=mm at *
  refine Dw (by omega) x (by omega) ⟨_,_,rfl,?_⟩
  refine j.sl.load f.symm (by omega) (by omega) ?_
  rw [aC]
  refine Dw D (by omega) (by omega) ⟨_,_,rfl,?_⟩
  obtain ⟨a,y,_⟩:=SlV.at j.sl (i:=k) (by simp;omega)
  refine ⟨a,y,by omega,by omega,j.storeN F5 y (by omega) ?_⟩
  intro h' G
  rw [B7 (n:=(k:Int)+1) (by omega) (by omega)]
  rw [C3 (n:=mm/18446744073709551616+(mm%18446744073709551616+c+0)/18446744073709551616) (by omega) (by omega)]
  rw [C3 (by omega) (by omega)]
  refine ⟨⟨k+1,_,_,rfl,by omega,by simpa using f,q.set (Ew _),by omega,G,?_,?_⟩,by simp only [iAt,aG,aL];omega⟩
  ·rw [D5 (by omega)];exact D7 m
  ·rw [C9 (by omega),F0,aF,aI (by omega),bG,F,E,<- s]
   have key:(d.getD k 0+(mm%18446744073709551616+c+0)%18446744073709551616+0)%18446744073709551616+18446744073709551616*(mm/18446744073709551616+(mm%18446744073709551616+c+0)/18446744073709551616+(d.getD k 0+(mm%18446744073709551616+c+0)%18446744073709551616+0)/18446744073709551616)=d.getD k 0+mm+c:=by omega
   generalize (d.getD k 0+(mm%18446744073709551616+c+0)%18446744073709551616+0)%18446744073709551616=dg at *
   generalize mm/18446744073709551616+(mm%18446744073709551616+c+0)/18446744073709551616+(d.getD k 0+(mm%18446744073709551616+c+0)%18446744073709551616+0)/18446744073709551616=cn at *
   rw [<- hmm] at key
   grind
 ·have p:k=xs.length:=by omega
  subst p
  rw [aV,<- hle,aV,<- f,aV] at u
  exact hK d c r f q x (by rw [<- f];exact u) j
def Kv{zs xs:List Int}{an bn:Nat}{wd:Int}(w:Win .u64 h g b e A pre zs post)(hn:an=zs.length)(sx:SlI .u64 g B xs)(hm:bn=xs.length)(dz:Dig b64 zs)(dx:Dig b64 xs)(hle:zs.length=xs.length)(hw:0<=wd/\wd<18446744073709551616)(hl:xs.length<=10000000000)
 (hK:∀ zs' c h',zs'.length=zs.length->Dig b64 zs'->(0<=c/\c<18446744073709551616)->val b64 zs'=val b64 zs-val b64 xs*wd+c*b64^zs.length->Win .u64 h' g b e A pre zs' post->K (U c) h'):aW prog V3 #[.slice A an ac,.slice B bn bc,U wd] h K:=by
 subst hn hm
 refine Mo _ _ _ _ _ _ _ ?_
 unfold Hm
 refine ⟨fun l s=>∃ (k:Nat) (c:Int) (f:List Int),l=[U c,I k]/\k<=xs.length/\f.length=zs.length/\Dig b64 f/\(0<=c/\c<18446744073709551616)/\Win .u64 s g b e A pre f post/\f.drop k=zs.drop k/\val b64 (f.take k)=val b64 (zs.take k)-val b64 (xs.take k)*wd+c*b64^k,fun l _=>xs.length-(iAt l 1).toNat,⟨0,0,zs,rfl,by omega,rfl,dz,by omega,w,rfl,by simp [val]⟩,?_⟩
 rintro c i s ⟨k,z,f,o,H,d,r,x,j,m,p⟩
 obtain ⟨rfl,rfl⟩:c=z/\i=(k:Int):=by simpa using o
 refine B6 (fun C=>?_) (fun C=>?_)
 ·have u:=O2 dx k
  have D:=O2 r k
  have t:=E7 m
  have F:=C5 b64 xs k
  have E:=C5 b64 zs k
  have hm:0<=xs.getD k 0*wd/\xs.getD k 0*wd<=18446744073709551615*18446744073709551615:=⟨aS u.1 hw.1,eP (by omega) (by omega) hw.1 (by decide)⟩
  refine (sx.mono j.le).load rfl (by omega) (by omega) ?_
  rw [aC]
  refine Ny u hw ⟨_,_,rfl,?_⟩
  generalize hmm:xs.getD k 0*wd=mm at *
  refine Dw (by omega) x (by omega) ⟨_,_,rfl,?_⟩
  refine j.sl.load d.symm (by omega) (by omega) ?_
  rw [aC]
  refine Ga D (by omega) (by omega) ⟨_,_,rfl,?_⟩
  obtain ⟨a,y,_⟩:=SlV.at j.sl (i:=k) (by simp;omega)
  refine ⟨a,y,by omega,by omega,j.storeN F5 y (by omega) ?_⟩
  intro h' G
  rw [B7 (n:=(k:Int)+1) (by omega) (by omega)]
  rw [C3 (n:=mm/18446744073709551616+(mm%18446744073709551616+c+0)/18446744073709551616) (by omega) (by omega)]
  rw [C3 (by split<;>omega) (by split<;>omega)]
  refine ⟨⟨k+1,_,_,rfl,by omega,by simpa using d,r.set (Ew _),by split<;>omega,G,?_,?_⟩,by simp only [iAt,aG,aL];omega⟩
  ·rw [D5 (by omega)];exact D7 m
  ·rw [C9 (by omega),F0,aF,aI (by omega),bG,F,E,<- t,p]
   have key:(f.getD k 0-(mm%18446744073709551616+c+0)%18446744073709551616-0)%18446744073709551616=f.getD k 0-mm-c+18446744073709551616*(mm/18446744073709551616+(mm%18446744073709551616+c+0)/18446744073709551616+(if f.getD k 0-(mm%18446744073709551616+c+0)%18446744073709551616-0<0 then 1 else 0)):=by split<;>omega
   rw [key]
   generalize mm/18446744073709551616+(mm%18446744073709551616+c+0)/18446744073709551616+(if f.getD k 0-(mm%18446744073709551616+c+0)%18446744073709551616-0<0 then 1 else 0)=cn at *
   rw [<- hmm]
   grind
 ·have q:k=xs.length:=by omega
  subst q
  rw [aV,<- hle,aV,<- d,aV] at p
  exact hK f c s d r x (by rw [<- d];exact p) j
end
def Yq{x z:Int}{s:Nat}(hs:s<=64)(_hx:0<=x/\x<18446744073709551616)(hz:0<=z/\z<(2:Int)^s):
 bor .u64 z (x*2^s%18446744073709551616)=z+x*2^s%18446744073709551616/\z+x*2^s%18446744073709551616<18446744073709551616/\x*2^s%18446744073709551616=2^s*(x%2^(64-s)):=by
 have j:=Ah hs
 have f:0<(2:Int)^s:=bL (by decide)
 have k:0<(2:Int)^(64-s):=bL (by decide)
 have a:z<18446744073709551616:=by
  have:(2:Int)^s*1<=2^s*2^(64-s):=aJ (by omega) (by omega)
  omega
 have i:x*2^s%18446744073709551616=2^s*(x%2^(64-s)):=by
  rw [<- j,aR x,Int.mul_emod_mul_of_pos _ _ f]
 have e:=Ew (x*2^s)
 have c:0<=x%2^(64-s):=aT _ (by omega)
 have g:(x*2^s%18446744073709551616).toNat=2^s*(x%2^(64-s)).toNat:=by
  rw [i,Int.toNat_mul (by omega) c]
  rw [gU (by decide)];rfl
 have d:z.toNat<2^s:=by
  have:((2^s:Nat):Int)=(2:Int)^s:=by simp
  omega
 have b:bor .u64 z (x*2^s%18446744073709551616)=z+x*2^s%18446744073709551616:=by
  rw [A7a ⟨hz.1,a⟩ e,g,Nat.or_comm,A8l d,<- g]
  omega
 refine ⟨b,?_,i⟩
 rw [<- b,A7a ⟨hz.1,a⟩ e]
 have:z.toNat ||| (x*2^s%18446744073709551616).toNat<2^64:=Nat.or_lt_two_pow (by omega) (by have:=e.2;show _<_;omega)
 omega
def Lo(k:Nat):b64^k=(2:Int)^(64*k):=by
 rw [show b64=(2:Int)^64 by decide,<- Int.pow_mul]
section
variable {h g:bC} {K:VP} {A B:Option bI} {ac bc:Nat}
def U8{x:Int}{an s:Nat}(ma:Mw h A an x)(ha:an<=ac)(hl:an<=1000000000)(hs:s<=10000000000)(hK:∀ A' m c' h',h.le h'->m<=c'->Mw h' A' m (x*2^s)->K (.slice A' m c') h'):aW prog U1 #[.slice A an ac,U s] h K:=by
 have D:=ma.len_zero (by decide)
 refine A22 _ _ _ _ ?_
 unfold Zg
 refine D9 (fun T=>?_) (fun T=>D9 (fun p=>?_) (fun p=>?_))
 ·have:=D.2 (by omega)
  subst this
  rw [fI] at hK
  exact hK _ _ _ _ (B4 _) ha ma
 ·have:s=0:=by omega
  subst this
  rw [hO,Int.mul_one] at hK
  exact hK _ _ _ _ (B4 _) ha ma
 ·obtain ⟨a,rfl,Q,L,nx,rfl⟩:=ma
  obtain ⟨k0,hk0⟩:∃ k0,k0=s/64:=⟨_,rfl⟩
  obtain ⟨r,hr⟩:∃ r,r=s%64:=⟨_,rfl⟩
  have N:B5 (C0 (cM (s:Int) 64))=(k0:Int):=by
   rw [bH (by omega),C3 (by omega) (by omega),B7 (by omega) (by omega)];omega
  have S:dN (s:Int) 64=(r:Int):=by rw [bW (by omega)];omega
  have er:C0 ((64:Int)-(r:Int))=((64-r:Nat):Int):=by rw [C3 (by omega) (by omega)];omega
  simp only [N,S,er,aC]
  have M:B5 (B5 ((a.length:Int)+k0)+1)=((a.length+k0+1:Nat):Int):=by rw [B7 (n:=(a.length:Int)+k0) (by omega) (by omega),B7 (by omega) (by omega)];omega
  rw [M]
  refine J6 Q4 (by omega) (by omega) (by omega) ?_
  intro b F
  rw [aC]
  refine ⟨_,_,_,rfl,?_⟩
  have q:0<(2:Int)^r:=bL (by decide)
  have u:0<(2:Int)^(64-r):=bL (by decide)
  have f:=Ah (s:=r) (by omega)
  refine ⟨fun l h'=>∃ (k:Nat) (zs:List Int),l=[I k]/\k<=a.length/\zs.length=a.length+k0+1/\Dig b64 zs/\h'=blk .u64 C1 h b zs/\zs.drop (k+k0+1)=aE (a.length-k) 0/\zs.getD (k+k0) 0<2^r/\val b64 (zs.take (k+k0+1))=val b64 (a.take k)*2^s,fun l _=>a.length-(iAt l 0).toNat,⟨0,_,rfl,by omega,by simp,I0 (by decide) _,rfl,?_,?_,?_⟩,?_⟩
  ·rw [bF];congr 1;omega
  ·have:(aE (a.length+k0+1) (0:Int)).getD (0+k0) 0=0:=by simp [cU,List.getElem?_replicate];split<;>rfl
   rw [this];exact q
  ·rw [bZ,Cs];simp [val]
  rintro i hp ⟨k,zs,g,hk,c,w,rfl,y,V,d⟩
  obtain rfl:=sI1 g
  have C:=W9 (k:=.u64) (e:=C1) F zs
  refine B6 (fun p=>?_) (fun p=>?_)
  ·have j:=O2 L k
   have W:=O2 w (k+k0)
   have vx:=C5 b64 a k
   have X:=C5 b64 zs (k+k0)
   have e2:B5 ((k:Int)+k0)=((k+k0:Nat):Int):=by rw [B7 (by omega) (by omega)];omega
   have H:B5 (((k+k0:Nat):Int)+1)=((k+k0+1:Nat):Int):=by rw [B7 (by omega) (by omega)];omega
   rw [e2,H]
   refine (Q.mono C).load rfl (by omega) (by omega) ?_
   refine (Dt .u64 C1 h b zs).load c.symm (by omega) (by omega) ?_
   simp only [aC]
   refine B6 (fun e=>absurd e (by omega)) (fun _=>?_)
   refine ⟨_,rfl,by omega,by omega,?_⟩
   obtain ⟨J,Z,o3⟩:=Yq (s:=r) (by omega) j ⟨W.1,V⟩
   rw [aI (show r<=64 by omega),E6,J,B7l (show 64-r<=64 by omega)]
   have aa:=Ew (a.getD k 0*2^r)
   refine Fi (zs:=zs) (i:=k+k0) F5 (by first|omega|(rw [bN];omega)) ?_
   refine B6 (fun e=>absurd e (by omega)) (fun _=>?_)
   refine ⟨_,rfl,by omega,by omega,?_⟩
   refine Fi (zs:=zs.set (k+k0) (zs.getD (k+k0) 0+a.getD k 0*2^r%18446744073709551616)) (i:=k+k0+1) F5 (by first|omega|(rw [bN];omega)) ?_
   have G:0<=a.getD k 0/2^(64-r)/\a.getD k 0/2^(64-r)<2^r:=⟨bY j.1 (by omega),bJ u (by rw [f];exact j.2)⟩
   have O:(2:Int)^r<=9223372036854775808:=by
    have:=D0 (B:=2) (by decide) (show r<=63 by omega)
    have e:(2:Int)^63=9223372036854775808:=by decide
    omega
   rw [B7 (n:=(k:Int)+1) (by omega) (by omega)]
   refine ⟨⟨k+1,(zs.set (k+k0) (zs.getD (k+k0) 0+a.getD k 0*2^r%18446744073709551616)).set (k+k0+1) (a.getD k 0/2^(64-r)),rfl,by omega,by simpa using c,(w.set ⟨by omega,Z⟩).set ⟨G.1,by show _<(18446744073709551616:Int);omega⟩,rfl,?_,?_,?_⟩,by simp only [iAt,aG];omega⟩
   ·rw [show k+1+k0+1=(k+k0+1)+1 by omega,D5 (by omega),D5 (by omega),<- dH,y,bF]
    congr 1
   ·rw [show k+1+k0=k+k0+1 by omega]
    have:((zs.set (k+k0) (zs.getD (k+k0) 0+a.getD k 0*2^r%18446744073709551616)).set (k+k0+1) (a.getD k 0/2^(64-r))).getD (k+k0+1) 0=a.getD k 0/2^(64-r):=by
     rw [cU,hG (by rw [bN];omega)];rfl
    rw [this];exact G.2
   ·rw [show k+1+k0+1=(k+k0+1)+1 by omega,C9 (by rw [bN];omega),F0,C9 (by omega),F0]
    simp only [aF,aH,dD]
    rw [aI (show k+k0<=zs.length by omega),bG,vx]
    rw [X] at d
    have z:(2:Int)^s=b64^k0*2^r:=by
     rw [Lo,<- bD];congr 1;omega
    have o:b64^(k+k0)=b64^k*b64^k0:=bD _ _ _
    have R:=aO (a.getD k 0) (2^(64-r))
    have key:a.getD k 0*2^r%18446744073709551616+18446744073709551616*(a.getD k 0/2^(64-r))=a.getD k 0*2^r:=by
     rw [o3,<- f,cX,<- cY]
     have:a.getD k 0%2^(64-r)+2^(64-r)*(a.getD k 0/2^(64-r))=a.getD k 0:=by omega
     rw [this,aR]
    generalize a.getD k 0*2^r%18446744073709551616=lo at *
    generalize a.getD k 0/2^(64-r)=hi at *
    rw [z] at d ⊢
    rw [o] at d ⊢
    have e5:(val b64 (a.take k)+b64^k*a.getD k 0)*(b64^k0*2^r)=val b64 (a.take k)*(b64^k0*2^r)+b64^k*b64^k0*(a.getD k 0*2^r):=by grind
    rw [e5,<- d,<- key]
    grind
  ·have t:k=a.length:=by omega
   subst t
   rw [aV,aK (by omega)] at d
   rw [<- c]
   refine Q9 (Dt _ _ _ _ _) w (aZ _) (by omega) ?_
   intro m hm E
   rw [d] at E
   exact ⟨_,_,_,rfl,hK _ _ _ _ (W9 F _) hm E⟩
def Hg{x:Int}{an s:Nat}(ma:Mw h A an x)(hl:an<=1000000000)(hs:s<=1000000000000)(hK:∀ A' m c' h',h.le h'->m<=c'->Mw h' A' m (x/2^s)->K (.slice A' m c') h'):aW prog Bw #[.slice A an ac,U s] h K:=by
 have Q:=ma.nonneg (by decide)
 have af:=ma.lt (by decide)
 refine Xm _ _ _ _ ?_
 unfold Wd
 obtain ⟨k0,hk0⟩:∃ k0,k0=s/64:=⟨_,rfl⟩
 obtain ⟨r,hr⟩:∃ r,r=s%64:=⟨_,rfl⟩
 have D:C0 (cM (s:Int) 64)=(k0:Int):=by
  rw [bH (by omega),C3 (by omega) (by omega)];omega
 have G:B5 (k0:Int)=(k0:Int):=B7 (by omega) (by omega)
 have em:dN (s:Int) 64=(r:Int):=by rw [bW (by omega)];omega
 have er:C0 ((64:Int)-(r:Int))=((64-r:Nat):Int):=by rw [C3 (by omega) (by omega)];omega
 have en:C0 (an:Int)=(an:Int):=C3 (by omega) (by omega)
 simp only [D,G,em,er,en,aC]
 have n:(2:Int)^s=b64^k0*2^r:=by
  rw [Lo,<- bD];congr 1;omega
 refine B6 (fun h1=>?_) (fun h1=>?_)
 ·have:x/2^s=0:=by
   apply bU Q
   rw [n]
   have t:=D0 (B:=b64) (by decide) (show an<=k0 by omega)
   have t2:b64^k0*1<=b64^k0*2^r:=aJ (by have:0<(2:Int)^r:=bL (by decide);omega) (aQ (D6 (by decide) _))
   omega
  rw [this] at hK
  exact hK _ _ _ _ (B4 _) (aZ _) Mag.zero
 ·obtain ⟨a,rfl,T,p,nx,rfl⟩:=ma
  have u:B5 ((a.length:Int)-k0)=((a.length-k0:Nat):Int):=by rw [B7 (by omega) (by omega)];omega
  rw [u]
  refine J6 Q4 (by omega) (by omega) (by omega) ?_
  intro b W
  rw [aC]
  refine ⟨_,_,_,rfl,?_⟩
  have Z:0<(2:Int)^r:=bL (by decide)
  have d:=Ah (s:=r) (by omega)
  have J:0<(2:Int)^(64-r):=bL (by decide)
  have ad:(a.drop k0).length=a.length-k0:=aN
  have g:∀ i,(a.drop k0).getD i 0=a.getD (k0+i) 0:=fun i=>A43
  refine ⟨fun l h'=>∃ (k:Nat) (zs:List Int),l=[I k]/\k<=a.length-k0/\zs.length=a.length-k0/\Dig b64 zs/\h'=blk .u64 C1 h b zs/\2^r*val b64 (zs.take k)+(a.drop k0).getD 0 0%2^r=val b64 ((a.drop k0).take k)+b64^k*((a.drop k0).getD k 0%2^r),fun l _=>a.length-(iAt l 0).toNat,⟨0,_,rfl,by omega,by simp,I0 (by decide) _,rfl,by simp [val]⟩,?_⟩
  rintro i ae ⟨k,zs,q,hk,c,L,rfl,V⟩
  obtain rfl:=sI1 q
  have o:∀ zs,h.le (blk .u64 C1 h b zs):=fun zs=>W9 (k:=.u64) (e:=C1) W zs
  have X:=O2 (p.drop k0) k
  refine B6 (fun h2=>?_) (fun h2=>?_)
  ·have e2:B5 ((k:Int)+k0)=((k0+k:Nat):Int):=by rw [B7 (by omega) (by omega)];omega
   have e3:B5 (((k0+k:Nat):Int)+1)=((k0+(k+1):Nat):Int):=by rw [B7 (by omega) (by omega)];omega
   rw [e2,e3]
   refine (T.mono (o zs)).load rfl (by omega) (by omega) ?_
   refine B6 (fun e=>absurd e (by omega)) (fun _=>?_)
   refine ⟨_,rfl,by omega,by omega,?_⟩
   simp only [aC]
   rw [<- g k,B7l (show r<=64 by omega)]
   have f:0<=(a.drop k0).getD k 0/2^r:=bY X.1 (by omega)
   have M:(a.drop k0).getD k 0/2^r<2^(64-r):=by
    apply bJ Z
    rw [aR,d];exact X.2
   have S:(2:Int)^(64-r)<=18446744073709551616:=by
    rw [<- d]
    have:=aD (show 1<=(2:Int)^r by omega) (aQ J);omega
   refine Fi (zs:=zs) (i:=k) F5 (by first|omega|(rw [bN];omega)) ?_
   have d1:Dig b64 (zs.set k ((a.drop k0).getD k 0/2^r)):=L.set ⟨f,by show _<(18446744073709551616:Int);omega⟩
   have l1:(zs.set k ((a.drop k0).getD k 0/2^r)).length=a.length-k0:=by rw [bN];exact c
   have g1:(zs.set k ((a.drop k0).getD k 0/2^r)).getD k 0=(a.drop k0).getD k 0/2^r:=by simp [cU,show k<zs.length by omega]
   have vr:=C5 b64 (a.drop k0) k
   have j:∀ z:Int,2^r*z=(a.drop k0).getD k 0-(a.drop k0).getD k 0%2^r+18446744073709551616*((a.drop k0).getD (k+1) 0%2^r)->
    2^r*val b64 ((zs.set k z).take (k+1))+(a.drop k0).getD 0 0%2^r=val b64 ((a.drop k0).take (k+1))+b64^(k+1)*((a.drop k0).getD (k+1) 0%2^r):=by
    intro z ez
    rw [C9 (by omega),F0,aF,aI (by omega),vr,bG]
    have u:2^r*(val b64 (zs.take k)+b64^k*z)=2^r*val b64 (zs.take k)+b64^k*(2^r*z):=by grind
    rw [u,ez]
    grind
   have ag:=aO ((a.drop k0).getD k 0) (2^r)
   have N:B5 ((k:Int)+1)=((k+1:Nat):Int):=by rw [B7 (by omega) (by omega)];omega
   rw [N]
   refine B6 (fun h3=>?_) (fun h3=>?_)
   ·have ld:=(Dt .u64 C1 h b (zs.set k ((a.drop k0).getD k 0/2^r)))
    obtain ⟨aa,E,O⟩:=SlV.at ld (i:=k) (by simp;omega)
    refine ⟨aa,E,by omega,by omega,(a.drop k0).getD k 0/2^r,?_,?_⟩
    ·rw [cF,O]
     congr 1
     simp only [List.getElem_map]
     congr 1
     simp
    refine (T.mono (o _)).load rfl (by omega) (by omega) ?_
    refine B6 (fun e=>absurd e (by omega)) (fun _=>?_)
    refine ⟨_,rfl,by omega,by omega,?_⟩
    simp only [aC]
    rw [<- g (k+1)]
    have gr:=O2 (p.drop k0) (k+1)
    obtain ⟨o1,o2,o3⟩:=Yq (s:=64-r) (by omega) gr ⟨f,M⟩
    rw [aI (show 64-r<=64 by omega),E6,o1]
    refine Fi (zs:=zs.set k ((a.drop k0).getD k 0/2^r)) (i:=k) F5 (by first|omega|(rw [bN];omega)) ?_
    rw [List.set_set]
    have ah:=Ew ((a.drop k0).getD (k+1) 0*2^(64-r))
    refine ⟨⟨k+1,zs.set k ((a.drop k0).getD k 0/2^r+(a.drop k0).getD (k+1) 0*2^(64-r)%18446744073709551616),rfl,by omega,by simpa using c,L.set ⟨by omega,o2⟩,rfl,j _ ?_⟩,by simp only [iAt,aG];omega⟩
    rw [o3,show 64-(64-r)=r by omega,cY,<- cX,d]
    omega
   ·have y:(a.drop k0).getD (k+1) 0=0:=by simp only [cU,cQ (show (a.drop k0).length<=k+1 by omega)];rfl
    refine ⟨⟨k+1,zs.set k ((a.drop k0).getD k 0/2^r),rfl,by omega,l1,d1,rfl,j _ ?_⟩,by simp only [iAt,aG];omega⟩
    rw [y,gQ,fK,fL];omega
  ·have C:k=a.length-k0:=by omega
   subst C
   have y:(a.drop k0).getD (a.length-k0) 0=0:=by simp only [cU,cQ (show (a.drop k0).length<=a.length-k0 by omega)];rfl
   rw [y,gQ,fK,fL,aK (by omega),aK (by omega)] at V
   have H:=aT ((a.drop k0).getD 0 0) (show (2:Int)^r≠0 by omega)
   have w:=aP ((a.drop k0).getD 0 0) Z
   have F:val b64 a/2^s=val b64 zs:=by
    have sp:=F4 b64 a (i:=k0) (by omega)
    have t:=L6 (by decide) (p.take k0)
    have t2:=C7 (by decide) (p.take k0)
    rw [aF,aI (by omega)] at t
    rw [n,<- fF (aQ (D6 (by decide) _)),sp,fS _ _ (by have:=D6 (B:=b64) (by decide) k0;omega),bU t2 t,dL,<- V,fN,fS _ _ (by omega),bU H w,dL]
   rw [<- c]
   refine Q9 (Dt _ _ _ _ _) L (aZ _) (by omega) ?_
   intro m hm R
   rw [<- F] at R
   exact ⟨_,_,_,rfl,hK _ _ _ _ (W9 W _) hm R⟩
end
def Dh(B:Int)(xs:List Int)(n:Nat):val B (xs++aE n 0)=val B xs:=by rw [G2,Cs];omega
def Nx{xs:List Int}{k:Nat}(h:fU xs)(hk:k<xs.length):fU (xs.drop k):=by
 unfold fU at *
 rwa [List.getLast?_drop,iN (by omega)]
def Mw.of{h:bC}{A:Option bI}{xs:List Int}(s:SlI .u64 h A xs)(d:Dig b64 xs)(n:fU xs):Mw h A xs.length (val b64 xs):=⟨xs,rfl,s,d,n,rfl⟩
def A1v{k:dY}{h:bC}{A:Option bI}{xs:List Int}(s:SlI k h A xs){c l:Nat}(hl:l<=xs.length)(hc:xs.length<=c):SlI k h (J9 A c l 1) (xs.drop l):=by
 have:=s.cut (c:=c) (l:=l) (m:=xs.length) hl (aZ _) hc
 rwa [aK (by rw [aN];omega)] at this
def Kq{k:dY}{h:bC}{A:Option bI}{xs:List Int}(s:SlI k h A xs){c m:Nat}(hm:m<=xs.length)(hc:xs.length<=c):SlI k h A (xs.take m):=by
 have:=s.cut (c:=c) (l:=0) (m:=m) (by omega) hm hc
 simpa [H9] using this
def Bs{h:bC}{K:VP}{A:Option bI}{ac n:Nat}{v:Int}{xs:List Int}(s:SlI .u64 h A xs)(hd:Dig b64 xs)(hn:n=xs.length)(hv:val b64 xs=v)(hc:n<=ac)(hl:n<=10000000000)(hK:∀ m,m<=n->Mw h A m v->K (.slice A m ac) h):aW prog I5 #[.slice A n ac] h K:=by
 subst hn hv
 exact Q9 s hd hc hl hK
def C5m(N:Nat):Prop:=∀ {h:bC} {K:VP} {A B:Option bI} {ac bc an bn:Nat} {x y:Int},an+bn<=N->Mw h A an x->Mw h B bn y->an<=ac->bn<=bc->an<=1000000000->bn<=1000000000->
 (∀ A' m c' h',h.le h'->m<=c'->Mw h' A' m (x*y)->K (.slice A' m c') h')->aW prog D4 #[.slice A an ac,.slice B bn bc] h K
section
variable {h g:bC} {K:VP} {A B:Option bI} {ac bc:Nat}
def C42{xs ys:List Int}{b:Nat}(hb:h b=none)(sx:SlI .u64 h A xs)(dx:Dig b64 xs)(sy:SlI .u64 h B ys)(dy:Dig b64 ys)(hl:xs.length<=1000000000)(hl2:ys.length<=1000000000)
 (hK:∀ A' m c' h',h.le h'->m<=c'->Mw h' A' m (val b64 xs*val b64 ys)->K (.slice A' m c') h'):
 Z1 prog K A xs.length ac B ys.length (some ⟨b,0,none⟩) (xs.length+ys.length) (xs.length+ys.length) (blk .u64 C1 h b (aE (xs.length+ys.length) 0)):=by
 unfold Z1
 refine ⟨fun l C=>∃ (k:Nat) (zs:List Int),l=[I k]/\k<=ys.length/\zs.length=xs.length+ys.length/\Dig b64 zs/\Win .u64 C h b C1 (some ⟨b,0,none⟩) [] zs []/\zs.drop (k+xs.length)=aE (ys.length-k) 0/\val b64 (zs.take (k+xs.length))=val b64 xs*val b64 (ys.take k),fun l _=>ys.length-(iAt l 0).toNat,⟨0,_,rfl,by omega,by simp,I0 (by decide) _,Win.blk .u64 C1 hb _,?_,?_⟩,?_⟩
 ·rw [bF];congr 1;omega
 ·rw [bZ,Cs];simp [val]
 rintro i C ⟨k,zs,j,Q,o,g,w,y,r⟩
 obtain rfl:=sI1 j
 refine B6 (fun G=>?_) (fun G=>?_)
 ·have H:=O2 dy k
  have E:=C5 b64 ys k
  have D:B5 ((k:Int)+xs.length)=((k+xs.length:Nat):Int):=by rw [B7 (by omega) (by omega)];omega
  rw [D]
  refine (sy.mono w.le).load rfl (by omega) (by omega) ?_
  simp only [aC]
  refine ⟨⟨by omega,by omega⟩,⟨by omega,by omega⟩,?_⟩
  have a:((zs.drop k).take (k+xs.length-k)).length=xs.length:=by rw [aF,aN];omega
  refine Jh (w.sub (l:=k) (m:=k+xs.length) (c:=xs.length+ys.length) (by omega) (by omega) (by omega)) (by rw [a];omega) sx rfl ((g.drop k).take _) dx a H (by omega) ?_
  intro f c h' d e J q N
  rw [a] at d
  have F:=w.whole (l:=k) (m:=k+xs.length) (by omega) (by omega) (by omega) N
  refine ⟨_,rfl,_,rfl,by omega,by omega,?_⟩
  have s:(zs.take k++f++zs.drop (k+xs.length)).length=xs.length+ys.length:=by
   simp only [aH,aF,aN];omega
  refine F.storeN (i:=k+xs.length) F5 rfl (by omega) ?_
  intro O L
  rw [B7 (n:=(k:Int)+1) (by omega) (by omega)]
  have x:(zs.take k++f++zs.drop (k+xs.length)).take (k+xs.length)=zs.take k++f:=by
   apply dB
   simp only [aH,aF];omega
  have p:(zs.take k++f++zs.drop (k+xs.length)).drop (k+xs.length)=zs.drop (k+xs.length):=by
   apply eI
   simp only [aH,aF];omega
  refine ⟨⟨k+1,_,rfl,by omega,by rw [bN];exact s,(((g.take k).append e).append (g.drop _)).set J,L,?_,?_⟩,by simp only [iAt,aG];omega⟩
  ·rw [show k+1+xs.length=(k+xs.length)+1 by omega,D5 (by omega),<- dH,p,y,bF]
   congr 1
  ·rw [show k+1+xs.length=(k+xs.length)+1 by omega,C9 (by omega),x,F0,G2,E]
   simp only [aH,aF]
   rw [aI (by omega),d,bD]
   have t:val b64 (zs.take (k+xs.length))=val b64 (zs.take k)+b64^k*val b64 ((zs.drop k).take (k+xs.length-k)):=by
    rw [show k+xs.length-k=xs.length by omega,gP,G2,aF,aI (by omega)]
   rw [a] at q
   rw [t] at r
   grind
 ·have u:k=ys.length:=by omega
  subst u
  rw [aV,aK (by omega)] at r
  rw [<- o]
  refine Q9 w.sl g (aZ _) (by omega) ?_
  intro m M z
  rw [r] at z
  exact ⟨_,_,_,rfl,hK _ _ _ _ w.le M z⟩
def Qj{x y:Int}{an bn N:Nat}(ih:C5m N)(hN:2*bn<=N)(ma:Mw h A an x)(mb:Mw h B bn y)(ha:an<=ac)(hbc:bn<=bc)(hl:an<=1000000000)(hb0:0<bn)(hba:bn<=an)(hK:∀ A' m c' h',h.le h'->m<=c'->Mw h' A' m (x*y)->K (.slice A' m c') h'):aW prog Cx #[.slice A an ac,.slice B bn bc] h K:=by
 have ah:=mb.nonneg (by decide)
 have u:=mb.lt (by decide)
 obtain ⟨a,rfl,sx,M,nx,rfl⟩:=ma
 refine So _ _ _ _ _ _ ?_
 unfold Pi
 have e1:B5 ((a.length:Int)+bn)=((a.length+bn:Nat):Int):=by rw [B7 (by omega) (by omega)];omega
 rw [e1]
 refine J6 Q4 (by omega) (by omega) (by omega) ?_
 intro b hb
 rw [aC]
 refine ⟨_,_,_,rfl,?_⟩
 refine ⟨fun l J=>∃ (k:Nat) (zs:List Int) (g:bC),l=[I k]/\k<=a.length+bn/\h.le g/\zs.length=a.length+bn/\Dig b64 zs/\Win .u64 J g b C1 (some ⟨b,0,none⟩) [] zs []/\val b64 zs=val b64 (a.take k)*y,fun l _=>a.length+bn-(iAt l 0).toNat,⟨0,_,h,rfl,by omega,B4 h,by simp,I0 (by decide) _,Win.blk .u64 C1 hb _,by rw [Cs];simp [val]⟩,?_⟩
 rintro i J ⟨k,zs,g,S,hk,Q,T,t,w,V⟩
 obtain rfl:=sI1 S
 refine B6 (fun h1=>?_) (fun h1=>?_)
 ·have e2:B5 ((k:Int)+bn)=((k+bn:Nat):Int):=by rw [B7 (by omega) (by omega)];omega
  rw [e2]
  obtain ⟨en,hen⟩:∃ en,en=min a.length (k+bn):=⟨_,rfl⟩
  have e3:(if (a.length:Int)<((k+bn:Nat):Int) then (a.length:Int) else ((k+bn:Nat):Int))=(en:Int):=by split<;>omega
  rw [e3]
  simp only [aC]
  refine ⟨⟨by omega,by omega⟩,⟨by omega,by omega⟩,⟨by omega,by omega⟩,?_⟩
  have X:((a.drop k).take (en-k)).length=en-k:=by rw [aF,aN];omega
  have sp:SlI .u64 g (J9 A ac k 1) ((a.drop k).take (en-k)):=(sx.mono Q).cut (c:=ac) (l:=k) (m:=en) (by omega) (by omega) ha
  have dp:Dig b64 ((a.drop k).take (en-k)):=(M.drop k).take _
  have al:=C7 (by decide) M
  have G:∀ m,m<=en-k->fU (((a.drop k).take (en-k)).take m)->val b64 (((a.drop k).take (en-k)).take m)=val b64 ((a.drop k).take (en-k))->
   aW prog D4 #[.slice (J9 A ac k 1) m (ac-k),.slice B bn bc] J (fun r1 d=>∃ (t38A:Option bI) (t38n:Nat) (t38c:Nat),r1= .slice t38A t38n t38c/\Heap.le J d/\aW prog U3 #[.slice (J9 (some ⟨b,0,none⟩) (a.length+bn) k 1) (a.length+bn-k) (a.length+bn-k),.slice t38A t38n t38c] d (fun r2 p=>r2= .tuple #[]/\(∃ (k_1:Nat) (zs:List Int) (g:bC),[I ((k+bn:Nat):Int)]=[I k_1]/\k_1<=a.length+bn/\h.le g/\zs.length=a.length+bn/\Dig b64 zs/\Win .u64 p g b C1 (some ⟨b,0,none⟩) [] zs []/\val b64 zs=val b64 (a.take k_1)*y)/\a.length+bn-(iAt [I ((k+bn:Nat):Int)] 0).toNat<a.length+bn-(iAt [I k] 0).toNat)):=by
   intro m hm q n
   have Mp:Mw g (J9 A ac k 1) m (val b64 ((a.drop k).take (en-k))):=⟨((a.drop k).take (en-k)).take m,by rw [aF];omega,Kq sp (c:=ac) (by omega) (by omega),dp.take m,q,n⟩
   refine w.call ?_
   refine ih (by omega) Mp (mb.mono Q) (by omega) hbc (by omega) (by omega) ?_
   intro A' m' c' g2 l2 am M2 h3 w3
   refine ⟨_,_,_,rfl,?_,?_⟩
   ·rw [w.eq,w3.eq]
    intro kk o e
    by_cases L:kk=b
    ·subst L;rw [C2] at e ⊢;exact e
    ·rw [B8 _ _ L] at e ⊢;exact l2 kk o e
   obtain ⟨f,C,E,H,R,af⟩:=M2
   have ag:=F4 b64 zs (i:=k) (by omega)
   have ao:=C7 (by decide) (t.take k)
   have ae:a.take en=a.take k++(a.drop k).take (en-k):=by
    have:=gP (l:=a) (i:=k) (j:=en-k)
    rwa [show k+(en-k)=en by omega] at this
   have W:val b64 (a.take en)=val b64 (a.take k)+b64^k*val b64 ((a.drop k).take (en-k)):=by
    rw [ae,G2,aF,aI (by omega)]
   have F:val b64 zs+b64^k*val b64 f=val b64 (a.take en)*y:=by
    rw [V,af,W];grind
   have ak:val b64 (a.take en)*y<b64^(a.length+bn):=by
    have t1:=L6 (by decide) (M.take en)
    have t2:=C7 (by decide) (M.take en)
    rw [aF,aI (by omega)] at t1
    have t3:val b64 (a.take en)*y<=b64^en*y:=aD (by omega) ah
    have t4:b64^en*y<b64^en*b64^bn:=cO u (D6 (by decide) en)
    rw [<- bD] at t4
    have t5:=D0 (B:=b64) (by decide) (show en+bn<=a.length+bn by omega)
    omega
   have D:val b64 (zs.drop k)+val b64 f<b64^(a.length+bn-k):=by
    have e5:b64^(a.length+bn)=b64^k*b64^(a.length+bn-k):=by rw [<- bD];congr 1;omega
    by_cases O:val b64 (zs.drop k)+val b64 f<b64^(a.length+bn-k)
    ·exact O
    ·have:=aJ (show b64^(a.length+bn-k)<=val b64 (zs.drop k)+val b64 f by omega) (aQ (D6 (B:=b64) (by decide) k))
     rw [cY] at this
     omega
   have aj:=C7 (by decide) (t.drop k)
   have aq:f.length<=a.length+bn-k:=by
    have Mps:Mw g2 A' f.length (val b64 f):=⟨f,rfl,E,H,R,rfl⟩
    exact Mps.len_le (by decide) (by omega)
   have ws:=w3.sub (l:=k) (m:=a.length+bn) (c:=a.length+bn) (by omega) (by omega) (by omega)
   have ai:(zs.drop k).take (a.length+bn-k)=zs.drop k:=aK (by rw [aN];omega)
   have z:(zs.drop k).length=a.length+bn-k:=by rw [aN];omega
   rw [ai] at ws
   refine Ji ws z.symm E C (t.drop k) H (by omega) (by rw [z];exact D) (by omega) ?_
   intro us h5 ap aa Z w5
   have w6:=w3.whole (l:=k) (m:=a.length+bn) (by omega) (by omega) (by omega) w5
   refine ⟨rfl,⟨k+bn,_,g2,rfl,by omega,B0 Q l2,?_,((t.take k).append aa).append (t.drop _),w6,?_⟩,by simp only [iAt,aG];omega⟩
   ·simp only [aH,aF,aN];omega
   ·rw [aY (by omega),bX,G2,aF,aI (by omega),Z]
    have:a.take (k+bn)=a.take en:=by
     rw [hen]
     by_cases O:a.length<=k+bn
     ·rw [aI O,aV,aK O]
     ·rw [fC (by omega)]
    rw [this,<- F,ag];grind
  have tr:=El (K:=fun r s=>∃ (t36A:Option bI) (t36n:Nat) (t36c:Nat),r= .slice t36A t36n t36c/\Heap.le J s/\aW prog D4 #[.slice t36A t36n t36c,.slice B bn bc] s (fun r1 d=>∃ (t38A:Option bI) (t38n:Nat) (t38c:Nat),r1= .slice t38A t38n t38c/\Heap.le s d/\aW prog U3 #[.slice (J9 (some ⟨b,0,none⟩) (a.length+bn) k 1) (a.length+bn-k) (a.length+bn-k),.slice t38A t38n t38c] d (fun r2 p=>r2= .tuple #[]/\(∃ (k_1:Nat) (zs:List Int) (g:bC),[I ((k+bn:Nat):Int)]=[I k_1]/\k_1<=a.length+bn/\h.le g/\zs.length=a.length+bn/\Dig b64 zs/\Win .u64 p g b C1 (some ⟨b,0,none⟩) [] zs []/\val b64 zs=val b64 (a.take k_1)*y)/\a.length+bn-(iAt [I ((k+bn:Nat):Int)] 0).toNat<a.length+bn-(iAt [I k] 0).toNat))) (ac:=ac-k) (sp.mono w.le) (by omega) (by omega) (fun m hm q n=>⟨_,_,_,rfl,B4 _,G m (by omega) q n⟩)
  rw [X] at tr
  exact tr
 ·have ad:a.take k=a:=aK (by omega)
  rw [ad] at V
  rw [<- T]
  refine Q9 w.sl t (aZ _) (by omega) ?_
  intro m hm hM
  rw [V] at hM
  exact ⟨_,_,_,rfl,hK _ _ _ _ (B0 Q w.le) hm hM⟩
def C85{X0 X1 Y0 Y1 P:Int}(hx0:0<=X0)(hx1:0<=X1)(hy0:0<=Y0)(hy1:0<=Y1):
 X0*Y0<=(X0+X1)*(Y0+Y1)/\X1*Y1<=(X0+X1)*(Y0+Y1)-X0*Y0/\(X0+P*X1)*(Y0+P*Y1)=X0*Y0+P*((X0+X1)*(Y0+Y1)-X0*Y0-X1*Y1)+P*P*(X1*Y1):=by
 have a:=aS hx0 hy0
 have b:=aS hx0 hy1
 have c:=aS hx1 hy0
 have d:=aS hx1 hy1
 have e:(X0+X1)*(Y0+Y1)=X0*Y0+X0*Y1+X1*Y0+X1*Y1:=by grind
 refine ⟨by omega,by omega,?_⟩
 rw [e];grind
def C6e:∀ N,C5m N:=by
 intro N
 induction N with
 | zero=>
  intro h K A B ac bc an bn x y hN ma mb ha Q hl u C
  have h0:=ma.len_zero (by decide)
  have hx:x=0:=h0.2 (by omega)
  subst hx
  rw [fI] at C
  refine Fm _ _ _ _ _ _ ?_
  unfold Eh
  refine ⟨fun l h'=>h'=h/\l=[.slice A an ac,.slice B bn bc],B6 (fun e=>absurd e (by omega)) (fun _=>⟨rfl,rfl⟩),?_⟩
  rintro A1 s c1 B1 w c2 hp ⟨rfl,hl⟩
  obtain ⟨⟨rfl,rfl,rfl⟩,rfl,rfl,rfl⟩:(A1=A/\s=an/\c1=ac)/\B1=B/\w=bn/\c2=bc:=by simpa using hl
  refine D9 (fun _=>C none 0 0 _ (B4 _) (aZ _) Mag.zero) (fun e=>absurd (by omega) e)
 | succ N ih=>
  intro h K A B ac bc an bn x y hN ma mb ha Q hl u C
  refine Fm _ _ _ _ _ _ ?_
  unfold Eh
  refine ⟨fun l h'=>h'=h/\∃ (A1 B1:Option bI) (s w c1 c2:Nat) (x1 y1:Int),l=[.slice A1 s c1,.slice B1 w c2]/\Mw h A1 s x1/\Mw h B1 w y1/\w<=s/\s<=1000000000/\s<=c1/\w<=c2/\s+w<=N+1/\x1*y1=x*y,B6 (fun h1=>?_) (fun h1=>?_),?_⟩
  ·exact ⟨rfl,_,_,_,_,_,_,y,x,rfl,mb,ma,by omega,u,Q,ha,by omega,aR _ _⟩
  ·exact ⟨rfl,_,_,_,_,_,_,x,y,rfl,ma,mb,by omega,hl,ha,Q,by omega,rfl⟩
  clear ma mb ha Q hl u hN
  rintro A1 s c1 B1 w c2 hp ⟨rfl,A1',B1',b2,bo,b5,bk,x1,y1,a8,m1,X,hn,ao,G,ae,ck,a1⟩
  obtain ⟨⟨rfl,rfl,rfl⟩,rfl,rfl,rfl⟩:(A1=A1'/\s=b2/\c1=b5)/\B1=B1'/\w=bo/\c2=bk:=by simpa using a8
  rw [<- a1] at C
  clear a8 a1
  have hz:=X.len_zero (by decide)
  refine D9 (fun h0=>?_) (fun h0=>?_)
  ·have:y1=0:=hz.2 (by omega)
   subst this
   rw [fK] at C
   exact C none 0 0 _ (B4 _) (aZ _) Mag.zero
  ·refine ⟨fun l h'=>∃ t:Bool,h'=hp/\l=[.bool t]/\(t=true->y1=1),D9 (fun h1=>?_) (fun h1=>⟨false,rfl,rfl,fun e=>by cases e⟩),?_⟩
   ·obtain ⟨f,Z,sy,O,ny,bg⟩:=X
    refine sy.load Z (by omega) (by omega) ⟨_,rfl,rfl,fun e=>?_⟩
    have e1:f.getD 0 0=1:=by simpa using e
    obtain ⟨d,rfl⟩:∃ d,f=[d]:=by
     cases f with
     | nil=>simp at Z;omega
     | cons d r=>
      cases r with
      | nil=>exact ⟨d,rfl⟩
      | cons _ _=>simp at Z;omega
    rw [<- bg,X4];simpa using e1
   rintro tb W ⟨t',rfl,u,M⟩
   obtain rfl:tb=t':=by simpa using u
   refine Br.of (fun e=>?_) (fun _=>?_)
   ·rw [M e,Int.mul_one] at C
    exact C _ _ _ _ (B4 _) G m1
   clear M u
   have eL:B5 ((s:Int)+w)=((s+w:Nat):Int):=by rw [B7 (by omega) (by omega)];omega
   refine B6 (fun h2=>?_) (fun h2=>?_)
   ·obtain ⟨g,rfl,sx,R,nx,rfl⟩:=m1
    obtain ⟨f,rfl,sy,O,ny,rfl⟩:=X
    rw [eL]
    refine J6 Q4 (by omega) (by omega) (by omega) ?_
    intro b Q
    rw [aC]
    exact ⟨_,_,_,rfl,C42 Q sx R sy O ao (by omega) C⟩
   ·obtain ⟨H,hH⟩:∃ H,H=(s+1)/2:=⟨_,rfl⟩
    have eH:B5 (cM (B5 ((s:Int)+1)) 2)=(H:Int):=by
     rw [B7 (n:=(s:Int)+1) (by omega) (by omega),bH (by omega),B7 (by omega) (by omega)];omega
    have bf:B5 ((2:Int)*(H:Int))=((2*H:Nat):Int):=by rw [B7 (by omega) (by omega)];omega
    simp only [eH,eL,bf,aC]
    refine B6 (fun h3=>?_) (fun h3=>?_)
    ·refine Qj ih (by omega) m1 X G ae ao (by omega) (by omega) ?_
     intro A' m c' h' l' k' M'
     exact ⟨_,_,_,rfl,C _ _ _ _ l' k' M'⟩
    ·have bu:=m1.nonneg (by decide)
     have aq:=m1.lt (by decide)
     have al:=X.lt (by decide)
     have b7:=X.nonneg (by decide)
     obtain ⟨g,rfl,sx,R,nx,rfl⟩:=m1
     obtain ⟨f,rfl,sy,O,ny,rfl⟩:=X
     have b4:H<g.length:=by omega
     have bb:H<f.length:=by omega
     have az:=C7 (by decide) (R.take H)
     have a2:=C7 (by decide) (R.drop H)
     have a6:=C7 (by decide) (O.take H)
     have au:=C7 (by decide) (O.drop H)
     have bt:=F4 b64 g (i:=H) (by omega)
     have b1:=F4 b64 f (i:=H) (by omega)
     have aw:=L6 (by decide) (R.take H)
     have a5:=L6 (by decide) (O.take H)
     rw [aF,aI (by omega)] at aw a5
     have z:Mw W (J9 A1 c1 H 1) (g.length-H) (val b64 (g.drop H)):=by
      have:=Mw.of (A1v sx (c:=c1) (l:=H) (by omega) G) (R.drop H) (Nx nx b4)
      rwa [aN] at this
     have D:Mw W (J9 B1 c2 H 1) (f.length-H) (val b64 (f.drop H)):=by
      have:=Mw.of (A1v sy (c:=c2) (l:=H) (by omega) ae) (O.drop H) (Nx ny bb)
      rwa [aN] at this
     obtain ⟨ka,kb,kc⟩:=C85 (P:=b64^H) az a2 a6 au
     rw [<- bt,<- b1] at kc
     generalize hX0:val b64 (g.take H)=X0 at *
     generalize hX1:val b64 (g.drop H)=X1 at *
     generalize hY0:val b64 (f.take H)=Y0 at *
     generalize hY1:val b64 (f.drop H)=Y1 at *
     rw [H9,H9,bV,bV,bV]
     refine ⟨⟨by omega,by omega⟩,⟨by omega,by omega⟩,?_⟩
     refine Bs (Kq sx (c:=c1) (m:=H) (by omega) G) (R.take H) (by rw [aF];omega) hX0 (by omega) (by omega) ?_
     intro mx ct MX0
     refine ⟨_,_,_,rfl,B4 _,⟨by omega,by omega⟩,⟨by omega,by omega⟩,?_⟩
     refine Bs (Kq sy (c:=c2) (m:=H) (by omega) ae) (O.take H) (by rw [aF];omega) hY0 (by omega) (by omega) ?_
     intro my cg MY0
     refine ⟨_,_,_,rfl,B4 _,?_⟩
     refine ih (by omega) MX0 MY0 (by omega) (by omega) (by omega) (by omega) ?_
     intro A3 n3 c3 g3 l3 k3 M3
     refine ⟨_,_,_,rfl,?_⟩
     refine ih (by omega) (z.mono l3) (D.mono l3) (by omega) (by omega) (by omega) (by omega) ?_
     intro A4 n4 c4 g4 l4 k4 M4
     refine ⟨_,_,_,rfl,?_⟩
     have E:=B0 l3 l4
     refine S3 (MX0.mono E) (z.mono E) (by omega) (by omega) (by omega) (by omega) ?_
     intro A5 n5 c5 g5 l5 k5 M5
     refine ⟨_,_,_,rfl,?_⟩
     have ak:=B0 E l5
     refine S3 (MY0.mono ak) (D.mono ak) (by omega) (by omega) (by omega) (by omega) ?_
     intro A6 n6 c6 g6 l6 k6 M6
     refine ⟨_,_,_,rfl,?_⟩
     have ax:=z.lt (by decide)
     have ai:=D.lt (by decide)
     have bm:=D6 (B:=b64) (by decide) H
     have cd:b64^(H+1)=b64^H*18446744073709551616:=bG _ _
     have cb:n5<=H+1:=by
      refine M5.len_le (by decide) ?_
      have:=D0 (B:=b64) (by decide) (show g.length-H<=H by omega)
      omega
     have ce:n6<=H+1:=by
      refine M6.len_le (by decide) ?_
      have:=D0 (B:=b64) (by decide) (show f.length-H<=H by omega)
      omega
     refine ih (by omega) (M5.mono l6) M6 k5 k6 (by omega) (by omega) ?_
     intro A7 n7 c7 g7 l7 k7 M7
     refine ⟨_,_,_,rfl,?_⟩
     have ad:=B0 (B0 l5 l6) l7
     have k:∀ {p q:Int} {i j:Nat},0<=p->p<b64^i->0<=q->q<b64^j->p*q<b64^(i+j):=by
      intro p q i j a b c d
      rw [bD]
      have t1:p*q<=b64^i*q:=aD (by omega) c
      have t2:b64^i*q<b64^i*b64^j:=cO d (D6 (by decide) i)
      omega
     have cf:n7<=n5+n6:=M7.len_le (by decide) (k (M5.nonneg (by decide)) (M5.lt (by decide)) (M6.nonneg (by decide)) (M6.lt (by decide)))
     refine H2 M7 (M3.mono (B0 l4 ad)) k7 (by omega) ka ?_
     intro A8 n8 c8 g8 l8 k8 M8
     refine ⟨_,_,_,rfl,?_⟩
     have cc:n8<=n7:=M8.len_le (by decide) (by have:=M7.lt (by decide);have:=M3.nonneg (by decide);omega)
     refine H2 M8 (M4.mono (B0 ad l8)) k8 (by omega) kb ?_
     intro A9 n9 c9 g9 l9 k9 M9
     refine ⟨_,_,_,rfl,?_⟩
     have T:=B0 ad (B0 l8 l9)
     have a9:W.le g9:=B0 E T
     refine J6 Q4 (by omega) (by omega) (by omega) ?_
     intro b Q
     rw [aC]
     refine ⟨_,_,_,rfl,?_⟩
     have w0:=Win.blk .u64 C1 Q (aE (g.length+f.length) 0)
     have b8:n3<=H+H:=M3.len_le (by decide) (k az aw a6 a5)
     have b9:n4<=(g.length-H)+(f.length-H):=M4.len_le (by decide) (k a2 ax au ai)
     obtain ⟨o,ah,bi,bd,ci,a0⟩:=M3.mono (B0 l4 T)
     obtain ⟨hi,af,bx,bv,cs,am⟩:=M4.mono T
     obtain ⟨L,ar,ay,ap,b3,aj⟩:=M9
     refine Hb Q4 w0 (by simp) (bi.mono w0.le) ah (by simp;omega) ?_
     intro co S
     refine ⟨_,rfl,⟨by omega,by omega⟩,?_⟩
     have bl:o++(aE (g.length+f.length) (0:Int)).drop o.length=o++aE (g.length+f.length-o.length) 0:=by rw [bF]
     rw [bl] at S
     have V:=S.sub (l:=2*H) (m:=g.length+f.length) (c:=g.length+f.length) (by omega) (by simp;omega) (by simp;omega)
     have b6:((o++aE (g.length+f.length-o.length) (0:Int)).drop (2*H)).take (g.length+f.length-2*H)=aE (g.length+f.length-2*H) 0:=by
      rw [gG,aY (by omega),cT,bF,bZ]
      congr 1;omega
     rw [b6] at V
     refine Hb Q4 V (by simp) (bx.mono V.le) af (by simp;omega) ?_
     intro cl ag
     refine ⟨_,rfl,⟨by omega,by omega⟩,?_⟩
     rw [bF] at ag
     have F:=S.whole (l:=2*H) (m:=g.length+f.length) (by omega) (by simp;omega) (by simp;omega) ag
     have ba:(o++aE (g.length+f.length-o.length) (0:Int)).take (2*H)=o++aE (2*H-o.length) 0:=by
      rw [dK,aK (by omega),bZ]
      congr 2;omega
     have bj:(o++aE (g.length+f.length-o.length) (0:Int)).drop (g.length+f.length)=[]:=by
      apply aY;simp;omega
     rw [ba,bj,bX] at F
     generalize hzs:o++aE (2*H-o.length) (0:Int)++(hi++aE (g.length+f.length-2*H-hi.length) 0)=zs at F
     have cj:zs.length=g.length+f.length:=by
      rw [<- hzs];simp;omega
     have J:Dig b64 zs:=by
      rw [<- hzs]
      exact (bd.append (I0 (by decide) _)).append (bv.append (I0 (by decide) _))
     have bq:val b64 zs=X0*Y0+b64^H*b64^H*(X1*Y1):=by
      rw [<- hzs,G2,Dh,Dh,a0,am]
      have:(o++aE (2*H-o.length) (0:Int)).length=H+H:=by simp;omega
      rw [this,bD]
     have a4:=F.sub (l:=H) (m:=g.length+f.length) (c:=g.length+f.length) (by omega) (by omega) (by omega)
     have b0:(zs.drop H).take (g.length+f.length-H)=zs.drop H:=aK (by rw [aN];omega)
     have a7:(zs.drop H).length=g.length+f.length-H:=by rw [aN];omega
     rw [b0] at a4
     have bz:=F4 b64 zs (i:=H) (by omega)
     have cn:=C7 (by decide) (J.take H)
     have ca:=C7 (by decide) (J.drop H)
     have cq:val b64 g*val b64 f<b64^(g.length+f.length):=k bu aq b7 al
     have av:val b64 zs+b64^H*val b64 L=val b64 g*val b64 f:=by rw [kc,bq,aj];grind
     have a3:val b64 (zs.drop H)+val b64 L<b64^(g.length+f.length-H):=by
      have e5:b64^(g.length+f.length)=b64^H*b64^(g.length+f.length-H):=by rw [<- bD];congr 1;omega
      by_cases hc:val b64 (zs.drop H)+val b64 L<b64^(g.length+f.length-H)
      ·exact hc
      ·have:=aJ (show b64^(g.length+f.length-H)<=val b64 (zs.drop H)+val b64 L by omega) (aQ bm)
       rw [cY] at this
       omega
     have ch:L.length<=g.length+f.length-H:=by
      have Mmi:Mw g9 A9 L.length (val b64 L):=⟨L,rfl,ay,ap,b3,rfl⟩
      exact Mmi.len_le (by decide) (by omega)
     refine Ji a4 a7.symm ay ar (J.drop H) ap (by omega) (by rw [a7];exact a3) (by omega) ?_
     intro us cm cr br be bp
     refine ⟨rfl,?_⟩
     have aa:=F.whole (l:=H) (m:=g.length+f.length) (by omega) (by omega) (by omega) bp
     rw [aY (show zs.length<=g.length+f.length by omega),bX] at aa
     have bw:(zs.take H++us).length=g.length+f.length:=by
      simp only [aH,aF];omega
     rw [<- bw]
     refine Q9 aa.sl ((J.take H).append br) (by omega) (by omega) ?_
     intro m hm hM
     have bh:val b64 (zs.take H++us)=val b64 g*val b64 f:=by
      rw [G2,aF,aI (by omega),be,<- av,bz];grind
     rw [bh] at hM
     exact ⟨_,_,_,rfl,C _ _ _ _ (B0 a9 aa.le) hm hM⟩
def H8{x y:Int}{an bn:Nat}(ma:Mw h A an x)(mb:Mw h B bn y)(ha:an<=ac)(hb:bn<=bc)(hl:an<=1000000000)(hl2:bn<=1000000000)(hK:∀ A' m c' h',h.le h'->m<=c'->Mw h' A' m (x*y)->K (.slice A' m c') h'):aW prog D4 #[.slice A an ac,.slice B bn bc] h K:=
 C6e _ (aZ _) ma mb ha hb hl hl2 hK
end
section
variable {h g:bC} {K:VP} {A B:Option bI} {ac bc:Nat}
def B4r{hi lo y:Int}(hhi:0<=hi/\hi<y)(hlo:0<=lo/\lo<18446744073709551616)(hy:y<18446744073709551616)
 (hK:K (.tuple #[U ((hi*18446744073709551616+lo)/y),U ((hi*18446744073709551616+lo)%y)]) h):aW prog Gy #[U hi,U lo,U y] h K:=by
 obtain ⟨n,rfl⟩:∃ n:Nat,y=n:=⟨y.toNat,by omega⟩
 exact Ts hhi hlo (by omega) hK
def Vq{x:Int}{an w:Nat}(ma:Mw h A an x)(hw:0<w/\w<18446744073709551616)(hl:an<=1000000000)(hK:∀ A' m c' h',h.le h'->m<=c'->m<=an->Mw h' A' m (x/w)->K (.tuple #[.slice A' m c',U (x%w)]) h'):aW prog Gn #[.slice A an ac,U w] h K:=by
 obtain ⟨a,rfl,z,y,G,rfl⟩:=ma
 refine Xp _ _ _ _ ?_
 unfold Wk
 refine J6 Q4 (by omega) (by omega) (by omega) ?_
 intro b t
 rw [aC]
 refine ⟨_,_,_,rfl,?_⟩
 refine ⟨fun l h'=>∃ (k:Nat) (r:Int) (zs:List Int),l=[U r,I ((k:Int)-1)]/\k<=a.length/\zs.length=a.length/\Dig b64 zs/\(0<=r/\r<w)/\h'=blk .u64 C1 h b zs/\val b64 (a.drop k)=val b64 (zs.drop k)*w+r,fun l _=>(iAt l 1+1).toNat,⟨a.length,0,_,by rw [B7 (by omega) (by omega)],by omega,by simp,I0 (by decide) _,by omega,rfl,by simp [val]⟩,?_⟩
 rintro r i J ⟨k,D,zs,g,H,c,u,d,rfl,f⟩
 obtain ⟨rfl,rfl⟩:r=D/\i=(k:Int)-1:=by simpa using g
 have q:=W9 (k:=.u64) (e:=C1) t zs
 refine B6 (fun C=>?_) (fun C=>?_)
 ·obtain ⟨j,rfl⟩:∃ j,k=j+1:=⟨k-1,by omega⟩
  have e:((j+1:Nat):Int)-1=(j:Int):=by omega
  rw [e]
  have B:=O2 y j
  refine (z.mono q).load rfl (by omega) (by omega) ?_
  rw [aC]
  refine Ts d B hw.2 ⟨_,_,rfl,?_⟩
  have E:0<=r*18446744073709551616+a.getD j 0:=by omega
  have o:0<=(r*18446744073709551616+a.getD j 0)/w/\(r*18446744073709551616+a.getD j 0)/w<18446744073709551616:=by
   constructor
   ·exact bY E (by omega)
   ·apply bJ (by omega)
    have:(r+1)*18446744073709551616<=(w:Int)*18446744073709551616:=aD (by omega) (by decide)
    omega
  refine ⟨_,rfl,by omega,by omega,?_⟩
  refine Fi (zs:=zs) (i:=j) F5 (by omega) ?_
  rw [B7 (by omega) (by omega)]
  refine ⟨⟨j,_,zs.set j ((r*18446744073709551616+a.getD j 0)/w),rfl,by omega,by simpa using c,u.set o,⟨aT _ (by omega),aP _ (by omega)⟩,rfl,?_⟩,by simp only [iAt,aG,aL];omega⟩
  rw [W8 (by omega),Nj b64 (by omega),f]
  have:=aO (r*18446744073709551616+a.getD j 0) w
  simp only [val]
  grind
 ·have n:k=0:=by omega
  subst n
  rw [cK,cK] at f
  rw [<- c]
  refine Q9 (Dt _ _ _ _ _) u (aZ _) (by omega) ?_
  intro m F s
  have o:val b64 a/w=val b64 zs:=by
   rw [f,fN,fM _ _ (by omega),bU d.1 d.2,dL]
  have p:val b64 a%w=r:=by
   rw [f,fN,gL,gE d.1 d.2]
  rw [<- o] at s
  rw [<- p]
  exact ⟨_,_,_,rfl,hK _ _ _ _ (W9 t _) F (by omega) s⟩
def Nv{x:Int}{an w:Nat}(ma:Mw h A an x)(hw:0<w/\w<18446744073709551616)(hl:an<=1000000000)(hK:K (U (x%w)) h):aW prog Bb #[.slice A an ac,U w] h K:=by
 obtain ⟨a,rfl,m,o,u,rfl⟩:=ma
 refine Rd _ _ _ _ ?_
 unfold Li
 refine ⟨fun l p=>∃ (k:Nat) (r:Int) (Q:Int),l=[U r,I ((k:Int)-1)]/\k<=a.length/\(0<=r/\r<w)/\p=h/\val b64 (a.drop k)=Q*w+r,fun l _=>(iAt l 1+1).toNat,⟨a.length,0,0,by rw [B7 (by omega) (by omega)],by omega,by omega,rfl,by simp [val]⟩,?_⟩
 rintro r i y ⟨k,s,Q,b,t,c,rfl,d⟩
 obtain ⟨rfl,rfl⟩:r=s/\i=(k:Int)-1:=by simpa using b
 refine B6 (fun q=>?_) (fun q=>?_)
 ·obtain ⟨j,rfl⟩:∃ j,k=j+1:=⟨k-1,by omega⟩
  have e:((j+1:Nat):Int)-1=(j:Int):=by omega
  rw [e]
  have n:=O2 o j
  refine m.load rfl (by omega) (by omega) ?_
  rw [aC]
  refine Ts c n hw.2 ⟨_,_,rfl,?_⟩
  rw [B7 (by omega) (by omega)]
  refine ⟨⟨j,_,b64*Q+(r*18446744073709551616+a.getD j 0)/w,rfl,by omega,⟨aT _ (by omega),aP _ (by omega)⟩,rfl,?_⟩,by simp only [iAt,aG,aL];omega⟩
  rw [Nj b64 (by omega),d]
  have:=aO (r*18446744073709551616+a.getD j 0) w
  show _+(18446744073709551616:Int)*_=((18446744073709551616:Int)*_+_)*_+_
  grind
 ·have f:k=0:=by omega
  subst f
  rw [cK] at d
  have g:val b64 a%w=r:=by
   rw [d,fN,gL,gE c.1 c.2]
  rw [g] at hK;exact hK
def A1q{us vs:List Int}{m wn dn:Nat}{X Y:Int}(su:SlI .u64 h A us)(sv:SlI .u64 h B vs)(hwn:wn=us.length)(hdn:dn=vs.length)(du:Dig b64 us)(dv:Dig b64 vs)(hu:us.length=m+3)(hv:vs.length=m+2)(hl:m<=10000000000)(h1:b64<=2*vs.getD (m+1) 0)(hX:val b64 us=X)(hY:val b64 vs=Y)(hlt:X<Y*b64)
 (hK:∀ q,0<=q->q<18446744073709551616->X<(q+1)*Y->(q-1)*Y<=X->K (U q) h):aW prog Mj #[.slice A wn ac,.slice B dn bc] h K:=by
 subst hwn hdn
 have b:=C04 (B:=b64) (by decide) du dv hu hv h1 (by rw [hX,hY];exact hlt)
 rw [hX,hY] at b
 have gu:=O2 du (m+2)
 have j:=O2 du (m+1)
 have gv:=O2 dv (m+1)
 have k:=b.v1r
 have a:=b.v2r
 have L:=b.u2r
 have N:=b.V0
 have M:=b.U0
 refine A53 _ _ _ _ _ _ ?_
 unfold A54
 have Q:B5 ((vs.length:Int)-1)=((m+1:Nat):Int):=by rw [B7 (by omega) (by omega)];omega
 have e2:B5 ((vs.length:Int)-2)=(m:Int):=by rw [B7 (by omega) (by omega)];omega
 have J:((vs.length:Nat):Int)=((m+2:Nat):Int):=by omega
 rw [Q,e2,J]
 refine sv.load (by omega) (by omega) (by omega) ?_
 refine sv.load (by omega) (by omega) (by omega) ?_
 refine su.load rfl (by omega) (by omega) ?_
 simp only [aC]
 refine B6 (fun H=>?_) (fun H=>?_)
 ·have G:=b.top (by
   have:vs.getD (m+1) 0*b64<=us.getD (m+2) 0*b64:=aD H (by decide)
   omega)
  exact hK 18446744073709551615 (by omega) (by omega) G.2 G.1
 ·refine su.load rfl (by omega) (by omega) ?_
  refine su.load rfl (by omega) (by omega) ?_
  simp only [aC]
  refine B4r (by omega) j gv.2 ⟨_,_,rfl,B4 h,?_⟩
  generalize hT:us.getD (m+2) 0*b64+us.getD (m+1) 0=T at b
  have W:us.getD (m+2) 0*18446744073709551616+us.getD (m+1) 0=T:=hT
  have z:0<=T:=b.top0
  have w:=b.init
  have D:=aO T (vs.getD (m+1) 0)
  have ad:=aT T (show vs.getD (m+1) 0≠0 by omega)
  have R:=aP T (show 0<vs.getD (m+1) 0 by omega)
  have x:0<=T/vs.getD (m+1) 0:=bY z (by omega)
  have s:T/vs.getD (m+1) 0<18446744073709551616:=by
   apply bJ (by omega)
   have:(us.getD (m+2) 0+1)*18446744073709551616<=vs.getD (m+1) 0*18446744073709551616:=aD (by omega) (by decide)
   have:=j.2
   have:18446744073709551616*vs.getD (m+1) 0=vs.getD (m+1) 0*18446744073709551616:=aR _ _
   omega
  refine ⟨fun l h'=>∃ q r:Int,l=[U q,U r]/\h'=h/\(0<=q/\q<18446744073709551616)/\(0<=r/\r<18446744073709551616)/\q*vs.getD (m+1) 0+r=T/\X<(q+1)*Y,fun l _=>(iAt l 0).toNat,⟨_,_,rfl,rfl,⟨x,s⟩,by omega,by rw [aR];exact D,w⟩,?_⟩
  rintro q r t ⟨V,r',C,rfl,o,hr,y,i⟩
  obtain ⟨rfl,rfl⟩:q=V/\r=r':=by simpa using C
  have hm:0<=q*vs.getD m 0/\q*vs.getD m 0<=18446744073709551615*18446744073709551615:=⟨aS o.1 a.1,eP (by omega) (by have:=(O2 dv m).2;omega) a.1 (by decide)⟩
  have key:q*(vs.getD (m+1) 0*b64+vs.getD m 0)=(T-r)*18446744073709551616+q*vs.getD m 0:=by
   rw [<- y];show q*(vs.getD (m+1) 0*(18446744073709551616:Int)+vs.getD m 0)=_;grind
  have c:q*vs.getD m 0<=r*18446744073709551616+us.getD m 0->K (U q) t:=by
   intro aa
   refine hK q o.1 o.2 i (b.up (by show q<=(18446744073709551616:Int);omega) ?_)
   rw [key];show _<=T*(18446744073709551616:Int)+_;omega
  have d:¬ (q*vs.getD m 0<=r*18446744073709551616+us.getD m 0)->Br (decide (C0 (r+vs.getD (m+1) 0)<vs.getD (m+1) 0)) (K (U (C0 (q-1))) t) ((∃ q_1 r_1:Int,[U (C0 (q-1)),U (C0 (r+vs.getD (m+1) 0))]=[U q_1,U r_1]/\t=t/\(0<=q_1/\q_1<18446744073709551616)/\(0<=r_1/\r_1<18446744073709551616)/\q_1*vs.getD (m+1) 0+r_1=T/\X<(q_1+1)*Y)/\(iAt [U (C0 (q-1)),U (C0 (r+vs.getD (m+1) 0))] 0).toNat<(iAt [U q,U r] 0).toNat):=by
   intro hf
   have F:X<q*Y:=b.low o.1 (by rw [key];show T*(18446744073709551616:Int)+_<_;omega)
   have s:1<=q:=by
    by_cases E:1<=q
    ·exact E
    ·have:q=0:=by omega
     subst this;omega
   have f:X<(q-1+1)*Y:=by rw [Int.sub_add_cancel];exact F
   have e:(q-1)*vs.getD (m+1) 0+(r+vs.getD (m+1) 0)=T:=by grind
   rw [C3 (n:=q-1) (by omega) (by omega)]
   refine B6 (fun p=>?_) (fun p=>?_)
   ·rw [E6] at p
    have hb:(q-1)*vs.getD m 0<=18446744073709551616*vs.getD m 0:=aD (by omega) a.1
    have g:(q-1)*(vs.getD (m+1) 0*b64+vs.getD m 0)=(T-(r+vs.getD (m+1) 0))*18446744073709551616+(q-1)*vs.getD m 0:=by
     rw [<- e];show (q-1)*(vs.getD (m+1) 0*(18446744073709551616:Int)+vs.getD m 0)=_;grind
    refine hK (q-1) (by omega) (by omega) f (b.up (by show q-1<=(18446744073709551616:Int);omega) ?_)
    rw [g]
    have:=a.2
    show _<=T*(18446744073709551616:Int)+_
    have:vs.getD m 0<18446744073709551616:=a.2
    omega
   ·have u:r+vs.getD (m+1) 0<18446744073709551616:=by
     by_cases E:r+vs.getD (m+1) 0<18446744073709551616
     ·exact E
     ·rw [E6] at p;have:=k.2;have:vs.getD (m+1) 0<18446744073709551616:=k.2;omega
    rw [C3 (n:=r+vs.getD (m+1) 0) (by omega) u]
    exact ⟨⟨q-1,r+vs.getD (m+1) 0,rfl,rfl,by omega,by omega,e,f⟩,by simp only [iAt,aG];omega⟩
  refine Ny o (by have:=a.2;exact ⟨a.1,this⟩) ⟨_,_,rfl,?_⟩
  have Z:0<=us.getD m 0/\us.getD m 0<18446744073709551616:=O2 du m
  refine B6 (fun p=>c (by omega)) (fun p=>?_)
  refine D9 (fun O=>?_) (fun O=>d (by omega))
  refine su.load rfl (by omega) (by omega) ?_
  rw [aC]
  exact B6 (fun S=>c (by omega)) (fun S=>d (by omega))
end
section
variable {h g:bC} {K:VP} {bu bq:Nat} {pre qs:List Int} {VA:Option bI} {vs:List Int}
def C4u{n N:Nat}{ws:List Int}{q:Int}{J:LP}(hu:g bu=none)(hq:g bq=none)(hne:bu≠bq)(sv:SlI .u64 g VA vs)(dv:Dig b64 vs)(hn:n=vs.length)(dw:Dig b64 ws)(hN:N=(pre++ws).length)(hl:n<ws.length)(hbig:N<=4000000000)
 (hD:val b64 (ws.take n)+val b64 vs<2*b64^n) (hD0:b64^n<=val b64 (ws.take n)+val b64 vs) (htop:ws.getD n 0=18446744073709551615)
 (hJ:∀ ws',ws'.length=ws.length->Dig b64 ws'->ws'.drop (n+1)=ws.drop (n+1)->ws'.getD n 0=0->val b64 (ws'.take n)=val b64 (ws.take n)+val b64 vs-b64^n->J [U (C0 (q-1))] (Au .u64 C1 g bu (pre++ws') bq qs)):
 Bf prog n VA n (some ⟨bu,0,none⟩) N (pre.length:Int) q J (Au .u64 C1 g bu (pre++ws) bq qs):=by
 unfold Bf
 refine ⟨fun l R=>∃ (k:Nat) (c:Int) (zs:List Int),l=[U c,I k]/\k<=n/\zs.length=ws.length/\Dig b64 zs/\(0<=c/\c<=1)/\R=Au .u64 C1 g bu (pre++zs) bq qs/\zs.drop k=ws.drop k/\val b64 (zs.take k)+c*b64^k=val b64 (ws.take k)+val b64 (vs.take k),fun l _=>n-(iAt l 1).toNat,⟨0,0,ws,rfl,by omega,rfl,dw,by omega,rfl,rfl,by simp [val]⟩,?_⟩
 rintro c i W ⟨k,D,zs,r,V,d,m,M,rfl,a,F⟩
 obtain ⟨rfl,rfl⟩:c=D/\i=(k:Int):=by simpa using r
 have B:g.le (Au .u64 C1 g bu (pre++zs) bq qs):=Ra hu hq hne
 have C:SlI .u64 (Au .u64 C1 g bu (pre++zs) bq qs) (some ⟨bu,0,none⟩) (pre++zs):=Vz hne
 have b:N=(pre++zs).length:=by rw [hN,aH,aH,d]
 have Q:N=pre.length+zs.length:=by rw [b,aH]
 have s:B5 ((pre.length:Int)+k)=((k+pre.length:Nat):Int):=by rw [B7 (by omega) (by omega)];omega
 have A:B5 ((pre.length:Int)+n)=((n+pre.length:Nat):Int):=by rw [B7 (by omega) (by omega)];omega
 refine B6 (fun G=>?_) (fun G=>?_)
 ·have O:=O2 dv k
  have L:=O2 m k
  have f:=E7 a
  have H:=C5 b64 vs k
  have S:=C5 b64 ws k
  rw [s]
  refine (sv.mono B).load hn (by omega) (by omega) ?_
  refine C.load b (by omega) (by omega) ?_
  simp only [aC,Gj]
  refine Dw L O M ⟨_,_,rfl,?_⟩
  refine ⟨_,rfl,by omega,by omega,?_⟩
  have j:=P0 (P:=prog) (t:=C1) (k:=.u64) (e:=C1) (g:=g) (bu:=bu) (bq:=bq) (us:=pre++zs) (qs:=qs) (i:=((k+pre.length:Nat):Int)) (n:=(zs.getD k 0+vs.getD k 0+c)%18446744073709551616) F5 hne (by rw [aC];omega)
   (K:=fun _ o=>(∃ (k_1:Nat) (c_1:Int) (zs_1:List Int),[U ((zs.getD k 0+vs.getD k 0+c)/18446744073709551616),I (B5 ((k:Int)+1))]=[U c_1,I k_1]/\k_1<=n/\zs_1.length=ws.length/\Dig b64 zs_1/\(0<=c_1/\c_1<=1)/\o=Au .u64 C1 g bu (pre++zs_1) bq qs/\zs_1.drop k_1=ws.drop k_1/\val b64 (zs_1.take k_1)+c_1*b64^k_1=val b64 (ws.take k_1)+val b64 (vs.take k_1))/\n-(iAt [U ((zs.getD k 0+vs.getD k 0+c)/18446744073709551616),I (B5 ((k:Int)+1))] 1).toNat<n-(iAt [U c,I k] 1).toNat)
  rw [aC] at j
  refine j ?_
  rw [Lm,B7 (n:=(k:Int)+1) (by omega) (by omega)]
  refine ⟨⟨k+1,_,zs.set k ((zs.getD k 0+vs.getD k 0+c)%18446744073709551616),rfl,by omega,by simpa using d,m.set (Ew _),by omega,rfl,?_,?_⟩,by simp only [iAt,aG,aL];omega⟩
  ·rw [D5 (by omega)];exact D7 a
  ·rw [C9 (by omega),F0,aF,aI (by omega),bG,Co,H,S,<- f]
   grind
 ·have u:k=n:=by omega
  subst u
  have f:=E7 a
  rw [A]
  refine C.load b (by omega) (by omega) ?_
  rw [aC,Gj,f,htop]
  refine ⟨_,rfl,by omega,by omega,?_⟩
  have y:vs.take k=vs:=by rw [hn,aV]
  rw [y] at F
  have x:=L6 (by decide) (m.take k)
  rw [aF,aI (by omega)] at x
  have T:=C7 (by decide) (m.take k)
  have z:c=1:=by
   by_cases w:c=0
   ·subst w;omega
   ·omega
  subst z
  have E:C0 (18446744073709551615+1)=0:=by rw [E6];omega
  rw [E]
  have j:=P0 (P:=prog) (t:=C1) (k:=.u64) (e:=C1) (g:=g) (bu:=bu) (bq:=bq) (us:=pre++zs) (qs:=qs) (i:=((k+pre.length:Nat):Int)) (n:=0) F5 hne (by rw [aC];omega) (K:=fun _ p=>J [U (C0 (q-1))] p)
  rw [aC] at j
  refine j ?_
  rw [Lm]
  refine hJ (zs.set k 0) (by simpa using d) (m.set (by decide)) (by rw [D5 (by omega)];exact D7 a) (by simp [cU,show k<zs.length by omega]) ?_
  rw [fW (by omega)]
  omega
end
def B6y{g h':bC}{e:cC}{bu bq:Nat}{A:Option bI}{us qs:List Int}(hne:bu≠bq)(w:Win .u64 h' (blk .u64 e g bq qs) bu e A [] us []):h'=Au .u64 e g bu us bq qs:=by
 rw [Je hne,w.eq]
 simp [blk]
def B8h{g:bC}{e:cC}{bu bq:Nat}{us qs:List Int}(hu:g bu=none)(hne:bu≠bq):Win .u64 (Au .u64 e g bu us bq qs) (blk .u64 e g bq qs) bu e (some ⟨bu,0,none⟩) [] us []:=by
 rw [Je hne]
 refine Win.blk .u64 e ?_ us
 unfold blk;rw [B8 _ _ hne];exact hu
def A4n{P:dG}{t:cC}{k:dY}{e:cC}{g:bC}{bu bq:Nat}{us qs:List Int}(one:P.cellsOf t=1/\(P.info? t).isSome=true)(hne:bu≠bq){n:Int}{i:Nat}(hi:i<us.length){K:Unit->bC->Prop}
 (x:K () (Au k e g bu (us.set i n) bq qs)):wpH P (dO t (.pointer (some (eE ⟨bu,0,none⟩ (i*1)))) (.int k n)) K (Au k e g bu us bq qs):=by
 have:=P0 (P:=P) (t:=t) (k:=k) (e:=e) (g:=g) (bu:=bu) (bq:=bq) (us:=us) (qs:=qs) (i:=(i:Int)) (n:=n) (K:=K) one hne (by simpa using hi) (by simpa using x)
 simpa using this
def A4o{P:dG}{t:cC}{k:dY}{e:cC}{g:bC}{bu bq:Nat}{us qs:List Int}(one:P.cellsOf t=1/\(P.info? t).isSome=true){n:Int}{i:Nat}(hi:i<qs.length){K:Unit->bC->Prop}
 (x:K () (Au k e g bu us bq (qs.set i n))):wpH P (dO t (.pointer (some (eE ⟨bq,0,none⟩ (i*1)))) (.int k n)) K (Au k e g bu us bq qs):=by
 have:=Wa (P:=P) (t:=t) (k:=k) (e:=e) (g:=g) (bu:=bu) (bq:=bq) (us:=us) (qs:=qs) (i:=(i:Int)) (n:=n) (K:=K) one (by simpa using hi) (by simpa using x)
 simpa using this
section
variable {h g:bC} {K:VP} {bu bq:Nat} {VA:Option bI} {vs us0:List Int}
set_option maxHeartbeats 1000000 in
def A68{s mm N nq vc xn:Nat}{a b Y:Int}(hu:g bu=none)(hq:g bq=none)(hne:bu≠bq)(sv:SlI .u64 g VA vs)(dv:Dig b64 vs)(hn:vs.length=mm+2)(hv1:b64<=2*vs.getD (mm+1) 0)(hs:s<64)(hY:val b64 vs=Y)(hYb:Y=b*2^s)(du:Dig b64 us0)(hN:us0.length=N)(hua:val b64 us0=a*2^s)(hxn:N=xn+1)(hnq:N=nq+(mm+2))(hnq1:1<=nq)(hbig:N<=1000000001)(htop:val b64 (us0.drop nq)<Y)
 (hK:∀ A1 m1 c1 A2 m2 c2 h',g.le h'->m1<=c1->m2<=c2->Mw h' A1 m1 (a/b)->Mw h' A2 m2 (a%b)->K (.tuple #[.slice A1 m1 c1,.slice A2 m2 c2]) h'):
 Bg prog xn (mm+2) K (s:Int) VA (mm+2) vc (some ⟨bu,0,none⟩) N N (some ⟨bq,0,none⟩) nq nq (Au .u64 C1 g bu us0 bq (aE nq 0)):=by
 have hp:0<(2:Int)^s:=bL (by decide)
 have a3:Y<b64^(mm+2):=by rw [<- hY,<- hn];exact L6 (by decide) dv
 have bb:0<Y:=by have:=C7 (by decide) (du.drop nq);omega
 have e0:B5 ((xn:Int)-((mm+2:Nat):Int))=(nq:Int)-1:=by rw [B7 (by omega) (by omega)];omega
 unfold Bg
 refine ⟨fun l h'=>∃ (k:Nat) (us qs:List Int),l=[I ((k:Int)-1)]/\k<=nq/\us.length=N/\qs.length=nq/\Dig b64 us/\Dig b64 qs/\h'=Au .u64 C1 g bu us bq qs/\val b64 (us.drop k)<Y/\val b64 us0=val b64 (qs.drop k)*Y*b64^k+val b64 us,fun l _=>(iAt l 0+1).toNat,⟨nq,us0,_,by rw [e0],by omega,hN,by simp,du,I0 (by decide) _,rfl,htop,by simp [val]⟩,?_⟩
 rintro j a1 ⟨k,us,qs,au,hk,L,ac,t,ae,rfl,ap,hv⟩
 obtain rfl:j=(k:Int)-1:=by simpa using au
 have Q:g.le (Au .u64 C1 g bu us bq qs):=Ra hu hq hne
 have su:SlI .u64 (Au .u64 C1 g bu us bq qs) (some ⟨bu,0,none⟩) us:=Vz hne
 unfold Hn
 refine B6 (fun h1=>?_) (fun h1=>?_)
 ·obtain ⟨j,rfl⟩:∃ j,k=j+1:=⟨k-1,by omega⟩
  have ej:((j+1:Nat):Int)-1=(j:Int):=by omega
  rw [ej]
  have e1:B5 ((j:Int)+((mm+2:Nat):Int))=((j+(mm+2):Nat):Int):=by rw [B7 (by omega) (by omega)];omega
  have e2:B5 (((j+(mm+2):Nat):Int)+1)=((j+(mm+3):Nat):Int):=by rw [B7 (by omega) (by omega)];omega
  simp only [e1,e2,aC]
  have w:=t.drop j
  have D:(us.drop j).length=N-j:=by rw [aN,L]
  have x:val b64 ((us.drop j).drop (mm+3))=0:=by
   have:=Dy (B:=b64) (by decide) (n:=mm+2) (t.drop (j+1)) (by omega)
   rw [dH] at this ⊢
   rw [show j+(mm+3)=j+1+(mm+2) by omega];exact this
  have az:=A2u b64 us j
  have ao:val b64 (us.drop j)<Y*b64:=by
   have a8:=O2 t j
   rw [az]
   have t1:b64*(val b64 (us.drop (j+1))+1)<=b64*Y:=aJ (by omega) (by decide)
   have t2:b64*(val b64 (us.drop (j+1))+1)=b64*val b64 (us.drop (j+1))+18446744073709551616:=by show (18446744073709551616:Int)*_=_;grind
   have t3:Y*b64=b64*Y:=aR _ _
   omega
  have G:=F4 b64 (us.drop j) (i:=mm+3) (by omega)
  rw [x,fK,fL] at G
  have am:=G7 b64 (us.drop j) (mm+2)
  have hX:val b64 (us.drop j)=val b64 ((us.drop j).take (mm+2))+b64^(mm+2)*(us.drop j).getD (mm+2) 0:=by rw [G];exact am
  refine ⟨⟨by omega,by omega⟩,⟨by omega,by omega⟩,?_⟩
  have sw:SlI .u64 (Au .u64 C1 g bu us bq qs) (J9 (some ⟨bu,0,none⟩) N j 1) ((us.drop j).take (mm+3)):=by
   have:=su.cut (c:=N) (l:=j) (m:=j+(mm+3)) (by omega) (by omega) (by omega)
   rwa [show j+(mm+3)-j=mm+3 by omega] at this
  generalize hXX:val b64 (us.drop j)=X at *
  refine A1q (m:=mm) (X:=X) (Y:=Y) sw (sv.mono Q) (by rw [aF,D];omega) hn.symm (w.take _) dv (by rw [aF,D];omega) hn (by omega) hv1 G.symm hY ao ?_
  intro q q0 q1 q2 q3
  refine ⟨_,rfl,⟨by omega,by omega⟩,⟨by omega,by omega⟩,?_⟩
  have w0:=B8h (e:=C1) (us:=us) (qs:=qs) hu hne
  have ax:SlI .u64 (blk .u64 C1 g bq qs) VA vs:=sv.mono (W9 hq qs)
  have hW:(us.drop j).take (j+(mm+2)-j)=(us.drop j).take (mm+2):=by rw [show j+(mm+2)-j=mm+2 by omega]
  have w1:=w0.sub (l:=j) (m:=j+(mm+2)) (c:=N) (by omega) (by omega) (by omega)
  rw [hW] at w1
  have H:((us.drop j).take (mm+2)).length=mm+2:=by rw [aF,D];omega
  refine Kv w1 (by rw [H];omega) ax hn.symm (w.take _) dv (by rw [H,hn]) ⟨q0,q1⟩ (by omega) ?_
  intro W c h2 p C u A w2
  rw [H] at p A
  refine ⟨_,rfl,?_⟩
  have w3:=w0.whole (l:=j) (m:=j+(mm+2)) (by omega) (by omega) (by omega) w2
  have S:=B6y hne w3
  have f:(us.take j).length=j:=by rw [aF,L];omega
  have av:us.drop (j+(mm+2))=(us.drop j).drop (mm+2):=by rw [dH]
  rw [aU,av] at S
  subst S
  generalize hws:us.drop j=ws at *
  have o:(W++ws.drop (mm+2)).length=ws.length:=by rw [aH,aN];omega
  have dW:Dig b64 (W++ws.drop (mm+2)):=C.append (w.drop _)
  have T:(W++ws.drop (mm+2)).getD (mm+2) 0=ws.getD (mm+2) 0:=by
   simp only [cU]
   rw [gM (by omega),p,gC,List.getElem?_drop,dU]
  have R:=O2 w (mm+2)
  have ay:(us.take j++(W++ws.drop (mm+2))).length=N:=by rw [aH,o,f];omega
  have ai:SlI .u64 (Au .u64 C1 g bu (us.take j++(W++ws.drop (mm+2))) bq qs) (some ⟨bu,0,none⟩) (us.take j++(W++ws.drop (mm+2))):=Vz hne
  have ah:j+(mm+2)=(mm+2)+(us.take j).length:=by omega
  refine ai.load ay.symm (by omega) (by omega) ?_
  rw [aC,ah,Gj,T]
  refine ⟨_,rfl,by omega,by omega,?_⟩
  refine A4n (i:=mm+2+(us.take j).length) F5 hne (by omega) ?_
  rw [Lm]
  have hP:0<b64^(mm+2):=D6 (by decide) _
  have aw:=L6 (by decide) C
  have a2:=C7 (by decide) C
  rw [p] at aw
  rw [hY] at A
  have hD:X-q*Y=val b64 W+(ws.getD (mm+2) 0-c)*b64^(mm+2):=by rw [A,hX];grind
  have Z:X-q*Y<Y:=by
   have:(q+1)*Y=q*Y+Y:=by grind
   omega
  have a4: -Y<=X-q*Y:=by
   have:(q-1)*Y=q*Y-Y:=by grind
   omega
  have ba:0<=X:=by
   have t1:=C7 (by decide) (w.take (mm+2))
   have t2:=aS (aQ hP) R.1
   omega
  have a0:ws.getD (mm+2) 0-c=0\/ws.getD (mm+2) 0-c= -1:=by
   have t2:ws.getD (mm+2) 0-c<1:=by
    by_cases u:ws.getD (mm+2) 0-c<1
    ·exact u
    ·have:=aD (show 1<=ws.getD (mm+2) 0-c by omega) (aQ hP);omega
   have t3: -2<ws.getD (mm+2) 0-c:=by
    by_cases u: -2<ws.getD (mm+2) 0-c
    ·exact u
    ·have:=aD (show ws.getD (mm+2) 0-c <= -2 by omega) (aQ hP);omega
   omega
  have y:∀ v,((W++ws.drop (mm+2)).set (mm+2) v).take (mm+2)=W:=by
   intro v
   rw [fW (by omega),dB p]
  have ad:∀ v,((W++ws.drop (mm+2)).set (mm+2) v).getD (mm+2) 0=v:=by
   intro v
   rw [cU,hG (by omega)];rfl
  have af:∀ v,((W++ws.drop (mm+2)).set (mm+2) v).drop (mm+3)=ws.drop (mm+3):=by
   intro v
   rw [D5 (by omega),show mm+3=(mm+2)+1 by omega,<- dH,eI p,dH]
  refine ⟨fun l h'=>∃ d r,l=[U r]/\h'=Au .u64 C1 g bu (us.take j++d) bq qs/\d.length=ws.length/\Dig b64 d/\d.drop (mm+3)=ws.drop (mm+3)/\d.getD (mm+2) 0=0/\val b64 (d.take (mm+2))=X-r*Y/\0<=X-r*Y/\X-r*Y<Y/\0<=r/\r<18446744073709551616,B6 (fun h3=>?_) (fun h3=>?_),?_⟩
  ·have F:ws.getD (mm+2) 0-c= -1:=by omega
   rw [F] at hD ⊢
   have V:C0 (-1)=18446744073709551615:=by rw [E6];omega
   rw [V]
   have al:1<=q:=by
    by_cases u:1<=q
    ·exact u
    ·have:q=0:=by omega
     subst this;omega
   have e5:(q-1)*Y=q*Y-Y:=by grind
   have bk:=C4u (g:=g) (bu:=bu) (bq:=bq) (pre:=us.take j) (qs:=qs) (VA:=VA) (vs:=vs) (n:=mm+2) (N:=N) (ws:=(W++ws.drop (mm+2)).set (mm+2) 18446744073709551615) (q:=q)
    (J:=fun l h'=>∃ d r,l=[U r]/\h'=Au .u64 C1 g bu (us.take j++d) bq qs/\d.length=ws.length/\Dig b64 d/\d.drop (mm+3)=ws.drop (mm+3)/\d.getD (mm+2) 0=0/\val b64 (d.take (mm+2))=X-r*Y/\0<=X-r*Y/\X-r*Y<Y/\0<=r/\r<18446744073709551616)
    hu hq hne sv dv hn.symm (dW.set (by decide)) (by rw [aH,bN,o,f];omega) (by rw [bN,o];omega) (by omega) (by rw [y,hY];omega) (by rw [y,hY];omega) (ad _) ?_
   ·rw [f] at bk;exact bk
   ·intro d g1 g2 g3 g4 g5
    rw [y,hY] at g5
    rw [C3 (n:=q-1) (by omega) (by omega)]
    refine ⟨d,q-1,rfl,rfl,by rw [g1,bN,o],g2,by rw [g3,af],g4,by omega,by omega,by omega,by omega,by omega⟩
  ·have E:ws.getD (mm+2) 0-c=0:=by omega
   rw [E] at hD ⊢
   have ar:C0 0=0:=by rw [E6];omega
   rw [ar]
   exact ⟨(W++ws.drop (mm+2)).set (mm+2) 0,q,rfl,rfl,by rw [bN,o],dW.set (by decide),af _,ad _,by rw [y];omega,by omega,Z,q0,q1⟩
  ·rintro q4 a5 ⟨d,r,ak,rfl,g1,g2,g3,g4,g5,g6,g7,g8,g9⟩
   obtain rfl:q4=r:=by simpa using ak
   refine ⟨_,rfl,by omega,by omega,?_⟩
   refine A4o (i:=j) F5 (by omega) ?_
   rw [B7 (by omega) (by omega)]
   have aa:val b64 d=X-q4*Y:=by
    have z1:=F4 b64 d (i:=mm+3) (by omega)
    rw [g3,x,G7,g4,g5] at z1
    simp at z1
    omega
   refine ⟨⟨j,us.take j++d,qs.set j q4,rfl,by omega,by rw [aH,g1,f];omega,by simpa using ac,(t.take j).append g2,ae.set ⟨g8,g9⟩,rfl,?_,?_⟩,by simp only [iAt,aG];omega⟩
   ·rw [eI f,aa];exact g7
   ·have O:=F4 b64 us (i:=j) (by omega)
    rw [hws,hXX] at O
    rw [hv,W8 (by omega),G2,f,aa,O,bG]
    simp only [val]
    grind
 ·have ag:k=0:=by omega
  subst ag
  simp at ap hv
  have a7:0<b:=by
   by_cases u:0<b
   ·exact u
   ·have:=aD (show b<=0 by omega) (aQ hp);omega
  have a6:=C7 (by decide) t
  have hR:val b64 us=(a-val b64 qs*b)*2^s:=by
   rw [hua,hYb] at hv
   grind
  have aq:0<=a-val b64 qs*b:=by
   by_cases u:0<=a-val b64 qs*b
   ·exact u
   ·have:=aD (show a-val b64 qs*b <= -1 by omega) (aQ hp);omega
  have aj:a-val b64 qs*b<b:=by
   by_cases u:a-val b64 qs*b<b
   ·exact u
   ·have:=aD (show b<=a-val b64 qs*b by omega) (aQ hp);omega
  have z:a/b=val b64 qs:=by
   have:a=(a-val b64 qs*b)+val b64 qs*b:=by omega
   rw [this,fM _ _ (by omega),bU aq aj,dL]
  have M:a%b=a-val b64 qs*b:=by
   have:=Int.emod_def a b
   rw [this,z,aR]
  rw [z,M] at hK
  rw [<- ac]
  refine Q9 C08 ae (aZ _) (by omega) ?_
  intro m1 V M1
  refine ⟨_,_,_,rfl,?_⟩
  rw [<- L]
  refine Q9 su t (aZ _) (by omega) ?_
  intro m2 a9 M2
  refine ⟨_,_,_,rfl,?_⟩
  rw [C3 (by omega) (by omega)]
  refine Hg M2 (by have:=M2.len_le (by decide) (j:=mm+2) (by omega);omega) (by omega) ?_
  intro A3 m3 c3 h3 l3 k3 M3
  have an:val b64 us/2^s=a-val b64 qs*b:=by rw [hR,fX _ (by omega)]
  rw [an] at M3
  exact ⟨_,_,_,rfl,hK _ _ _ _ _ _ _ (B0 Q l3) (by omega) k3 (M1.mono l3) M3⟩
end
section
variable {h g:bC} {K:VP} {A B:Option bI} {ac bc:Nat}
set_option maxHeartbeats 1000000 in
def Fe{x y:Int}{an bn:Nat}(ma:Mw h A an x)(mb:Mw h B bn y)(ha:an<=ac)(hbc:bn<=bc)(hy:y≠0)(hl:an<=1000000000)(hl2:bn<=1000000000)
 (hK:∀ A1 m1 c1 A2 m2 c2 h',h.le h'->m1<=c1->m2<=c2->Mw h' A1 m1 (x/y)->Mw h' A2 m2 (x%y)->K (.tuple #[.slice A1 m1 c1,.slice A2 m2 c2]) h'):aW prog J1 #[.slice A an ac,.slice B bn bc] h K:=by
 have G:=ma.nonneg (by decide)
 have ax:=mb.nonneg (by decide)
 have a3:=mb.len_zero (by decide)
 have q:=ma.lt (by decide)
 have a8:=mb.lt (by decide)
 refine Sq _ _ _ _ _ _ ?_
 unfold Pk
 refine F8 ma mb (by omega) ⟨_,rfl,B6 (fun u=>?_) (fun u=>D9 (fun h2=>?_) (fun h2=>?_))⟩
 ·have L:x<y:=by
   unfold Fg at u
   by_cases c:x<y
   ·exact c
   ·rw [iN c] at u
    by_cases Q:x>y
    ·rw [iP Q] at u;omega
    ·rw [iN Q] at u;omega
  rw [bU G L,gE G L] at hK
  exact hK none 0 0 _ _ _ _ (B4 h) (aZ _) ha Mag.zero ma
 ·obtain ⟨a,rfl,sy,X,ny,rfl⟩:=mb
  have D:a.length=1:=by omega
  obtain ⟨d,rfl⟩:∃ d,a=[d]:=by
   cases a with
   | nil=>simp at D
   | cons d r=>
    cases r with
    | nil=>exact ⟨d,rfl⟩
    | cons _ _=>simp at D
  rw [X4] at hy ax hK
  have hd:=X d (by simp)
  obtain ⟨w,rfl⟩:∃ w:Nat,d=w:=⟨d.toNat,by omega⟩
  refine sy.load rfl (by omega) (by simp) ?_
  show aW _ _ #[_,U (w:Int)] _ _
  have hw:w<18446744073709551616:=by have:=hd.2;have:(w:Int)<18446744073709551616:=this;omega
  refine Vq ma ⟨by omega,hw⟩ hl ?_
  intro A' m c' h' aj hm a2 hM
  refine ⟨_,_,_,_,rfl,?_⟩
  refine Bu ⟨aT _ (by omega),by have:=aP x (show (0:Int)<w by omega);omega⟩ ?_
  intro A2 m2 c2 h3 R k3 M3
  exact ⟨_,_,_,rfl,hK _ _ _ _ _ _ _ (B0 aj R) hm k3 (hM.mono R) M3⟩
 ·have av:y<=x:=by
   unfold Fg at u
   by_cases c:x<y
   ·rw [iP c] at u;omega
   ·omega
  have a5:bn<=an:=mb.len_le (by decide) (dA av q)
  have af:=mb
  have ae:=ma
  obtain ⟨a,rfl,sy,X,ny,rfl⟩:=mb
  obtain ⟨mm,hmm⟩:∃ mm,a.length=mm+2:=⟨a.length-2,by omega⟩
  have gt:=O2 X (mm+1)
  have au:=A2z (m:=mm+1) hmm ny
  obtain ⟨H,o⟩:=Ci (B:=b64) (by decide) X (m:=mm+1) hmm
  have e1:B5 ((a.length:Int)-1)=((mm+1:Nat):Int):=by rw [B7 (by omega) (by omega)];omega
  rw [e1]
  refine sy.load rfl (by omega) (by omega) ?_
  rw [aC]
  obtain ⟨t,ht⟩:∃ t:Nat,a.getD (mm+1) 0=t:=⟨(a.getD (mm+1) 0).toNat,by omega⟩
  rw [ht] at gt au H o ⊢
  have p:t≠0:=by omega
  refine R9 (by omega) ⟨_,rfl,?_⟩
  obtain ⟨ay,a0⟩:=Fj p
  have az:O3 t<=64:=Jf (k:=64) (by omega)
  have a1:1<=O3 t:=by unfold O3;rw [iN p];omega
  obtain ⟨s,hs⟩:∃ s,s=64-O3 t:=⟨_,rfl⟩
  rw [<- hs]
  have F:s<64:=by omega
  have b:0<(2:Int)^s:=bL (by decide)
  have ao:=Ah (s:=s) (by omega)
  have z:O3 t=64-s:=by omega
  have ag:(t:Int)+1<=2^(64-s):=by
   rw [<- z]
   have:((t+1:Nat):Int)<=((2^O3 t:Nat):Int):=by omega
   simpa using this
  have aq:(2:Int)^(63-s)<=t:=by
   have:((2^(O3 t-1):Nat):Int)<=((t:Nat):Int):=by omega
   rw [show O3 t-1=63-s by omega] at this
   simpa using this
  have T:(2:Int)^s*2^(63-s)=9223372036854775808:=by
   rw [<- bD,show s+(63-s)=63 by omega];decide
  have ap:C0 (s:Int)=(s:Int):=C3 (by omega) (by omega)
  rw [ap]
  have f:=D6 (B:=b64) (by decide) (mm+1)
  have ad:val b64 a*2^s<b64^(mm+2):=by
   have t2:val b64 a*2^s<((t:Int)+1)*b64^(mm+1)*2^s:=bM H b
   have t3:((t:Int)+1)*b64^(mm+1)*2^s=((t:Int)+1)*2^s*b64^(mm+1):=by grind
   have t4:((t:Int)+1)*2^s*b64^(mm+1)<=18446744073709551616*b64^(mm+1):=by
    apply aD _ (aQ f)
    rw [<- ao,aR (2^s)]
    exact aD ag (aQ b)
   have t5:b64^(mm+2)=18446744073709551616*b64^(mm+1):=by rw [bG b64 (mm+1),aR]
   omega
  have a7:9223372036854775808*b64^(mm+1)<=val b64 a*2^s:=by
   have t1:(t:Int)*b64^(mm+1)*2^s<=val b64 a*2^s:=aD o (aQ b)
   have t2:9223372036854775808*b64^(mm+1)<=(t:Int)*2^s*b64^(mm+1):=by
    apply aD _ (aQ f)
    rw [<- T,aR (t:Int)]
    exact aJ aq (by omega)
   have t3:(t:Int)*2^s*b64^(mm+1)=(t:Int)*b64^(mm+1)*2^s:=by grind
   omega
  refine U8 af hbc hl2 (by omega) ?_
  intro A1 n1 c1 g1 l1 k1 M1
  refine ⟨_,_,_,rfl,?_⟩
  have al:n1=mm+2:=by
   have q1:=M1.len_le (by decide) ad
   have q2:=M1.lt (by decide)
   by_cases c:n1=mm+2
   ·exact c
   ·have:=D0 (B:=b64) (by decide) (show n1<=mm+1 by omega)
    omega
  subst al
  obtain ⟨Z,C,sv,dv,nv,J⟩:=M1
  have am:b64<=2*Z.getD (mm+1) 0:=by
   obtain ⟨q1,q2⟩:=Ci (B:=b64) (by decide) dv (m:=mm+1) C.symm
   rw [J] at q1
   have:9223372036854775808<Z.getD (mm+1) 0+1:=by
    by_cases c:9223372036854775808<Z.getD (mm+1) 0+1
    ·exact c
    ·have:=aD (show Z.getD (mm+1) 0+1<=9223372036854775808 by omega) (aQ f);omega
   show (18446744073709551616:Int)<=_
   omega
  have eN:B5 ((an:Int)+1)=((an+1:Nat):Int):=by rw [B7 (by omega) (by omega)];omega
  rw [eN]
  refine J6 Q4 (by omega) (by omega) (by omega) ?_
  intro bu aa
  rw [aC]
  refine ⟨_,_,_,rfl,?_⟩
  have w0:=Win.blk .u64 C1 aa (aE (an+1) 0)
  refine w0.call ?_
  refine U8 (ae.mono l1) ha hl (by omega) ?_
  intro A3 n3 c3 g3 R k3 M3 h4 w4
  refine ⟨_,_,_,rfl,?_⟩
  have ai:x*2^s<b64^(an+1):=by
   have t1:x*2^s<b64^an*2^s:=bM q b
   have t2:b64^an*2^s<=b64^an*18446744073709551616:=by
    apply aJ _ (aQ (D6 (by decide) an))
    have:=D0 (B:=2) (by decide) (show s<=64 by omega)
    have e:(2:Int)^64=18446744073709551616:=by decide
    omega
   rw [bG];show _<b64^an*(18446744073709551616:Int);omega
  have a6:=M3.len_le (by decide) ai
  obtain ⟨us,aw,ak,ar,a4,M⟩:=M3
  refine Hb Q4 w4 (by simp) (ak.mono w4.le) aw (by simp;omega) ?_
  intro h5 W
  refine ⟨_,rfl,?_⟩
  rw [bF] at W
  generalize hu0:us++aE (an+1-us.length) (0:Int)=us0 at W
  have E:us0.length=an+1:=by rw [<- hu0];simp;omega
  have l:Dig b64 us0:=by rw [<- hu0];exact ar.append (I0 (by decide) _)
  have j:val b64 us0=x*2^s:=by rw [<- hu0,Dh];exact M
  obtain ⟨nq,hnq⟩:∃ nq,an+1=nq+(mm+2):=⟨an+1-(mm+2),by omega⟩
  have eq:B5 (B5 ((an:Int)-(a.length:Int))+1)=(nq:Int):=by
   rw [B7 (n:=(an:Int)-(a.length:Int)) (by omega) (by omega),B7 (by omega) (by omega)];omega
  rw [eq]
  refine J6 Q4 (by omega) (by omega) (by omega) ?_
  intro bq g
  rw [aC]
  refine ⟨_,_,_,rfl,?_⟩
  have ah:h5=blk .u64 C1 g3 bu us0:=by rw [W.eq];simp [blk]
  subst ah
  have V:g3 bu=none:=W.free
  have O:bu≠bq:=by
   rintro rfl
   unfold blk at g
   rw [C2] at g;cases g
  have S:g3 bq=none:=by
   have:=g
   unfold blk at this
   rwa [B8 _ _ O.symm] at this
  rw [hmm]
  refine A68 (us0:=us0) (N:=an+1) (xn:=an) V S O (sv.mono R) dv C.symm am F J rfl l E j rfl hnq (by omega) (by omega) ?_ ?_
  ·have s1:=F4 b64 us0 (i:=nq) (by omega)
   have s2:=C7 (by decide) (l.take nq)
   have s3:val b64 us0<b64^an*2^s:=by
    rw [j];exact bM q b
   have s4:b64^(mm+1)<=val b64 a:=by
    have:=aD (show 1<=(t:Int) by omega) (aQ f);omega
   have s5:b64^nq*(b64^(mm+1)*2^s)<=b64^nq*(val b64 a*2^s):=aJ (aD s4 (aQ b)) (aQ (D6 (by decide) nq))
   have s6:b64^nq*(b64^(mm+1)*2^s)=b64^an*2^s:=by
    rw [<- cX,<- bD,show nq+(mm+1)=an by omega]
   by_cases c:val b64 (us0.drop nq)<val b64 a*2^s
   ·exact c
   ·have:=aJ (show val b64 a*2^s<=val b64 (us0.drop nq) by omega) (aQ (D6 (B:=b64) (by decide) nq));omega
  ·intro A5 m5 c5 A6 m6 c6 h6 l6 k5 k6 M5 M6
   exact hK _ _ _ _ _ _ _ (B0 l1 (B0 R l6)) k5 k6 M5 M6
end
def A1u{x a b p:Int}(h:a+p*b=x)(h0:0<=a)(h1:a<p):x/p=b/\x%p=a:=(Int.ediv_emod_unique (by omega)).2 ⟨h,h0,h1⟩
def Xi{P:dG}{h:bC}{A:Option bI}{n m c s:Nat}{cs:List dC}(hl:cs.length=n*s)(hc:cs=[]\/∃ a,A=some a/\∀ j v,cs[j]? = some v->h.cell? (a.add j)=some v){K:Array dC->bC->Prop}(x:K cs.toArray h):
 wpH P (Builtin.firstCells s n (.slice A m c)) K h:=by
 cases A with
 | none=>
  rcases hc with rfl|⟨a,e,_⟩
  ·exact x
  ·cases e
 | some a=>
  show wpH P (loadCells a (n*s)) K h
  rcases hc with rfl|⟨b,e,hc⟩
  ·exact U9 (cs:=[]) hl.symm (fun j v e=>by simp at e) x
  ·cases e
   exact U9 hl.symm hc x
def B8c{P:dG}{t e ty:cC}{k:dY}{bytes:Nat}(s:SliceT P t e (.int k 0) 1 bytes){h g:bC}{b:Nat}{A:Option bI}{pre post:List dC}{xs:List Int}{n c m d:Nat}(w:Win k h g b e A pre xs post)(hn:n=xs.length){B:Option bI}{ys:List Int}(sy:SlI k h B ys)(hm:min m xs.length=ys.length){K:VP}
 (x:∀ h',Win k h' g b e A pre (ys++xs.drop ys.length) post->K (I ys.length) h'):wpH P (fB #[t,t] ty #[.slice A n c,.slice B m d]) K h:=by
 subst hn
 have j:ys.length<=xs.length:=by omega
 obtain ⟨i,p,y,o,r⟩:=s.parts
 unfold fB
 simp only [dE,aG,aL,C6,E9 s.und,N6 p,G1,fY,o]
 have l:Nat.min m xs.length=ys.length:=hm
 rw [l]
 refine Xi (s:=1) (cs:=ys.map (bB k)) (by simp) sy ?_
 cases A with
 | none=>
  rcases w.at_ with f|f
  ·subst f
   have:ys=[]:=aM (by simpa using j)
   subst this
   exact x h (by simpa using w)
  ·cases f
 | some a=>
  simp only [C6]
  rcases w.at_ with f|f
  ·subst f
   have:ys=[]:=aM (by simpa using j)
   subst this
   exact x h (by simpa using w)
  ·cases f
   rw [w.eq]
   refine J7 (ys.map (bB k)) pre.length 0 (pre++xs.map (bB k)++post) (by simp;omega) (fun v q=>?_) ?_
   ·obtain ⟨u,_,rfl⟩:=List.mem_map.1 q;rfl
   ·refine x _ ⟨w.free,?_,?_⟩
    ·congr 3
     unfold N7
     rw [dU,aU pre,dB rfl,fO]
     rw [gG,aY (show pre.length<=pre.length+ys.length by omega),cG,cT]
     rw [eC (by simpa using j),<- List.map_drop,dP]
     simp only [aU]
    ·right;rfl
section
variable {h g:bC} {K:VP} {A B:Option bI} {ac bc:Nat}
def B9y(a n:Nat):(if (a:Int)<(n:Int) then (a:Int) else (n:Int))=((min n a:Nat):Int):=by split<;>omega
def Ni{xs:List Int}(d:Dig b64 xs)(n:Nat):val b64 xs/b64^n=val b64 (xs.drop (min n xs.length))/\val b64 xs%b64^n=val b64 (xs.take (min n xs.length)):=by
 by_cases a:n<=xs.length
 ·rw [aI a]
  have e:=F4 b64 xs a
  have b:=C7 (by decide) (d.take n)
  have c:=L6 (by decide) (d.take n)
  rw [aF,aI a] at c
  exact A1u e.symm b c
 ·rw [fC (by omega),fD,aV]
  have b:=C7 (by decide) d
  have c:=L6 (by decide) d
  have f:=D0 (B:=b64) (by decide) (show xs.length<=n by omega)
  exact A1u (by simp [val]) b (by omega)
def Z9{x:Int}{an n:Nat}(ma:Mw h A an x)(ha:an<=ac)(hK:∀ A' m c',m<=c'->m<=an->Mw h A' m (x/b64^n)->K (.slice A' m c') h):aW prog U2 #[.slice A an ac,I n] h K:=by
 obtain ⟨b,rfl,e,a,d,rfl⟩:=ma
 refine A23 _ _ _ _ ?_
 unfold Zh
 rw [B9y,aC]
 refine ⟨⟨by omega,by omega⟩,hK _ _ _ (by omega) (by omega) ?_⟩
 rw [(Ni a n).1,<- aN]
 refine Mw.of (A1v e (by omega) ha) (a.drop _) ?_
 by_cases c:min n b.length<b.length
 ·exact Nx d c
 ·rw [aY (by omega)];exact Norm.nil
def Gi{x:Int}{an n:Nat}(ma:Mw h A an x)(ha:an<=ac)(hl:an<=10000000000)(hK:∀ A' m c',m<=c'->m<=n->m<=an->Mw h A' m (x%b64^n)->K (.slice A' m c') h):aW prog Cy #[.slice A an ac,I n] h K:=by
 obtain ⟨c,rfl,b,a,d,rfl⟩:=ma
 refine A4x _ _ _ _ ?_
 unfold A4y
 rw [B9y,aC,H9,bV,bV]
 refine ⟨⟨by omega,by omega⟩,Bs (Kq b (m:=min n c.length) (by omega) ha) (a.take _) (by rw [aF];omega) (Ni a n).2.symm (by omega) (by omega) ?_⟩
 intro m e M
 exact ⟨_,_,_,rfl,hK _ _ _ (by omega) (by omega) (by omega) M⟩
def Il{x y:Int}{an bn n:Nat}(ma:Mw h A an x)(mb:Mw h B bn y)(hbn:bn<=n)(hl:n+an<=5000000000)(hK:∀ A' m c' h',h.le h'->m<=c'->Mw h' A' m (x*b64^n+y)->K (.slice A' m c') h'):aW prog Mi #[.slice A an ac,.slice B bn bc,I n] h K:=by
 obtain ⟨a,rfl,u,o,D,rfl⟩:=ma
 obtain ⟨d,rfl,t,r,G,rfl⟩:=mb
 refine B8s _ _ _ _ _ _ _ ?_
 unfold C4z
 have q:B5 ((n:Int)+a.length)=((n+a.length:Nat):Int):=by rw [B7 (by omega) (by omega)];omega
 rw [q]
 refine J6 Q4 (by omega) (by omega) (by omega) ?_
 intro b w
 rw [aC]
 refine ⟨_,_,_,rfl,?_⟩
 have k:=Win.blk .u64 C1 w (aE (n+a.length) 0)
 refine Hb Q4 k (by simp) (t.mono k.le) rfl (by simp;omega) ?_
 intro E f
 refine ⟨_,rfl,⟨by omega,by omega⟩,?_⟩
 rw [bF] at f
 generalize hz:d++aE (n+a.length-d.length) (0:Int)=zs at f
 have p:zs.length=n+a.length:=by rw [<- hz];simp;omega
 have s:=f.sub (l:=n) (m:=n+a.length) (c:=n+a.length) (by omega) (by omega) (by omega)
 rw [aC]
 refine Hb Q4 s (by rw [aF,aN];omega) (u.mono f.le) rfl (by rw [aF,aN];omega) ?_
 intro F j
 rw [aY (by rw [aF,aN];omega),bX] at j
 have g:=f.whole (l:=n) (m:=n+a.length) (by omega) (by omega) (by omega) j
 rw [aY (show zs.length<=n+a.length by omega),bX] at g
 have i:zs.take n=d++aE (n-d.length) 0:=by
  rw [<- hz,dK,aK (by omega),bZ]
  congr 2;omega
 rw [i] at g
 refine ⟨_,rfl,Bs g.sl ((r.append (I0 (by decide) _)).append o) (by simp;omega) rfl (by omega) (by omega) ?_⟩
 intro m C M
 refine ⟨_,_,_,rfl,hK _ _ _ _ g.le C ?_⟩
 rw [G2,Dh] at M
 have e:(d++aE (n-d.length) (0:Int)).length=n:=by simp;omega
 rw [e] at M
 have z:val b64 a*b64^n+val b64 d=val b64 d+b64^n*val b64 a:=by rw [aR];omega
 rw [z];exact M
def C2l{x y:Int}(hx:0<=x/\x<18446744073709551616)(hy:0<=y/\y<18446744073709551616)(hK:K (.tuple #[U (x*y/18446744073709551616),U (x*y%18446744073709551616)]) h):aW prog B4g #[U x,U y] h K:=by
 refine C3k _ _ ?_
 unfold C84
 exact Ny hx hy ⟨_,_,rfl,hK⟩
def A6f{v:Int}{n:Nat}(s:SlI .u64 h A [v])(hn:0<n)(hl:n<=1000000000)(hK:∀ A' h',h.le h'->SlI .u64 h' A' (aE n v)->K (.slice A' n n) h'):aW prog Vg #[.slice A 1 ac,I n] h K:=by
 refine B16 _ _ _ _ ?_
 unfold B5i
 refine B6 (fun e=>by omega) (fun _=>?_)
 rw [C3 (n:=((1:Nat):Int)) (by omega) (by omega),C3 (n:=(n:Int)) (by omega) (by omega)]
 refine C2l (by omega) (by omega) ⟨_,_,rfl,?_⟩
 have u:((1:Nat):Int)*(n:Int)/18446744073709551616=0:=by omega
 have D:((1:Nat):Int)*(n:Int)%18446744073709551616=n:=by omega
 rw [u,D]
 refine B6 (fun e=>by omega) (fun _=>?_)
 refine B6 (fun e=>by omega) (fun _=>?_)
 rw [B7 (n:=(n:Int)) (by omega) (by omega)]
 refine J6 Q4 (by omega) (by omega) (by omega) ?_
 intro b z
 rw [aC]
 refine ⟨_,_,_,rfl,?_⟩
 have q:=Win.blk .u64 C1 z (aE n 0)
 refine Hb Q4 q (by simp) (s.mono q.le) rfl (by simp;omega) ?_
 intro e o
 refine ⟨_,rfl,?_⟩
 rw [bF] at o
 refine ⟨fun l f=>∃ k:Nat,l=[I k]/\0<k/\k<=n/\Win .u64 f h b C1 (some ⟨b,0,none⟩) [] (aE k v++aE (n-k) 0) [],fun l _=>n-(iAt l 0).toNat,⟨1,rfl,by omega,hn,o⟩,?_⟩
 rintro i f ⟨k,d,x,a,w⟩
 obtain rfl:=sI1 d
 refine B6 (fun C=>?_) (fun C=>?_)
 ·have t:(aE k v++aE (n-k) (0:Int)).length=n:=by simp;omega
  refine ⟨⟨by omega,by omega⟩,⟨by omega,by omega⟩,?_⟩
  simp only [aC,H9,bV]
  have g:=w.sub (l:=k) (m:=n) (c:=n) (by omega) (by omega) (by omega)
  have r:((aE k v++aE (n-k) (0:Int)).drop k).take (n-k)=aE (n-k) 0:=by
   rw [eI (by simp),aK (by simp)]
  rw [r] at g
  have y:SlI .u64 f (some ⟨b,0,none⟩) (aE (min k (n-k)) v):=by
   have:=Kq w.sl (c:=n) (m:=min k (n-k)) (by omega) (by omega)
   rwa [cJ (by simp;omega),bZ,aI (by omega)] at this
  refine B8c Q4 g (by simp) y (by simp) ?_
  intro F j
  rw [cP] at j ⊢
  have p:=w.whole (l:=k) (m:=n) (by omega) (by omega) (by simp;omega) j
  have B:B5 ((k:Int)+(min k (n-k):Nat))=((k+min k (n-k):Nat):Int):=by rw [B7 (by omega) (by omega)];omega
  refine ⟨_,rfl,?_⟩
  rw [B]
  refine ⟨⟨_,rfl,by omega,by omega,?_⟩,?_⟩
  ·have E:(aE k v++aE (n-k) (0:Int)).take k++(aE (min k (n-k)) v++(aE (n-k) (0:Int)).drop (min k (n-k)))++(aE k v++aE (n-k) (0:Int)).drop n=aE (k+min k (n-k)) v++aE (n-(k+min k (n-k))) 0:=by
    rw [dB (by simp),aY (show (aE k v++aE (n-k) (0:Int)).length<=n by omega),bX,bF,<- aU,dX]
    congr 2;omega
   rw [E] at p
   exact p
  ·simp only [iAt,aG];omega
 ·have a:k=n:=by omega
  subst a
  have:=w.sl
  rw [gC,List.replicate_zero,bX] at this
  exact hK _ _ w.le this
end
def Mw.high{h:bC}{A:Option bI}{an ac k:Nat}{x:Int}(ma:Mw h A an x)(ha:an<=ac)(hk:k<=an):Mw h (J9 A ac k 1) (an-k) (x/b64^k):=by
 obtain ⟨f,rfl,d,b,c,rfl⟩:=ma
 have e:=(Ni b k).1
 rw [aI hk] at e
 rw [e,<- aN]
 refine Mw.of (A1v d hk ha) (b.drop _) ?_
 by_cases a:k<f.length
 ·exact Nx c a
 ·rw [aY (by omega)];exact Norm.nil
def B74{x P X2 yh top:Int}(hP:0<P)(h1:x<P*P*(X2+1))(h2:P*top<=x)(hlt:X2<yh):top<P*yh:=by
 by_cases a:top<P*yh
 ·exact a
 ·have c:P*(P*yh)<=P*top:=aJ (by omega) (by omega)
  have b:P*P*(X2+1)<=P*P*yh:=aJ (by omega) (aS (by omega) (by omega))
  rw [cX P P yh] at b
  omega
def B75{x P X2 yh top:Int}(hP:0<P)(h1:P*P*X2<=x)(h2:x<P*(top+1))(hge:yh<=X2):P*yh<=top:=by
 by_cases a:P*yh<=top
 ·exact a
 ·have c:P*(top+1)<=P*(P*yh):=aJ (by omega) (by omega)
  have b:P*P*yh<=P*P*X2:=aJ (by omega) (aS (by omega) (by omega))
  rw [cX P P yh] at b
  omega
def C0y(N:Nat):Prop:=∀ {h:bC} {K:VP} {A B:Option bI} {ac bc an bn:Nat} {x y:Int},bn<=N->Mw h A an x->Mw h B bn y->an<=ac->bn<=bc->an<=1000000000->bn<=200000000->0<bn->9223372036854775808*b64^(bn-1)<=y->x<b64^bn*y->
 (∀ A1 m1 c1 A2 m2 c2 h',h.le h'->m1<=c1->m2<=c2->Mw h' A1 m1 (x/y)->Mw h' A2 m2 (x%y)->K (.tuple #[.slice A1 m1 c1,.slice A2 m2 c2]) h')->aW prog V6 #[.slice A an ac,.slice B bn bc] h K
section
variable {h g:bC} {K:VP} {A B:Option bI} {ac bc:Nat}
def Ds{x y:Int}:Fg x y<0↔x<y:=by
 unfold Fg
 by_cases a:x<y
 ·rw [iP a];simp [a]
 ·rw [iN a]
  by_cases b:x>y
  ·rw [iP b];simp [a]
  ·rw [iN b];simp [a]
set_option maxHeartbeats 1000000 in
def A61{x y q0 R0 pr:Int}{m bn nq cq np cp nr cr:Nat}{Aq Ap Ar:Option bI}(hx0:0<=x)(mb:Mw h B bn y)(hb:bn<=bc)(hl2:bn<=200000000)(hbm:bn=2*m)(mq:Mw h Aq nq q0)(hq:nq<=cq)(mp:Mw h Ap np pr)(hp2:pr<b64^bn)
 (mr:Mw h Ar nr R0) (hr:nr<=cr) (hq0:q0<b64^m) (hR:R0-pr=x-q0*y) (hy:x-q0*y<y)
 (hK:∀ A1 m1 c1 A2 m2 c2 h',h.le h'->m1<=c1->m2<=c2->Mw h' A1 m1 (x/y)->Mw h' A2 m2 (x%y)->K (.tuple #[.slice A1 m1 c1,.slice A2 m2 c2]) h'):
 Be prog B bn bc K Aq nq cq Ap np cp Ar nr cr h:=by
 have z:=mb.lt (by decide)
 have M:=mb.nonneg (by decide)
 have w:=mp.nonneg (by decide)
 unfold Be
 refine ⟨fun l c=>∃ (Aq Ar:Option bI) (nq cq nr cr:Nat) (q R:Int),l=[.slice Aq nq cq,.slice Ar nr cr]/\h.le c/\Mw c Aq nq q/\nq<=cq/\Mw c Ar nr R/\nr<=cr/\q<b64^m/\R-pr=x-q*y/\x-q*y<y,fun l c=>match l with|[.slice A n _,_]=>B3r b64 c A n|_=>0,⟨_,_,_,_,_,_,_,_,rfl,B4 h,mq,hq,mr,hr,hq0,hR,hy⟩,?_⟩
 rintro A1 L c1 A2 H c2 c ⟨Aq,Ar,nq,cq,nr,cr,q,R,s,e,mq,hq,mr,hr,hq0,hR,hy⟩
 simp only [bO,cV,and_true] at s
 obtain ⟨⟨rfl,rfl,rfl⟩,rfl,rfl,rfl⟩:=s
 have D:H<=bn+1:=mr.len_le (by decide) (by
  rw [bG]
  show R<b64^bn*18446744073709551616
  omega)
 have C:L<=m:=mq.len_le (by decide) hq0
 refine F8 mr (mp.mono e) (by omega) ⟨_,rfl,?_⟩
 refine B6 (fun i=>?_) (fun i=>?_)
 ·rw [Ds] at i
  have J:=mq.nonneg (by decide)
  have g:1<=q:=by
   by_cases F:1<=q
   ·exact F
   ·obtain rfl:q=0:=by omega
    omega
  refine S3 mr (mb.mono e) hr hb (by omega) (by omega) ?_
  intro A3 N G j d k M3
  refine ⟨_,_,_,rfl,Ba Q4 rfl ?_⟩
  intro b o
  refine ⟨_,_,_,rfl,?_⟩
  have f:=Heap.le_put (.cells #[U 1] C1) o
  have M1:Mw (j.put b (.cells #[U 1] C1)) (some ⟨b,0,none⟩) 1 1:=⟨[1],rfl,SlI.new j b [1] C1 _,Dig.one (by decide),by simp [fU],X4 _ _⟩
  refine H2 ((mq.mono d).mono f) M1 hq (by omega) g ?_
  intro A5 S O Q r E M5
  refine ⟨_,_,_,rfl,⟨_,_,_,_,_,_,_,_,rfl,B0 e (B0 d (B0 f r)),M5,E,(M3.mono f).mono r,k,by omega,?_,?_⟩,?_⟩
  ·rw [Int.sub_mul];omega
  ·rw [Int.sub_mul];omega
  ·simp only [Az M5,Az mq];omega
 ·rw [Ds] at i
  refine H2 mr (mp.mono e) hr (by omega) (by omega) ?_
  intro A3 N G j d k M3
  obtain ⟨u,t⟩:=A1u (x:=x) (a:=R-pr) (b:=q) (p:=y) (by rw [hR,aR y];omega) (by omega) (by omega)
  refine ⟨_,_,_,rfl,hK _ _ _ _ _ _ _ (B0 e d) hq k ?_ ?_⟩
  ·rw [u];exact mq.mono d
  ·rw [t];exact M3
set_option maxHeartbeats 1000000 in
def Ub{N:Nat}(ih:C0y N){x y:Int}{an bn m:Nat}(hm:0<m)(hN:m<=N)(hbm:bn=2*m)(ma:Mw h A an x)(mb:Mw h B bn y)(ha:an<=ac)(hb:bn<=bc)(hl:an<=1000000000)(hl2:bn<=200000000)(htop:9223372036854775808*b64^(bn-1)<=y)(hxy:x<b64^m*y)
 (hK:∀ A1 m1 c1 A2 m2 c2 h',h.le h'->m1<=c1->m2<=c2->Mw h' A1 m1 (x/y)->Mw h' A2 m2 (x%y)->K (.tuple #[.slice A1 m1 c1,.slice A2 m2 c2]) h'):aW prog V5 #[.slice A an ac,.slice B bn bc] h K:=by
 have ad:=ma.nonneg (by decide)
 have a7:=mb.nonneg (by decide)
 have a2:=mb.lt (by decide)
 have n:=D6 (B:=b64) (by decide) m
 have ak:b64^bn=b64^m*b64^m:=by rw [<- bD];congr 1;omega
 have E:b64^(2*m)=b64^m*b64^m:=by rw [<- bD];congr 1;omega
 have ae:b64^(bn-1)=b64^m*b64^(m-1):=by rw [<- bD];congr 1;omega
 have a:=mb.high (k:=m) hb (by omega)
 rw [show bn-m=m by omega] at a
 have d:=a.nonneg (by decide)
 have ap:=a.lt (by decide)
 have dy:b64^m*(y/b64^m)+y%b64^m=y:=aO _ _
 have aj:=aT y (b:=b64^m) (by omega)
 have ar:=aP y n
 have dx:b64^m*(x/b64^m)+x%b64^m=x:=aO _ _
 have au:=aT x (b:=b64^m) (by omega)
 have a0:=aP x n
 have aw:=D6 (B:=b64) (by decide) (m-1)
 have ag:9223372036854775808*b64^(m-1)<=y/b64^m:=by
  by_cases hc:9223372036854775808*b64^(m-1)<=y/b64^m
  ·exact hc
  ·have i:b64^m*(y/b64^m+1)<=b64^m*(9223372036854775808*b64^(m-1)):=aJ (by omega) (by omega)
   have J:b64^m*(9223372036854775808*b64^(m-1))=9223372036854775808*(b64^m*b64^(m-1)):=by grind
   rw [ae] at htop
   rw [cY] at i
   omega
 obtain ⟨ys,ah,sy,g,S,rfl⟩:=mb
 have mb:Mw h B bn (val b64 ys):=⟨ys,ah,sy,g,S,rfl⟩
 generalize hyv:val b64 ys=y at *
 refine Sp _ _ _ _ _ _ ?_
 unfold Pj
 have eh:B5 (cM ((bn:Nat):Int) 2)=(m:Int):=by rw [bH (by omega),B7 (by omega) (by omega)];omega
 have T:B5 (2*(m:Int))=((2*m:Nat):Int):=by rw [B7 (by omega) (by omega)];omega
 simp only [eh,T,aC,bV,H9]
 rw [show bn-m=m by omega]
 refine ⟨⟨by omega,by omega⟩,⟨by omega,by omega⟩,Bs (Kq sy (m:=m) (c:=bc) (by omega) (by omega)) (g.take m) (by rw [aF];omega) rfl (by omega) (by omega) ?_⟩
 intro yn ay Myl
 have H:=(Ni g m).2
 rw [aI (by omega),hyv] at H
 rw [<- H] at Myl
 refine ⟨_,_,_,rfl,B4 h,Z9 ma ha ?_⟩
 intro A1 n1 c1 k1 a4 M1
 refine ⟨_,_,_,rfl,?_⟩
 have F:=M1.nonneg (by decide)
 refine ⟨fun l R=>∃ (Aq Ar:Option bI) (L cq M cr:Nat) (q r:Int),l=[.slice Aq L cq,.slice Ar M cr]/\h.le R/\Mw R Aq L q/\L<=cq/\Mw R Ar M r/\M<=cr/\q<b64^m/\x/b64^m=q*(y/b64^m)+r/\x-q*y<y,?_,?_⟩
 ·refine Z9 ma ha ?_
  intro A2 n2 c2 k2 a1 M2
  refine ⟨_,_,_,rfl,F8 M2 a (by omega) ⟨_,rfl,?_⟩⟩
  have am:b64^(2*m)*(x/b64^(2*m))+x%b64^(2*m)=x:=aO _ _
  have al:=aT x (b:=b64^(2*m)) (by have:=D6 (B:=b64) (by decide) (2*m);omega)
  have W:=aP x (D6 (B:=b64) (by decide) (2*m))
  generalize x/b64^(2*m)=X2 at *
  rw [E] at am al W
  refine B6 (fun O=>?_) (fun O=>?_)
  ·rw [Ds] at O
   have ht:=B74 (x:=x) (top:=x/b64^m) n (by rw [cY];omega) (by omega) O
   refine ih hN M1 a k1 (by omega) (by omega) (by omega) hm ag ht ?_
   intro A3 n3 c3 A4 n4 c4 h3 o k3 k4 M3 M4
   have u:0<y/b64^m:=by omega
   have d1:=aO (x/b64^m) (y/b64^m)
   have d2:=aP (x/b64^m) u
   have d0:=M3.nonneg (by decide)
   refine ⟨_,_,_,_,_,_,rfl,_,_,_,_,_,_,_,_,rfl,o,M3,k3,M4,k4,bJ u ht,by rw [aR];omega,?_⟩
   generalize (x/b64^m)/(y/b64^m)=q at *
   generalize (x/b64^m)%(y/b64^m)=r at *
   generalize x/b64^m=top at *
   generalize y/b64^m=yh at *
   generalize y%b64^m=yl at *
   generalize x%b64^m=xl at *
   generalize b64^m=P at *
   have i:P*(r+1)<=P*yh:=aJ (by omega) (by omega)
   have J:x-q*y=P*r+xl-q*yl:=by rw [<- dx,<- dy,<- d1];grind
   have t3:=aS d0 aj
   rw [cY] at i
   omega
  ·rw [Ds] at O
   have ht:=B75 (x:=x) (top:=x/b64^m) (yh:=y/b64^m) (X2:=X2) n (by omega) (by rw [cY];omega) (by omega)
   refine Ba Q4 rfl ?_
   intro b ao
   refine ⟨_,_,_,rfl,?_⟩
   have l4:=Heap.le_put (.cells #[U 18446744073709551615] C1) ao
   refine A6f (v:=18446744073709551615) (SlI.new h b [18446744073709551615] C1 _) hm (by omega) ?_
   intro A5 h5 C s5
   refine ⟨_,_,_,rfl,?_⟩
   have w:=B0 l4 C
   refine Il (a.mono w) (Mag.zero (k:=.u64) (B:=b64)) (by omega) (by omega) ?_
   intro A6 n6 c6 h6 l6 k6 M6
   refine ⟨_,_,_,rfl,?_⟩
   have f:=B0 w l6
   refine H2 (M1.mono f) M6 k1 (by omega) (by rw [aR];omega) ?_
   intro A7 n7 c7 h7 s k7 M7
   have az:n7<=an:=M7.len_le (by decide) (by
    have:=ma.lt (by decide)
    have i:=aS d (aQ n)
    have J:1*(x/b64^m)<=b64^m*(x/b64^m):=aD (by omega) F
    omega)
   refine ⟨_,_,_,rfl,?_⟩
   refine S3 M7 ((a.mono f).mono s) k7 (by omega) (by omega) (by omega) ?_
   intro A8 n8 c8 h8 l8 k8 M8
   have t:∀ j:Nat,val b64 (aE j 18446744073709551615)=b64^j-1:=by
    intro j
    induction j with
    | zero=>rfl
    | succ j ihj=>
     rw [List.replicate_succ,val,ihj,bG]
     show (18446744073709551615:Int)+18446744073709551616*(b64^j-1)=b64^j*18446744073709551616-1
     omega
   have M5:Mw h5 A5 m (b64^m-1):=by
    refine ⟨aE m 18446744073709551615,by simp,s5,?_,?_,t m⟩
    ·intro z hz
     have:=List.eq_of_mem_replicate hz
     subst this;decide
    ·obtain ⟨j,rfl⟩:∃ j,m=j+1:=⟨m-1,by omega⟩
     unfold fU
     rw [List.replicate_succ']
     simp
   refine ⟨_,_,_,rfl,_,_,_,_,_,_,_,_,rfl,B0 f (B0 s l8),((M5.mono l6).mono s).mono l8,aZ _,M8,k8,by omega,?_,?_⟩
   ·grind
   ·have:(b64^m-1)*y=b64^m*y-y:=by grind
    omega
 ·rintro Aq' ai ax Ar' af av R ⟨Aq,Ar,L,cq,M,cr,q,r,G,V,Q,hq,mr,hr,e,X,aa⟩
  simp only [bO,cV,and_true] at G
  obtain ⟨⟨rfl,rfl,rfl⟩,rfl,rfl,rfl⟩:=G
  have p:=Q.nonneg (by decide)
  have a3:=mr.nonneg (by decide)
  have a5:ai<=m:=Q.len_le (by decide) e
  have a6:af<=an:=mr.len_le (by decide) (by
   have:=ma.lt (by decide)
   have i:=aS p d
   have J:1*(x/b64^m)<=b64^m*(x/b64^m):=aD (by omega) F
   omega)
  refine H8 Q (Myl.mono V) hq (by omega) (by omega) (by omega) ?_
  intro A3 n3 c3 h3 o k3 M3
  refine ⟨_,_,_,rfl,Gi (ma.mono (B0 V o)) ha (by omega) ?_⟩
  intro A4 n4 c4 k4 Z aq M4
  refine ⟨_,_,_,rfl,Il (mr.mono o) M4 Z (by omega) ?_⟩
  intro A5 n5 c5 h5 C k5 M5
  have D:=B0 V (B0 o C)
  refine ⟨_,_,_,rfl,A61 (q0:=q) (m:=m) ad (mb.mono D) hb hl2 hbm ((Q.mono o).mono C) hq (M3.mono C) ?_ M5 k5 e ?_ aa ?_⟩
  ·rw [ak]
   have i:q*(y%b64^m)<=q*b64^m:=aJ (by omega) p
   have J:q*b64^m<b64^m*b64^m:=bM e n
   omega
  ·generalize x/b64^m=top at *
   generalize y/b64^m=yh at *
   generalize y%b64^m=yl at *
   generalize x%b64^m=xl at *
   generalize b64^m=P at *
   rw [<- dx,<- dy,X];grind
  ·intro A6 n6 c6 A7 n7 c7 h7 s k6 k7 M6 M7
   exact hK _ _ _ _ _ _ _ (B0 D s) k6 k7 M6 M7
end
set_option maxHeartbeats 1000000 in
def C4d:∀ N,C0y N:=by
 intro N
 induction N with
 | zero=>intro h K A B R S J d x y T _ _ _ _ _ _ o;omega
 | succ N ih=>
  intro h K A B R S J d x y hN k g w C hl j aa f i O
  have af:=k.nonneg (by decide)
  have aj:=g.nonneg (by decide)
  have e:0<y:=by
   have:=D6 (B:=b64) (by decide) (d-1);omega
  refine Sr _ _ _ _ _ _ ?_
  unfold Pl
  have c:aW prog J1 #[.slice A J R,.slice B d S] h (fun r hp=>∃ (t22aA:Option bI) (t22an:Nat) (t22ac:Nat) (t22bA:Option bI) (t22bn:Nat) (t22bc:Nat),r= .tuple #[.slice t22aA t22an t22ac,.slice t22bA t22bn t22bc]/\K (.tuple #[.slice t22aA t22an t22ac,.slice t22bA t22bn t22bc]) hp):=by
   refine Fe k g w C (by omega) hl (by omega) ?_
   intro A1 m1 c1 A2 m2 c2 h' l s V M1 M2
   exact ⟨_,_,_,_,_,_,rfl,O _ _ _ _ _ _ _ l s V M1 M2⟩
  refine B6 (fun T=>c) (fun T=>?_)
  refine I8 (fun o=>c) (fun o=>?_)
  rw [bW (by omega)] at o
  obtain ⟨m,hbm⟩:∃ m,d=2*m:=⟨d/2,by omega⟩
  have eh:B5 (cM ((d:Nat):Int) 2)=(m:Int):=by rw [bH (by omega),B7 (by omega) (by omega)];omega
  simp only [eh]
  have L:=D6 (B:=b64) (by decide) m
  have z:b64^d=b64^m*b64^m:=by rw [<- bD];congr 1;omega
  have dx:b64^m*(x/b64^m)+x%b64^m=x:=aO _ _
  have X:=aT x (b:=b64^m) (by omega)
  have ad:=aP x L
  rw [z] at i
  refine Z9 k w ?_
  intro A1 n1 c1 s ag M1
  refine ⟨_,_,_,rfl,?_⟩
  have M:x/b64^m<b64^m*y:=by
   by_cases hc:x/b64^m<b64^m*y
   ·exact hc
   ·have n:b64^m*(b64^m*y)<=b64^m*(x/b64^m):=aJ (by omega) (by omega)
    rw [cX] at i
    omega
  refine Ub ih (by omega) (by omega) hbm M1 g s C (by omega) j f M ?_
  intro A2 n2 c2 A3 n3 c3 h3 D V k3 M2 M3
  refine ⟨_,_,_,_,_,_,rfl,Gi (k.mono D) w (by omega) ?_⟩
  intro A4 n4 c4 k4 q W M4
  have d1:=aO (x/b64^m) y
  have d2:=aP (x/b64^m) e
  have d3:=aT (x/b64^m) (b:=y) (by omega)
  have F:x/b64^m/y<b64^m:=bJ e M
  have ah:n3<=d:=M3.len_le (by decide) (by have:=g.lt (by decide);omega)
  have ae:n2<=m:=M2.len_le (by decide) F
  refine ⟨_,_,_,rfl,Il M3 M4 q (by omega) ?_⟩
  intro A5 Z c5 h5 u k5 M5
  refine ⟨_,_,_,rfl,?_⟩
  have Q:(x/b64^m)%y*b64^m+x%b64^m<b64^m*y:=by
   have n:b64^m*((x/b64^m)%y+1)<=b64^m*y:=aJ (by omega) (by omega)
   rw [cY,aR] at n
   omega
  have ai:Z<=d+m:=M5.len_le (by decide) (by
   have n:b64^m*y<b64^m*b64^d:=cO (g.lt (by decide)) L
   rw [Nat.add_comm,bD];omega)
  refine Ub ih (by omega) (by omega) hbm M5 (g.mono (B0 D u)) k5 C (by omega) j f Q ?_
  intro A6 n6 c6 A7 n7 c7 h7 H k6 k7 M6 M7
  have E:n6<=m:=M6.len_le (by decide) (bJ e Q)
  refine ⟨_,_,_,_,_,_,rfl,Il ((M2.mono u).mono H) M6 E (by omega) ?_⟩
  intro A8 n8 c8 h8 G k8 M8
  refine ⟨_,_,_,rfl,?_⟩
  have e1:=aO ((x/b64^m)%y*b64^m+x%b64^m) y
  have e2:=aP ((x/b64^m)%y*b64^m+x%b64^m) e
  have e3:=aT ((x/b64^m)%y*b64^m+x%b64^m) (b:=y) (by omega)
  have M7':=M7.mono G
  have t:=B0 D (B0 u (B0 H G))
  generalize ((x/b64^m)%y*b64^m+x%b64^m)/y=q2 at *
  obtain ⟨f1,f2⟩:=A1u (x:=x) (a:=((x/b64^m)%y*b64^m+x%b64^m)%y) (b:=x/b64^m/y*b64^m+q2) (p:=y) (by
   generalize ((x/b64^m)%y*b64^m+x%b64^m)%y=r2 at *
   generalize x/b64^m/y=q1 at *
   generalize x/b64^m%y=r1 at *
   generalize x/b64^m=top at *
   generalize x%b64^m=xl at *
   generalize b64^m=P at *
   grind) e3 e2
  refine O _ _ _ _ _ _ _ t k8 k7 ?_ ?_
  ·rw [f1];exact M8
  ·rw [f2];exact M7'
def Yr{ys:List Int}{k t s:Nat}(dy:Dig b64 ys)(hk:ys.length=k+1)(ht:ys.getD k 0=(t:Int))(ht0:t≠0)(hs:s=64-O3 t):s<64/\val b64 ys*2^s<b64^(k+1)/\9223372036854775808*b64^k<=val b64 ys*2^s:=by
 have r:=O2 dy k
 obtain ⟨d,a⟩:=Ci (B:=b64) (by decide) dy (m:=k) hk
 rw [ht] at r d a
 obtain ⟨q,p⟩:=Fj ht0
 have o:O3 t<=64:=Jf (k:=64) (by omega)
 have n:1<=O3 t:=by unfold O3;rw [iN ht0];omega
 have f:s<64:=by omega
 have b:0<(2:Int)^s:=bL (by decide)
 have j:=Ah (s:=s) (by omega)
 have c:O3 t=64-s:=by omega
 have i:(t:Int)+1<=2^(64-s):=by
  rw [<- c]
  have:((t+1:Nat):Int)<=((2^O3 t:Nat):Int):=by omega
  simpa using this
 have l:(2:Int)^(63-s)<=t:=by
  have:((2^(O3 t-1):Nat):Int)<=((t:Nat):Int):=by omega
  rw [show O3 t-1=63-s by omega] at this
  simpa using this
 have e:(2:Int)^s*2^(63-s)=9223372036854775808:=by
  rw [<- bD,show s+(63-s)=63 by omega];decide
 have g:=D6 (B:=b64) (by decide) k
 refine ⟨f,?_,?_⟩
 ·have u:val b64 ys*2^s<((t:Int)+1)*b64^k*2^s:=bM d b
  have w:((t:Int)+1)*b64^k*2^s=((t:Int)+1)*2^s*b64^k:=by grind
  have z:((t:Int)+1)*2^s*b64^k<=18446744073709551616*b64^k:=by
   apply aD _ (aQ g)
   rw [<- j,aR (2^s)]
   exact aD i (aQ b)
  have y:b64^(k+1)=18446744073709551616*b64^k:=by rw [bG b64 k,aR]
  omega
 ·have x:(t:Int)*b64^k*2^s<=val b64 ys*2^s:=aD a (aQ b)
  have u:9223372036854775808*b64^k<=(t:Int)*2^s*b64^k:=by
   apply aD _ (aQ g)
   rw [<- e,aR (t:Int)]
   exact aJ l (by omega)
  have w:(t:Int)*2^s*b64^k=(t:Int)*b64^k*2^s:=by grind
  omega
section
variable {h g:bC} {K:VP} {A B:Option bI} {ac bc:Nat}
set_option maxHeartbeats 1000000 in
def A7b{D V a b:Int}{S sh dn dc vc bn bq:Nat}{pieces t46:Int}{DA VA:Option bI}(hS:B5 ((B5 (cM (B5 ((B5 (((bn:Nat):Int)+pieces))-(1:Int))) pieces))*pieces)=(S:Int))
 (hsh:C0 (B5 ((B5 ((64:Int)*(B5 ((S:Int)-((bn:Nat):Int)))))+t46))=(sh:Int)) (hS0:0<S) (hS2:S<=200000000) (hsh2:sh<=100000000000) (hb:h bq=none) (hD:Mw h DA dn D) (hdc:dn<=dc) (hdn:0<dn) (hdl:dn<=2000000000) (hV:Mw h VA S V) (hvc:S<=vc) (hVt:9223372036854775808*b64^(S-1)<=V)
 (hDa:D=a*2^sh) (hVb:V=b*2^sh)
 (hK:∀ A1 m1 c1 A2 m2 c2 h',h.le h'->m1<=c1->m2<=c2->Mw h' A1 m1 (a/b)->Mw h' A2 m2 (a%b)->K (.tuple #[.slice A1 m1 c1,.slice A2 m2 c2]) h'):
 Bh prog bn K pieces t46 VA S vc DA dn dc (some ⟨bq,0,none⟩) (dn+S) (dn+S) (blk .u64 C1 h bq (aE (dn+S) 0)):=by
 have N:=hD.nonneg (by decide)
 have aj:=hD.lt (by decide)
 have z:=hV.lt (by decide)
 have o:0<V:=by have:=D6 (B:=b64) (by decide) (S-1);omega
 have T:0<(2:Int)^sh:=bL (by decide)
 have hQ:=D6 (B:=b64) (by decide) S
 unfold Bh
 simp only [hS,hsh]
 obtain ⟨nb,hnb⟩:∃ nb,nb=(dn-1)/S:=⟨_,rfl⟩
 have al:nb*S<=dn-1:=by rw [hnb];exact Nat.div_mul_le_self _ _
 have ai:dn-1<nb*S+S:=by
  have M:=eG (dn-1) S
  have h2:=eM (dn-1) hS0
  rw [<- hnb,fH] at M
  omega
 have e1:B5 (B5 (cM (B5 ((dn:Int)-1)) (S:Int))*(S:Int))=((nb+1:Nat):Int)*S-S:=by
  rw [B7 (n:=(dn:Int)-1) (by omega) (by omega),show (dn:Int)-1=((dn-1:Nat):Int) by omega,<- cL,<- hnb]
  have:nb<=dn-1:=by rw [hnb];exact eF _ _
  have O:(nb:Int)*(S:Int)=((nb*S:Nat):Int):=by simp
  rw [B7 (n:=(nb:Int)) (by omega) (by omega),O,B7 (by omega) (by omega),fP,Int.add_mul,O]
  omega
 refine ⟨fun l T=>∃ (j n c:Nat) (A:Option bI) (d:List Int) (r:Int) (g:bC),l=[.slice A n c,I ((j:Int)*S-S)]/\h.le g/\j*S+d.length=dn+S/\Dig b64 d/\Win .u64 T g bq C1 (some ⟨bq,0,none⟩) [] (aE (j*S) 0++d) []/\Mw g A n r/\n<=c/\r=(D/b64^(j*S))%V/\val b64 d=(D/b64^(j*S))/V,fun l _=>(iAt l 1+S).toNat,⟨nb+1,0,0,none,aE (dn-1+1-nb*S) 0,0,h,by rw [e1],B4 h,?_,I0 (by decide) _,?_,Mag.zero,aZ _,?_,?_⟩,?_⟩
 ·rw [cP,eZ,eV];omega
 ·rw [dX,show (nb+1)*S+(dn-1+1-nb*S)=dn+S by rw [eZ,eV];omega]
  exact Win.blk .u64 C1 hb _
 ·have:=D0 (B:=b64) (by decide) (show dn<=(nb+1)*S by rw [eZ,eV];omega)
  rw [bU N (by omega),gQ]
 ·have:=D0 (B:=b64) (by decide) (show dn<=(nb+1)*S by rw [eZ,eV];omega)
  rw [bU N (by omega),Int.zero_ediv,Cs]
 rintro A1 n1 c1 st ap ⟨j,n,c,A',d,r,g,L,lg,s,F,w,Mr,ax,t,k⟩
 simp only [bO,cV,cR,and_true,true_and] at L
 obtain ⟨⟨rfl,rfl,rfl⟩,rfl⟩:=L
 refine B6 (fun M=>?_) (fun M=>?_)
 ·obtain ⟨i,rfl⟩:∃ i,j=i+1:=⟨j-1,by
   rcases j with _|j
   ·simp at M;omega
   ·rfl⟩
  obtain ⟨e,he⟩:∃ e,e=i*S:=⟨_,rfl⟩
  have y:(i+1)*S=e+S:=by rw [he,eZ,eV]
  have af:((i+1:Nat):Int)*(S:Int)-(S:Int)=(e:Int):=by rw [<- cD,y];omega
  rw [y] at s w t k
  rw [af]
  have az:=D6 (B:=b64) (by decide) e
  refine w.call (Z9 (hD.mono lg) hdc ?_)
  intro A2 n2 c2 k2 aq M2 h2 w2
  refine ⟨_,_,_,rfl,w2.call (Gi M2 k2 (by omega) ?_)⟩
  intro A3 n3 c3 k3 ad ak M3 O w3
  have au:=Mr.nonneg (by decide)
  have ao:r<V:=by rw [t];exact aP _ o
  have av:n1<=S:=Mr.len_le (by decide) (by omega)
  refine ⟨_,_,_,rfl,w3.call (Il Mr M3 ad (by omega) ?_)⟩
  intro A4 n4 c4 g4 l4 k4 M4 h4 w4
  have ag:D/b64^(e+S)=D/b64^e/b64^S:=by rw [bD,fF (by omega)]
  rw [ag] at t k
  have dm:=aO (D/b64^e) (b64^S)
  have ar:=aT (D/b64^e) (b:=b64^S) (by omega)
  have ay:=aP (D/b64^e) hQ
  generalize hD1:D/b64^e=D1 at *
  have q:r*b64^S+D1%b64^S<b64^S*V:=by
   have t1:b64^S*(r+1)<=b64^S*V:=aJ (by omega) (by omega)
   rw [cY,aR] at t1
   omega
  have am:n4<=S+S:=M4.len_le (by decide) (by
   have t1:b64^S*V<b64^S*b64^S:=cO z hQ
   rw [bD];omega)
  have G:=B0 lg l4
  refine ⟨_,_,_,rfl,w4.call (C4d S (aZ _) M4 (hV.mono G) k4 hvc (by omega) hS2 hS0 hVt q ?_)⟩
  intro A5 n5 c5 A6 n6 c6 g6 l6 k5 k6 M5 M6 h6 R
  have a0:n5<=S:=M5.len_le (by decide) (bJ o q)
  refine ⟨_,_,_,_,_,_,rfl,⟨by omega,by omega⟩,?_⟩
  rw [aC]
  have aa:aE (e+S) (0:Int)++d=aE e 0++(aE S 0++d):=by rw [<- aU,dX]
  rw [aa] at R
  have an:(aE e (0:Int)++(aE S 0++d)).length=dn+S:=by simp only [aH,cP];omega
  have w7:=R.sub (l:=e) (m:=dn+S) (c:=dn+S) (by omega) (by omega) (by omega)
  have e7:((aE e (0:Int)++(aE S 0++d)).drop e).take (dn+S-e)=aE S 0++d:=by
   rw [eI (by simp),aK (by simp only [aH,cP];omega)]
  rw [e7] at w7
  obtain ⟨u,J,ac,ae,aw,H⟩:=M5
  refine Hb Q4 w7 (by simp only [aH,cP];omega) (ac.mono R.le) J (by simp only [aH,cP];omega) ?_
  intro h8 w8
  rw [eC (by simp;omega),bF,<- aU u] at w8
  have f:(u++aE (S-u.length) (0:Int)).length=S:=by simp;omega
  have w9:=R.whole (l:=e) (m:=dn+S) (by omega) (by omega) (by rw [aH,f];omega) w8
  rw [dB (by simp),aY (show (aE e (0:Int)++(aE S 0++d)).length<=dn+S by omega),bX] at w9
  have e8:B5 ((e:Int)-(S:Int))=((i:Nat):Int)*S-S:=by
   rw [B7 (by omega) (by omega),he,cD]
  have a1:=aO (r*b64^S+D1%b64^S) V
  have C:=aT (r*b64^S+D1%b64^S) (b:=V) (by omega)
  have E:=aP (r*b64^S+D1%b64^S) o
  have ah:=aO (D1/b64^S) V
  rw [<- t,<- k] at ah
  obtain ⟨X,f2⟩:=A1u (x:=D1) (a:=(r*b64^S+D1%b64^S)%V) (b:=val b64 u+b64^S*val b64 d) (p:=V) (by
   rw [H]
   generalize (r*b64^S+D1%b64^S)%V=r2 at *
   generalize hq2:(r*b64^S+D1%b64^S)/V=q2 at *
   generalize D1%b64^S=bl at *
   generalize D1/b64^S=D2 at *
   generalize b64^S=Q at *
   generalize val b64 d=W at *
   grind) C E
  refine ⟨_,rfl,?_⟩
  rw [e8]
  refine ⟨⟨i,_,_,_,(u++aE (S-u.length) 0)++d,_,g6,rfl,B0 G l6,?_,?_,?_,M6,k6,?_,?_⟩,?_⟩
  ·rw [aH,f];omega
  ·exact (ae.append (I0 (by decide) _)).append F
  ·rw [<- he];exact w9
  ·rw [<- he,hD1,f2]
  ·rw [<- he,hD1,X,G2,f,Dh]
  ·simp only [iAt,aL,aG]
   rw [<- cD,<- he]
   omega
 ·obtain rfl:j=0:=by
   rcases j with _|j
   ·rfl
   ·rw [<- cD,eZ,eV] at M
    omega
  rw [gV,List.replicate_zero,cT] at w
  rw [gV,hO,Int.ediv_one] at t k
  rw [gV,fG] at s
  have Z:0<b:=by
   by_cases hc:0<b
   ·exact hc
   ·have:=aD (show b<=0 by omega) (aQ T);omega
  obtain ⟨X,f2⟩:=A1u (x:=D) (a:=(a%b)*2^sh) (b:=a/b) (p:=V) (by
   have:=aO a b
   rw [hDa,hVb]
   conv=>rhs;rw [<- this]
   grind) (aS (aT _ (by omega)) (by omega)) (by rw [hVb];exact bM (aP _ Z) T)
  refine Bs w.sl F s.symm k (by omega) (by omega) ?_
  intro m2 k2 M2
  refine ⟨_,_,_,rfl,?_⟩
  refine Hg (Mr.mono w.le) (by have:=Mr.len_le (j:=S) (by decide) (by have:=aP D o;omega);omega) (by omega) ?_
  intro A3 n3 c3 O l3 k3 M3
  rw [t,f2,fX _ (by omega)] at M3
  rw [X] at M2
  exact ⟨_,_,_,rfl,hK _ _ _ _ _ _ _ (B0 lg (B0 w.le l3)) k2 k3 (M2.mono l3) M3⟩
set_option maxHeartbeats 1000000 in
def Qy{x y:Int}{an bn:Nat}(ma:Mw h A an x)(mb:Mw h B bn y)(ha:an<=ac)(hbc:bn<=bc)(hl:an<=800000000)(hl2:bn<=100000000)(ha0:0<an)(hb0:0<bn)
 (hK:∀ A1 m1 c1 A2 m2 c2 h',h.le h'->m1<=c1->m2<=c2->Mw h' A1 m1 (x/y)->Mw h' A2 m2 (x%y)->K (.tuple #[.slice A1 m1 c1,.slice A2 m2 c2]) h'):aW prog Cz #[.slice A an ac,.slice B bn bc] h K:=by
 have ai:=ma.nonneg (by decide)
 have ae:=ma.len_zero (by decide)
 have o:=ma.lt (by decide)
 refine Ss _ _ _ _ _ _ ?_
 unfold Pm Jl
 refine ⟨fun l hp=>hp=h/\∃ p:Nat,l=[I p]/\0<p/\p<=bn,fun l _=>bn-(iAt l 0).toNat,⟨rfl,1,rfl,by omega,by omega⟩,?_⟩
 rintro w hp ⟨rfl,p,C,j,ag⟩
 obtain rfl:=sI1 C
 have T:B5 (cM (B5 (B5 ((bn:Int)+(p:Int))-1)) (p:Int))=(((bn+p-1)/p:Nat):Int):=by
  rw [B7 (n:=(bn:Int)+p) (by omega) (by omega),B7 (n:=(bn:Int)+p-1) (by omega) (by omega),show (bn:Int)+p-1=((bn+p-1:Nat):Int) by omega,<- cL]
  have:(bn+p-1)/p<=bn+p-1:=eF _ _
  generalize (bn+p-1)/p=q at *
  rw [B7 (by omega) (by omega)]
 refine B6 (fun d=>by omega) (fun _=>?_)
 obtain ⟨S,hS⟩:∃ S,S=(bn+p-1)/p*p:=⟨_,rfl⟩
 have aa:bn<=S/\S<=bn+p-1:=by
  have d:=eG (bn+p-1) p
  have R:=eM (bn+p-1) j
  rw [fH,<- hS] at d
  omega
 have e2:B5 ((B5 (cM (B5 (B5 ((bn:Int)+(p:Int))-1)) (p:Int)))*(p:Int))=(S:Int):=by
  rw [T,<- cD,<- hS,B7 (by omega) (by omega)]
 refine B6 (fun d=>?_) (fun d=>?_)
 ·rw [T] at d
  have R:80<=(bn+p-1)/p:=by omega
  rw [Nat.le_div_iff_mul_le j] at R
  have z:B5 ((p:Int)*2)=((p*2:Nat):Int):=by rw [B7 (by omega) (by omega)];omega
  rw [z]
  exact ⟨⟨rfl,_,rfl,by omega,by omega⟩,by simp only [iAt,aG];omega⟩
 ·refine B6 (fun d=>by omega) (fun _=>?_)
  obtain ⟨k,hk⟩:∃ k,bn=k+1:=⟨bn-1,by omega⟩
  have O:=mb
  obtain ⟨a,F,sy,W,ny,rfl⟩:=mb
  have c:a.length=k+1:=by omega
  have gt:=O2 W k
  have E:=A2z c ny
  have z:B5 ((bn:Int)-1)=(k:Int):=by rw [B7 (by omega) (by omega)];omega
  rw [z]
  subst F
  refine sy.load rfl (by omega) (by omega) ?_
  rw [aC]
  obtain ⟨t,ht⟩:∃ t:Nat,a.getD k 0=t:=⟨(a.getD k 0).toNat,by omega⟩
  rw [ht] at gt E ⊢
  refine R9 (by omega) ⟨_,rfl,?_⟩
  obtain ⟨s,hs⟩:∃ s,s=64-O3 t:=⟨_,rfl⟩
  rw [<- hs]
  obtain ⟨Z,H,L⟩:=Yr W c ht (by omega) hs
  simp only [e2]
  obtain ⟨sh,hsh⟩:∃ sh,sh=64*(S-a.length)+s:=⟨_,rfl⟩
  have e4:C0 (B5 (B5 (64*B5 ((S:Int)-(a.length:Int)))+(s:Int)))=(sh:Int):=by
   rw [B7 (n:=(S:Int)-(a.length:Int)) (by omega) (by omega),B7 (n:=64*((S:Int)-(a.length:Int))) (by omega) (by omega),B7 (by omega) (by omega),C3 (by omega) (by omega)]
   omega
  simp only [e4]
  have f:(2:Int)^sh=2^s*b64^(S-a.length):=by rw [hsh,bD,Lo,aR]
  have g:=D6 (B:=b64) (by decide) (S-a.length)
  have af:0<(2:Int)^s:=bL (by decide)
  have m:0<(2:Int)^sh:=bL (by decide)
  have ad:val b64 a*2^sh=val b64 a*2^s*b64^(S-a.length):=by rw [f,cX]
  have G:val b64 a*2^sh<b64^S:=by
   have u:val b64 a*2^s*b64^(S-a.length)<b64^(k+1)*b64^(S-a.length):=bM H g
   rw [<- bD,show k+1+(S-a.length)=S by omega] at u
   omega
  have J:9223372036854775808*b64^(S-1)<=val b64 a*2^sh:=by
   have u:9223372036854775808*b64^k*b64^(S-a.length)<=val b64 a*2^s*b64^(S-a.length):=aD L (aQ g)
   rw [cX,<- bD,show k+(S-a.length)=S-1 by omega] at u
   omega
  refine U8 O hbc (by omega) (by omega) ?_
  intro A1 b c1 d X k1 M1
  refine ⟨_,_,_,rfl,?_⟩
  have Q:b=S:=by
   have q1:=M1.len_le (by decide) G
   have q2:=M1.lt (by decide)
   by_cases hc:b=S
   ·exact hc
   ·have:=D0 (B:=b64) (by decide) (show b<=S-1 by omega)
    have:=D6 (B:=b64) (by decide) (S-1)
    omega
  subst Q
  refine U8 (ma.mono X) ha (by omega) (by omega) ?_
  intro A2 r c2 R l2 k2 M2
  refine ⟨_,_,_,rfl,?_⟩
  have ah:r<=an+(1+(b-a.length)):=M2.len_le (by decide) (by
   have u:x*2^sh<b64^an*2^sh:=bM o m
   have t2:(2:Int)^sh<=b64^(1+(b-a.length)):=by
    rw [f,bD]
    apply aD _ (aQ g)
    have:=D0 (B:=2) (by decide) (show s<=64 by omega)
    have e:(2:Int)^64=18446744073709551616:=by decide
    show (2:Int)^s<=b64^1
    rw [bG,hO]
    show (2:Int)^s<=1*18446744073709551616
    omega
   have t3:b64^an*2^sh<=b64^an*b64^(1+(b-a.length)):=aJ t2 (aQ (D6 (by decide) an))
   rw [bD b64 an]
   omega)
  have i:0<r:=by
   rcases Nat.eq_zero_or_pos r with M|M
   ·have:=(M2.len_zero (by decide)).2 M
    rcases Int.mul_eq_zero.1 this with h3|h3<;>omega
   ·exact M
  have e5:B5 ((r:Int)+(b:Int))=((r+b:Nat):Int):=by rw [B7 (by omega) (by omega)];omega
  rw [e5]
  refine J6 Q4 (by omega) (by omega) (by omega) ?_
  intro bq N
  rw [aC]
  refine ⟨_,_,_,rfl,?_⟩
  refine B6 (fun d=>by omega) (fun _=>?_)
  refine A7b (D:=x*2^sh) (V:=val b64 a*2^sh) (sh:=sh) (S:=b) e2 e4 (by omega) (by omega) (by omega) N M2 k2 i (by omega) (M1.mono l2) k1 J rfl rfl ?_
  intro A3 n3 c3 A4 n4 c4 h4 l4 k3 k4 M3 M4
  exact hK _ _ _ _ _ _ _ (B0 X (B0 l2 l4)) k3 k4 M3 M4
def T3{x y:Int}{an bn:Nat}(ma:Mw h A an x)(mb:Mw h B bn y)(ha:an<=ac)(hbc:bn<=bc)(hy:y≠0)(hl:an<=800000000)(hl2:bn<=100000000)
 (hK:∀ A1 m1 c1 A2 m2 c2 h',h.le h'->m1<=c1->m2<=c2->Mw h' A1 m1 (x/y)->Mw h' A2 m2 (x%y)->K (.tuple #[.slice A1 m1 c1,.slice A2 m2 c2]) h'):aW prog Q0 #[.slice A an ac,.slice B bn bc] h K:=by
 refine Wj _ _ _ _ _ _ ?_
 unfold Sb
 have a:aW prog J1 #[.slice A an ac,.slice B bn bc] h (fun r d=>∃ (t22aA:Option bI) (t22an:Nat) (t22ac:Nat) (t22bA:Option bI) (t22bn:Nat) (t22bc:Nat),r= .tuple #[.slice t22aA t22an t22ac,.slice t22bA t22bn t22bc]/\K (.tuple #[.slice t22aA t22an t22ac,.slice t22bA t22bn t22bc]) d):=by
  refine Fe ma mb ha hbc hy (by omega) (by omega) ?_
  intro A1 m1 c1 A2 m2 c2 h' l b c M1 M2
  exact ⟨_,_,_,_,_,_,rfl,hK _ _ _ _ _ _ _ l b c M1 M2⟩
 refine B6 (fun f=>B6 (fun e=>?_) (fun _=>a)) (fun _=>a)
 rw [B7 (by omega) (by omega)] at e
 refine Qy ma mb ha hbc hl hl2 (by omega) (by omega) ?_
 intro A1 m1 c1 A2 m2 c2 h' l b c M1 M2
 exact ⟨_,_,_,_,_,_,rfl,hK _ _ _ _ _ _ _ l b c M1 M2⟩
end
def TZ(x k:Nat):Prop:=∃ m,x=2^k*(2*m+1)
def TZ.ex:∀ {x:Nat},x≠0->∃ k,TZ x k:=by
 intro x
 induction x using Nat.strongRecOn with
 | _ x ih=>
  intro h
  rcases Nat.mod_two_eq_zero_or_one x with a|a
  ·obtain ⟨k,m,b⟩:=ih (x/2) (by omega) (by omega)
   refine ⟨k+1,m,?_⟩
   rw [dT,fH (2^k),fA,<- b];omega
  ·exact ⟨0,x/2,by omega⟩
def TZ.lt{x k n:Nat}(h:TZ x k)(hx:x<2^n):k<n:=by
 obtain ⟨m,rfl⟩:=h
 have b:2^k*1<=2^k*(2*m+1):=fV _ (by omega)
 exact (gO (a:=2) (by decide)).1 (by omega)
def B3i{a u v:Nat}:(2^a*u) ||| (2^a*v)=2^a*(u ||| v):=by
 apply Nat.eq_of_testBit_eq
 intro i
 simp only [Nat.testBit_or,gR,Bool.and_or_distrib_left]
def B9v{u v:Nat}(h:u%2=1\/v%2=1):(u ||| v)%2=1:=by simpa using h
def TZ.or'{x y a b:Nat}(hx:TZ x a)(hy:TZ y b)(hab:a<=b):TZ (x ||| y) a/\TZ (y ||| x) a:=by
 obtain ⟨m,rfl⟩:=hx
 obtain ⟨n,rfl⟩:=hy
 obtain ⟨d,rfl⟩:∃ d,b=a+d:=⟨b-a,by omega⟩
 rw [eB,fA,B3i,B3i]
 have e:=B9v (u:=2*m+1) (v:=2^d*(2*n+1)) (.inl (by omega))
 have c:=B9v (u:=2^d*(2*n+1)) (v:=2*m+1) (.inr (by omega))
 exact ⟨⟨_/2,by rw [<- eG (_ ||| _) 2,e]⟩,⟨_/2,by rw [<- eG (_ ||| _) 2,c]⟩⟩
def TZ.or{x y a b:Nat}(hx:TZ x a)(hy:TZ y b):TZ (x ||| y) (min a b):=by
 by_cases h:a<=b
 ·rw [aI h];exact (hx.or' hy h).1
 ·rw [fC (by omega)];exact (hy.or' hx (by omega)).2
def TZ.bit{x k:Nat}(h:TZ x k)(hx:x<2^64):x &&& (2^64-x)=2^k:=by
 obtain ⟨m,rfl⟩:=h
 have g:0<2^k:=cW (by decide)
 have c:2^k*(2*m+1)=2^k*(2*m)+(2^k-1)+1:=by rw [gI,cF];omega
 apply Nat.eq_of_testBit_eq
 intro i
 rw [Nat.testBit_and]
 have f:(2^64-2^k*(2*m+1)).testBit i=(decide (i<64) && !(2^k*(2*m)+(2^k-1)).testBit i):=by
  rw [c];exact Nat.testBit_two_pow_sub_succ (by omega) i
 rw [f,Nat.testBit_two_pow_mul_add _ (by omega),gR,Nat.testBit_two_pow]
 by_cases b:i<k
 ·simp [b,show ¬ i>=k by omega,show ¬ k=i by omega]
 ·by_cases e:i=k
  ·subst e
   have a:i<64:=TZ.lt ⟨m,rfl⟩ hx
   simp [a,Nat.testBit_zero]
  ·obtain ⟨d,hd⟩:∃ d,i-k=d+1:=⟨i-k-1,by omega⟩
   rw [iN b,hd,Nat.testBit_succ,Nat.testBit_succ,show (2*m+1)/2=m by omega,show 2*m/2=m by omega]
   simp only [show ¬ k=i by omega,decide_false]
   cases m.testBit d<;>simp
def A05{o k:Nat}(h:o%2=1):Nat.Coprime (2^k) o:=Nat.Coprime.pow_left k (by unfold Nat.Coprime;rw [Nat.gcd_rec,h];rfl)
def C21{x y a b m:Nat}(hx:x=2^a*(2*m+1))(hy:TZ y b):eA x y=2^(min a b)*eA (2*m+1) y:=by
 obtain ⟨n,rfl⟩:=hy
 subst hx
 have c:eA (2*m+1) (2^b*(2*n+1))=eA (2*m+1) (2*n+1):=dJ (2*n+1) (A05 (by omega))
 rw [c]
 by_cases h:a<=b
 ·obtain ⟨d,rfl⟩:∃ d,b=a+d:=⟨b-a,by omega⟩
  rw [aI h,eB,fA,Nat.gcd_mul_left,dJ _ (A05 (by omega))]
 ·obtain ⟨d,rfl⟩:∃ d,a=b+d:=⟨a-b,by omega⟩
  rw [fC (by omega),eB,fA,Nat.gcd_mul_left,Nat.Coprime.gcd_mul_left_cancel _ (A05 (by omega))]
def A2v(k:Nat):Nat:=(2^k*285870213051353865%18446744073709551616)/2^58
def Gtz(h:bC):Prop:=∀ k,k<64->h.cell? (eE ⟨0,0,none⟩ (A2v k*1))=some (Y k)
def Gtz.mono{h h':bC}(g:Gtz h)(l:h.le h'):Gtz h':=fun k a=>B9 l (g k a)
section
variable {h g:bC} {K:VP} {A B:Option bI} {ac bc:Nat}
def Ll{x k:Nat}(gl:Gtz h)(tz:TZ x k)(hx:x<18446744073709551616)(hK:K (I k) h):aW prog L9 #[U x] h K:=by
 have a:=tz.lt (n:=64) hx
 have f:x≠0:=by
  obtain ⟨m,rfl⟩:=tz
  have:0<2^k:=cW (by decide)
  have:=Nat.mul_pos this (show 0<2*m+1 by omega)
  omega
 refine Nc _ ?_
 unfold Hp
 refine D9 (fun e=>by omega) (fun _=>?_)
 have c:C0 (0-(x:Int))=((2^64-x:Nat):Int):=by
  rw [E6];omega
 have d:Rb .u64 (x:Int) ((2^64-x:Nat):Int)=((2^k:Nat):Int):=by
  rw [B55 (by omega) (by omega),aC,aC,tz.bit hx]
 have b:eD (C0 (((2^k:Nat):Int)*285870213051353865)) (2^(min ((58:Int)).toNat 64))=((A2v k:Nat):Int):=by
  show eD _ (2^(min 58 64))=_
  rw [B7l (by decide),E6]
  unfold A2v
  rw [dZ,gH,cD]
  rfl
 rw [c,d,b,aC]
 have g:A2v k<64:=by
  unfold A2v
  have:(2^k*285870213051353865)%18446744073709551616<18446744073709551616:=eM _ (by decide)
  exact Nat.div_lt_of_lt_mul (by omega)
 refine ⟨⟨by omega,by omega⟩,_,gl k a,?_⟩
 rw [B7 (by omega) (by omega)]
 exact hK
def A44{x y:Nat}(gl:Gtz h)(hx:x<18446744073709551616)(hy:y<18446744073709551616)(hK:K (U (eA x y:Nat)) h):aW prog Qo #[U x,U y] h K:=by
 refine A7j _ _ ?_
 unfold A9h
 refine D9 (fun e=>?_) (fun e=>?_)
 ·obtain rfl:x=0:=by omega
  rw [A7a (by omega) (by omega)]
  simpa using hK
 refine D9 (fun D=>?_) (fun D=>?_)
 ·obtain rfl:y=0:=by omega
  rw [A7a (by omega) (by omega)]
  simpa using hK
 obtain ⟨a,j⟩:=TZ.ex (x:=x) (by omega)
 obtain ⟨b,q⟩:=TZ.ex (x:=y) (by omega)
 have S:=j.lt (n:=64) hx
 have O:=q.lt (n:=64) hy
 rw [A7a (by omega) (by omega),aC,aC]
 have p:x ||| y<18446744073709551616:=Nat.or_lt_two_pow (n:=64) hx hy
 refine Ll gl (j.or q) p ⟨_,rfl,?_⟩
 refine Ll gl j hx ⟨_,rfl,?_⟩
 refine B6 (fun i=>by omega) (fun _=>?_)
 obtain ⟨m,s⟩:=j
 have B:=C21 s q
 have A:eD (x:Int) (2^(min ((a:Int)).toNat 64))=((2*m+1:Nat):Int):=by
  rw [aC,B7l (by omega),show ((2:Int)^a)=((2^a:Nat):Int) by simp,<- dZ,s,gS _ (cW (by decide))]
 rw [A]
 have w:2*m+1<=x:=by
  rw [s];exact gW _ (cW (by decide))
 refine ⟨fun l L=>L=h/\∃ u v:Nat,l=[U u,U v]/\u%2=1/\u<18446744073709551616/\v<18446744073709551616/\eA u v=eA (2*m+1) y,fun l _=>(iAt l 0+iAt l 1).toNat,⟨rfl,2*m+1,y,rfl,by omega,by omega,hy,rfl⟩,?_⟩
 rintro R N F ⟨rfl,u,v,t,C,G,g,d⟩
 simp only [bO,cR,and_true,true_and] at t
 obtain ⟨rfl,rfl⟩:=t
 refine I8 (fun i=>?_) (fun i=>?_)
 ·obtain ⟨c,r⟩:=TZ.ex (x:=v) (by omega)
  have Q:=r.lt (n:=64) g
  refine Ll gl r g ⟨_,rfl,?_⟩
  refine B6 (fun i=>by omega) (fun _=>?_)
  obtain ⟨n,o⟩:=r
  have J:eD (v:Int) (2^(min ((c:Int)).toNat 64))=((2*n+1:Nat):Int):=by
   rw [aC,B7l (by omega),show ((2:Int)^c)=((2^c:Nat):Int) by simp,<- dZ,o,gS _ (cW (by decide))]
  have z:2*n+1<=v:=by
   rw [o];exact gW _ (cW (by decide))
  have f:eA u (2*n+1)=eA u v:=by
   rw [o,dJ _ (A05 C)]
  rw [J]
  refine B6 (fun H=>?_) (fun H=>?_)
  ·have k:C0 ((u:Int)-((2*n+1:Nat):Int))=((u-(2*n+1):Nat):Int):=by rw [C3 (by omega) (by omega)];omega
   rw [k]
   refine ⟨⟨rfl,_,_,rfl,by omega,by omega,by omega,?_⟩,?_⟩
   ·rw [gX (by omega),gY,f,d]
   ·simp only [iAt,aG,aL];omega
  ·have k:C0 (((2*n+1:Nat):Int)-(u:Int))=((2*n+1-u:Nat):Int):=by rw [C3 (by omega) (by omega)];omega
   rw [k]
   refine ⟨⟨rfl,_,_,rfl,by omega,by omega,by omega,?_⟩,?_⟩
   ·rw [gX (by omega),f,d]
   ·simp only [iAt,aG,aL];omega
 ·refine B6 (fun i=>by omega) (fun _=>?_)
  obtain rfl:v=0:=by omega
  rw [Nat.gcd_zero_right] at d
  rw [aC,aI (show min a b<=64 by omega)]
  have E:(u:Int)*2^(min a b)=((eA x y:Nat):Int):=by
   rw [B,<- d,cD,aR];simp
  have M:eA x y<=x:=Nat.le_of_dvd (by omega) (Nat.gcd_dvd_left x y)
  rw [E,C3 (by omega) (by omega)]
  exact hK
end
def B28{xs:List Int}(d:Dig b64 xs){k s:Nat}(hl:xs.length<=k+2)(hs:s<=64):val b64 xs/(b64^k*2^(64-s))=xs.getD (k+1) 0*2^s+xs.getD k 0/2^(64-s):=by
 have c:=C5 b64 xs (k+1)
 have i:=C5 b64 xs k
 rw [aK (show xs.length<=k+1+1 by omega)] at c
 have e:=D6 (B:=b64) (by decide) k
 have g:0<(2:Int)^(64-s):=bL (by decide)
 have b:=Ah (s:=s) hs
 have j:=C7 (by decide) (d.take k)
 have l:=L6 (by decide) (d.take k)
 have m:=D0 (B:=b64) (by decide) (show (xs.take k).length<=k by rw [aF];omega)
 rw [<- fF (aQ e)]
 have f:val b64 xs/b64^k=xs.getD k 0+18446744073709551616*xs.getD (k+1) 0:=by
  refine (A1u (a:=val b64 (xs.take k)) ?_ j (by omega)).1
  rw [c,i,bG]
  show _=val b64 (xs.take k)+_+b64^k*18446744073709551616*_
  grind
 rw [f,<- b,aR (2^s),cX,fS _ _ (by omega),aR (2^s)]
 omega
section
variable {h g:bC} {K:VP} {A B:Option bI} {ac bc:Nat}
def C31(a b u0 u1 v0 v1:Int)(odd:Bool):Prop:=(0<=u0/\u0<18446744073709551616)/\(0<=u1/\u1<18446744073709551616)/\(0<=v0/\v0<18446744073709551616)/\(0<=v1/\v1<18446744073709551616)/\(v0≠0->Leh a b u0 v0 u1 v1 (Ls a b u0 v0 odd) (Lr a b u1 v1 odd))
def B7k{a b F S W t20 t26 t33:Int}(hF:F=bor .u64 (C0 (t26*2^(min (C0 t20).toNat 64))) (eD t33 (2^(min (C0 ((64:Int)-(C0 t20))).toNat 64))))(hW:0<W)(hFa:F=a/W)(hSb:S=b/W)(hb0:0<=b)(hba:b<=a)(hF64:F<18446744073709551616)
 (hK:∀ u0 u1 v0 v1 odd,C31 a b u0 u1 v0 v1 odd->K (.agg #[U u0,U u1,U v0,U v1,.bool odd]) h):Jk prog K t20 t26 t33 S h:=by
 have da:=aO a W
 have db:=aO b W
 have u:=aT a (b:=W) (by omega)
 have r:=aP a hW
 have s:=aT b (b:=W) (by omega)
 have t:=aP b hW
 have x:0<=S:=by rw [hSb];exact bY hb0 (by omega)
 have w:S<=F:=by rw [hSb,hFa];exact Int.ediv_le_ediv hW hba
 unfold Jk
 rw [<- hF]
 refine ⟨fun l B=>B=h/\∃ (first c g d u0 u1 v0 v1:Int) (odd:Bool),l=[U first,U c,U g,U d,U u0,U u1,U v0,U v1,.bool odd]/\LS F S first c u0 v0 u1 v1 g d odd/\C31 a b u0 u1 v0 v1 odd/\g<=F/\d<=(if F=0 then 1 else F),fun l _=>(iAt l 1).toNat,⟨rfl,_,_,_,_,_,_,_,_,_,rfl,LS.init x w,⟨by omega,by omega,by omega,by omega,fun e=>absurd rfl e⟩,by omega,by split<;>omega⟩,?_⟩
 rintro first c g d u0 u1 v0 v1 odd B ⟨rfl,p,i,J,L,G,V,H,D,y,A,o,q,R,O⟩
 simp only [bO,cR,Value.bool.injEq,and_true,true_and] at A
 obtain ⟨rfl,rfl,rfl,rfl,rfl,rfl,rfl,rfl,rfl⟩:=A
 have z:=o.v2pos
 have k:=o.ord
 have E:=o.hF
 refine B6 (fun h1=>?_) (fun _=>hK _ _ _ _ _ q)
 have m:1<=c:=by omega
 have M:=o.bound2 m
 have N:first<=F:=by
  have Z:1*first<=d*first:=aD (by omega) (by omega)
  have t2:=aS (show 0<=v1 by omega) k.1
  omega
 rw [C3 (n:=first-c) (by omega) (by omega),C3 (n:=v1+d) (by omega) (by omega)]
 refine B6 (fun h2=>?_) (fun _=>hK _ _ _ _ _ q)
 refine B6 (fun e=>by omega) (fun _=>?_)
 refine B6 (fun e=>by omega) (fun _=>?_)
 rw [bW (by omega),bH (by omega)]
 have f:=o.step (by omega) (by omega)
 have C:=f.bound m
 have j:0<=first/c:=bY (by omega) (by omega)
 have T:first/c<=first:=fE _ (by omega)
 have X:=aS j (show 0<=g by omega)
 have Q:=aS j (show 0<=d by omega)
 rw [C3 (n:=first/c) (by omega) (by omega),C3 (n:=first/c*g) (by omega) (by omega),C3 (n:=first/c*d) (by omega) (by omega),C3 (n:=u1+first/c*g) (by omega) (by omega),C3 (n:=v1+first/c*d) (by omega) (by omega)]
 refine ⟨⟨rfl,_,_,_,_,_,_,_,_,_,rfl,f,⟨⟨by omega,q.2.1.2⟩,⟨by omega,by omega⟩,⟨by omega,q.2.2.2.1.2⟩,⟨by omega,by omega⟩,fun e=>f.leh e hW (al:=a%W) (bl:=b%W) ?_ ?_ ⟨u,r⟩ ⟨s,t⟩⟩,by omega,by split<;>omega⟩,?_⟩
 ·rw [hFa,aR];omega
 ·rw [hSb,aR];omega
 ·have:=aP first (show 0<c by omega)
  have:=aT first (show c≠0 by omega)
  simp only [iAt,aL,aG];omega
set_option maxHeartbeats 1000000 in
def A0e{a b:Int}{an bn:Nat}(ma:Mw h A an a)(mb:Mw h B bn b)(hba:b<=a)(hb2:2<=bn)(hl:an<=1000000000)
 (hK:∀ u0 u1 v0 v1 odd,C31 a b u0 u1 v0 v1 odd->K (.agg #[U u0,U u1,U v0,U v1,.bool odd]) h):aW prog Mh #[.slice A an ac,.slice B bn bc] h K:=by
 have T:=mb.nonneg (by decide)
 have ae:bn<=an:=mb.len_le (by decide) (dA hba (ma.lt (by decide)))
 obtain ⟨k,rfl⟩:∃ k,an=k+2:=⟨an-2,by omega⟩
 obtain ⟨w,i,M,C,nx,rfl⟩:=ma
 obtain ⟨f,p,L,J,ny,rfl⟩:=mb
 refine A4v _ _ _ _ _ _ ?_
 unfold A4w
 have e1:B5 (((k+2:Nat):Int)-1)=((k+1:Nat):Int):=by rw [B7 (by omega) (by omega)];omega
 have e2:B5 (((k+2:Nat):Int)-2)=(k:Int):=by rw [B7 (by omega) (by omega)];omega
 simp only [e1,e2]
 have gt:=O2 C (k+1)
 have R:=O2 C k
 have H:=A2z (m:=k+1) i.symm nx
 obtain ⟨t,ht⟩:∃ t:Nat,w.getD (k+1) 0=t:=⟨(w.getD (k+1) 0).toNat,by omega⟩
 rw [i]
 refine M.load rfl (by omega) (by omega) ?_
 rw [aC,ht]
 rw [ht] at gt H
 refine R9 (by omega) ⟨_,rfl,?_⟩
 obtain ⟨s,hs⟩:∃ s,s=64-O3 t:=⟨_,rfl⟩
 rw [<- hs]
 obtain ⟨Z,n,ad⟩:=Yr C i.symm ht (by omega) hs
 refine M.load rfl (by omega) (by omega) ?_
 simp only [aC,ht]
 have g:C0 (s:Int)=s:=C3 (by omega) (by omega)
 have d:C0 (64-(s:Int))=((64-s:Nat):Int):=by rw [C3 (by omega) (by omega)];omega
 refine B6 (fun e=>by rw [g] at e;omega) (fun _=>?_)
 refine M.load rfl (by omega) (by omega) ?_
 simp only [aC]
 refine B6 (fun e=>by rw [g,d] at e;omega) (fun _=>?_)
 have O:0<(2:Int)^s:=bL (by decide)
 have q:0<(2:Int)^(64-s):=bL (by decide)
 have x:=Ah (s:=s) (by omega)
 have N:=D6 (B:=b64) (by decide) k
 have W:0<b64^k*2^(64-s):=Int.mul_pos N q
 have y:=B28 C (k:=k) (s:=s) (by omega) (by omega)
 have c:=B28 J (k:=k) (s:=s) (by omega) (by omega)
 have r:val b64 w/(b64^k*2^(64-s))<18446744073709551616:=by
  apply bJ W
  have D:18446744073709551616*(b64^k*2^(64-s))*2^s=18446744073709551616*b64^k*(2^s*2^(64-s)):=by grind
  rw [x] at D
  have V:b64^(k+1+1)=18446744073709551616*b64^k*18446744073709551616:=by
   rw [bG,bG]
   show b64^k*18446744073709551616*18446744073709551616=_
   grind
  rw [V,<- D] at n
  exact Int.lt_of_mul_lt_mul_right n (by omega)
 have af:val b64 f/(b64^k*2^(64-s))<=val b64 w/(b64^k*2^(64-s)):=Int.ediv_le_ediv W hba
 have q1:∀ z:Int,0<=z/\z<18446744073709551616->0<=z/2^(64-s)/\z/2^(64-s)<2^s:=fun z G=>
  ⟨bY G.1 (by omega),bJ q (by rw [x];exact G.2)⟩
 have j:∀ u z:Int,0<=u->0<=z/\z<18446744073709551616->u*2^s+z/2^(64-s)<18446744073709551616->bor .u64 (C0 (u*2^(min (C0 (s:Int)).toNat 64))) (eD z (2^(min (C0 (64-C0 (s:Int))).toNat 64)))=u*2^s+z/2^(64-s):=by
  intro u z X G Q
  have:=q1 z G
  have:=aS X (aQ O)
  rw [g,d,aC,aC,B7l (by omega),aI (show s<=64 by omega),C3 (by omega) (by omega),A4m X (by omega) Q]
 have gy:=O2 J (k+1)
 have S:=O2 J k
 rw [ht] at y
 refine ⟨fun l hp=>hp=h/\l=[U (val b64 f/(b64^k*2^(64-s)))],?_,?_⟩
 ·refine D9 (fun e=>?_) (fun e=>?_)
  ·rw [p]
   refine L.load rfl (by omega) (by omega) ?_
   simp only [aC]
   refine B6 (fun e=>by rw [g] at e;omega) (fun _=>?_)
   refine L.load rfl (by omega) (by omega) ?_
   simp only [aC]
   refine B6 (fun e=>by rw [g,d] at e;omega) (fun _=>?_)
   rw [j _ _ gy.1 S (by omega),c]
   first|exact ⟨rfl,rfl⟩|exact ⟨trivial,rfl⟩
  ·refine D9 (fun e=>?_) (fun e=>?_)
   ·rw [p]
    refine L.load rfl (by omega) (by omega) ?_
    simp only [aC]
    refine B6 (fun e=>by rw [g,d] at e;omega) (fun _=>?_)
    have:f.getD (k+1) 0=0:=by simp [cU,cQ (show f.length<=k+1 by omega)]
    rw [this,fI,dL] at c
    rw [g,d,aC,B7l (by omega),c]
    first|exact ⟨rfl,rfl⟩|exact ⟨trivial,rfl⟩
   ·have D:f.getD (k+1) 0=0:=by simp [cU,cQ (show f.length<=k+1 by omega)]
    have V:f.getD k 0=0:=by simp [cU,cQ (show f.length<=k by omega)]
    rw [D,V,fI,dL,Int.zero_ediv] at c
    rw [c]
    exact ⟨rfl,rfl⟩
 ·rintro E aa ⟨rfl,o⟩
  simp only [bO,cR,and_true,true_and] at o
  subst o
  exact B7k (F:=val b64 w/(b64^k*2^(64-s))) (by rw [j _ _ (by omega) R (by omega),y]) W rfl rfl T hba r hK
end
def Win.swap{k k':dY}{h g1 g:bC}{ba bb:Nat}{e e':cC}{A B:Option bI}{pa qa pb qb:List dC}{us bs:List Int}(wa:Win k h g1 ba e A pa us qa)(wb:Win k' g1 g bb e' B pb bs qb):∃ g2,Win k' h g2 bb e' B pb bs qb/\Win k g2 g ba e A pa us qa:=by
 have a:ba≠bb:=by
  rintro rfl
  have:=wa.free
  rw [wb.eq,C2] at this
  cases this
 have b:g ba=none:=by
  have:=wa.free
  rwa [wb.eq,B8 _ _ a] at this
 refine ⟨g.put ba (.cells (pa++us.map (bB k)++qa).toArray e),⟨?_,?_,wb.at_⟩,⟨b,rfl,wa.at_⟩⟩
 ·rw [B8 _ _ a.symm];exact wb.free
 ·rw [wa.eq,wb.eq];exact Heap.put_comm _ _ _ a.symm
def A0a{z y c:Int}(hz:0<=z/\z<18446744073709551616)(hy:0<=y/\y<18446744073709551616)(hc:0<=c/\c<=1):(z-y-c)%18446744073709551616=z-y-c+18446744073709551616*(if z-y-c<0 then 1 else 0):=by
 split<;>omega
def A3x(z:Int):z%18446744073709551616=z-18446744073709551616*(z/18446744073709551616):=by omega
def Oc{x y c:Int}(hx:0<=x/\x<18446744073709551616)(hy:0<=y/\y<18446744073709551616)(hc:0<=c/\c<18446744073709551616):0<=(x*y+c)/18446744073709551616/\(x*y+c)/18446744073709551616<18446744073709551616:=by
 have a:=aS hx.1 hy.1
 have b:x*y<=18446744073709551615*y:=aD (by omega) hy.1
 omega
def pin{v w B m:Int}(h:v=w+B*m)(hv:0<=v/\v<B)(hw:0<=w/\w<B):v=w:=by
 have a:0<B:=by omega
 by_cases b:m <= -1
 ·have:=aJ b (aQ a);omega
 ·by_cases c:1<=m
  ·have:=aJ c (aQ a);omega
  ·obtain rfl:m=0:=by omega
   omega
section
variable {h g g1:bC} {K:VP} {A B:Option bI} {ac bc an bn ba bb:Nat} {e:cC} {qa qb:List dC}
set_option maxHeartbeats 1000000 in
def B0x{us bs:List Int}{u0 u1 v0 v1:Int}{odd:Bool}(wa:Win .u64 h g1 ba e A [] us qa)(wb:Win .u64 g1 g bb e B [] bs qb)(ha:an=us.length)(hb:bn=bs.length)(hab:us.length=bs.length)(da:Dig b64 us)(db:Dig b64 bs)(hl:us.length<=1000000000)(hu0:0<=u0/\u0<18446744073709551616)(hu1:0<=u1/\u1<18446744073709551616)(hv0:0<=v0/\v0<18446744073709551616)(hv1:0<=v1/\v1<18446744073709551616)
 (hX0:0<=Ls (val b64 us) (val b64 bs) u0 v0 odd/\Ls (val b64 us) (val b64 bs) u0 v0 odd<b64^us.length) (hX1:0<=Lr (val b64 us) (val b64 bs) u1 v1 odd/\Lr (val b64 us) (val b64 bs) u1 v1 odd<b64^us.length)
 (hK:∀ us' bs' h' g1',us'.length=us.length->bs'.length=us.length->Dig b64 us'->Dig b64 bs'->val b64 us'=Ls (val b64 us) (val b64 bs) u0 v0 odd->val b64 bs'=Lr (val b64 us) (val b64 bs) u1 v1 odd->Win .u64 h' g1' ba e A [] us' qa->Win .u64 g1' g bb e B [] bs' qb->K (.tuple #[]) h'):
 aW prog A19 #[.agg #[U u0,U u1,U v0,U v1,.bool odd],.slice A an ac,.slice B bn bc] h K:=by
 subst ha hb
 refine B5l _ _ _ _ _ _ _ _ _ _ _ ?_
 unfold C0e
 refine ⟨fun l hp=>∃ (k:Nat) (c f b d R S:Int) (D C:List Int) (g1:bC),l=[U c,U f,U b,U d,U R,U S,I k]/\k<=us.length/\D.length=us.length/\C.length=us.length/\Dig b64 D/\Dig b64 C/\(0<=c/\c<18446744073709551616)/\(0<=f/\f<18446744073709551616)/\(0<=b/\b<18446744073709551616)/\(0<=d/\d<18446744073709551616)/\(0<=R/\R<=1)/\(0<=S/\S<=1)/\Win .u64 hp g1 ba e A [] D qa/\Win .u64 g1 g bb e B [] C qb/\D.drop k=us.drop k/\C.drop k=bs.drop k/\
  val b64 (D.take k)=Ls (val b64 (us.take k)) (val b64 (bs.take k)) u0 v0 odd+b64^k*((if odd then f-c else c-f)+R)/\val b64 (C.take k)=Lr (val b64 (us.take k)) (val b64 (bs.take k)) u1 v1 odd+b64^k*((if odd then d-b else b-d)+S),fun l _=>us.length-(iAt l 6).toNat,⟨0,0,0,0,0,0,0,us,bs,g1,rfl,by omega,rfl,hab.symm,da,db,by omega,by omega,by omega,by omega,by omega,by omega,wa,wb,rfl,rfl,by simp [val,Ls],by simp [val,Lr]⟩,?_⟩
 rintro c f b d R S i hp ⟨k,ai,af,ag,ae,ad,ah,D,C,g1,Q,hk,a,n,N,O,hP,hQ,hR,hT,m,s,M,T,F,H,w,j⟩
 simp only [bO,cR,and_true,true_and] at Q
 obtain ⟨rfl,rfl,rfl,rfl,rfl,rfl,rfl⟩:=Q
 refine B6 (fun h1=>?_) (fun h1=>?_)
 ·have gx:=O2 N k
  have gy:=O2 O k
  have z:=E7 F
  have o:=E7 H
  have vx:=C5 b64 us k
  have W:=C5 b64 bs k
  obtain ⟨g2,aa,aj⟩:=M.swap T
  refine M.sl.load a.symm (by omega) (by omega) ?_
  refine aa.sl.load (by omega) (by omega) (by omega) ?_
  simp only [aC]
  obtain ⟨aA,hA,_⟩:=SlV.at M.sl (i:=k) (by simp;omega)
  obtain ⟨aB,hB,_⟩:=SlV.at T.sl (i:=k) (by simp;omega)
  generalize hx0:D.getD k 0=x at *
  generalize hy0:C.getD k 0=y at *
  refine S9 gx hu0 hP ⟨_,_,rfl,?_⟩
  refine S9 gy hv0 hQ ⟨_,_,rfl,?_⟩
  refine S9 gy hv1 hR ⟨_,_,rfl,?_⟩
  refine S9 gx hu1 hT ⟨_,_,rfl,?_⟩
  have bP:=Oc gx hu0 hP
  have bQ:=Oc gy hv0 hQ
  have bR:=Oc gy hv1 hR
  have bT:=Oc gx hu1 hT
  have Z:=Ew (x*u0+c)
  have X:=Ew (y*v0+f)
  have mR:=Ew (y*v1+b)
  have mT:=Ew (x*u1+d)
  have kP:=A3x (x*u0+c)
  have kQ:=A3x (y*v0+f)
  have kR:=A3x (y*v1+b)
  have kT:=A3x (x*u1+d)
  have ek:B5 ((k:Int)+1)=((k+1:Nat):Int):=by rw [B7 (by omega) (by omega)];omega
  rw [ek]
  generalize (x*u0+c)/18446744073709551616=cP2 at *
  generalize (y*v0+f)/18446744073709551616=cQ2 at *
  generalize (y*v1+b)/18446744073709551616=cR2 at *
  generalize (x*u1+d)/18446744073709551616=cT2 at *
  generalize (x*u0+c)%18446744073709551616=p at *
  generalize (y*v0+f)%18446744073709551616=q at *
  generalize (y*v1+b)%18446744073709551616=r at *
  generalize (x*u1+d)%18446744073709551616=t at *
  have u:b64^(k+1)=b64^k*18446744073709551616:=bG _ _
  cases odd with
  | true=>
   refine Br.of (fun _=>?_) (fun e=>by cases e)
   refine Ga Z X m ⟨_,_,rfl,aA,hA,by omega,by omega,M.storeN F5 hA (by omega) ?_⟩
   intro h2 w2
   refine Ga mR mT s ⟨_,_,rfl,aB,hB,by omega,by omega,?_⟩
   obtain ⟨g3,J,G⟩:=w2.swap T
   refine J.storeN F5 hB (by omega) ?_
   intro h4 w4
   obtain ⟨g5,L,E⟩:=w4.swap G
   refine ⟨⟨k+1,_,_,_,_,_,_,_,_,g5,rfl,by omega,by simpa using a,by simpa using n,N.set (Ew _),O.set (Ew _),bP,bQ,bR,bT,by split<;>omega,by split<;>omega,L,E,?_,?_,?_,?_⟩,by simp only [iAt,aG,aL];omega⟩
   ·rw [D5 (by omega)];exact D7 F
   ·rw [D5 (by omega)];exact D7 H
   ·rw [C9 (by omega),F0,aF,aI (by omega),u,vx,W,<- z,<- o,w,A0a Z X m]
    simp only [Ls,if_true]
    grind
   ·rw [C9 (by omega),F0,aF,aI (by omega),u,vx,W,<- z,<- o,j,A0a mR mT s]
    simp only [Lr,if_true]
    grind
  | false=>
   refine Br.of (fun e=>by cases e) (fun _=>?_)
   refine Ga X Z m ⟨_,_,rfl,aA,hA,by omega,by omega,M.storeN F5 hA (by omega) ?_⟩
   intro h2 w2
   refine Ga mT mR s ⟨_,_,rfl,aB,hB,by omega,by omega,?_⟩
   obtain ⟨g3,J,G⟩:=w2.swap T
   refine J.storeN F5 hB (by omega) ?_
   intro h4 w4
   obtain ⟨g5,L,E⟩:=w4.swap G
   refine ⟨⟨k+1,_,_,_,_,_,_,_,_,g5,rfl,by omega,by simpa using a,by simpa using n,N.set (Ew _),O.set (Ew _),bP,bQ,bR,bT,by split<;>omega,by split<;>omega,L,E,?_,?_,?_,?_⟩,by simp only [iAt,aG,aL];omega⟩
   ·rw [D5 (by omega)];exact D7 F
   ·rw [D5 (by omega)];exact D7 H
   ·rw [C9 (by omega),F0,aF,aI (by omega),u,vx,W,<- z,<- o,w,A0a X Z m]
    simp only [Ls,eS,if_false]
    grind
   ·rw [C9 (by omega),F0,aF,aI (by omega),u,vx,W,<- z,<- o,j,A0a mT mR s]
    simp only [Lr,eS,if_false]
    grind
 ·obtain rfl:k=us.length:=by omega
  rw [aK (show D.length<=us.length by omega),aV,aK (show bs.length<=us.length by omega)] at w
  rw [aK (show C.length<=us.length by omega),aV,aK (show bs.length<=us.length by omega)] at j
  have bx:=L6 (by decide) N
  have V:=L6 (by decide) O
  rw [a] at bx
  rw [n] at V
  exact hK D C hp g1 a n N O (pin w ⟨C7 (by decide) N,bx⟩ hX0) (pin j ⟨C7 (by decide) O,V⟩ hX1) M T
end
def Win.priv{k:dY}{h g:bC}{b m c:Nat}{e:cC}{A:Option bI}{xs:List Int}{post:List dC}(w:Win k h g b e A [] xs post)(hx:xs≠[])(hc:c=xs.length+post.length)(hm:m<=xs.length):eU h g e 1 A m c ((xs.take m).map (bB k)):=by
 refine ⟨by simp;omega,by omega,.inr ⟨b,xs.map (bB k)++post,?_,w.free,?_,by simp;omega,?_⟩⟩
 ·rcases w.at_ with a|a
  ·exact absurd a hx
  ·simpa using a
 ·have:=w.eq
  rwa [cT] at this
 ·rw [cF,cJ (by simp;omega),List.map_take]
def Fp{k:dY}{h g:bC}{n c:Nat}{e:cC}{A:Option bI}{xs:List Int}(p:eU h g e 1 A n c (xs.map (bB k)))(hx:xs≠[]):∃ b post,Win k h g b e A [] xs post/\c=xs.length+post.length:=by
 obtain ⟨f,q,j⟩:=p
 rw [fO] at f
 rcases j with ⟨o,rfl⟩|⟨b,a,i,d,rfl,m,l⟩
 ·exact absurd (aM (by omega)) hx
 ·refine ⟨b,a.drop (n*1),⟨d,?_,.inr i⟩,?_⟩
  ·rw [cT,<- l,cI]
  ·rw [aN];omega
def Priv.swap{h g1 g:bC}{e e':cC}{s s' n c m d:Nat}{A B:Option bI}{xs ys:List dC}(pa:eU h g1 e s A n c xs)(pb:eU g1 g e' s' B m d ys):∃ g2,eU h g2 e' s' B m d ys/\eU g2 g e s A n c xs:=by
 obtain ⟨j,o,D⟩:=pa
 obtain ⟨l,p,u⟩:=pb
 rcases D with ⟨x,rfl⟩|⟨i,f,w,a,rfl,r⟩
 ·exact ⟨g,⟨l,p,u⟩,⟨j,o,.inl ⟨x,rfl⟩⟩⟩
 ·rcases u with ⟨y,rfl⟩|⟨t,k,z,q,rfl,C⟩
  ·exact ⟨_,⟨l,p,.inl ⟨y,rfl⟩⟩,⟨j,o,.inr ⟨i,f,w,a,rfl,r⟩⟩⟩
  ·have b:i≠t:=by
    rintro rfl
    rw [C2] at a;cases a
   rw [B8 _ _ b] at a
   refine ⟨g.put i (.cells f.toArray e),⟨l,p,.inr ⟨t,k,z,?_,Heap.put_comm _ _ _ b.symm,C⟩⟩,⟨j,o,.inr ⟨i,f,w,a,rfl,r⟩⟩⟩
   rw [B8 _ _ b.symm];exact q
abbrev Pw(h g:bC)(A:Option bI)(n c:Nat)(us:List Int):Prop:=eU h g C1 1 A n c (us.map (bB .u64))
def GI(h:bC)(G:Nat)(hp:bC)(A:Option bI)(n c:Nat)(B:Option bI)(m d:Nat):Prop:=∃ (us vs:List Int) (g1 g:bC),h.le g/\Pw hp g1 A n c us/\Pw g1 g B m d vs/\Dig b64 us/\Dig b64 vs/\fU us/\fU vs/\n=us.length/\m=vs.length/\val b64 vs<=val b64 us/\gD (val b64 us) (val b64 vs)=G/\us.length<=100000000
def B41{a b:Int}(ha:0<=a)(hb:0<=b):gD b (a%b)=gD a b:=by
 obtain ⟨x,rfl⟩:=dS ha
 obtain ⟨y,rfl⟩:=dS hb
 rw [<- gH,dR,dR,gY x,gY y,<- Nat.gcd_rec]
section
variable {h g:bC} {K:VP} {A B:Option bI} {ac bc:Nat}
set_option maxHeartbeats 1000000 in
def B81{G an bn:Nat}{hp:bC}(gl:Gtz h)(gi:GI h G hp A an ac B bn bc)(hK:∀ A' m c' h',h.le h'->m<=c'->Mw h' A' m (G:Int)->K (.slice A' m c') h'):Mq prog K A an ac B bn bc hp:=by
 unfold Mq
 refine ⟨fun l hp=>∃ (A B:Option bI) (n c m d:Nat),l=[.slice A n c,.slice B m d]/\GI h G hp A n c B m d,fun l hp=>match l with|[_,.slice B n _]=>B3r b64 hp B n|_=>0,⟨_,_,_,_,_,_,rfl,gi⟩,?_⟩
 rintro A1 T c1 B1 m1 d1 hp ⟨A,B,n,c,m,d,hl,p,k,g1,g,lg,D,W,du,dv,nu,nv,hn,V,C,a,bt⟩
 simp only [bO,cV,and_true] at hl
 obtain ⟨⟨rfl,rfl,rfl⟩,rfl,rfl,rfl⟩:=hl
 have Ma:Mw hp A1 T (val b64 p):=⟨p,hn,D.slV,du,nu,rfl⟩
 have Mb:Mw hp B1 m1 (val b64 k):=⟨k,V,SlV.mono D.le W.slV,dv,nv,rfl⟩
 have Z:=D.2.1
 have a3:=W.2.1
 have S:=C7 (by decide) du
 have av:=C7 (by decide) dv
 have ax:m1<=T:=Mb.len_le (by decide) (dA C (Ma.lt (by decide)))
 have R:h.le hp:=B0 lg (B0 W.le D.le)
 have ay:=Mb.len_zero (by decide)
 refine B6 (fun h1=>?_) (fun h1=>?_)
 ·refine A0e Ma Mb C (by omega) (by omega) ?_
  intro u0 u1 v0 v1 bk st
  refine ⟨_,_,_,_,_,rfl,D9 (fun e=>?_) (fun e=>?_)⟩
  ·refine T3 Ma Mb Z a3 (by omega) (by omega) (by omega) ?_
   intro A2 m2 c2 A3 m3 c3 h6 l6 q k3 M2 M3
   refine ⟨_,_,_,_,_,_,rfl,?_⟩
   have bj:m3<=m1:=M3.len_le (by decide) (by have:=aP (val b64 p) (show 0<val b64 k by omega);have:=Mb.lt (by decide);omega)
   obtain ⟨ws,a4,a0,J,aa,a9⟩:=M3
   refine Fh a0 a4 (by omega) ?_
   intro A4 c4 h7 g7 l7 p7
   obtain ⟨g2,Q,F⟩:=D.swap W
   obtain ⟨g8,l8,bf⟩:=Q.after (B0 l6 l7)
   obtain ⟨g9,a2,a7⟩:=Priv.swap p7 bf
   have bp:=aP (val b64 p) (show 0<val b64 k by omega)
   have Mn:Mw h7 A4 ws.length (val b64 ws):=⟨ws,rfl,p7.slV,J,aa,rfl⟩
   refine ⟨_,_,_,rfl,⟨_,_,_,_,_,_,rfl,k,ws,g9,g8,B0 lg (B0 F.le l8),a2,a7,dv,J,nv,aa,V,rfl,by omega,?_,by omega⟩,?_⟩
   ·rw [a9,B41 S av];exact a
   ·simp only [Az Mn,Az Mb]
    have:=C7 (by decide) J
    omega
  ·obtain ⟨ai,ar,ag,ak,X⟩:=st
   have X:=X e
   unfold Sa
   obtain ⟨g2,Q,F⟩:=D.swap W
   refine ⟨fun l hp=>∃ (B:Option bI) (m d j:Nat) (g1 g:bC),l=[.slice B m d]/\h.le g/\Pw hp g1 B m d (k++aE j 0)/\Pw g1 g A1 T c1 p/\m=k.length+j/\m<=T,fun l _=>match l with|[.slice _ m _]=>T-m|_=>0,⟨B1,m1,d1,0,g2,g,rfl,lg,by simpa using Q,F,by omega,ax⟩,?_⟩
   rintro B2 m2 d2 bl ⟨B',m',d',j,g3,g4,aq,aj,ao,ae,bm,bg⟩
   simp only [bO,cV,and_true] at aq
   obtain ⟨rfl,rfl,rfl⟩:=aq
   refine B6 (fun h2=>?_) (fun h2=>?_)
   ·refine Ea Q4 ao rfl rfl (by omega) (by omega) ?_
    intro A5 c5 h5 g5 l5 p5
    obtain ⟨g6,l6,a5⟩:=ae.after l5
    refine ⟨⟨A5,m2+1,c5,j+1,g5,g6,rfl,B0 aj l6,?_,a5,by omega,by omega⟩,by simp only;omega⟩
    have p6:=p5
    rw [<- List.map_singleton (f:=bB .u64),<- dP,aU,<- List.replicate_succ'] at p6
    exact p6
   ·obtain ⟨g5,a8,aw⟩:=ao.swap ae
    have s:(k++aE j (0:Int)).length=p.length:=by simp;omega
    have i:p≠[]:=by rintro rfl;simp at hn;omega
    have ad:k++aE j (0:Int)≠[]:=by intro h0;rw [h0] at s;simp at s;exact i (aM s.symm)
    obtain ⟨ba,qa,wa,br⟩:=Fp a8 i
    obtain ⟨bb,qb,wb,bu⟩:=Fp aw ad
    have be:=X.gcd
    have bi:=X.ord
    have az:=X.le
    have bh:val b64 k<b64^p.length:=by rw [<- hn];exact dA C (Ma.lt (by decide))
    refine B0x wa wb hn (by omega) s.symm du (dv.append (I0 (by decide) _)) (by omega) ai ar ag ak (by rw [Dh];omega) (by rw [Dh];omega) ?_
    intro u o h6 g6 z y au ap N x L am
    rw [Dh] at N x
    have H:u≠[]:=by rintro rfl;simp at z;exact i (aM z.symm)
    have M:o≠[]:=by rintro rfl;simp at y;exact i (aM y.symm)
    refine ⟨rfl,?_⟩
    rw [show T=u.length by omega]
    refine El L.sl (by omega) (by omega) ?_
    intro k1 bd a6 af
    refine ⟨_,_,_,rfl,?_⟩
    rw [show m2=o.length by omega]
    refine El (SlV.mono L.le am.sl) (by omega) (by omega) ?_
    intro q a1 ah E
    have pA:=L.priv (m:=k1) (c:=c1) H (by omega) bd
    have pB:=am.priv (m:=q) (c:=d2) M (by omega) a1
    have e1:(u.take k1).length=k1:=by rw [aF];omega
    have e2:(o.take q).length=q:=by rw [aF];omega
    have Mn:Mw h6 B2 q (val b64 (o.take q)):=⟨o.take q,e2.symm,SlV.mono pA.le pB.slV,ap.take _,ah,rfl⟩
    refine ⟨_,_,_,rfl,⟨_,_,_,_,_,_,rfl,u.take k1,o.take q,_,_,aj,pA,pB,au.take _,ap.take _,a6,ah,e1.symm,e2.symm,?_,?_,by omega⟩,?_⟩
    ·rw [af,E,N,x];omega
    ·rw [af,E,N,x,be];exact a
    ·simp only [Az Mn,Az Mb]
     rw [E,x];omega
 ·refine D9 (fun h2=>?_) (fun h2=>?_)
  ·have h0:val b64 k=0:=ay.2 (by omega)
   rw [h0,Int.gcd_zero_right] at a
   refine hK _ _ _ _ R Z ?_
   rw [<- a,Int.natAbs_of_nonneg S];exact Ma
  ·have bo:m1=1:=by omega
   obtain ⟨w,rfl⟩:∃ w,k=[w]:=by
    rcases k with _|⟨w,_|⟨w',r⟩⟩
    ·simp at V;omega
    ·exact ⟨w,rfl⟩
    ·simp at V;omega
   have hw:=dv w (by simp)
   rw [X4] at *
   obtain ⟨t,rfl⟩:∃ t:Nat,w=(t:Int):=dS hw.1
   have bq:(t:Int)<18446744073709551616:=hw.2
   have al:0<t:=by omega
   have sb:SlI .u64 hp B1 [(t:Int)]:=SlV.mono D.le W.slV
   refine sb.load V (by omega) (by omega) ?_
   refine sb.load V (by omega) (by omega) ?_
   show aW _ _ #[_,U ((t:Nat):Int)] _ _
   refine Nv Ma ⟨al,by omega⟩ (by omega) ⟨_,rfl,B4 _,?_⟩
   have r0:=aT (val b64 p) (b:=(t:Int)) (by omega)
   have r1:=aP (val b64 p) (show (0:Int)<(t:Int) by omega)
   have O:=B41 S (show (0:Int)<=(t:Int) by omega)
   obtain ⟨r,hr⟩:=dS r0
   rw [hr] at r1 O ⊢
   show aW _ _ #[U ((t:Nat):Int),_] _ _
   refine A44 (gl.mono R) (by omega) (by omega) ⟨_,rfl,B4 _,?_⟩
   rw [dR] at O
   have az:eA t r<=t:=Nat.le_of_dvd al (Nat.gcd_dvd_left t r)
   refine Bu (by omega) ?_
   intro A2 m2 c2 h2 l2 q M2
   rw [O,a] at M2
   exact ⟨_,_,_,rfl,l2,hK _ _ _ _ (B0 R l2) q M2⟩
def Oh{x y:Int}{an bn:Nat}(gl:Gtz h)(ma:Mw h A an x)(mb:Mw h B bn y)(ha:an<=ac)(hb:bn<=bc)(hl:an<=100000000)(hl2:bn<=100000000)(hK:∀ A' m c' h',h.le h'->m<=c'->Mw h' A' m (gD x y:Int)->K (.slice A' m c') h'):aW prog Gm #[.slice A an ac,.slice B bn bc] h K:=by
 refine A4z _ _ _ _ _ _ ?_
 unfold A50
 refine ⟨fun l r=>r=h/\∃ (A B:Option bI) (n c m d:Nat) (f b:Int),l=[.slice A n c,.slice B m d]/\Mw h A n f/\Mw h B m b/\b<=f/\n<=c/\m<=d/\n<=100000000/\m<=100000000/\gD f b=gD x y,?_,?_⟩
 ·refine F8 ma mb (by omega) ⟨_,rfl,B6 (fun e=>?_) (fun e=>?_)⟩
  ·rw [Ds] at e
   exact ⟨rfl,_,_,_,_,_,_,_,_,rfl,mb,ma,by omega,hb,ha,hl2,hl,Int.gcd_comm _ _⟩
  ·rw [Ds] at e
   exact ⟨rfl,_,_,_,_,_,_,_,_,rfl,ma,mb,by omega,ha,hb,hl,hl2,rfl⟩
 ·rintro A1 n1 c1 B1 Z S r ⟨rfl,A2,B2,n,c,m,d,f,b,a,M1,M2,k,M,W,R,l2,g⟩
  simp only [bO,cV,and_true] at a
  obtain ⟨⟨rfl,rfl,rfl⟩,rfl,rfl,rfl⟩:=a
  have o:=M1.nonneg (by decide)
  refine D9 (fun e=>?_) (fun e=>?_)
  ·have:b=0:=(M2.len_zero (by decide)).2 (by omega)
   subst this
   rw [Int.gcd_zero_right] at g
   refine hK _ _ _ _ (B4 _) M ?_
   rw [<- g,Int.natAbs_of_nonneg o];exact M1
  ·obtain ⟨O,j,N,u,s,rfl⟩:=M1
   obtain ⟨H,i,E,L,nv,rfl⟩:=M2
   refine Fh N j (by omega) ?_
   intro A3 c3 X g3 p q
   refine ⟨_,_,_,rfl,?_⟩
   refine Fh (SlV.mono (B0 p q.le) E) i (by omega) ?_
   intro A4 V Q T z D
   refine ⟨_,_,_,rfl,?_⟩
   obtain ⟨C,J,F⟩:=q.after z
   obtain ⟨t,w,G⟩:=Priv.swap D F
   exact B81 gl ⟨O,H,t,C,B0 p J,w,G,u,L,s,nv,rfl,rfl,k,g,by omega⟩ hK
end
structure ZI (h:bC) (s:Bool) (A:Option bI) (n c:Nat) (z:Int):Prop where
 cap:n<=c
 mag:Mw h A n (z.natAbs:Int)
 sgn:s=decide (z<0)
def ZI.mono{h h':bC}{s:Bool}{A:Option bI}{n c:Nat}{z:Int}(i:ZI h s A n c z)(l:h.le h'):ZI h' s A n c z:=⟨i.cap,i.mag.mono l,i.sgn⟩
def ZI.zero{h:bC}{A:Option bI}:ZI h false A 0 0 0:=⟨aZ _,Mag.zero,rfl⟩
def ZI.len{h:bC}{s:Bool}{A:Option bI}{n c m:Nat}{z:Int}(i:ZI h s A n c z)(hz:ZB m z)(hm:m<=6400000000):n<=100000000:=by
 obtain ⟨k,hk⟩:∃ k,k=100000000:=⟨_,rfl⟩
 rw [<- hk]
 refine i.mag.len_le (by decide) ?_
 rw [Lo]
 have b:(z.natAbs:Int)<2^m:=by
  have:((z.natAbs:Nat):Int)<((2^m:Nat):Int):=Int.ofNat_lt.2 hz
  simpa using this
 have a:=D0 (B:=2) (by decide) (show m<=64*k by omega)
 exact Int.lt_of_lt_of_le b a
def ZI.zeroIff{h:bC}{s:Bool}{A:Option bI}{n c:Nat}{z:Int}(i:ZI h s A n c z):z=0↔n=0:=by
 have:=i.mag.len_zero (by decide)
 omega
section
variable {h g:bC} {K:VP} {A B:Option bI} {s s':Bool} {an ac bn bc m:Nat} {x y:Int}
def O7{v:Nat}{n c:Nat}{neg:Bool}(M:Mw h A n (v:Int))(hc:n<=c)(hK:∀ s,ZI h s A n c (if neg then -(v:Int) else v)->K (.agg #[.bool s,.slice A n c]) h):aW prog R2 #[.bool neg,.slice A n c] h K:=by
 have a:=M.len_zero (by decide)
 refine B15 _ _ _ _ ?_
 unfold B5h
 cases neg with
 | true=>
  refine Br.of (fun _=>hK _ ⟨hc,?_,?_⟩) (fun e=>by cases e)
  ·simpa using M
  ·simp only [if_true,decide_eq_decide];omega
 | false=>
  refine Br.of (fun e=>by cases e) (fun _=>hK _ ⟨hc,?_,?_⟩)
  ·simpa using M
  ·simp
def U6(i:ZI h s A an ac x)(hK:∀ s',ZI h s' A an ac (-x)->K (.agg #[.bool s',.slice A an ac]) h):aW prog Ip #[.agg #[.bool s,.slice A an ac]] h K:=by
 refine C2p _ _ _ _ ?_
 unfold C7a
 refine O7 (neg:= !s) i.mag i.cap ?_
 intro c b
 have e:(if (!s)=true then -(x.natAbs:Int) else x.natAbs)= -x:=by
  have:=i.sgn
  by_cases a:x<0
  ·simp only [a,decide_true] at this;subst this;simp;omega
  ·simp only [a,decide_false] at this;subst this;simp;omega
 rw [e] at b
 exact ⟨_,_,_,_,rfl,hK _ b⟩
def Hx(i:ZI h s A an ac x)(j:ZI h s' B bn bc y)(hx:ZB m x)(hy:ZB m y)(hm:m<=6400000000)(hK:∀ s1 A' n' c' h',h.le h'->ZI h' s1 A' n' c' (x+y)->K (.agg #[.bool s1,.slice A' n' c']) h'):aW prog Vf #[.agg #[.bool s,.slice A an ac],.agg #[.bool s',.slice B bn bc]] h K:=by
 have q:=i.len hx hm
 have p:=j.len hy hm
 have f:=i.sgn
 have a:=j.sgn
 refine C2t _ _ _ _ _ _ _ _ ?_
 unfold C7e
 refine Br.of (fun e=>?_) (fun e=>?_)
 ·have e:s=s':=by simpa using e
  subst e
  refine S3 i.mag j.mag i.cap j.cap (by omega) (by omega) ?_
  intro A1 o c1 b d g M1
  refine ⟨_,_,_,rfl,d,?_⟩
  rw [<- fP] at M1
  refine O7 (neg:=s) M1 g ?_
  intro s1 c
  refine ⟨_,_,_,_,rfl,B4 _,hK _ _ _ _ _ d ?_⟩
  have l:(if s=true then -((x.natAbs+y.natAbs:Nat):Int) else ((x.natAbs+y.natAbs:Nat):Int))=x+y:=by
   cases s with
   | true=>have b:=of_decide_eq_true f.symm;have k:=of_decide_eq_true a.symm;simp;omega
   | false=>have b:=of_decide_eq_false f.symm;have k:=of_decide_eq_false a.symm;simp;omega
  rw [l] at c
  exact c
 ·have e:s≠s':=by simpa using e
  refine F8 i.mag j.mag (by omega) ⟨_,rfl,B6 (fun b=>?_) (fun b=>?_)⟩
  ·have n:¬ (x.natAbs:Int)<y.natAbs:=by rw [<- Ds];omega
   refine H2 i.mag j.mag i.cap (by omega) (by omega) ?_
   intro A1 o c1 b d g M1
   refine ⟨_,_,_,rfl,d,?_⟩
   rw [show (x.natAbs:Int)-y.natAbs=((x.natAbs-y.natAbs:Nat):Int) by omega] at M1
   refine O7 (neg:=s) M1 g ?_
   intro s1 c
   refine ⟨_,_,_,_,rfl,B4 _,hK _ _ _ _ _ d ?_⟩
   have l:(if s=true then -((x.natAbs-y.natAbs:Nat):Int) else ((x.natAbs-y.natAbs:Nat):Int))=x+y:=by
    cases s with
    | true=>cases s' with
     | true=>exact absurd rfl e
     | false=>have b:=of_decide_eq_true f.symm;have k:=of_decide_eq_false a.symm;rw [iP rfl];omega
    | false=>cases s' with
     | true=>have b:=of_decide_eq_false f.symm;have k:=of_decide_eq_true a.symm;rw [iN (by simp)];omega
     | false=>exact absurd rfl e
   rw [l] at c
   exact c
  ·have n:(x.natAbs:Int)<y.natAbs:=by rw [<- Ds];omega
   refine H2 j.mag i.mag j.cap (by omega) (by omega) ?_
   intro A1 o c1 b d g M1
   refine ⟨_,_,_,rfl,d,?_⟩
   rw [show (y.natAbs:Int)-x.natAbs=((y.natAbs-x.natAbs:Nat):Int) by omega] at M1
   refine O7 (neg:=s') M1 g ?_
   intro s1 c
   refine ⟨_,_,_,_,rfl,B4 _,hK _ _ _ _ _ d ?_⟩
   have l:(if s'=true then -((y.natAbs-x.natAbs:Nat):Int) else ((y.natAbs-x.natAbs:Nat):Int))=x+y:=by
    cases s with
    | true=>cases s' with
     | true=>exact absurd rfl e
     | false=>have b:=of_decide_eq_true f.symm;have k:=of_decide_eq_false a.symm;rw [iN (by simp)];omega
    | false=>cases s' with
     | true=>have b:=of_decide_eq_false f.symm;have k:=of_decide_eq_true a.symm;rw [iP rfl];omega
     | false=>exact absurd rfl e
   rw [l] at c
   exact c
def B1p(i:ZI h s A an ac x)(j:ZI h s' B bn bc y)(hx:ZB m x)(hy:ZB m y)(hm:m<=6400000000)(hK:∀ s1 A' n' c' h',h.le h'->ZI h' s1 A' n' c' (x-y)->K (.agg #[.bool s1,.slice A' n' c']) h'):aW prog B49 #[.agg #[.bool s,.slice A an ac],.agg #[.bool s',.slice B bn bc]] h K:=by
 refine C2n _ _ _ _ _ _ _ _ ?_
 unfold C78
 refine U6 j ?_
 intro s1 b
 refine ⟨_,_,_,_,rfl,B4 _,Hx i b hx hy.neg hm ?_⟩
 intro d A2 e c2 f a c
 exact ⟨_,_,_,_,rfl,a,hK _ _ _ _ _ a (by rw [Int.sub_eq_add_neg];exact c)⟩
def L4(i:ZI h s A an ac x)(j:ZI h s' B bn bc y)(hx:ZB m x)(hy:ZB m y)(hm:m<=6400000000)(hK:∀ s1 A' n' c' h',h.le h'->ZI h' s1 A' n' c' (x*y)->K (.agg #[.bool s1,.slice A' n' c']) h'):aW prog Bq #[.agg #[.bool s,.slice A an ac],.agg #[.bool s',.slice B bn bc]] h K:=by
 have n:=i.len hx hm
 have k:=j.len hy hm
 have b:=i.sgn
 have a:=j.sgn
 refine C2q _ _ _ _ _ _ _ _ ?_
 unfold C7b
 refine H8 i.mag j.mag i.cap j.cap (by omega) (by omega) ?_
 intro A1 g c1 l d e M1
 refine ⟨_,_,_,rfl,d,?_⟩
 rw [<- cD] at M1
 refine O7 (neg:= !(s==s')) M1 e ?_
 intro s1 c
 refine ⟨_,_,_,_,rfl,B4 _,hK _ _ _ _ _ d ?_⟩
 have f:(if (!(s==s'))=true then -((x.natAbs*y.natAbs:Nat):Int) else ((x.natAbs*y.natAbs:Nat):Int))=x*y:=by
  rw [cD]
  cases s with
  | true=>cases s' with
   | true=>rw [show (x.natAbs:Int)= -x by have:=of_decide_eq_true b.symm;omega,show (y.natAbs:Int)= -y by have:=of_decide_eq_true a.symm;omega];show -x * -y=x*y;exact Int.neg_mul_neg x y
   | false=>rw [show (x.natAbs:Int)= -x by have:=of_decide_eq_true b.symm;omega,show (y.natAbs:Int)=y by have:=of_decide_eq_false a.symm;omega];show -(-x*y)=x*y;rw [Int.neg_mul,Int.neg_neg]
  | false=>cases s' with
   | true=>rw [show (x.natAbs:Int)=x by have:=of_decide_eq_false b.symm;omega,show (y.natAbs:Int)= -y by have:=of_decide_eq_true a.symm;omega];show -(x * -y)=x*y;rw [Int.mul_neg,Int.neg_neg]
   | false=>rw [show (x.natAbs:Int)=x by have:=of_decide_eq_false b.symm;omega,show (y.natAbs:Int)=y by have:=of_decide_eq_false a.symm;omega];rfl
 rw [f] at c
 exact c
def Cr(gl:Gtz h)(i:ZI h s A an ac x)(j:ZI h s' B bn bc y)(hx:ZB m x)(hy:ZB m y)(hm:m<=6400000000)(hK:∀ A' n' c' h',h.le h'->ZI h' false A' n' c' (gD x y:Int)->K (.agg #[.bool false,.slice A' n' c']) h'):aW prog Oj #[.agg #[.bool s,.slice A an ac],.agg #[.bool s',.slice B bn bc]] h K:=by
 have c:=i.len hx hm
 have b:=j.len hy hm
 refine C2s _ _ _ _ _ _ _ _ ?_
 unfold C7d
 refine Oh gl i.mag j.mag i.cap j.cap c b ?_
 intro A1 e c1 f d a M1
 refine ⟨_,_,_,rfl,hK _ _ _ _ d ⟨a,?_,?_⟩⟩
 ·rw [dR] at M1
  rw [cN]
  exact M1
 ·simp
def Ej(i:ZI h s A an ac x)(hK:K (I (Int.sign x)) h):aW prog Md #[.agg #[.bool s,.slice A an ac]] h K:=by
 have c:=i.zeroIff
 have b:=i.sgn
 refine B8p _ _ _ _ ?_
 unfold C4x
 refine D9 (fun e=>?_) (fun e=>?_)
 ·obtain rfl:x=0:=by omega
  simpa using hK
 ·refine Br.of (fun a=>?_) (fun a=>?_)
  ·subst a
   have:=of_decide_eq_true b.symm
   rw [eO this] at hK;exact hK
  ·subst a
   have:=of_decide_eq_false b.symm
   rw [fJ (by omega)] at hK;exact hK
def Nf(i:ZI h s A an ac x)(j:ZI h s' B bn bc y)(hx:ZB m x)(hy:ZB m y)(hm:m<=6400000000)(hK:K (I (Fg x y)) h):aW prog Ki #[.agg #[.bool s,.slice A an ac],.agg #[.bool s',.slice B bn bc]] h K:=by
 have g:=i.len hx hm
 have f:=j.len hy hm
 have d:=i.sgn
 have a:=j.sgn
 refine A7i _ _ _ _ _ _ _ _ ?_
 unfold A9g
 have c1:x<0->y<0->Fg (y.natAbs:Int) x.natAbs=Fg x y:=fun c b=>by unfold Fg;split<;>split<;>first|rfl|omega|(split<;>split<;>first|rfl|omega)|(split<;>first|rfl|omega)
 have c2:¬ x<0->¬ y<0->Fg (x.natAbs:Int) y.natAbs=Fg x y:=fun c b=>by rw [show (x.natAbs:Int)=x by omega,show (y.natAbs:Int)=y by omega]
 cases s with
 | true=>
  have c:=of_decide_eq_true d.symm
  refine Br.of (fun _=>?_) (fun e=>by cases e)
  cases s' with
  | true=>
   have b:=of_decide_eq_true a.symm
   refine Br.of (fun _=>?_) (fun e=>by cases e)
   exact F8 j.mag i.mag (by omega) ⟨_,rfl,by rw [c1 c b];exact hK⟩
  | false=>
   have b:=of_decide_eq_false a.symm
   refine Br.of (fun e=>by cases e) (fun _=>Br.of (fun _=>?_) (fun e=>by cases e))
   have:Fg x y= -1:=by unfold Fg;rw [iP (by omega)]
   rw [this] at hK;exact hK
 | false=>
  have c:=of_decide_eq_false d.symm
  refine Br.of (fun e=>by cases e) (fun _=>Br.of (fun e=>by cases e) (fun _=>?_))
  cases s' with
  | true=>
   have b:=of_decide_eq_true a.symm
   refine Br.of (fun _=>?_) (fun e=>by cases e)
   have:Fg x y=1:=by unfold Fg;rw [iN (by omega),iP (by omega)]
   rw [this] at hK;exact hK
  | false=>
   have b:=of_decide_eq_false a.symm
   refine Br.of (fun e=>by cases e) (fun _=>?_)
   exact F8 i.mag j.mag (by omega) ⟨_,rfl,by rw [c2 c b];exact hK⟩
end
section
variable {h g:bC} {K:VP} {A B:Option bI} {s s':Bool} {an ac bn bc m:Nat} {x y:Int}
def Aj(hs:s=decide (x<0)):(s=true/\x= -(x.natAbs:Int))\/(s=false/\x=(x.natAbs:Int)):=by
 by_cases h:x<0
 ·left;exact ⟨by rw [hs];simpa using h,by omega⟩
 ·right;exact ⟨by rw [hs];simpa using h,by omega⟩
def B77(a b:Nat):(a:Int).tdiv b=((a/b:Nat):Int)/\(-(a:Int)).tdiv (-(b:Int))=((a/b:Nat):Int)/\(-(a:Int)).tdiv b= -((a/b:Nat):Int)/\(a:Int).tdiv (-(b:Int))= -((a/b:Nat):Int):=by
 refine ⟨(cL a b).symm,?_,?_,?_⟩
 ·rw [Int.neg_tdiv,Int.tdiv_neg,Int.neg_neg,cL]
 ·rw [Int.neg_tdiv,cL]
 ·rw [Int.tdiv_neg,cL]
def A06(a b:Nat):(a:Int).tmod b=((a%b:Nat):Int)/\(-(a:Int)).tmod (-(b:Int))= -((a%b:Nat):Int)/\(-(a:Int)).tmod b= -((a%b:Nat):Int)/\(a:Int).tmod (-(b:Int))=((a%b:Nat):Int):=by
 refine ⟨(dI a b).symm,?_,?_,?_⟩
 ·rw [Int.neg_tmod,Int.tmod_neg,dI]
 ·rw [Int.neg_tmod,dI]
 ·rw [Int.tmod_neg,dI]
def Rj(i:ZI h s A an ac x)(j:ZI h s' B bn bc y)(hx:ZB m x)(hy:ZB m y)(hm:m<=6400000000)(hy0:y≠0)(hK:∀ s1 A1 n1 c1 s2 A2 n2 c2 h',h.le h'->ZI h' s1 A1 n1 c1 (x.tdiv y)->ZI h' s2 A2 n2 c2 (x.tmod y)->K (.tuple #[.agg #[.bool s1,.slice A1 n1 c1],.agg #[.bool s2,.slice A2 n2 c2]]) h'):aW prog Oi #[.agg #[.bool s,.slice A an ac],.agg #[.bool s',.slice B bn bc]] h K:=by
 have r:=i.len hx hm
 have p:=j.len hy hm
 have n:=j.zeroIff
 have a:=Aj i.sgn
 have c:=Aj j.sgn
 refine B11 _ _ _ _ _ _ _ _ ?_
 unfold B5b
 refine D9 (fun e=>by omega) (fun _=>?_)
 refine T3 i.mag j.mag i.cap j.cap (by omega) (by omega) (by omega) ?_
 intro A1 l c1 A2 o c2 q k f g M1 M2
 refine ⟨_,_,_,_,_,_,rfl,?_⟩
 rw [<- dZ] at M1
 rw [<- gH] at M2
 refine O7 (neg:= !(s==s')) M1 f ?_
 intro s1 d
 refine ⟨_,_,_,_,rfl,B4 _,?_⟩
 refine O7 (neg:=s) M2 g ?_
 intro s2 b
 refine ⟨_,_,_,_,rfl,B4 _,hK _ _ _ _ _ _ _ _ _ k ?_ ?_⟩
 ·have e:(if (!(s==s'))=true then -((x.natAbs/y.natAbs:Nat):Int) else ((x.natAbs/y.natAbs:Nat):Int))=x.tdiv y:=by
   have t:=B77 x.natAbs y.natAbs
   rcases a with ⟨rfl,hx'⟩|⟨rfl,hx'⟩<;>rcases c with ⟨rfl,hy'⟩|⟨rfl,hy'⟩<;>rw [<- hx',<- hy'] at t
   ·exact t.2.1.symm
   ·exact t.2.2.1.symm
   ·exact t.2.2.2.symm
   ·exact t.1.symm
  rw [e] at d;exact d
 ·have e:(if s=true then -((x.natAbs%y.natAbs:Nat):Int) else ((x.natAbs%y.natAbs:Nat):Int))=x.tmod y:=by
   have t:=A06 x.natAbs y.natAbs
   rcases a with ⟨rfl,hx'⟩|⟨rfl,hx'⟩<;>rcases c with ⟨rfl,hy'⟩|⟨rfl,hy'⟩<;>rw [<- hx',<- hy'] at t
   ·exact t.2.1.symm
   ·exact t.2.2.1.symm
   ·exact t.2.2.2.symm
   ·exact t.1.symm
  rw [e] at b;exact b
def G0(i:ZI h s A an ac x)(hK:K (.bool (decide (x=0))) h):aW prog E8 #[.agg #[.bool s,.slice A an ac]] h K:=by
 have b:=i.zeroIff
 refine B13 _ _ _ _ ?_
 unfold B5c
 have:((an:Int)==0)=decide (x=0):=by
  by_cases a:x=0
  ·simp [a,b.1 a]
  ·have:¬ an=0:=fun e=>a (b.2 e)
   simp [a,this]
 rw [this];exact hK
def Q8(i:ZI h s A an ac x)(hK:K (.bool (decide (x=1))) h):aW prog Ab #[.agg #[.bool s,.slice A an ac]] h K:=by
 have l:=Aj i.sgn
 have g:=i.zeroIff
 have M:=i.mag
 refine B5d _ _ _ _ ?_
 unfold C09
 rcases l with ⟨rfl,f⟩|⟨rfl,f⟩
 ·refine Br.of (fun e=>by cases e) (fun _=>?_)
  rw [show decide (x=1)=false by simp;omega] at hK;exact hK
 ·refine Br.of (fun _=>?_) (fun e=>by cases e)
  obtain ⟨d,a,k,n,m,c⟩:=M
  refine D9 (fun e=>?_) (fun e=>?_)
  ·obtain ⟨w,rfl⟩:∃ w,d=[w]:=by
    rcases d with _|⟨w,_|⟨p,r⟩⟩
    ·simp at a;omega
    ·exact ⟨w,rfl⟩
    ·simp at a;omega
   refine k.load a (by omega) (by omega) ?_
   rw [X4] at c
   show K (.bool (w==1)) h
   have:(w==1)=decide (x=1):=by
    by_cases b:x=1
    ·have:w=1:=by omega
     simp [b,this]
    ·have:¬ w=1:=by omega
     simp [b,this]
   rw [this];exact hK
  ·have:¬ x=1:=by
    rintro rfl
    have b:=i.mag.len_le (j:=1) (by decide) (by decide)
    have o:¬ an=0:=fun e=>by have:=g.2 e;omega
    omega
   rw [show decide (x=1)=false by simp [this]] at hK;exact hK
def Q7(i:ZI h s A an ac x)(j:ZI h s' B bn bc y)(hx:ZB m x)(hy:ZB m y)(hm:m<=6400000000)(hy0:y≠0)(hK:∀ s1 A1 n1 c1 h',h.le h'->ZI h' s1 A1 n1 c1 (x.tdiv y)->K (.agg #[.bool s1,.slice A1 n1 c1]) h'):aW prog Fa #[.agg #[.bool s,.slice A an ac],.agg #[.bool s',.slice B bn bc]] h K:=by
 refine C2o _ _ _ _ _ _ _ _ ?_
 unfold C79
 refine Q8 j ⟨_,rfl,B6 (fun e=>?_) (fun e=>?_)⟩
 ·subst e
  exact hK _ _ _ _ _ (B4 _) (by rw [Int.tdiv_one];exact i)
 ·refine Rj i j hx hy hm hy0 ?_
  intro s1 A1 n1 c1 f A2 g c2 d b a c
  exact ⟨_,_,_,_,_,_,_,_,rfl,hK _ _ _ _ _ b a⟩
def A5r(i:ZI h s A an ac x)(j:ZI h s' B bn bc y)(hx:ZB m x)(hm:m<=6400000000)(hK:K (.bool (decide (x=y))) h):aW prog A18 #[.agg #[.bool s,.slice A an ac],.agg #[.bool s',.slice B bn bc]] h K:=by
 have k:=i.len hx hm
 have f:=Aj i.sgn
 have g:=Aj j.sgn
 have c:=i.sgn
 have b:=j.sgn
 refine B5f _ _ _ _ _ _ _ _ ?_
 unfold C0b
 refine Br.of (fun e=>?_) (fun e=>?_)
 ·have e:s=s':=by simpa using e
  refine F8 i.mag j.mag (by omega) ⟨_,rfl,?_⟩
  have:(Fg (x.natAbs:Int) y.natAbs==0)=decide (x=y):=by
   by_cases d:x=y
   ·subst d;unfold Fg;simp
   ·have l:¬ x.natAbs=y.natAbs:=by
     rcases f with ⟨rfl,hx'⟩|⟨rfl,hx'⟩<;>rcases g with ⟨a,hy'⟩|⟨a,hy'⟩<;>(rw [<- e] at a)<;>first|omega|(cases a)
    unfold Fg
    by_cases a:(x.natAbs:Int)<y.natAbs
    ·rw [iP a];simp [d]
    ·rw [iN a,iP (by omega)];simp [d]
  rw [this];exact hK
 ·have e:s≠s':=by simpa using e
  have:¬ x=y:=by rintro rfl;exact e (c.trans b.symm)
  rw [show decide (x=y)=false by simp [this]] at hK;exact hK
def Ek{n:Int}(h1: -9223372036854775808<=n)(h2:n<=9223372036854775807)(hK:∀ s1 A1 n1 c1 h',h.le h'->ZI h' s1 A1 n1 c1 n->K (.agg #[.bool s1,.slice A1 n1 c1]) h'):aW prog Rs #[I n] h K:=by
 refine C2u _ ?_
 unfold C7f
 refine B6 (fun a=>?_) (fun a=>?_)
 ·have e:C0 (0-C0 n)=(n.natAbs:Int):=by rw [E6,E6];omega
  rw [e]
  refine Bu (by omega) ?_
  intro A1 d c1 h1 c b M1
  exact ⟨_,_,_,rfl,hK _ _ _ _ _ c ⟨b,M1,by simpa using a⟩⟩
 ·have e:C0 n=(n.natAbs:Int):=by rw [E6];omega
  rw [e]
  refine Bu (by omega) ?_
  intro A1 d c1 h1 c b M1
  exact ⟨_,_,_,rfl,hK _ _ _ _ _ c ⟨b,M1,by simpa using a⟩⟩
end
def A9z{P:dG}{t d e:cC}(ht:P.underlying t=some .string)(hd:P.underlying d=some (.slice e))(he:P.underlying e=some (.int .u8)){h:bC}{l:List UInt8}{K:VP}
 (x:∀ A c h',h.le h'->l.length<=c->SlV h' A (yv l)->K (.slice A l.length c) h'):wpH P (convert t d (.string (bs l))) K h:=by
 unfold convert
 simp only [C6,E9 ht,E9 hd,E9 he]
 unfold Conv.stringToBytes
 simp only [C6]
 refine Jw rfl (fun o=>?_)
 have a:(bs l).size=l.length:=by simp [bs,eR]
 have f:l.length<=(Question.appendCap (bs l).size 0 e).cut o:=by
  rw [a];simp only [Question.cut];omega
 generalize (Question.appendCap (bs l).size 0 e).cut o=cap at *
 rw [P7]
 intro b r
 generalize hcs:((bs l).data.map (fun b=>bB .u8 b.toNat)++fQ (cap-(bs l).size) (bB .u8 0))=cs
 have m:h.le (h.put b (.cells cs e (cs.size,cs.size+1))):=Heap.le_put _ r
 have j:(h.put b (.cells cs e)).freeze { block:=b,off:=cs.size } 1=h.put b (.cells cs e (cs.size,cs.size+1)):=by
  unfold Heap.freeze
  rw [iN (by decide)]
  funext k
  by_cases g:k=b
  ·subst g
   simp only [if_true,C2,gJ]
   rfl
  ·rw [iN g,B8 _ _ g,B8 _ _ g]
 refine ⟨cs,e,_,C2 _ _ _,?_⟩
 refine ⟨⟨_,C2 _ _ _⟩,?_⟩
 show K (.slice (some ⟨b,0,none⟩) (bs l).size cap) ((h.put b (.cells cs e)).freeze { block:=b,off:=cs.size } 1)
 rw [j,a]
 refine x _ _ _ m f (.inr ⟨_,rfl,?_⟩)
 intro i v n
 have p:i<l.length:=by
  have:=(List.getElem?_eq_some_iff.1 n).1
  simpa [yv] using this
 have q:eE ⟨b,0,none⟩ i=⟨b,i,none⟩:=by rw [E5,fG]
 rw [q,E4,<- hcs,Array.getElem?_append_left (by simp [bs];exact p)]
 rw [<- n]
 simp [yv,bs]
def A6s{x y:Int}(hy:0<y):(x.tmod y<0->x/y=x.tdiv y-1)/\(0<=x.tmod y->x/y=x.tdiv y):=by
 have d:=Int.mul_tdiv_add_tmod x y
 have c: -y<x.tmod y/\x.tmod y<y:=by
  have e:=eM x.natAbs (show 0<y.natAbs by omega)
  have t:=A06 x.natAbs y.natAbs
  rw [show ((y.natAbs:Nat):Int)=y by omega] at t
  by_cases b:x<0
  ·rw [show -((x.natAbs:Nat):Int)=x by omega] at t
   have:=t.2.2.1
   omega
  ·rw [show ((x.natAbs:Nat):Int)=x by omega] at t
   have:=t.1
   omega
 refine ⟨fun h=>?_,fun h=>?_⟩
 ·refine (A1u (a:=x.tmod y+y) ?_ (by omega) (by omega)).1
  rw [Int.mul_sub];omega
 ·exact (A1u (a:=x.tmod y) (by omega) h (by omega)).1
def ZB.tdiv{m:Nat}{x y:Int}(h:ZB m x):ZB m (x.tdiv y):=by
 unfold ZB at *
 rw [Int.natAbs_tdiv]
 exact Nat.lt_of_le_of_lt (eF _ _) h
section
variable {h g:bC} {K:VP} {A B:Option bI} {s s':Bool} {an ac bn bc m:Nat} {x y:Int}
def Xb(i:ZI h s A an ac x)(j:ZI h s' B bn bc y)(hx:ZB m x)(hy:ZB m y)(hm:m+1<=6400000000)(hy0:0<y)(hK:∀ s1 A1 n1 c1 h',h.le h'->ZI h' s1 A1 n1 c1 (x/y)->K (.agg #[.bool s1,.slice A1 n1 c1]) h'):aW prog Me #[.agg #[.bool s,.slice A an ac],.agg #[.bool s',.slice B bn bc]] h K:=by
 have g:=A6s (x:=x) hy0
 refine A4t _ _ _ _ _ _ _ _ ?_
 unfold A4u
 refine Rj i j hx hy (by omega) (by omega) ?_
 intro s1 A1 n1 c1 r A2 F c2 u d c o
 refine ⟨_,_,_,_,_,_,_,_,rfl,?_⟩
 refine Ej o ⟨_,rfl,B4 _,?_⟩
 refine Ej (j.mono d) ⟨_,rfl,B4 _,?_⟩
 rw [fJ hy0,Int.mul_one]
 have C: -1<=Int.sign (x.tmod y)/\Int.sign (x.tmod y)<=1:=by
  rcases Int.lt_trichotomy (x.tmod y) 0 with h|h|h
  ·rw [eO h];omega
  ·rw [h];decide
  ·rw [fJ h];omega
 rw [B7 (by omega) (by omega)]
 refine B6 (fun e=>?_) (fun e=>?_)
 ·have a:x.tmod y<0:=Int.sign_neg_iff.1 e
  refine Ek (by omega) (by omega) ?_
  intro H A3 G E z f n
  refine ⟨_,_,_,_,rfl,f,?_⟩
  refine B1p (m:=m+1) (c.mono f) n (hx.tdiv.mono (by omega)) ?_ hm ?_
  ·unfold ZB
   have:1<=2^m:=Nat.one_le_two_pow
   rw [dT];simp;omega
  ·intro t A4 D w q k l
   rw [<- g.1 a] at l
   exact ⟨_,_,_,_,rfl,k,hK _ _ _ _ _ (B0 d (B0 f k)) l⟩
 ·have b:0<=x.tmod y:=by
   by_cases p:x.tmod y<0
   ·exact absurd (by rw [eO p];decide) e
   ·omega
  rw [<- g.2 b] at c
  exact hK _ _ _ _ _ d c
end
def B0e{ws:List Int}{k:Nat}(d:Dig b64 ws)(hl:ws.length=k+1)(h:b64^k<=val b64 ws):fU ws:=by
 unfold fU
 intro e
 rw [List.getLast?_eq_getElem?,hl,Nat.add_sub_cancel] at e
 have:=(Ci (B:=b64) (by decide) d hl).1
 have a:ws.getD k 0=0:=by simp [cU,e]
 rw [a] at this
 omega
section
variable {h g:bC} {K:VP} {A B:Option bI} {ac bc:Nat}
def B8f{Invv:LP}{muv:LN}{d1:ByteArray}{n c:Nat}{chunk base:Int}{us:List Int}{hp hp2:bC}(p:Pw hp2 g A n c us)(hn:n=us.length)(du:Dig b64 us)(nu:fU us)(hl:n<=100000000)(hch:0<=chunk/\chunk<18446744073709551616)(hba:1<=base/\base<18446744073709551616)
 (hK:∀ A' n' c' us' h' g',g.le g'->Pw h' g' A' n' c' us'->n'=us'.length->n'<=n+1->Dig b64 us'->fU us'->val b64 us'=chunk+base*val b64 us->Invv [.string ((d1).extract ((B5 ((dN (B5 (((eR d1:Nat):Int)-(1:Int))) (19:Int))+(1:Int))).toNat) ((d1).size)),.slice A' n' c'] h'/\muv [.string ((d1).extract ((B5 ((dN (B5 (((eR d1:Nat):Int)-(1:Int))) (19:Int))+(1:Int))).toNat) ((d1).size)),.slice A' n' c'] h'<muv [.string d1,.slice A n c] hp):
 X3 prog Invv muv d1 A n c chunk base hp hp2:=by
 have F:=C7 (by decide) du
 unfold X3
 refine ⟨fun l s=>∃ (k:Nat) (j:Int) (d:List Int),l=[U j,I k]/\k<=n/\(0<=j/\j<18446744073709551616)/\d.length=us.length/\Dig b64 d/\Pw s g A n c d/\d.drop k=us.drop k/\val b64 (d.take k)+b64^k*j=chunk+base*val b64 (us.take k),fun l _=>n-(iAt l 1).toNat,⟨0,chunk,us,rfl,by omega,hch,rfl,du,p,rfl,by simp [val]⟩,?_⟩
 rintro j i s ⟨k,E,d,C,hk,o,e,t,pw,z,B⟩
 obtain ⟨rfl,rfl⟩:j=E/\i=(k:Int):=by simpa using C
 refine B6 (fun X=>?_) (fun X=>?_)
 ·have N:=O2 t k
  have G:=E7 z
  have vu:=C5 b64 us k
  have y:d≠[]:=by rintro rfl;simp at e;omega
  obtain ⟨b,O,w,hc⟩:=Fp pw y
  refine w.sl.load (by omega) (by omega) (by omega) ?_
  simp only [aC]
  generalize hx:d.getD k 0=x at *
  refine S9 N (by omega) o ⟨_,_,rfl,?_⟩
  obtain ⟨a,Q,_⟩:=SlV.at w.sl (i:=k) (by simp;omega)
  refine ⟨a,Q,by omega,by omega,w.storeN F5 Q (by omega) ?_⟩
  intro h4 w4
  have bP:=Oc N (show 0<=base/\base<18446744073709551616 by omega) o
  have Z:=A3x (x*base+j)
  have W:B5 ((k:Int)+1)=((k+1:Nat):Int):=by rw [B7 (by omega) (by omega)];omega
  rw [W]
  have J:=w4.priv (m:=n) (c:=c) (by intro S;have:=congrArg List.length S;rw [bN,gK] at this;exact y (aM this)) (by simpa using hc) (by simp;omega)
  rw [aK (by simp;omega)] at J
  refine ⟨⟨k+1,_,_,rfl,by omega,bP,by simpa using e,t.set (Ew _),J,?_,?_⟩,by simp only [iAt,aG,aL];omega⟩
  ·rw [D5 (by omega)];exact D7 z
  ·rw [C9 (by omega),F0,aF,aI (by omega),bG,vu,<- G,Z]
   show _+b64^k*_+b64^k*18446744073709551616*_=_
   generalize (x*base+j)/18446744073709551616=q at *
   grind
 ·obtain rfl:k=n:=by omega
  rw [aK (show d.length<=k by omega),aK (show us.length<=k by omega)] at B
  refine I8 (fun H=>?_) (fun H=>?_)
  ·refine Ea Q4 pw rfl rfl (by omega) (by omega) ?_
   intro A5 R T V l5 L
   rw [<- List.map_singleton (f:=bB .u64),<- dP] at L
   refine hK A5 (k+1) R (d++[j]) T V l5 L (by simp;omega) (by omega) (t.append (Dig.one o)) ?_ ?_
   ·unfold fU;simpa using H
   ·rw [F0,<- B,e,<- hn]
  ·subst H
   rw [fK,fL] at B
   refine hK A k c d s g (B4 _) pw (by omega) (by omega) t ?_ B
   rcases us with _|⟨u,r⟩
   ·have:d=[]:=aM (by simpa using e)
    rw [this];exact Norm.nil
   ·refine B0e (k:=r.length) t (by simpa using e) ?_
    have M:Mw hp2 A k (val b64 (u::r)):=⟨_,hn,p.slV,du,nu,rfl⟩
    have D:=M.ge (by decide) (by simp at hn;omega)
    rw [show k-1=r.length by simp at hn;omega] at D
    have:1*val b64 (u::r)<=base*val b64 (u::r):=aD hba.1 F
    omega
end
section
variable {h g:bC} {K:VP} {A B:Option bI} {ac bc:Nat}
def B9o{k:Nat}(h:k<=19):10^k<=10000000000000000000:=eK (bK (by decide) h) (by decide)
def B0w{Invv:LP}{muv:LN}{d1:ByteArray}{n c tn:Nat}{T:Option bI}{l:List UInt8}{hp hp1:bC}(sv:SlV hp1 T (yv l))(ht:tn=l.length)(hd:∀ c∈l,G9 c)(h19:l.length<=19)
 (hK:(0<=B5 ((dN (B5 (((eR d1:Nat):Int)-(1:Int))) (19:Int))+(1:Int))/\B5 ((dN (B5 (((eR d1:Nat):Int)-(1:Int))) (19:Int))+(1:Int))<=(((d1).size:Nat):Int))/\X3 prog Invv muv d1 A n c (J4 l:Int) ((10^l.length:Nat):Int) hp hp1):
 Eg prog Invv muv d1 A n c T tn hp1 hp:=by
 subst ht
 unfold Eg
 refine ⟨fun s hp=>hp=hp1/\∃ k:Nat,s=[U (J4 (l.take k)),U ((10^k:Nat):Int),I k]/\k<=l.length,fun s _=>l.length-(iAt s 2).toNat,⟨rfl,0,by simp [J4],by omega⟩,?_⟩
 rintro z y i t ⟨rfl,k,b,x⟩
 simp only [bO,cR,and_true,true_and] at b
 obtain ⟨rfl,rfl,rfl⟩:=b
 refine B6 (fun r=>?_) (fun r=>?_)
 ·have d:k<l.length:=by omega
  obtain ⟨a,w,f⟩:=SlV.at sv (i:=k) (by rw [Hy];omega)
  have g:=hd l[k] (gF d)
  have e:=Gz (l:=l.take k) (fun c f=>hd c (fT f))
  rw [aF,aI (by omega)] at e
  have o:=B9o (k:=k+1) (by omega)
  have j:10^(k+1)=10^k*10:=dT _ _
  refine ⟨a,w,by omega,by omega,((l[k].toNat:Nat):Int),?_,?_⟩
  ·rw [aC,cF,f];simp [yv]
  ·unfold G9 at g
   have p:C0 (wu8 (((l[k].toNat:Nat):Int)-48))=((l[k].toNat-48:Nat):Int):=by
    rw [Yb (by omega) (by omega),C3 (by omega) (by omega)];omega
   have u:C0 (C0 (10*((J4 (l.take k):Nat):Int))+C0 (wu8 (((l[k].toNat:Nat):Int)-48)))=((J4 (l.take (k+1)):Nat):Int):=by
    rw [p,C3 (n:=10*((J4 (l.take k):Nat):Int)) (by omega) (by omega),C3 (by omega) (by omega),dV d,Iz];omega
   have m:C0 (((10^k:Nat):Int)*10)=((10^(k+1):Nat):Int):=by rw [C3 (by omega) (by omega),j];simp
   have q:B5 ((k:Int)+1)=((k+1:Nat):Int):=by rw [B7 (by omega) (by omega)];omega
   rw [u,m,q]
   exact ⟨⟨rfl,k+1,rfl,by omega⟩,by simp only [iAt,aG,aL];omega⟩
 ·obtain rfl:k=l.length:=by omega
  rw [aV]
  exact hK
def Sk{l:List UInt8}(hd:∀ c∈l,G9 c)(hl:l.length<=100000000)(hK:∀ A n c h',h.le h'->n<=c->Mw h' A n (J4 l:Int)->K (.slice A n c) h'):aW prog N2 #[.string (bs l)] h K:=by
 refine Wg _ ?_
 unfold Ry Lj
 refine ⟨fun s H=>∃ (f a:List UInt8) (e:List Int) (A:Option bI) (n c:Nat) (g:bC),s=[.string (bs a),.slice A n c]/\l=f++a/\h.le g/\Pw H g A n c e/\n=e.length/\Dig b64 e/\fU e/\val b64 e=(J4 f:Int)/\n<=f.length,fun s _=>match s with|[.string d,_]=>d.size|_=>0,⟨[],l,[],none,0,0,h,rfl,rfl,B4 h,Priv.nil _ _ _ _,rfl,Dig.nil,Norm.nil,rfl,by omega⟩,?_⟩
 rintro d1 A1 n1 c1 H ⟨f,a,e,A2,n2,c2,g,F,b,J,p,C,B,z,D,N⟩
 simp only [bO,cV,Value.string.injEq,and_true] at F
 obtain ⟨rfl,rfl,rfl,rfl⟩:=F
 have G:l.length=f.length+a.length:=by rw [b,aH]
 rw [I7]
 refine B6 (fun R=>?_) (fun R=>?_)
 ·obtain ⟨sz,hsz⟩:∃ sz,sz=(a.length-1)%19+1:=⟨_,rfl⟩
  have o:B5 (dN (B5 ((a.length:Int)-1)) 19+1)=(sz:Int):=by
   rw [B7 (n:=(a.length:Int)-1) (by omega) (by omega),bW (by omega),B7 (by omega) (by omega)];omega
  rw [o,aC,L0]
  refine ⟨⟨by omega,by omega⟩,A9z T7 Eo.und Ct ?_⟩
  intro T tc h2 X O E
  refine ⟨_,_,_,rfl,?_⟩
  have Z:(a.drop 0).take (sz-0)=a.take sz:=by simp
  rw [Z] at E ⊢
  have i:(a.take sz).length=sz:=by rw [aF];omega
  obtain ⟨g2,w,S⟩:=p.after X
  refine B0w E rfl (fun c x=>hd c (by rw [b];exact List.mem_append_right _ (fT x))) (by omega) ?_
  rw [I7,o]
  refine ⟨⟨by omega,by omega⟩,?_⟩
  have u:=Gz (l:=a.take sz) (fun c x=>hd c (by rw [b];exact List.mem_append_right _ (fT x)))
  rw [i] at u ⊢
  have ht:=B9o (k:=sz) (by omega)
  have M:0<10^sz:=cW (by decide)
  refine B8f S C B z (by omega) (by omega) (by omega) ?_
  intro A' Q L y h' g' q W t V j m r
  rw [I7,o,aC,L0,aK (by rw [aN];omega)]
  refine ⟨⟨f++a.take sz,a.drop sz,y,A',Q,L,g',rfl,by rw [aU,cI];exact b,B0 J (B0 w q),W,t,j,m,?_,by rw [aH,i];omega⟩,?_⟩
  ·rw [r,D,Ha,i,fP,cD,aR];omega
  ·simp only [I7,aN];omega
 ·have:a=[]:=aM (by omega)
  subst this
  rw [bX] at b
  subst b
  exact hK _ _ _ _ (B0 J p.le) p.2.1 ⟨e,C,p.slV,B,z,D⟩
end
def zb(l:List UInt8):List Int:=l.map fun c=>(c.toNat:Int)
def Hv(l:List UInt8):(zb l).length=l.length:=by simp [zb]
def A2p(a b:List UInt8):zb (a++b)=zb a++zb b:=by simp [zb]
def C3r(l:List UInt8):(zb l).map (bB .u8)=yv l:=by simp [zb,yv]
def B04:∀ v,v<100->J0[2*v+1]? = some (dch (v%10))/\J0[2*v]? = some (dch (v/10)):=by decide +kernel
def A30(a:Nat):dN (a:Int) 100=((a%100:Nat):Int):=(dI a 100).symm
def tm4(a:Nat):dN (a:Int) 10000=((a%10000:Nat):Int):=(dI a 10000).symm
def tm8(a:Nat):dN (a:Int) 100000000=((a%100000000:Nat):Int):=(dI a 100000000).symm
def A64(a:Nat):cM (a:Int) 100=((a/100:Nat):Int):=(cL a 100).symm
def td4(a:Nat):cM (a:Int) 10000=((a/10000:Nat):Int):=(cL a 10000).symm
def td8(a:Nat):cM (a:Int) 100000000=((a/100000000:Nat):Int):=(cL a 100000000).symm
def Hq{a:Nat}(h:a<4294967296):F7 (a:Int)=a:=O4 (by omega) (by omega)
def Nz(a:Nat):(a:Int)*2=((2*a:Nat):Int):=by omega
def A7h(a:Nat):(a:Int)+1=((a+1:Nat):Int):=by omega
def FBI(g:bC)(b:Nat)(e:cC)(A:Option bI)(pre post:List dC)(N u0 nd u:Nat)(hp:bC):Prop:=
 ∃ (ys:List Int) (t:List UInt8),Win .u8 hp g b e A pre (ys++zb t) post/\ys.length=nd/\nd+t.length=N/\pad N u0=pad nd u++t/\u<10^nd
section
variable {P:dG} {h g:bC} {K:VP} {A:Option bI} {b:Nat} {e:cC} {pre post:List dC}
def Lp(one:P.cellsOf 5=1/\(P.info? 5).isSome=true){N u0 j u:Nat}(f:FBI g b e A pre post N u0 (j+2) u h){E1 E0 I1 I2:Int}(h1:E1=((2*(u%100)+1:Nat):Int))(h0:E0=((2*(u%100):Nat):Int))(hI1:I1=((j+1:Nat):Int))(hI2:I2=(j:Int)){C:bC->Prop}(hC:∀ h',FBI g b e A pre post N u0 j (u/100) h'->C h'):
 ∃ (t:UInt8),(0<=E1/\J0[E1.toNat]? = some t)/\∃ (t0:UInt8),(0<=E0/\J0[E0.toNat]? = some t0)/\∃ a1,A=some a1/\0<=I1/\I1<((N:Nat):Int)/\wpH P (dO 5 (.pointer (some (eE a1 (I1.toNat*1)))) (Y ((t.toNat:Nat):Int))) (fun _ hp1=>∃ a2,A=some a2/\0<=I2/\I2<((N:Nat):Int)/\wpH P (dO 5 (.pointer (some (eE a2 (I2.toNat*1)))) (Y ((t0.toNat:Nat):Int))) (fun _ hp2=>C hp2) hp1) h:=by
 subst h1 h0 hI1 hI2
 obtain ⟨c,t,w,z,B,n,k⟩:=f
 obtain ⟨y,o⟩:=B04 (u%100) (by omega)
 have r:∃ a,A=some a:=by
  rcases w.at_ with h0|h0
  ·have:=congrArg List.length h0
   rw [aH,gK] at this;omega
  ·exact ⟨_,h0⟩
 obtain ⟨a,d⟩:=r
 have l:(c++zb t).length=N:=by rw [aH,Hv];omega
 refine ⟨_,⟨by omega,by rw [aC];exact y⟩,_,⟨by omega,by rw [aC];exact o⟩,a,d,by omega,by omega,?_⟩
 rw [aC]
 refine w.storeN one d (by omega) ?_
 intro D x
 refine ⟨a,d,by omega,by omega,?_⟩
 rw [aC]
 refine x.storeN one d (by rw [bN];omega) ?_
 intro p i
 refine hC p ⟨c.take j,[dch (u/10%10),dch (u%10)]++t,?_,by rw [aF];omega,by simp;omega,?_,?_⟩
 ·have q:((c++zb t).set (j+1) ((dch (u%100%10)).toNat:Int)).set j ((dch (u%100/10)).toNat:Int)=c.take j++zb ([dch (u/10%10),dch (u%10)]++t):=by
   have s:c=c.take j++[c[j]'(by omega),c[j+1]'(by omega)]:=by
    conv=>lhs;rw [<- cI j c]
    congr 1
    rw [cH (by omega),cH (by omega),aY (by omega)]
   have m:(c.take j).length=j:=by rw [aF];omega
   rw [s,show u%100%10=u%10 by omega,show u%100/10=u/10%10 by omega]
   generalize c[j]'_=y0
   generalize c[j+1]'_=y1
   rw [cJ (by omega),aK (show (c.take j).length<=j by omega)]
   generalize c.take j=zs at *
   rw [aU,fR _ _ (by omega),fR _ _ (by omega),m,A2p]
   simp [zb]
  rw [q] at i;exact i
 ·rw [n,C1r];simp
 ·rw [eB] at k
  exact Nat.div_lt_of_lt_mul (by rw [fH];exact k)
end
section
variable {h g:bC} {K:VP} {A:Option bI} {b:Nat} {e:cC} {pre post:List dC}
def Nk:prog.cellsOf 5=1/\(prog.info? 5).isSome=true:=B03
def C4g{N u0 nd x:Nat}(hN:N<=24)(f:FBI g b e A pre post N u0 nd x h)(hn:nd<2)(hK:∀ h',Win .u8 h' g b e A pre (zb (pad N u0)) post->K (.tuple #[]) h'):Bl prog A N K nd x h:=by
 obtain ⟨j,t,w,d,hN,k,l⟩:=f
 unfold Bl
 refine B6 (fun o=>?_) (fun o=>?_)
 ·obtain rfl:nd=1:=by omega
  obtain ⟨y,rfl⟩:∃ y,j=[y]:=by
   rcases j with _|⟨y,_|⟨z,r⟩⟩
   ·simp at d
   ·exact ⟨y,rfl⟩
   ·simp at d
  have p:∃ a,A=some a:=by
   rcases w.at_ with i|i
   ·simp at i
   ·exact ⟨_,i⟩
  obtain ⟨a,n⟩:=p
  refine ⟨a,n,by omega,by omega,?_⟩
  rw [show ((0:Int)).toNat=0 from rfl]
  refine w.storeN Nk n (by simp) ?_
  intro q m
  refine hK q ?_
  have c:x<10:=by simpa using l
  have ev:wu8 (F7 (48+(x:Int)))=((dch x).toNat:Int):=by
   rw [O4 (by omega) (by omega),Yb (by omega) (by omega),Ff c];omega
  rw [ev] at m
  have s:pad 1 x=[dch x]:=by
   rw [Tg,B3f _ (by omega),show x%10=x by omega];rfl
  rw [k,s,A2p]
  simpa [zb] using m
 ·obtain rfl:nd=0:=by omega
  have:j=[]:=aM d
  subst this
  have c:x=0:=by simpa using l
  refine hK h ?_
  rw [k,B3f _ c]
  simpa using w
def C4f{N u0 nd x:Nat}(hN:N<=24)(f:FBI g b e A pre post N u0 nd x h)(hn:nd<4)(hK:∀ h',Win .u8 h' g b e A pre (zb (pad N u0)) post->K (.tuple #[]) h'):Bm prog A N K nd x h:=by
 unfold Bm
 have s:x<10000:=by
  obtain ⟨_,_,_,_,_,_,p⟩:=f
  exact cZ p (eK (bK (by decide) (show nd<=4 by omega)) (by decide))
 refine ⟨fun l d=>∃ nd x:Nat,l=[I nd,U32 x]/\FBI g b e A pre post N u0 nd x d/\nd<2,B6 (fun o=>?_) (fun o=>?_),?_⟩
 ·obtain ⟨j,rfl⟩:∃ j,nd=j+2:=⟨nd-2,by omega⟩
  refine Lp Nk f ?_ ?_ (by rw [B7 (by omega) (by omega)];omega) (by rw [B7 (by omega) (by omega)];omega) ?_
  ·simp (disch:=omega) only [A30,Hq,Nz,A7h]
  ·simp (disch:=omega) only [A30,Hq,Nz]
  ·intro t k
   refine ⟨j,x/100,?_,k,by omega⟩
   rw [B7 (by omega) (by omega),A64,Hq (by omega)]
   simp only [bO,cR,and_true,true_and];omega
 ·exact ⟨nd,x,rfl,f,by omega⟩
 ·rintro a r d ⟨n,m,i,q,c⟩
  obtain ⟨rfl,rfl⟩:a=(n:Int)/\r=(m:Int):=by simpa using i
  exact C4g hN q c hK
def Y4{u an ac:Nat}{xs:List Int}(w:Win .u8 h g b e A pre xs post)(hn:an=xs.length)(hN:an<=24)(hu:u<10^an)(hu2:u<18446744073709551616)(hK:∀ h',Win .u8 h' g b e A pre (zb (pad an u)) post->K (.tuple #[]) h'):aW prog R3 #[.slice A an ac,U (u:Int)] h K:=by
 refine Sv _ _ _ _ ?_
 unfold Pr
 refine ⟨fun l d=>∃ a v:Nat,l=[U v,I a]/\FBI g b e A pre post an u a v d/\v<=u,fun l _=>(iAt l 1).toNat,⟨an,u,rfl,⟨xs,[],by simpa [zb] using w,hn.symm,by simp,by simp,hu⟩,aZ _⟩,?_⟩
 rintro t m d ⟨a,v,G,f,N⟩
 obtain ⟨rfl,rfl⟩:t=(v:Int)/\m=(a:Int):=by simpa using G
 have y:a<=an:=by obtain ⟨_,_,_,_,hN,_,_⟩:=f;omega
 refine B6 (fun z=>?_) (fun z=>?_)
 ·obtain ⟨j,rfl⟩:∃ j,a=j+8:=⟨a-8,by omega⟩
  refine Lp (j:=j+6) Nk f ?_ ?_ (by rw [B7 (by omega) (by omega)];omega) (by rw [B7 (by omega) (by omega)];omega) ?_
  ·simp (disch:=omega) only [tm8,tm4,A30,Hq,Nz,A7h];omega
  ·simp (disch:=omega) only [tm8,tm4,A30,Hq,Nz];omega
  intro p H
  refine Lp (j:=j+4) Nk H ?_ ?_ (by rw [B7 (by omega) (by omega)];omega) (by rw [B7 (by omega) (by omega)];omega) ?_
  ·simp (disch:=omega) only [tm8,tm4,A64,Hq,Nz,A7h];omega
  ·simp (disch:=omega) only [tm8,tm4,A64,Hq,Nz];omega
  intro B c
  refine Lp (j:=j+2) Nk c ?_ ?_ (by rw [B7 (by omega) (by omega)];omega) (by rw [B7 (by omega) (by omega)];omega) ?_
  ·simp (disch:=omega) only [tm8,A30,td4,Hq,Nz,A7h];omega
  ·simp (disch:=omega) only [tm8,A30,td4,Hq,Nz];omega
  intro q i
  refine Lp (j:=j) Nk i ?_ ?_ (by rw [B7 (by omega) (by omega)];omega) (by rw [B7 (by omega) (by omega)];omega) ?_
  ·simp (disch:=omega) only [tm8,A64,td4,Hq,Nz,A7h];omega
  ·simp (disch:=omega) only [tm8,A64,td4,Hq,Nz];omega
  intro M D
  have r:B5 (((j+8:Nat):Int)-8)=(j:Int):=by rw [B7 (by omega) (by omega)];omega
  have F:C0 (cM (v:Int) 100000000)=((v/100/100/100/100:Nat):Int):=by
   rw [td8,C3 (by omega) (by omega)];omega
  rw [r,F]
  exact ⟨⟨j,_,rfl,D,by omega⟩,by simp only [iAt,aG,aL];omega⟩
 ·have s:v<100000000:=by
   obtain ⟨_,_,_,_,_,_,hu⟩:=f
   exact cZ hu (eK (bK (by decide) (show a<=8 by omega)) (by decide))
  refine ⟨fun l d=>∃ a x:Nat,l=[I a,U32 x]/\FBI g b e A pre post an u a x d/\a<4,B6 (fun p=>?_) (fun p=>?_),?_⟩
  ·obtain ⟨j,rfl⟩:∃ j,a=j+4:=⟨a-4,by omega⟩
   refine Lp (j:=j+2) Nk f ?_ ?_ (by rw [B7 (by omega) (by omega)];omega) (by rw [B7 (by omega) (by omega)];omega) ?_
   ·simp (disch:=omega) only [tm4,A30,Hq,Nz,A7h];omega
   ·simp (disch:=omega) only [tm4,A30,Hq,Nz];omega
   intro B c
   refine Lp (j:=j) Nk c ?_ ?_ (by rw [B7 (by omega) (by omega)];omega) (by rw [B7 (by omega) (by omega)];omega) ?_
   ·simp (disch:=omega) only [tm4,A64,Hq,Nz,A7h];omega
   ·simp (disch:=omega) only [tm4,A64,Hq,Nz];omega
   intro q i
   refine ⟨j,v/100/100,?_,i,by omega⟩
   rw [B7 (by omega) (by omega),Hq (by omega),td4,Hq (by omega)]
   simp only [bO,cR,and_true,true_and];omega
  ·exact ⟨a,v,by rw [Hq (by omega)],f,by omega⟩
  ·rintro o L E ⟨J,C,k,c,n⟩
   obtain ⟨rfl,rfl⟩:o=(J:Int)/\L=(C:Int):=by simpa using k
   exact C4f hN c n hK
end
def Ve{P:dG}{h:bC}{l:List UInt8}{m:Nat}{ys:List dC}(hy:ys=yv l)(hm:m=l.length){K:Array dC->bC->Prop}(x:K ys.toArray h):wpH P (Builtin.firstCells 1 m (.string (bs l))) K h:=by
 subst hm hy
 show K _ h
 have e:((bs l).extract 0 l.length).data.map (fun b=>bB .u8 b.toNat)=(yv l).toArray:=by
  rw [L0]
  apply Array.toList_inj.1
  simp [bs,yv]
 rw [e];exact x
def Wb{P:dG}{t e e' ty:cC}{z:dC}{bytes:Nat}(st:SliceT P t e z 1 bytes){h g:bC}{A:Option bI}{n c:Nat}{xs:List dC}(p:eU h g e' 1 A n c xs)
 {B:Option bI} {m d:Nat} {ys:List dC} (hy:ys.length=m) (hc:SlV h B ys) (h1:∀ v∈ys,A8m v=true) (hb:(2*(n+m)+192)*bytes<=281474976710656) (hm:n+m<=9223372036854775807) {K:VP}
 (x1:n+m<=c->∀ h',eU h' g e' 1 A (n+m) c (xs++ys)->K (.slice A (n+m) c) h') (x2:c<n+m->∀ A' c' h' g',g.le g'->eU h' g' e 1 A' (n+m) c' (xs++ys)->K (.slice A' (n+m) c') h'):
 wpH P (dQ #[t,t] ty #[.slice A n c,.slice B m d]) K h:=by
 obtain ⟨i,r,hz,R,G⟩:=st.parts
 have J:=st.pos
 have w:=p.1
 rw [cF] at w
 unfold dQ
 simp only [dE,aG,aL,C6,E9 st.und,N6 r,G1,eS,if_false,fY,R,Bool.not_false,if_true]
 by_cases f:n+m<=c
 ·simp only [f,if_true,C6]
  refine L7 (by omega) hc ?_
  rcases p.2.2 with ⟨M,hg⟩|⟨b,k,hA,O,hh,o,F⟩
  ·have V:n=0:=by omega
   have Q:m=0:=by omega
   subst V;subst hg
   have x:ys=[]:=aM (by omega)
   have S:xs=[]:=aM (by omega)
   have C:K (.slice A (0+m) c) h:=x1 f h ⟨by rw [x,S,Q];rfl,by omega,.inl ⟨M,rfl⟩⟩
   subst x
   cases A with
   | none=>exact C
   | some a=>exact C
  ·subst hA
   simp only [C6,E5,fG]
   rw [hh]
   rw [cF] at o F ⊢
   refine J7 ys.toArray.toList n 0 k ?_ (fun v Z=>h1 v (by simpa using Z)) ?_
   ·simp only
    omega
   ·simp only [G1,dU]
    refine x1 f _ ⟨by rw [aH];omega,f,.inr ⟨b,_,rfl,O,rfl,?_,?_⟩⟩
    ·simp only [N7,aH,aF,aN,o,hy];omega
    ·have y:(k.take n).length=n:=by rw [aF,o];omega
     unfold N7
     have X:(k.take n).take (n+m)=k.take n:=aK (by rw [y];omega)
     have t2:ys.take m=ys:=aK (by omega)
     rw [cF,aU,dK,y,cG,dK,X,t2,hy,gC,List.take_zero,bX,F]
 ·have D:c<n+m:=by omega
  simp only [f,if_false,C6,I3 r,G]
  have N:=Qi D
  have W:Builtin.nextslicecap (n+m) c*bytes<=281474976710656:=eK (Nat.mul_le_mul_right _ N) hb
  rw [iN (by rintro ⟨h',_⟩;simp only [IntKind.max,IntKind.signed,IntKind.bits] at h';simp at h';omega)]
  simp only [C6,I3 r,G]
  rw [iN (by simp only [show (2^48:Nat)=281474976710656 from rfl];omega)]
  simp only [G1,C6]
  refine Jw rfl fun tt=>?_
  simp only [Fs,I3 r]
  have s:xs=[]\/∃ a,A=some a/\∀ j v,xs[j]? = some v->h.cell? (a.add j)=some v:=p.slV
  refine L7 p.1 s ?_
  refine L7 (by omega) hc ?_
  simp only [R7 r hz,P7]
  intro b q
  have E:∃ l,(Question.appendCap (n+m) c e).cut tt=l/\n+m<=l:=⟨_,rfl,by simp only [Question.cut];omega⟩
  obtain ⟨l,T,L⟩:=E
  rw [T]
  have u:=p.le
  refine x2 D _ l _ h u ⟨by rw [aH];omega,L,.inr ⟨b,xs++ys++(dF z.cells (l-(n+m))).toList,rfl,q,?_,?_,?_⟩⟩
  ·congr 1;simp
  ·have H:(dF z.cells (l-(n+m))).toList.length=l-(n+m):=by simp [dF,st.cells]
   rw [aH,aH,w,hy,H];omega
  ·rw [cF,cJ (by rw [aH];omega),aK (by rw [aH];omega)]
def B0y{P:dG}{t e e' ty t2:cC}{z:dC}{bytes:Nat}(st:SliceT P t e z 1 bytes)(hu:P.underlying t2=some .string){h g:bC}{A:Option bI}{n c:Nat}{xs:List dC}(p:eU h g e' 1 A n c xs)
 {m:Nat} {l:List UInt8} {ys:List dC} (hly:ys=yv l) (hm0:m=l.length) (hy:ys.length=m) (h1:∀ v∈ys,A8m v=true) (hb:(2*(n+m)+192)*bytes<=281474976710656) (hm:n+m<=9223372036854775807) {K:VP}
 (x1:n+m<=c->∀ h',eU h' g e' 1 A (n+m) c (xs++ys)->K (.slice A (n+m) c) h') (x2:c<n+m->∀ A' c' h' g',g.le g'->eU h' g' e 1 A' (n+m) c' (xs++ys)->K (.slice A' (n+m) c') h'):
 wpH P (dQ #[t,t2] ty #[.slice A n c,.string (bs l)]) K h:=by
 obtain ⟨i,r,Z,O,F⟩:=st.parts
 have H:=st.pos
 have w:=p.1
 rw [cF] at w
 unfold dQ
 simp only [dE,aG,aL,C6,E9 st.und,E9 hu,N6 r,G1,eS,if_false,fY,O,Bool.not_false,if_true,I7,<- hm0]
 by_cases d:n+m<=c
 ·simp only [d,if_true,C6]
  refine Ve hly hm0 ?_
  rcases p.2.2 with ⟨L,X⟩|⟨b,f,hA,N,hh,o,E⟩
  ·have S:n=0:=by omega
   have hm0:m=0:=by omega
   subst S;subst X
   have x:ys=[]:=aM (by omega)
   have Q:xs=[]:=aM (by omega)
   have B:K (.slice A (0+m) c) h:=x1 d h ⟨by rw [x,Q,hm0];rfl,by omega,.inl ⟨L,rfl⟩⟩
   subst x
   cases A with
   | none=>exact B
   | some a=>exact B
  ·subst hA
   simp only [C6,E5,fG]
   rw [hh]
   rw [cF] at o E ⊢
   refine J7 ys.toArray.toList n 0 f ?_ (fun v W=>h1 v (by simpa using W)) ?_
   ·simp only
    omega
   ·simp only [G1,dU]
    refine x1 d _ ⟨by rw [aH];omega,d,.inr ⟨b,_,rfl,N,rfl,?_,?_⟩⟩
    ·simp only [N7,aH,aF,aN,o,hy];omega
    ·have y:(f.take n).length=n:=by rw [aF,o];omega
     unfold N7
     have V:(f.take n).take (n+m)=f.take n:=aK (by rw [y];omega)
     have t2:ys.take m=ys:=aK (by omega)
     rw [cF,aU,dK,y,cG,dK,V,t2,hy,gC,List.take_zero,bX,E]
 ·have C:c<n+m:=by omega
  simp only [d,if_false,C6,I3 r,F]
  have M:=Qi C
  have T:Builtin.nextslicecap (n+m) c*bytes<=281474976710656:=eK (Nat.mul_le_mul_right _ M) hb
  rw [iN (by rintro ⟨h',_⟩;simp only [IntKind.max,IntKind.signed,IntKind.bits] at h';simp at h';omega)]
  simp only [C6,I3 r,F]
  rw [iN (by simp only [show (2^48:Nat)=281474976710656 from rfl];omega)]
  simp only [G1,C6]
  refine Jw rfl fun tt=>?_
  simp only [Fs,I3 r]
  have s:xs=[]\/∃ a,A=some a/\∀ j v,xs[j]? = some v->h.cell? (a.add j)=some v:=p.slV
  refine L7 p.1 s ?_
  refine Ve hly hm0 ?_
  simp only [R7 r Z,P7]
  intro b q
  have D:∃ k,(Question.appendCap (n+m) c e).cut tt=k/\n+m<=k:=⟨_,rfl,by simp only [Question.cut];omega⟩
  obtain ⟨k,R,J⟩:=D
  rw [R]
  have u:=p.le
  refine x2 C _ k _ h u ⟨by rw [aH];omega,J,.inr ⟨b,xs++ys++(dF z.cells (k-(n+m))).toList,rfl,q,?_,?_,?_⟩⟩
  ·congr 1;simp
  ·have G:(dF z.cells (k-(n+m))).toList.length=k-(n+m):=by simp [dF,st.cells]
   rw [aH,aH,w,hy,G];omega
  ·rw [cF,cJ (by rw [aH];omega),aK (by rw [aH];omega)]
def A0o(l:List UInt8):∀ v∈yv l,A8m v=true:=by
 intro v a
 simp only [yv,List.mem_map] at a
 obtain ⟨c,_,rfl⟩:=a
 rfl
def Dv{P:dG}{t:cC}{z v:dC}(hz:(P.info? t).map (fun i=>i.zero)=some (some z)){K:VP}{h:bC}(x:∀ b,h b=none->K (.pointer (some ⟨b,0,none⟩)) (h.put b (.cells z.cells t))):wpH P (Instr.alloc t true v) K h:=by
 cases hi:P.info? t with
 | none=>rw [hi] at hz;cases hz
 | some i=>
  rw [hi] at hz
  simp only [gJ,fZ] at hz
  unfold Instr.alloc
  simp only [C6,R7 hi hz]
  unfold newVar
  simp only [P7,G1]
  exact x
def A9f:(prog.info? Ty).map (fun i=>i.zero)=some (some (.agg (fQ 24 (.int .u8 0)))):=by kernel_rfl
def Gp(h:bC):Prop:=∀ k,k<20->h.cell? (eE ⟨3,0,none⟩ (k*1))=some (U ((10^k:Nat):Int))
def Gp.mono{h h':bC}(g:Gp h)(l:h.le h'):Gp h':=fun k a=>B9 l (g k a)
section
variable {h g:bC} {K:VP}
def Yf{i:Nat}(hi:i<100)(hK:K (.string (bs (O1 i))) h):aW prog Tl #[I i] h K:=by
 refine B60 _ ?_
 unfold C0m
 have key:∀ i:Nat,i<100->(i<10->A0r.extract i (i+1)=bs (O1 i))/\(¬ i<10->J0.extract (2*i) (2*i+2)=bs (O1 i)):=by
  intro i hi
  have f:O1 i=if i<10 then [dch i] else [dch (i/10),dch (i%10)]:=by
   split
   ·by_cases b:i=0
    ·subst b;rfl
    ·rw [Ag b,U5 b,show i/10=0 by omega,I6,show i%10=i by omega];rfl
   ·rw [Ag (by omega),U5 (by omega),U5 (by omega),show i/10/10=0 by omega,I6,show i/10%10=i/10 by omega];rfl
  rw [f]
  revert i
  decide +kernel
 obtain ⟨c,d⟩:=key i hi
 refine B6 (fun e=>?_) (fun e=>?_)
 ·have a:B5 ((i:Int)+1)=((i+1:Nat):Int):=by rw [B7 (by omega) (by omega)];omega
  rw [a,aC,aC,c (by omega)]
  exact ⟨⟨by omega,by show _<=((36:Nat):Int);omega⟩,⟨by omega,by omega⟩,hK⟩
 ·have a:B5 ((i:Int)*2)=((2*i:Nat):Int):=by rw [B7 (by omega) (by omega)];omega
  have g:B5 (((2*i:Nat):Int)+2)=((2*i+2:Nat):Int):=by rw [B7 (by omega) (by omega)];omega
  rw [a,g,aC,aC,d (by omega)]
  exact ⟨⟨by omega,by show _<=((200:Nat):Int);omega⟩,⟨by omega,by omega⟩,hK⟩
def Eb{d:Nat}(gp:Gp h)(h0:d≠0)(hd:d<18446744073709551616)(hK:K (I ((dd d).length:Int)) h):aW prog Ao #[U (d:Int)] h K:=by
 refine A27 _ ?_
 unfold Zk
 have c:O3 d<=64:=Jf hd
 obtain ⟨_,_,e⟩:=B9x (O3 d) (by omega)
 refine A8p hd ⟨_,rfl,A28 _ ?_⟩
 unfold Zl
 have a:eD (B5 ((O3 d:Int)*78913)) (2^(min ((18:Int)).toNat 64))=((ndg (O3 d):Nat):Int):=by
  rw [show (2:Int)^(min ((18:Int)).toNat 64)=262144 by decide,eQ _ (by decide),B7 (by omega) (by omega)]
  unfold ndg;omega
 rw [a]
 refine ⟨_,rfl,⟨by omega,by omega⟩,_,by rw [aC];exact gp _ (by omega),B61 _ ?_⟩
 unfold C0n
 rw [C49 h0 hd] at hK
 refine B6 (fun b=>⟨_,rfl,?_⟩) (fun b=>⟨_,rfl,?_⟩)
 ·rw [iP (by omega)] at hK
  rw [B7 (by omega) (by omega)]
  exact hK
 ·rw [iN (by omega)] at hK
  rw [B7 (by omega) (by omega)]
  exact hK
def Df{e':cC}{A:Option bI}{n c i:Nat}{l:List UInt8}(gp:Gp h)(p:eU h g e' 1 A n c (yv l))(hi:i<18446744073709551616)(hn:n<=1000000000000)
 (hK:∀ A' c' e2 h' g',g.le g'->eU h' g' e2 1 A' (n+(O1 i).length) c' (yv (l++O1 i))->(n+(O1 i).length<=c->A'=A/\c'=c/\e2=e')->(e'=F9->e2=F9)->K (.slice A' (n+(O1 i).length:Nat) c') h'):aW prog W5 #[.slice A n c,U (i:Int),I 10] h K:=by
 refine Xu _ _ _ _ _ ?_
 unfold Wt
 refine D9 (fun _=>?_) (fun e=>absurd rfl e)
 have q:(O1 i).length<=20:=(Pc (by decide)).2 (by show i<10^20;omega)
 refine B6 (fun G=>?_) (fun G=>?_)
 ·rw [B7 (by omega) (by omega)]
  refine Yf (by omega) ⟨_,rfl,?_⟩
  refine B0y Eo T7 p (l:=O1 i) rfl rfl (Hy _) (A0o _) (by omega) (by omega) ?_ ?_
  ·intro z h' a
   rw [<- U7] at a
   exact ⟨_,_,_,rfl,hK _ _ _ _ _ (B4 _) a (fun _=>⟨rfl,rfl,rfl⟩) id⟩
  ·intro z A' c' h' g' y a
   rw [<- U7] at a
   exact ⟨_,_,_,rfl,hK _ _ _ _ _ y a (fun e=>by omega) (fun _=>rfl)⟩
 ·refine Dv A9f ?_
  intro b f
  have J:(Value.agg (fQ 24 (.int .u8 0))).cells=((aE 24 (0:Int)).map (bB .u8)).toArray:=by rfl
  rw [J]
  have E:Win .u8 (h.put b (.cells ((aE 24 (0:Int)).map (bB .u8)).toArray Ty)) h b Ty (some ⟨b,0,none⟩) [] (aE 24 (0:Int)) []:=⟨f,by simp,.inr rfl⟩
  generalize (h.put b (.cells ((aE 24 (0:Int)).map (bB .u8)).toArray Ty))=h1' at *
  refine ⟨_,rfl,Eb (gp.mono E.le) (by omega) hi ⟨_,rfl,?_⟩⟩
  have u:O1 i=dd i:=Ag (by omega)
  rw [u] at q hK
  refine ⟨⟨by omega,by omega⟩,?_⟩
  rw [aC,bV]
  have D:=E.sub (l:=0) (m:=(dd i).length) (c:=24) (by omega) (by simp;omega) (by simp)
  have j:((aE 24 (0:Int)).drop 0).take ((dd i).length-0)=aE (dd i).length 0:=by
   rw [cK,bZ,bV,aI (by omega)]
  rw [j] at D
  have t:i<10^(dd i).length:=R5.1 (aZ _)
  refine Y4 D (by simp) (by omega) t hi ?_
  intro C r
  refine ⟨rfl,⟨by omega,by omega⟩,?_⟩
  have w:pad (dd i).length i=dd i:=by simp [pad]
  rw [w] at r
  have H:SlV C (J9 (some ⟨b,0,none⟩) 24 0 1) (yv (dd i)):=by
   have:=r.sl
   unfold SlI at this
   rw [C3r] at this
   exact this
  have x:=r.eq
  obtain ⟨o,ho⟩:∃ o,C=h.put b o:=⟨_,x⟩
  subst ho
  have L:=p.put f o
  have d:g.le (g.put b o):=by
   intro k F B
   have s:k≠b:=by
    rintro rfl
    rw [p.le k F B] at f;cases f
   rw [B8 _ _ s];exact B
  refine Wb Eo L (Hy _) H (A0o _) (by omega) (by omega) ?_ ?_
  ·intro z h' a
   rw [<- U7] at a
   exact ⟨_,_,_,rfl,hK _ _ _ _ _ d a (fun _=>⟨rfl,rfl,rfl⟩) id⟩
  ·intro z A' c' h' g' y a
   rw [<- U7] at a
   exact ⟨_,_,_,rfl,hK _ _ _ _ _ (B0 d y) a (fun e=>by omega) (fun _=>rfl)⟩
end
structure Ext (g:bC) (e':cC) (A:Option bI) (n c:Nat) (l t:List UInt8) (A':Option bI) (n' c':Nat) (e2:cC) (g' h':bC):Prop where
 le:g.le g'
 priv:eU h' g' e2 1 A' n' c' (yv (l++t))
 len:n'=n+t.length
 fit:n+t.length<=c->A'=A/\c'=c/\e2=e'
 tag:e'=F9->e2=F9
def Ext.trans{g g1 g2 h1 h2:bC}{e' e1 e2:cC}{A A1 A2:Option bI}{n c n1 c1 n2 c2:Nat}{l t s:List UInt8}(x:Ext g e' A n c l t A1 n1 c1 e1 g1 h1)(y:Ext g1 e1 A1 n1 c1 (l++t) s A2 n2 c2 e2 g2 h2):Ext g e' A n c l (t++s) A2 n2 c2 e2 g2 h2:=by
 refine ⟨B0 x.le y.le,?_,?_,?_,fun e=>y.tag (x.tag e)⟩
 ·have:=y.priv;rwa [aU] at this
 ·rw [y.len,x.len,aH];omega
 ·intro a
  rw [aH] at a
  obtain ⟨rfl,rfl,rfl⟩:=x.fit (by omega)
  have b:=x.len
  exact y.fit (by omega)
section
variable {h g:bC} {K:VP} {A:Option bI} {n c:Nat} {e':cC} {l:List UInt8}
def Hk{i:Nat}(gp:Gp h)(p:eU h g e' 1 A n c (yv l))(hi:i<18446744073709551616)(hn:n<=1000000000000)
 (hK:∀ A' n' c' e2 g' h',Ext g e' A n c l (O1 i) A' n' c' e2 g' h'->K (.slice A' n' c') h'):aW prog Gw #[.slice A n c,U (i:Int),I 10] h K:=by
 refine Ya _ _ _ _ _ ?_
 unfold Xa
 refine Df gp p hi hn ?_
 intro A' c' e2 h' g' d a e b
 exact ⟨_,_,_,rfl,hK _ _ _ _ _ _ ⟨d,a,rfl,e,b⟩⟩
def Gh{ch:UInt8}{v:Int}(hv:v=(ch.toNat:Int))(p:eU h g e' 1 A n c (yv l))(hn:n<=1000000000000){KK:Option bI->Nat->Nat->bC->Prop}
 (x:∀ A' n' c' e2 g' h',Ext g e' A n c l [ch] A' n' c' e2 g' h'->KK A' n' c' h'):
 wpH prog (Instr.buildSlice Ic 1 #[(0,Y v)]) (fun v1 hp1=>∃ (A1:Option bI) (n1 c1:Nat),v1= .slice A1 n1 c1/\wpH prog (dQ #[Ic,Ic] Ic #[.slice A n c,.slice A1 n1 c1]) (fun v2 hp2=>∃ (A2:Option bI) (n2 c2:Nat),v2= .slice A2 n2 c2/\KK A2 n2 c2 hp2) hp1) h:=by
 subst hv
 refine Ba Eo rfl ?_
 intro b a
 refine ⟨_,_,_,rfl,?_⟩
 have s:=p.put a (.cells #[Y (ch.toNat:Int)] F9)
 have f:g.le (g.put b (.cells #[Y (ch.toNat:Int)] F9)):=by
  intro k w o
  have i:k≠b:=by
   rintro rfl
   rw [p.le k w o] at a;cases a
  rw [B8 _ _ i];exact o
 have r:SlV (h.put b (.cells #[Y (ch.toNat:Int)] F9)) (some ⟨b,0,none⟩) (yv [ch]):=by
  refine .inr ⟨_,rfl,fun j u q=>?_⟩
  rw [E5,E4]
  match j with
  | 0=>simpa [yv] using q
  | j+1=>simp [yv] at q
 refine Wb Eo s (m:=1) (ys:=yv [ch]) rfl r (A0o _) (by omega) (by omega) ?_ ?_
 ·intro y h' d
  rw [<- U7] at d
  exact ⟨_,_,_,rfl,x _ _ _ _ _ _ ⟨f,d,rfl,fun _=>⟨rfl,rfl,rfl⟩,id⟩⟩
 ·intro y A' c' h' g' t d
  rw [<- U7] at d
  exact ⟨_,_,_,rfl,x _ _ _ _ _ _ ⟨B0 f t,d,rfl,fun e=>by simp at e;omega,fun _=>rfl⟩⟩
def Ta{i:Int}(h:i<0):Hs i=[45]++O1 i.natAbs:=by unfold Hs;rw [iP h];rfl
def Ka{i:Int}(h:¬ i<0):Hs i=O1 i.natAbs:=by unfold Hs;rw [iN h]
def Lg{i:Int}(gp:Gp g)(p:eU h g e' 1 A n c (yv l))(h1: -9223372036854775808<=i)(h2:i<9223372036854775808)(hn:n<=100000000000)
 (hK:∀ A' n' c' e2 g' h',Ext g e' A n c l (Hs i) A' n' c' e2 g' h'->K (.slice A' n' c') h'):aW prog Dr #[.slice A n c,I i,I 10] h K:=by
 refine A2n _ _ _ _ _ ?_
 unfold A01
 refine A2d _ _ _ _ _ ?_
 unfold Zp
 refine B6 (fun b=>?_) (fun b=>?_)
 ·rw [Ta b] at hK
  refine Gh (ch:=45) rfl p (by omega) ?_
  intro A1 r c1 t s q a
  have e:C0 (0-C0 i)=((i.natAbs:Nat):Int):=by rw [E6,E6];omega
  rw [e]
  refine Df (gp.mono (B0 a.le a.priv.le)) a.priv (by omega) (by have:=a.len;simp at this;omega) ?_
  intro A2 c2 e2 k o j f d m
  exact ⟨_,_,_,rfl,_,_,_,rfl,hK _ _ _ _ _ _ (a.trans ⟨j,f,rfl,d,m⟩)⟩
 ·rw [Ka b] at hK
  have e:C0 i=((i.natAbs:Nat):Int):=by rw [E6];omega
  rw [e]
  refine Df (gp.mono p.le) p (by omega) (by omega) ?_
  intro A2 c2 e2 k o j f d m
  exact ⟨_,_,_,rfl,_,_,_,rfl,hK _ _ _ _ _ _ ⟨j,f,rfl,d,m⟩⟩
def A2r{b:Nat}{e:cC}{B:Option bI}{pre post:List dC}{s:List UInt8}(w:Win .u8 h g b e B pre (zb s) post):SlV h B (yv s):=by
 have:=w.sl
 unfold SlI at this
 rw [C3r] at this
 exact this
def La{i:Int}(gp:Gp h)(h1: -9223372036854775808<=i)(h2:i<9223372036854775808)(hK:K (.string (bs (Hs i))) h):aW prog Dq #[I i,I 10] h K:=by
 refine FCall.pure (A2l _ _ ?_)
 unfold Zz
 refine A2b _ _ ?_
 unfold Zn
 refine D9 (fun _=>?_) (fun e=>absurd rfl e)
 refine ⟨fun L o=>L=[.bool (decide (0<=i/\i<100))]/\o=h,B6 (fun g=>⟨by simp [g],rfl⟩) (fun g=>⟨by simp [g],rfl⟩),?_⟩
 rintro w o ⟨C,rfl⟩
 obtain rfl:w=decide (0<=i/\i<100):=by simpa using C
 refine B6 (fun g=>?_) (fun g=>?_)
 ·obtain ⟨k,rfl⟩:∃ k:Nat,i=k:=⟨i.toNat,by omega⟩
  refine Yf (by omega) ⟨_,rfl,⟨_,rfl,B4 _,?_⟩⟩
  rw [Ka (by omega)] at hK
  exact hK
 ·refine Dv A9f ?_
  intro b F
  have G:(Value.agg (fQ 24 (.int .u8 0))).cells=((aE 24 (0:Int)).map (bB .u8)).toArray:=by rfl
  rw [G]
  have q:Win .u8 (o.put b (.cells ((aE 24 (0:Int)).map (bB .u8)).toArray Ty)) o b Ty (some ⟨b,0,none⟩) [] (aE 24 (0:Int)) []:=⟨F,by simp,.inr rfl⟩
  generalize (o.put b (.cells ((aE 24 (0:Int)).map (bB .u8)).toArray Ty))=hp1 at *
  refine ⟨_,rfl,?_⟩
  obtain ⟨u,hu⟩:∃ u:Nat,u=i.natAbs:=⟨_,rfl⟩
  have a:u≠0:=by omega
  have A:O1 u=dd u:=Ag a
  have D:(dd u).length<=20:=R5.2 (by show u<10^20;omega)
  have y:B5 (1+(((dd u).length:Nat):Int))=((1+(dd u).length:Nat):Int):=by rw [B7 (by omega) (by omega)];omega
  have x:=q.sub (l:=1) (m:=1+(dd u).length) (c:=24) (by omega) (by simp;omega) (by simp)
  have r:((aE 24 (0:Int)).drop 1).take (1+(dd u).length-1)=aE (dd u).length 0:=by
   rw [bF,bZ,aI (by omega)];congr 1;omega
  rw [r] at x
  have j:u<10^(dd u).length:=R5.1 (aZ _)
  have p:pad (dd u).length u=dd u:=by simp [pad]
  have n:1+(dd u).length-1=(dd u).length:=by omega
  refine B6 (fun f=>?_) (fun f=>?_)
  ·rw [Ta f,<- hu,A] at hK
   have e:C0 (0-C0 i)=(u:Int):=by rw [E6,E6];omega
   rw [e]
   refine Eb (gp.mono q.le) a (by omega) ⟨_,rfl,?_⟩
   rw [y,aC]
   refine ⟨⟨by omega,by omega⟩,⟨by omega,by omega⟩,?_⟩
   rw [show ((1:Int)).toNat=1 from rfl,n]
   refine Y4 x (by simp) (by omega) j (by omega) ?_
   intro t d
   rw [p] at d
   refine ⟨rfl,B6 (fun _=>?_) (fun s=>absurd f s)⟩
   have H:=q.whole (l:=1) (m:=1+(dd u).length) (by omega) (by simp;omega) (by rw [Hv];omega) d
   refine ⟨⟨by omega,by omega⟩,?_⟩
   rw [show ((0:Int)).toNat=0 from rfl]
   refine H.storeN Nk rfl (by simp) ?_
   intro E B
   refine ⟨⟨by omega,by omega⟩,?_⟩
   have z:=B.sub (l:=0) (m:=1+(dd u).length) (c:=24) (by omega) (by simp [Hv];omega) (by simp [Hv];omega)
   have J:((((aE 24 (0:Int)).take 1++zb (dd u)++(aE 24 (0:Int)).drop (1+(dd u).length)).set 0 45).drop 0).take (1+(dd u).length-0)=zb ([45]++dd u):=by
    rw [cK,bZ,show min 1 24=1 from rfl,show aE 1 (0:Int)=[0] from rfl,aU,List.singleton_append,List.set_cons_zero,bV,Nat.add_comm 1,List.take_succ_cons,dB (Hv _)]
    rfl
   rw [J] at z
   refine Kb Eo.und Ct T7 (A2r z) (by simp;omega) ⟨_,rfl,_,rfl,?_,hK⟩
   exact B.le
  ·rw [Ka f,<- hu,A] at hK
   have e:C0 i=(u:Int):=by rw [E6];omega
   rw [e]
   refine Eb (gp.mono q.le) a (by omega) ⟨_,rfl,?_⟩
   rw [y,aC]
   refine ⟨⟨by omega,by omega⟩,⟨by omega,by omega⟩,?_⟩
   rw [show ((1:Int)).toNat=1 from rfl,n]
   refine Y4 x (by simp) (by omega) j (by omega) ?_
   intro t d
   rw [p] at d
   refine ⟨rfl,B6 (fun s=>absurd s f) (fun _=>?_)⟩
   refine ⟨⟨by omega,by omega⟩,⟨by omega,by omega⟩,?_⟩
   exact Kb Eo.und Ct T7 (A2r d) rfl ⟨_,rfl,_,rfl,d.le,hK⟩
def Xl{s q:List UInt8}(hK:K (.tuple #[.string (bs (if q <+: s then s.drop q.length else s)),.bool (decide (q <+: s))]) h):aW prog Iy #[.string (bs s),.string (bs q)] h K:=by
 refine A2m _ _ ?_
 unfold A00
 refine A2c _ _ ?_
 unfold Zo
 have b:aW prog Is #[.string (bs s),.string (bs q)] h (fun r b=>r= .bool (decide (q <+: s))/\b=h):=by
  refine A2a _ _ ?_
  unfold Zm
  simp only [I7]
  refine B6 (fun a=>?_) (fun a=>?_)
  ·refine ⟨⟨by omega,by omega⟩,?_,trivial⟩
   rw [aC,L0,Lf]
   congr 1
   rw [decide_eq_decide,cK,bV,List.prefix_iff_eq_take]
   exact eq_comm
  ·refine ⟨?_,trivial⟩
   congr 1
   symm
   rw [decide_eq_false_iff_not]
   intro c
   have:=c.length_le
   omega
 refine b.mono ?_
 rintro r d ⟨rfl,rfl⟩
 refine ⟨_,rfl,P6 (B6 (fun a=>?_) (fun a=>?_))⟩
 ·rw [iP a,decide_eq_true a] at hK
  have:=a.length_le
  simp only [I7]
  refine ⟨⟨by omega,by omega⟩,_,_,rfl,?_⟩
  rw [aC,L0,aK (by rw [aN];omega)]
  exact hK
 ·rw [iN a,decide_eq_false a] at hK
  exact ⟨_,_,rfl,hK⟩
end
abbrev cB:Int:=10000000000000000000
section
variable {h g:bC} {K:VP} {A B:Option bI} {ac bc:Nat}
def C4v{Invv:LP}{muv:LN}{WA CA:Option bI}{wn wc cn cc:Nat}{us:List Int}{hp1 g1:bC}(p:Pw hp1 g1 WA wn wc us)(hne:us≠[])(hwn:wn=us.length)(du:Dig b64 us)(hl:wn<=100000000)
 (hK:∀ (ws:List Int) (m:Nat) (r:Int) (hp2:bC),Pw hp2 g1 WA m wc (ws.take m)->m=(ws.take m).length->m<=wn->fU (ws.take m)->Dig b64 (ws.take m)->val b64 us=val b64 (ws.take m)*cB+r->(0<=r/\r<cB)->
  wpH prog (Instr.buildSlice Z7 1 #[(0,U r)]) (fun v hp6=>∃ (t44A:Option bI) (t44n:Nat) (t44c:Nat),v= .slice t44A t44n t44c/\wpH prog (dQ #[Z7,Z7] Z7 #[.slice CA cn cc,.slice t44A t44n t44c]) (fun v1 hp7=>∃ (t45A:Option bI) (t45n:Nat) (t45c:Nat),v1= .slice t45A t45n t45c/\Invv [.slice WA m wc,.slice t45A t45n t45c] hp7/\muv [.slice WA m wc,.slice t45A t45n t45c] hp7<muv [.slice WA wn wc,.slice CA cn cc] hp1) hp6) hp2):
 Dg prog Invv muv WA wn wc CA cn cc hp1:=by
 obtain ⟨b,g,O,S⟩:=Fp p hne
 unfold Dg
 refine ⟨fun s M=>∃ (k:Nat) (r:Int) (ws:List Int),s=[U r,I ((k:Int)-1)]/\k<=wn/\(0<=r/\r<cB)/\ws.length=us.length/\Dig b64 ws/\Win .u64 M g1 b C1 WA [] ws g/\ws.take k=us.take k/\val b64 (us.drop k)=val b64 (ws.drop k)*cB+r,fun s _=>(iAt s 1+1).toNat,⟨wn,0,us,by rw [B7 (by omega) (by omega)],by omega,by decide,rfl,du,O,rfl,by rw [aY (by omega)];simp [val]⟩,?_⟩
 rintro c i hp2 ⟨k,r,ws,L,R,t,d,o,w,f,u⟩
 obtain ⟨rfl,rfl⟩:c=r/\i=(k:Int)-1:=by simpa using L
 refine B6 (fun G=>?_) (fun G=>?_)
 ·obtain ⟨j,rfl⟩:∃ j,k=j+1:=⟨k-1,by omega⟩
  have e:((j+1:Nat):Int)-1=(j:Int):=by omega
  rw [e]
  have F:=O2 o j
  refine w.sl.load (by omega) (by omega) (by omega) ?_
  rw [aC]
  refine Ts (y:=10000000000000000000) t F (by decide) ⟨_,_,rfl,?_⟩
  have H:us.getD j 0=ws.getD j 0:=by
   have n:(ws.take (j+1)).getD j 0=(us.take (j+1)).getD j 0:=by rw [f]
   simpa [cU,List.getElem?_take] using n.symm
  generalize hx:ws.getD j 0=x at *
  have E:0<=c/\c<10000000000000000000:=t
  have T:0<=c*18446744073709551616+x:=by omega
  have J:0<=(c*18446744073709551616+x)/10000000000000000000/\(c*18446744073709551616+x)/10000000000000000000<18446744073709551616:=by omega
  obtain ⟨a,B,_⟩:=SlV.at w.sl (i:=j) (by simp;omega)
  refine ⟨a,B,by omega,by omega,w.storeN F5 B (by omega) ?_⟩
  intro Q N
  rw [B7 (by omega) (by omega)]
  refine ⟨⟨j,_,_,rfl,by omega,by show _/\_<(10000000000000000000:Int);omega,by simpa using d,o.set J,N,?_,?_⟩,by simp only [iAt,aG,aL];omega⟩
  ·rw [fW (by omega)]
   have n:=congrArg (List.take j) f
   rw [List.take_take,List.take_take,aI (by omega)] at n
   exact n
  ·rw [W8 (by omega),Nj b64 (by omega),u,H]
   have:=aO (c*18446744073709551616+x) 10000000000000000000
   simp only [val]
   generalize (c*18446744073709551616+x)/10000000000000000000=q at *
   generalize (c*18446744073709551616+x)%10000000000000000000=s at *
   grind
 ·obtain rfl:k=0:=by omega
  rw [cK,cK] at u
  rw [show wn=ws.length by omega] at hK ⊢
  refine El w.sl (by omega) (by omega) ?_
  intro m A C z
  refine ⟨_,_,_,rfl,?_⟩
  have l:ws≠[]:=by intro D;apply hne;exact aM (by rw [<- d,D];rfl)
  exact hK ws m c hp2 (w.priv l (by omega) A) (by rw [aF];omega) A C (o.take m) (by rw [z];exact u) t
end
