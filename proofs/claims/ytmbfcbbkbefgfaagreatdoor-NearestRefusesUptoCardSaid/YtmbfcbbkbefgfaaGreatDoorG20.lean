/- A part. -/
import Derived.Test.YtmbfcbbkbefgfaaGreatDoorG18
import Derived.Test.YtmbfcbbkbefgfaaGreatDoorG19
import Derived.Test.YtmbfcbbkbefgfaaGreatDoorG10
open Go.Proofs.Tryz
set_option linter.all false
open _root_.Go.Addr renaming add->eE
open _root_.Array renaming replicate->fQ
open Bool renaming false_eq_true->eS
open _root_.Go.Builtin renaming zeroCells->dF,append_->dQ,copy_->fB,lenOf->fY
open _root_.ByteArray renaming size->eR
open _root_.Go.Extern.MathBitsCarry renaming m64->aX,pair->gN
open _root_.Go.Instr renaming storeAt->dO
open Int renaming toNat_natCast->aC,mul_le_mul_of_nonneg_right->aD,mul_le_mul_of_nonneg_left->aJ,mul_ediv_add_emod->aO,emod_lt_of_pos->aP,le_of_lt->aQ,mul_comm->aR,mul_nonneg->aS,emod_nonneg->aT,pow_add->bD,pow_succ->bG,tdiv_eq_ediv_of_nonneg->bH,ediv_lt_of_lt_mul->bJ,pow_pos->bL,mul_lt_mul_of_pos_right->bM,ediv_eq_zero_of_lt->bU,tmod_eq_emod_of_nonneg->bW,ediv_nonneg->bY,natCast_mul->cD,ofNat_tdiv->cL,tdiv->cM,natAbs_natCast->cN,mul_lt_mul_of_pos_left->cO,mul_assoc->cX,mul_add->cY,lt_of_le_of_lt->dA,ofNat_tmod->dI,zero_add->dL,tmod->dN,gcd_natCast_natCast->dR,eq_ofNat_of_zero_le->dS,natCast_ediv->dZ,fdiv->eD,sign_eq_neg_one_of_neg->eO,mul_le_mul->eP,fdiv_eq_ediv_of_nonneg->eQ,ediv_le_self->fE,ediv_ediv_of_nonneg->fF,zero_mul->fI,sign_eq_one_of_pos->fJ,mul_zero->fK,add_zero->fL,add_mul_ediv_right->fM,add_comm->fN,natCast_add->fP,add_mul_ediv_left->fS,mul_ediv_cancel->fX,gcd->gD,emod_eq_of_lt->gE,natCast_emod->gH,add_mul_emod_self_right->gL,zero_emod->gQ,toNat_pow_of_nonneg->gU,pow_zero->hO
open List renaming replicate->aE,length_take->aF,getElem?_cons_zero->aG,length_append->aH,take_of_length_le->aK,getElem?_cons_succ->aL,eq_nil_of_length_eq_zero->aM,length_drop->aN,append_assoc->aU,take_length->aV,drop_of_length_le->aY,drop_replicate->bF,length_set->bN,append_nil->bX,take_replicate->bZ,drop_eq_getElem_cons->cH,take_append_drop->cI,take_append_of_le_length->cJ,drop_zero->cK,length_replicate->cP,getElem?_eq_none->cQ,nil_append->cT,getD->cU,take_left'->dB,length_singleton->dD,getElem?_toArray->dE,drop_drop->dH,take_append->dK,getElem?_eq_getElem->dM,map_append->dP,take_succ_eq_append_getElem->dV,replicate_append_replicate->dX,drop_append_of_le_length->eC,drop_left'->eI,drop_length->fD,length_map->fO,set_append_right->fR,mem_of_mem_take->fT,take_set_of_le->fW,getElem_mem->gF,drop_append->gG,length_nil->gK,getElem?_append_right->gM,take_add->gP,getElem?_set_self->hG
open List.cons renaming injEq->bO
open Nat renaming min_eq_left->aI,le_refl->aZ,pow_le_pow_right->bK,sub_zero->bV,mul_one->cF,add_sub_cancel_left->cG,pow_pos->cW,lt_of_lt_of_le->cZ,pow_succ->dT,add_zero->dU,gcd->eA,pow_add->eB,div_le_self->eF,div_add_mod->eG,pow_le_pow_left->eJ,le_trans->eK,mod_lt->eM,one_mul->eV,add_mul->eZ,mul_assoc->fA,min_eq_right->fC,zero_add->fG,mul_comm->fH,mul_le_mul_left->fV,sub_self->gC,mul_add->gI,pow_lt_pow_iff_right->gO,testBit_two_pow_mul->gR,mul_div_cancel_left->gS,zero_mul->gV,le_mul_of_pos_left->gW,gcd_sub_self_right->gX,gcd_comm->gY,div_div_eq_div_mul->gZ
open Nat.Coprime renaming gcd_mul_left_cancel_right->dJ
open Option renaming map_some->gJ
open Option.some renaming injEq->fZ
open _root_.Go.Value renaming int->bB
open _root_.Go.Value.int renaming injEq->cR
open _root_.Go.Value.slice renaming injEq->cV
open _root_.Go renaming Addr->bI,TypeId->cC,Value->dC,Program->dG,IntKind->dY
open _root_.Go.Proofs.YtmbfcbbkbefgfaaGreatDoor renaming FCall->aW,Heap->bC,Priv->eU,Norm->fU
namespace Go.Proofs.YtmbfcbbkbefgfaaGreatDoor
set_option maxRecDepth 20000
open Go
def Cm:prog.underlying F8=some (.int .u8):=by kernel_rfl
def T1:prog.underlying B1p=some .string:=by kernel_rfl
def pv:List Nat->Nat
 | []=>0
 | d::r=>d+1000000000*pv r
def C10(ps:List Nat)(d:Nat):pv (ps++[d])=pv ps+10^(9*ps.length)*d:=by
 induction ps with
 | nil=>simp [pv]
 | cons p ps ih=>
  simp only [List.cons_append,pv,ih,List.length_cons]
  rw [show 9*(ps.length+1)=9*ps.length+9 by omega,eB,show 10^9=1000000000 by decide]
  grind
def B01(ps:List Nat)(k:Nat):pv (ps.drop k)<=pv ps:=by
 induction ps generalizing k with
 | nil=>simp
 | cons p ps ih=>
  cases k with
  | zero=>simp
  | succ k=>have:=ih k;simp only [List.drop_succ_cons,pv];omega
def C11{ps:List Nat}{k:Nat}(h:k<ps.length):pv (ps.drop k)=ps[k]+1000000000*pv (ps.drop (k+1)):=by
 rw [cH h];rfl
def pw(e:Nat):Nat:=if e=0 then 0 else 10^(e-1)
def A0i(e:Nat):pw (e+1)=10^e:=by simp [pw]
def B2p(e:Nat):pw (e+1)/10=pw e:=by
 rw [A0i]
 cases e with
 | zero=>simp [pw]
 | succ e=>rw [A0i,dT,Nat.mul_div_cancel _ (by decide)]
def C1p(V d:Nat)(hd:d<10):dd (10*V+d)=if V≠0\/d≠0 then dd V++[dch d] else dd V:=by
 by_cases h:10*V+d=0
 ·have b:V=0:=by omega
  have a:d=0:=by omega
  subst b a
  simp
 ·rw [iP (by omega),T6 h,show (10*V+d)/10=V by omega,show (10*V+d)%10=d by omega]
def B0h(n:Nat):(dd n).length=0↔n=0:=by
 constructor
 ·intro h
  by_cases a:n=0
  ·exact a
  ·exact absurd (aM h) (B7o a)
 ·rintro rfl;rw [I8];rfl
section
variable {h h':bC} {K:VP} {A B:Option bI} {n c n' c':Nat} {s s':Bool} {x y z:Int} {m:Nat} {p q:Rat} {a b w:QV}
def Vv(i:NI h s A n c z)(hz:ZB m z)(hm:m<=1000000000)(hK:K (.string (bs (N8 z.natAbs))) h):aW prog Ol #[.agg #[.bool s,.slice A n c]] h K:=by
 have h0:=i.zero_iff
 have aw:=i.len hz hm
 refine FCall.pure (B14 _ _ _ _ ?_)
 unfold B5p
 refine D8 (fun e=>?_) (fun e=>?_)
 ·have:z=0:=h0.1 (by omega)
  subst this
  exact ⟨B3 h,hK⟩
 ·have a9:z≠0:=fun e1=>e (by have:=h0.2 e1;omega)
  generalize hZ:z.natAbs=Z at *
  have ba:Z<2^m:=by rw [<- hZ];exact hz
  rw [Z8 (show Z≠0 by omega)] at hK
  have x:=i.mag
  rw [hZ] at x
  refine ⟨fun l q=>∃ (b:List Nat) (X:Nat) (A B:Option bI) (c J mc:Nat) (g:bC),l=[.slice A b.length c,.slice B J mc]/\h.le g/\eU q g C3 1 A b.length c (b.map fun (d:Nat)=>U32 (d:Int))/\Mg g B J X/\J<=100000000/\(∀ d∈b,d<1000000000)/\Z=pv b+10^(9*b.length)*X/\29*b.length<=m+29,fun l q=>match l with|[_,.slice B n _]=>B37 b32 q B n|_=>0,⟨[],Z,none,A,0,n,c,h,rfl,B3 h,Priv.nil _ _ _ _,x,aw,by simp,by simp [pv],by simp⟩,?_⟩
  rintro A1 n1 c1 B1 J mc q ⟨b,X,A1',B1',al,ax,az,g,hl,N,P1,M1,q1,S,p,a4⟩
  obtain ⟨⟨rfl,rfl,rfl⟩,rfl,rfl,rfl⟩:(A1=A1'/\n1=b.length/\c1=al)/\B1=B1'/\J=ax/\mc=az:=by simpa using hl
  have bb:=M1.len_zero (by decide)
  refine B6 (fun h1=>?_) (fun h1=>?_)
  ·have hX:X≠0:=by omega
   have a7:29*b.length<m:=by
    have h2:2^(29*b.length)<=10^(9*b.length):=by
     rw [Nat.pow_mul,Nat.pow_mul]
     exact eJ (by decide) _
    have h3:10^(9*b.length)*1<=10^(9*b.length)*X:=fV _ (by omega)
    exact (gO (a:=2) (by decide)).1 (by omega)
   refine P1.call ?_
   refine Nf M1 (by decide) q1 ?_
   intro A2 m2 c2 h2 l2 k2 k3 M2 h3 P3
   refine ⟨_,_,_,_,rfl,?_⟩
   have O:((X:Int)%1000000000)=((X%1000000000:Nat):Int):=by omega
   have M:((X:Int)/1000000000)=((X/1000000000:Nat):Int):=by omega
   rw [M] at M2
   rw [O]
   refine Ds Pv P3 rfl rfl (by omega) (by omega) ?_
   intro A4 c4 h4 g4 l4 P4
   have M4:Mg g4 A2 m2 ((X/1000000000:Nat):Int):=M2.mono l4
   refine ⟨⟨b++[X%1000000000],X/1000000000,A4,A2,c4,m2,c2,g4,by simp,Heap.le_trans N (Heap.le_trans l2 l4),by simpa using P4,M4,by omega,?_,?_,?_⟩,?_⟩
   ·intro d hd
    rcases List.mem_append.1 hd with u|u
    ·exact S d u
    ·rw [List.mem_singleton.1 u];exact eM _ (by decide)
   ·rw [C10,aH,dD,gI,eB,p,Nat.add_assoc,fA,<- gI,show 10^(9*1)=1000000000 by decide,Nat.mod_add_div]
   ·rw [aH,dD];omega
   ·show B37 b32 h4 A2 m2<B37 b32 q B1 J
    rw [Am (M4.mono P4.le),Am (M1.mono P1.le)]
    simp only [aC]
    exact Nat.div_lt_self (by omega) (by decide)
  ·have hX:X=0:=by omega
   subst hX
   rw [Nat.mul_zero,dU] at p
   have av:SlV q A1 (b.map fun (d:Nat)=>U32 (d:Int)):=P1.slV
   have a8:b.length≠0:=by
    intro e0
    rw [aM e0] at p
    simp [pv] at p;omega
   have af:∀ V,V<=Z->(dd V).length<=m:=by
    intro V hV
    apply Q9.2
    have:2^m<=10^m:=eJ (by decide) _
    omega
   have e1:B4 ((b.length:Int)-1)=(b.length:Int)-1:=B7 (by omega) (by omega)
   rw [e1]
   refine ⟨fun l h4=>∃ (k:Nat) (A:Option bI) (n c:Nat) (g:bC),l=[.slice A n c,I ((k:Int)-1)]/\k<=b.length/\q.le g/\n=(dd (pv (b.drop k))).length/\eU h4 g F8 1 A n c (yv (dd (pv (b.drop k)))),fun l _=>(iAt l 1+1).toNat,⟨b.length,none,0,0,q,rfl,aZ _,B3 q,by simp [pv,I8],by simpa [pv,I8,yv] using Priv.nil _ _ _ _⟩,?_⟩
   rintro A2 n2 c2 i2 h4 ⟨k,A2',ak,am,g4,ag,hk,lg,E,P2⟩
   obtain ⟨⟨rfl,rfl,rfl⟩,rfl⟩:(A2=A2'/\n2=ak/\c2=am)/\i2=(k:Int)-1:=by simpa using ag
   refine B6 (fun h2=>?_) (fun h2=>?_)
   ·obtain ⟨j,rfl⟩:∃ j,k=j+1:=⟨k-1,by omega⟩
    have ej:((j+1:Nat):Int)-1=(j:Int):=by omega
    rw [ej]
    have hj:j<b.length:=by omega
    have an:=C11 hj
    have F:b[j]<1000000000:=S _ (gF hj)
    have a6:=B01 b j
    refine ⟨fun l u=>∃ (e:Nat) (A:Option bI) (n c:Nat) (g:bC),l=[.slice A n c,U32 (pw e:Int)]/\e<=9/\q.le g/\n=(dd (pv (b.drop (j+1))*10^(9-e)+b[j]/10^e)).length/\eU u g F8 1 A n c (yv (dd (pv (b.drop (j+1))*10^(9-e)+b[j]/10^e))),fun l _=>(iAt l 1).toNat,⟨9,A2,n2,c2,g4,rfl,by omega,lg,?_,?_⟩,?_⟩
    ·rw [Nat.div_eq_of_lt (by simpa using F)];simpa using E
    ·rw [Nat.div_eq_of_lt (by simpa using F)];simpa using P2
    rintro A5 W c5 d u ⟨e,A5',aq,ar,g5,ah,he,t,r,P5⟩
    obtain ⟨⟨rfl,rfl,rfl⟩,rfl⟩:(A5=A5'/\W=aq/\c5=ar)/\d=(pw e:Int):=by simpa using ah
    generalize hV:pv (b.drop (j+1))*10^(9-e)+b[j]/10^e=V at *
    refine B6 (fun Q=>?_) (fun Q=>?_)
    ·obtain ⟨f,rfl⟩:∃ f,e=f+1:=by
      cases e with
      | zero=>simp [pw] at Q
      | succ f=>exact ⟨f,rfl⟩
     have G:pw (f+1)=10^f:=A0i f
     have ac:0<10^f:=cW (by decide)
     have a5:10^f<=100000000:=by
      have:10^f<=10^8:=bK (by decide) (by omega)
      simpa using this
     have y:pv (b.drop (j+1))*10^(9-f)+b[j]/10^f=10*V+b[j]/10^f%10:=by
      rw [<- hV,show 9-f=(9-(f+1))+1 by omega,dT,dT,<- gZ,gI]
      have:=eG (b[j]/10^f) 10
      grind
     have L:10*V+b[j]/10^f%10<=Z:=by
      rw [<- y]
      have H:10^(9-f)*10^f=1000000000:=by rw [<- eB,show 9-f+f=9 by omega]
      have t2:10^(9-f)<=1000000000:=by rw [<- H];exact Nat.le_mul_of_pos_right _ ac
      have t3:pv (b.drop (j+1))*10^(9-f)<=pv (b.drop (j+1))*1000000000:=fV _ t2
      have t4:=eF b[j] (10^f)
      omega
     have ec:wu8 (F6 ((48:Int)+dN (F6 (cM (b[j]:Int) ((pw (f+1):Nat):Int))) 10))=((48+b[j]/10^f%10:Nat):Int):=by
      rw [G]
      have H:cM (b[j]:Int) ((10^f:Nat):Int)=((b[j]/10^f:Nat):Int):=by rw [<- cL]
      rw [H]
      have t2:b[j]/10^f<1000000000:=Nat.lt_of_le_of_lt (eF _ _) F
      clear H
      generalize b[j]/10^f=D at t2 ⊢
      rw [O1 (n:=(D:Int)) (by omega) (by omega)]
      have t3:dN (D:Int) 10=((D%10:Nat):Int):=by
       rw [bW (by omega)];omega
      rw [t3,O1 (by omega) (by omega),Yc (by omega) (by omega)];omega
     have w:b[j]/10^f%10<10:=eM _ (by decide)
     have R:SlV u A1 (b.map fun (d:Nat)=>U32 (d:Int)):=av.mono (Heap.le_trans t P5.le)
     refine ⟨fun l Q=>∃ (A:Option bI) (n c:Nat) (g:bC),l=[.slice A n c]/\q.le g/\n=(dd (10*V+b[j]/10^f%10)).length/\eU Q g F8 1 A n c (yv (dd (10*V+b[j]/10^f%10))),?_,?_⟩
     ·obtain ⟨ad,a2,C⟩:=SlV.at R (i:=j) (by simpa using hj)
      refine ⟨ad,a2,by omega,by omega,(b[j]:Int),by rw [aC,cF,C];simp,?_⟩
      refine B6 (fun e0=>absurd e0 (by omega)) (fun _=>?_)
      rw [ec]
      have o:=C1p V (b[j]/10^f%10) w
      have a0:=B0h V
      refine ⟨fun l T=>l=[.bool (decide (V≠0\/b[j]/10^f%10≠0))]/\T=u,B6 (fun T=>⟨?_,rfl⟩) (fun T=>⟨?_,rfl⟩),?_⟩
      ·have:V≠0:=by omega
       simp [this]
      ·have:V=0:=by omega
       have e2:∀ D:Nat,(((48+D:Nat):Int) != 48)=decide (V≠0\/D≠0):=by
        intro D
        rw [Bool.eq_iff_iff,bne_iff_ne,decide_eq_true_iff];omega
       rw [e2]
      rintro tb T ⟨aj,rfl⟩
      obtain rfl:tb=decide (V≠0\/b[j]/10^f%10≠0):=by simpa using aj
      refine B6 (fun h8=>?_) (fun h8=>?_)
      ·rw [iP h8] at o
       have a3:=af _ L
       rw [o,aH,dD] at a3
       refine Ds Eg P5 rfl rfl (by omega) (by omega) ?_
       intro A9 c9 h9 g9 l9 P9
       refine ⟨A9,W+1,c9,g9,rfl,Heap.le_trans t l9,by rw [o,aH,r];rfl,?_⟩
       rw [o,T9]
       have:yv [dch (b[j]/10^f%10)]=[Y ((48+b[j]/10^f%10:Nat):Int)]:=by
        simp only [yv,List.map_cons,List.map_nil,Ew w]
       rw [this];exact P9
      ·rw [iN h8] at o
       exact ⟨A5,W,c5,g5,rfl,t,by rw [o];exact r,by rw [o];exact P5⟩
     ·rintro A9 n9 c9 h9 ⟨A9',ao,ap,g9,a1,ay,au,P9⟩
      obtain ⟨rfl,rfl,rfl⟩:A9=A9'/\n9=ao/\c9=ap:=by simpa using a1
      have ed:F6 (cM ((pw (f+1):Nat):Int) 10)=((pw f:Nat):Int):=by
       have H:cM ((pw (f+1):Nat):Int) 10=((pw (f+1)/10:Nat):Int):=by rw [dZ,bH (by omega)];rfl
       rw [H,B2p,O1 (by omega) (by have:=B2p f;rw [G] at this;omega)]
      rw [ed]
      refine ⟨⟨f,A9,n9,c9,g9,rfl,by omega,ay,by rw [y];exact au,by rw [y];exact P9⟩,?_⟩
      simp only [iAt,aG,aL,aC]
      have:=B2p f
      rw [G] at this ⊢
      omega
    ·have aa:e=0:=by
      cases e with
      | zero=>rfl
      | succ f=>rw [A0i] at Q;have:0<10^f:=cW (by decide);omega
     subst aa
     have ai:V=pv (b.drop j):=by rw [<- hV,an];simp;omega
     rw [ai] at P5 r
     rw [B7 (by omega) (by omega)]
     exact ⟨⟨j,A5,W,c5,g5,rfl,by omega,t,r,P5⟩,by simp only [iAt,aG,aL];omega⟩
   ·have ae:k=0:=by omega
    subst ae
    rw [cK,<- p] at P2 E
    refine Jq Eg.und Cm T1 P2.slV E ?_
    exact ⟨_,rfl,Heap.le_trans N (Heap.le_trans P1.le (Heap.le_trans lg P2.le)),hK⟩
end
def Yz(a:Array UInt8):({ data:=a }:ByteArray)=bs a.toList:=by simp [bs]
def Cu{l:List UInt8}(h:∀ c∈l,G9 c):J4 l<2^(4*l.length):=by
 have d:=Gr h
 have b:10^l.length<=16^l.length:=eJ (by decide) _
 have a:16^l.length=2^(4*l.length):=by rw [Nat.pow_mul]
 omega
def B99{h:bC}{A:Option bI}{n m:Nat}{X:Nat}(M:Mg h A n X)(hx:X<2^m)(hm:m<=1000000000):n<=100000000:=by
 have:=B3c (j:=32) (by decide) M (m:=m) (by have:((X:Nat):Int)<((2^m:Nat):Int):=by omega
                                            simpa using this)
 omega
section
variable {h h':bC} {K:VP} {A B:Option bI} {n c n' c':Nat} {s s':Bool} {x y z:Int} {m:Nat} {p q:Rat} {a b w:QV} {l:List UInt8}
def If(hl:l.length<=200000000)(hK:∀ s A n c ok h',h.le h'->(ok=true->(∀ c∈l,G9 c)/\l≠[]/\NI h' s A n c (J4 l))->(ok=false->¬ ((∀ c∈l,G9 c)/\l≠[]))->K (.tuple #[.agg #[.bool s,.slice A n c],.bool ok]) h'):aW prog Bp #[.string (bs l)] h K:=by
 refine Xw _ ?_
 unfold Ww
 simp only [H9]
 refine ⟨fun L E=>∃ (i:Nat) (A:Option bI) (n c:Nat),L=[.slice A n c,I i,.bool false,.slice none 0 0]/\i<=l.length/\h.le E/\(∀ c∈l.take i,G9 c)/\Mg E A n (J4 (l.take i))/\n<=c,fun L _=>l.length-(iAt L 1).toNat,⟨0,none,0,0,rfl,by omega,B3 h,by simp,Mag.zero,aZ _⟩,?_⟩
 rintro A1 n1 c1 S O A2 n2 c2 E ⟨i,A1',W,J,hL,hi,w,d,M,x⟩
 obtain ⟨⟨rfl,rfl,rfl⟩,rfl,rfl,rfl,rfl,rfl⟩:(A1=A1'/\n1=W/\c1=J)/\S=(i:Int)/\O=false/\A2=none/\n2=0/\c2=0:=by simpa using hL
 refine B6 (fun h1=>?_) (fun h1=>?_)
 ·refine ⟨fun L hq=>∃ (k:Nat),L=[I ((i+k:Nat):Int),U32 (J4 ((l.drop i).take k):Nat),U32 ((10^k:Nat):Int),.bool false,.slice none 0 0]/\0<k/\k<=9/\i+k<=l.length/\hq=E/\(∀ c∈(l.drop i).take k,G9 c),?_,?_⟩
  ·refine ⟨fun L hq=>∃ (k:Nat),L=[I ((i+k:Nat):Int),U32 (J4 ((l.drop i).take k):Nat),U32 ((10^k:Nat):Int),I k,.bool false,.slice none 0 0]/\k<=9/\i+k<=l.length/\hq=E/\(∀ c∈(l.drop i).take k,G9 c),fun L _=>9-(iAt L 3).toNat,⟨0,by simp [J4],by omega,by omega,rfl,by simp⟩,?_⟩
   rintro i2 v f k2 z A3 R c3 Z ⟨k,t,u,o,rfl,a⟩
   obtain ⟨rfl,rfl,rfl,rfl,rfl,rfl,rfl,rfl⟩:i2=((i+k:Nat):Int)/\v=((J4 ((l.drop i).take k):Nat):Int)/\f=((10^k:Nat):Int)/\k2=(k:Int)/\z=false/\A3=none/\R=0/\c3=0:=by simpa using t
   refine B6 (fun h2=>B6 (fun h3=>?_) (fun h3=>?_)) (fun h2=>?_)
   ·have D:i+k<l.length:=by omega
    have j:(bs l)[((i+k:Nat):Int).toNat]? = some l[i+k]:=by rw [aC,Is,dM D]
    have p:¬ G9 l[i+k]->∀ s A n c,K (.tuple #[.agg #[.bool s,.slice A n c],.bool false]) Z:=by
     intro hb s A n c
     exact hK _ _ _ _ _ _ w (fun e=>by cases e) (fun _ ⟨F,_⟩=>hb (F _ (gF D)))
    refine ⟨l[i+k],⟨by omega,j⟩,B6 (fun H=>?_) (fun H=>?_)⟩
    ·exact p (fun hd=>by unfold G9 at hd;omega) _ _ _ _
    ·refine ⟨l[i+k],⟨by omega,j⟩,B6 (fun F=>?_) (fun F=>?_)⟩
     ·exact p (fun hd=>by unfold G9 at hd;omega) _ _ _ _
     ·have aa:G9 l[i+k]:=by unfold G9;omega
      refine ⟨l[i+k],⟨by omega,j⟩,?_⟩
      have g:(l.drop i).take (k+1)=(l.drop i).take k++[l[i+k]]:=by
       rw [dV (by rw [aN];omega)];simp
      have N:J4 ((l.drop i).take k)<10^k:=by
       have:=Gr a
       rwa [aF,aN,aI (by omega)] at this
      have ad:10^k<=100000000:=by
       have:10^k<=10^8:=bK (by decide) (by omega)
       simpa using this
      have y:B4 (((i+k:Nat):Int)+1)=((i+(k+1):Nat):Int):=by rw [B7 (by omega) (by omega)];omega
      have e2:B4 ((k:Int)+1)=((k+1:Nat):Int):=by rw [B7 (by omega) (by omega)];omega
      have e3:F6 (((10^k:Nat):Int)*10)=((10^(k+1):Nat):Int):=by rw [dT,O1 (by omega) (by omega)];omega
      have e4:F6 (F6 (((J4 ((l.drop i).take k):Nat):Int)*10)+F6 (wu8 ((l[i+k].toNat:Int)-48)))=((J4 ((l.drop i).take (k+1)):Nat):Int):=by
       rw [g,Ip,Yc (by omega) (by omega),O1 (n:=(l[i+k].toNat:Int)-48) (by omega) (by omega),O1 (n:=((J4 ((l.drop i).take k):Nat):Int)*10) (by omega) (by omega),O1 (by omega) (by omega)];omega
      rw [y,e2,e3,e4]
      refine ⟨⟨k+1,rfl,by omega,by omega,rfl,?_⟩,by simp only [iAt,aG,aL];omega⟩
      rw [g]
      intro c x
      rcases List.mem_append.1 x with q|q
      ·exact a c q
      ·rw [List.mem_singleton.1 q];exact aa
   ·exact ⟨k,rfl,by omega,u,o,rfl,a⟩
   ·exact ⟨k,rfl,by omega,u,o,rfl,a⟩
  ·rintro i2 v f C A3 R c3 r ⟨k,t,ag,u,o,rfl,a⟩
   obtain ⟨rfl,rfl,rfl,rfl,rfl,rfl,rfl⟩:i2=((i+k:Nat):Int)/\v=((J4 ((l.drop i).take k):Nat):Int)/\f=((10^k:Nat):Int)/\C=false/\A3=none/\R=0/\c3=0:=by simpa using t
   have N:J4 ((l.drop i).take k)<10^k:=by
    have:=Gr a
    rwa [aF,aN,aI (by omega)] at this
   have ad:0<10^k/\10^k<=1000000000:=by
    have:10^k<=10^9:=bK (by decide) (by omega)
    exact ⟨cW (by decide),by simpa using this⟩
   have V:((l.drop i).take k).length=k:=by rw [aF,aN];omega
   have g:l.take (i+k)=l.take i++(l.drop i).take k:=gP
   have B:∀ c∈l.take (i+k),G9 c:=by
    rw [g];intro c x
    rcases List.mem_append.1 x with q|q
    ·exact d c q
    ·exact a c q
   have T:J4 (l.take (i+k))=J4 (l.take i)*10^k+J4 ((l.drop i).take k):=by rw [g,Gs,V]
   have Q:J4 (l.take i)<2^(4*l.length):=cZ (Cu d) (bK (by decide) (by rw [aF];omega))
   have af:J4 (l.take (i+k))<2^(4*l.length):=cZ (Cu B) (bK (by decide) (by rw [aF];omega))
   have ae:=B99 M Q (by omega)
   refine An Pv rfl ?_
   intro G X
   refine ⟨_,_,_,rfl,?_⟩
   have lf:=Heap.le_put (h:=r) (b:=G) (.cells #[U32 ((10^k:Nat):Int)] C3) X
   have Mf:Mg (r.put G (.cells #[U32 ((10^k:Nat):Int)] C3)) (some ⟨G,0,none⟩) 1 ((10^k:Nat):Int):=
    ⟨[((10^k:Nat):Int)],rfl,SlI.new r G [((10^k:Nat):Int)] C3 _,Dig.one ⟨by omega,by show _<(4294967296:Int);omega⟩,by simp only [fU,List.getLast?_singleton,ne_eq,fZ];omega,W4 _ _⟩
   refine Uz (M.mono lf) Mf ae (by omega) ?_
   intro A4 m4 c4 H l4 k4 M4
   refine ⟨_,_,_,rfl,?_⟩
   refine An Pv rfl ?_
   intro bv ac
   refine ⟨_,_,_,rfl,?_⟩
   have lv:=Heap.le_put (h:=H) (b:=bv) (.cells #[U32 ((J4 ((l.drop i).take k):Nat):Int)] C3) ac
   refine Y8 (xs:=[((J4 ((l.drop i).take k):Nat):Int)]) (SlI.new H bv _ C3 _) (Dig.one ⟨by omega,by show _<(4294967296:Int);omega⟩) (aZ _) (by simp) ?_
   intro m5 k5 M5
   refine ⟨_,_,_,rfl,?_⟩
   rw [W4] at M5
   have e4:((J4 (l.take i):Nat):Int)*((10^k:Nat):Int)=((J4 (l.take i)*10^k:Nat):Int):=by rw [cD]
   rw [e4] at M4
   refine Wd (M4.mono lv) M5 (B99 M4 (m:=4*l.length) (by omega) (by omega)) (by simp at k5;omega) ?_
   intro A6 m6 c6 q l6 k6 M6
   have e6:((J4 (l.take i)*10^k:Nat):Int)+((J4 ((l.drop i).take k):Nat):Int)=((J4 (l.take (i+k)):Nat):Int):=by rw [T];omega
   rw [e6] at M6
   exact ⟨_,_,_,rfl,⟨i+k,A6,m6,c6,rfl,o,Heap.le_trans w (Heap.le_trans lf (Heap.le_trans l4 (Heap.le_trans lv l6))),B,M6,k6⟩,by simp only [iAt,aG,aL];omega⟩
 ·have:i=l.length:=by omega
  subst this
  rw [aV] at d M
  refine N6 M x ?_
  intro s1 S
  refine ⟨_,_,_,_,rfl,?_⟩
  have e:(!((bs l).toList==({ data:=#[] }:ByteArray).toList))=decide (l≠[]):=by
   rw [Yz,Kn];simp
  rw [e]
  refine hK _ _ _ _ _ _ w (fun y=>⟨d,by simpa using y,S⟩) (fun y=>?_)
  have:l=[]:=by simpa using y
  rintro ⟨_,F⟩;exact F this
def Cv{n m:Nat}(h:n<2^m):(N8 n).length<=m+1:=by
 rw [Ov (by omega)]
 have:2^m<=10^(m+1):=eK (eJ (by decide) m) (bK (by decide) (by omega))
 omega
def A2w(i:NQ h w q)(hq:Sz m q)(hm:m<=1000000000)(hK:K (.string (bs (I9 q))) h):aW prog Qp #[w.v] h K:=by
 have f:=i.num.sg
 have c:=i.den_zero
 refine B8e _ _ _ _ _ _ _ _ ?_
 unfold C4a
 have p:=Cv hq.num
 have s:=Cv (n:=q.den) (m:=m) (by have:=hq.den;unfold ZB at this;simpa using this)
 refine Vv i.num hq.num hm ⟨_,rfl,?_⟩
 refine ⟨fun l j=>l=[.string (bs (Hl q.num))]/\j=h,Br.of (fun e=>?_) (fun e=>?_),?_⟩
 ·have a:q.num<0:=by rw [f] at e;simpa using e
  refine ⟨?_,?_,rfl⟩
  ·rw [Yz,H9,H9];simp;omega
  ·rw [Yz,It];unfold Hl;rw [iP a];rfl
 ·have a:¬ q.num<0:=by rw [f] at e;simpa using e
  exact ⟨by unfold Hl;rw [iN a],rfl⟩
 rintro t r ⟨k,rfl⟩
 obtain rfl:t=bs (Hl q.num):=by simpa using k
 have o:(Hl q.num).length<=m+2:=by
  unfold Hl;split
  ·rw [List.length_cons];omega
  ·omega
 refine B6 (fun e=>?_) (fun e=>?_)
 ·have d:¬ q.den=1:=fun g=>by have:=c.2 g;omega
  have b:=i.den
  rw [iN d] at b
  refine Vv b hq.den hm ⟨_,rfl,?_,?_,?_⟩
  ·rw [Yz,H9,H9,cN];simp;omega
  ·rw [Yz,It,H9,H9,cN];simp;omega
  ·rw [Yz,It,It,cN]
   unfold I9 at hK
   rw [iN d] at hK
   exact hK
 ·have d:q.den=1:=c.1 (by omega)
  unfold I9 at hK
  rw [iP d,bX] at hK
  exact hK
def C0p{t a r a' r':List UInt8}(h1:t=a++r)(h2:∀ c∈a,c≠47)(h3:r=[]\/r.head? = some 47)(g1:t=a'++r')(g2:∀ c∈a',c≠47)(g3:r'=[]\/r'.head? = some 47):a=a'/\r=r':=by
 induction a generalizing t a' with
 | nil=>
  cases a' with
  | nil=>simp at h1 g1;exact ⟨rfl,h1.symm.trans g1⟩
  | cons c a'=>
   exfalso
   subst h1
   rcases h3 with h3|h3
   ·subst h3;simp at g1
   ·rw [g1] at h3
    simp at h3
    exact g2 c (by simp) h3
 | cons c a ih=>
  cases a' with
  | nil=>
   exfalso
   subst g1
   rcases g3 with g3|g3
   ·subst g3;simp at h1
   ·rw [h1] at g3
    simp at g3
    exact h2 c (by simp) g3
  | cons c' a'=>
   subst h1
   simp at g1
   obtain ⟨rfl,g1⟩:=g1
   obtain ⟨e,d⟩:=ih rfl (fun x b=>h2 x (by simp [b])) g1 (fun x b=>g2 x (by simp [b]))
   exact ⟨by rw [e],d⟩
def B1t(q:Rat):I9 q=(if q.num<0 then [45] else [])++(N8 q.num.natAbs++(if q.den=1 then [] else 47::N8 q.den)):=by
 unfold I9 Hl;split<;>simp
def B47(n:Nat):∀ c∈N8 n,c≠47:=fun c a=>(A8k (Ox n c a)).2
def Vm{neg:Bool}{q:Rat}(h:neg=decide (q.num<0)):Rat.divInt (if neg=true then -((q.num.natAbs:Nat):Int) else ((q.num.natAbs:Nat):Int)) q.den=q:=by
 have:(if neg=true then -((q.num.natAbs:Nat):Int) else ((q.num.natAbs:Nat):Int))=q.num:=by
  rw [h]
  by_cases a:q.num<0
  ·rw [iP (by simpa using a)];omega
  ·rw [iN (by simpa using a)];omega
 rw [this,Rat.num_divInt_den]
def B2n(hl:l.length<=100000000)(hK1:∀ q,l=I9 q->∀ w h',h.le h'->NQ h' w q->K (.tuple #[w.v,.bool true]) h')(hK0:¬ IsNum l->∀ (w:QV) h',h.le h'->K (.tuple #[w.v,.bool false]) h'):aW prog A6s #[.string (bs l)] h K:=by
 refine B8g _ ?_
 unfold C4c
 simp only [H9]
 refine ⟨fun L h'=>L=[.bool (l.head? == some 45)]/\h'=h,B6 (fun D=>?_) (fun D=>?_),?_⟩
 ·cases l with
  | nil=>simp at D
  | cons c r=>
   refine ⟨c,⟨by omega,by rw [Is];rfl⟩,?_,rfl⟩
   have:((c.toNat:Int)==45)=((c::r).head? == some 45):=by
    rw [Bool.eq_iff_iff,beq_iff_eq,beq_iff_eq,List.head?_cons,fZ]
    constructor
    ·intro e;apply UInt8.toNat_inj.1;show c.toNat=45;omega
    ·rintro rfl;rfl
   rw [this]
 ·have:l=[]:=aM (by omega)
  subst this;exact ⟨rfl,rfl⟩
 rintro neg hp ⟨hL,rfl⟩
 obtain rfl:neg=(l.head? == some 45):=by simpa using hL
 refine ⟨fun L h'=>L=[.string (bs (if (l.head? == some 45) then l.drop 1 else l))]/\h'=hp,Br.of (fun e=>?_) (fun e=>?_),?_⟩
 ·have ag:1<=l.length:=by
   cases l with
   | nil=>simp at e
   | cons _ _=>simp
  refine ⟨⟨by omega,by omega⟩,?_,rfl⟩
  rw [iP e,L3,aK (by rw [aN];show _<=l.length-1;exact aZ _)];rfl
 ·rw [iN (by rw [e];simp)];exact ⟨rfl,rfl⟩
 rintro t0 H ⟨aa,rfl⟩
 generalize ht:(if (l.head? == some 45) then l.drop 1 else l)=t at *
 obtain rfl:t0=bs t:=by simpa using aa
 have ai:t.length<=l.length:=by rw [<- ht];split<;>simp
 have ad:l=(if (l.head? == some 45) then [45] else [])++t:=by
  rw [<- ht]
  cases l with
  | nil=>simp
  | cons c r=>
   by_cases s:c=45
   ·subst s;simp
   ·simp [s]
 have d:∀ q,l=I9 q->(l.head? == some 45)=decide (q.num<0)/\t=N8 q.num.natAbs++(if q.den=1 then [] else 47::N8 q.den):=by
  intro q e
  have f:=Hw q
  rw [<- e] at f
  have hh:=f.head
  refine ⟨hh.symm,?_⟩
  have o:=ad
  rw [<- hh,e,B1t q] at o
  by_cases A:q.num<0
  ·simp [A] at o;exact o.symm
  ·simp [A] at o;exact o.symm
 refine ⟨fun L h'=>∃ a:Nat,L=[I a]/\h'=H/\a<=t.length/\(∀ c∈t.take a,c≠47)/\(t.drop a=[]\/(t.drop a).head? = some 47),?_,?_⟩
 ·simp only [H9]
  refine ⟨fun L h'=>∃ i:Nat,L=[I t.length,I i]/\h'=H/\i<=t.length/\(∀ c∈t.take i,c≠47),fun L _=>t.length-(iAt L 1).toNat,⟨0,rfl,rfl,by omega,by simp⟩,?_⟩
  rintro V i1 al ⟨i,W,rfl,hi,n⟩
  obtain ⟨rfl,rfl⟩:V=(t.length:Int)/\i1=(i:Int):=by simpa using W
  refine B6 (fun D=>?_) (fun D=>?_)
  ·have B:i<t.length:=by omega
   refine ⟨t[i],⟨by omega,by rw [aC,Is,dM B]⟩,D8 (fun h2=>?_) (fun h2=>?_)⟩
   ·refine ⟨i,rfl,rfl,hi,n,.inr ?_⟩
    rw [List.head?_drop,dM B]
    congr 1
    apply UInt8.toNat_inj.1
    show t[i].toNat=47
    omega
   ·rw [B7 (by omega) (by omega)]
    refine ⟨⟨i+1,rfl,rfl,by omega,?_⟩,by simp only [iAt,aG,aL];omega⟩
    rw [dV B]
    intro c s
    rcases List.mem_append.1 s with Q|Q
    ·exact n c Q
    ·rw [List.mem_singleton.1 Q]
     intro e;rw [e] at h2;exact h2 rfl
  ·have:i=t.length:=by omega
   subst this
   exact ⟨t.length,rfl,rfl,aZ _,n,.inl (by simp)⟩
 rintro ao Z ⟨a,ac,rfl,an,n,m⟩
 obtain rfl:=sI1 ac
 simp only [H9,L3,aC,cK,bV]
 refine ⟨⟨by omega,by omega⟩,?_⟩
 have k:t=t.take a++t.drop a:=(cI a t).symm
 have b:∀ q,l=I9 q->t.take a=N8 q.num.natAbs/\t.drop a=(if q.den=1 then [] else 47::N8 q.den):=by
  intro q e
  refine C0p k n m (d q e).2 (B47 _) ?_
  split
  ·left;rfl
  ·right;rfl
 refine If (by rw [aF];omega) ?_
 intro s1 A1 n1 c1 am D E k1 k0
 refine ⟨_,_,_,_,_,rfl,O9 (Br.of (fun e=>?_) (fun e=>?_))⟩
 ·obtain ⟨dg,aj,iN⟩:=k1 e
  have G:ZB (4*l.length) (J4 (t.take a):Int):=by
   unfold ZB
   rw [cN]
   exact cZ (Cu dg) (bK (by decide) (by rw [aF];omega))
  have im:=iN.mag
  rw [cN] at im
  refine N6 im iN.cap ?_
  intro s2 i2
  refine ⟨_,_,_,_,rfl,?_⟩
  have j:ZB (4*l.length) (if (l.head? == some 45)=true then -((J4 (t.take a):Nat):Int) else ((J4 (t.take a):Nat):Int)):=by
   split
   ·exact G.neg
   ·exact G
  have F:∀ (C:Rat) (w:QV) (p:bC),Z.le p->NQ p w C->Sz (4*l.length+1) C->(∀ q,l=I9 q->q=C)->
   aW prog Qp #[w.v] p (fun r5 M=>∃ (t79:ByteArray),r5= .string t79/\Heap.le p M/\K (.tuple #[w.v,.bool (ByteArray.toList t79==ByteArray.toList (bs l))]) M):=by
   intro C w p N O T ae
   refine A2w O T (by omega) ⟨_,rfl,B3 _,?_⟩
   rw [Kn]
   by_cases s:I9 C=l
   ·rw [decide_eq_true s]
    exact hK1 C s.symm w p N O
   ·rw [decide_eq_false s]
    refine hK0 ?_ w p N
    rintro ⟨q,e⟩
    exact s (by rw [<- ae q e];exact e.symm)
  refine B6 (fun o=>?_) (fun o=>?_)
  ·have e3:B4 ((a:Int)+1)=((a+1:Nat):Int):=by rw [B7 (by omega) (by omega)];omega
   rw [e3]
   refine ⟨⟨by omega,by omega⟩,?_⟩
   rw [aC,aK (show (t.drop (a+1)).length<=t.length-(a+1) by rw [aN];omega)]
   have hb:t.drop a=47::t.drop (a+1):=by
    rcases m with A|A
    ·have:=congrArg List.length A;rw [aN] at this;simp at this;omega
    ·rw [List.head?_drop] at A
     have z:a<t.length:=by omega
     rw [dM z] at A
     rw [cH z]
     congr 1
     simpa using A
   refine If (by rw [aN];omega) ?_
   intro s3 A3 n3 c3 ak Q R j1 j0
   have g:∀ q,l=I9 q->q.den≠1/\t.drop (a+1)=N8 q.den:=by
    intro q e
    have:=(b q e).2
    rw [hb] at this
    by_cases y:q.den=1
    ·simp [y] at this
    ·simp [y] at this;exact ⟨y,this⟩
   refine ⟨_,_,_,_,_,rfl,O9 (Br.of (fun X=>?_) (fun X=>?_))⟩
   ·obtain ⟨af,ah,iD⟩:=j1 X
    refine A37 iD ⟨_,rfl,D8 (fun e5=>?_) (fun e5=>?_)⟩
    ·refine hK0 ?_ ⟨false,none,0,0,false,none,0,0⟩ _ (Heap.le_trans E R)
     rintro ⟨q,e⟩
     have S:=(g q e).2
     have h7:((J4 (t.drop (a+1)):Nat):Int)=0:=Int.sign_eq_zero_iff_zero.1 e5
     rw [S,Ai] at h7
     exact q.den_nz (by omega)
    ·have u:((J4 (t.drop (a+1)):Nat):Int)≠0:=fun e6=>e5 (by rw [e6];rfl)
     have x:ZB (4*l.length) (J4 (t.drop (a+1)):Int):=by
      unfold ZB
      rw [cN]
      exact cZ (Cu af) (bK (by decide) (by rw [aN];omega))
     refine Ob (i2.mono R) iD u j x (by omega) ?_
     intro w p N O
     refine ⟨_,_,_,_,_,_,_,_,rfl,?_⟩
     refine F _ w p (Heap.le_trans E (Heap.le_trans R N)) O ((Pk u j x).mono (by omega)) ?_
     intro q e
     rw [(b q e).1,(g q e).2,Ai,Ai]
     exact (Vm (d q e).1).symm
   ·refine hK0 ?_ ⟨false,none,0,0,false,none,0,0⟩ _ (Heap.le_trans E R)
    rintro ⟨q,e⟩
    exact j0 X (by rw [(g q e).2];exact ⟨Ox _,Vu _⟩)
  ·have J:a=t.length:=by omega
   refine F _ ⟨s2,A1,n1,c1,false,none,0,0⟩ D E (NQ.whole i2) (Sz.int (j.mono (by omega)) (by omega)) ?_
   intro q e
   have S:=(b q e).2
   rw [J,fD] at S
   have y:q.den=1:=by
    by_cases y:q.den=1
    ·exact y
    ·simp [y] at S
   rw [(b q e).1,Ai]
   have:=Vm (d q e).1
   rw [y] at this
   rw [<- Kb]
   exact this.symm
 ·refine hK0 ?_ ⟨false,none,0,0,false,none,0,0⟩ _ E
  rintro ⟨q,o⟩
  exact k0 e (by rw [(b q o).1];exact ⟨Ox _,Vu _⟩)
end
def ndg(x:Nat):Nat:=x*78913/262144
def B97:∀ x,x<65->2^x<=10^(ndg x+1)/\(ndg x=0\/10^(ndg x-1)<=2^(x-1))/\ndg x<=19:=by decide
def A4e{n k:Nat}(h1:10^k<=n)(h2:n<10^(k+1)):(dd n).length=k+1:=by
 have a:=(Q9 (n:=n) (k:=k+1)).2 h2
 have b:¬ (dd n).length<=k:=fun e=>by have:=Q9.1 e;omega
 omega
def C3f{d:Nat}(h0:d≠0)(h:d<2^64):(dd d).length=ndg (O0 d)+(if 10^ndg (O0 d)<=d then 1 else 0):=by
 have e:=Iv h
 obtain ⟨j,f⟩:=Fb h0
 obtain ⟨g,b,i⟩:=B97 (O0 d) (by omega)
 split
 ·rename_i a
  exact A4e a (by omega)
 ·rename_i a
  rcases b with b|b
  ·rw [b] at a;simp at a;omega
  ·obtain ⟨k,hk⟩:∃ k,ndg (O0 d)=k+1:=by
    by_cases c:ndg (O0 d)=0
    ·rw [c] at a;simp at a;omega
    ·exact ⟨ndg (O0 d)-1,by omega⟩
   rw [hk] at a b ⊢
   rw [Nat.add_sub_cancel] at b
   rw [dU]
   exact A4e (by omega) (by omega)
def C13(w n:Nat):pad (w+2) n=pad w (n/100)++[dch (n/10%10),dch (n%10)]:=by
 rw [Tj,Tj,gZ];simp
def B2w(n:Nat)(h:n=0):pad 0 n=[]:=by subst h;simp [pad,I8]
abbrev b64:Int:=18446744073709551616
abbrev Mw(h:bC)(A:Option bI)(len:Nat)(n:Int):Prop:=Mag .u64 b64 h A len n
structure Win (k:dY) (h g:bC) (b:Nat) (e:cC) (A:Option bI) (pre:List dC) (xs:List Int) (post:List dC):Prop where
 free:g b=none
 eq:h=g.put b (.cells (pre++xs.map (bB k)++post).toArray e)
 at_:xs=[]\/A=some ⟨b,pre.length,none⟩
section
variable {k:dY} {h g:bC} {b:Nat} {e:cC} {A:Option bI} {pre post:List dC} {xs:List Int}
def Win.le(w:Win k h g b e A pre xs post):g.le h:=by rw [w.eq];exact Heap.le_put _ w.free
def Win.sl(w:Win k h g b e A pre xs post):SlI k h A xs:=by
 rcases w.at_ with rfl|d
 ·exact SlI.nil
 ·right
  refine ⟨_,d,fun i v a=>?_⟩
  rw [w.eq,E6,E7]
  have c:i<(xs.map (bB k)).length:=by
   by_cases f:i<(xs.map (bB k)).length
   ·exact f
   ·rw [cQ (by omega)] at a;cases a
  simp only [dE]
  rw [aU,gM (by omega),cG,List.getElem?_append_left c]
  exact a
def Win.store{P:dG}{t:cC}(one:P.cellsOf t=1/\(P.info? t).isSome=true)(w:Win k h g b e A pre xs post){a:bI}(ha:A=some a){i v:Int}(h0:0<=i)(h1:i<xs.length){K:Unit->bC->Prop}
 (x:∀ h',Win k h' g b e A pre (xs.set i.toNat v) post->K () h'):wpH P (dO t (.pointer (some (eE a (i.toNat*1)))) (.int k v)) K h:=by
 have d:i.toNat<xs.length:=by omega
 have c:A=some ⟨b,pre.length,none⟩:=by
  rcases w.at_ with rfl|c
  ·simp at d
  ·exact c
 rw [ha] at c
 cases c
 rw [w.eq,E6,cF]
 refine Ei one.1 one.2 rfl rfl (by simp;omega) ?_
 refine x _ ⟨w.free,?_,.inr ha⟩
 have:(pre++xs.map (bB k)++post).toArray.setIfInBounds (pre.length+i.toNat) (.int k v)=(pre++(xs.set i.toNat v).map (bB k)++post).toArray:=by
  rw [List.map_set]
  simp only [List.setIfInBounds_toArray,aU]
  congr 1
  rw [fR _ _ (by omega),cG,List.set_append_left _ _ (by simpa using d)]
 rw [this]
def Win.storeN{P:dG}{t:cC}(one:P.cellsOf t=1/\(P.info? t).isSome=true)(w:Win k h g b e A pre xs post){a:bI}(ha:A=some a){i:Nat}{v:Int}(h1:i<xs.length){K:Unit->bC->Prop}
 (x:∀ h',Win k h' g b e A pre (xs.set i v) post->K () h'):wpH P (dO t (.pointer (some (eE a (i*1)))) (.int k v)) K h:=by
 have:=w.store one ha (i:=(i:Int)) (v:=v) (K:=K) (by omega) (by omega) (by simpa using x)
 simpa using this
def Win.call{P:dG}{f:FuncId}{args:Array dC}(w:Win k h g b e A pre xs post){K:VP}(x:aW P f args g (fun r h0=>∀ h',Win k h' h0 b e A pre xs post->K r h')):aW P f args h K:=by
 rw [w.eq]
 exact FCall.frame w.free x fun r h0 a c=>c _ ⟨a,rfl,w.at_⟩
def Win.blk(k:dY)(e:cC){g:bC}{b:Nat}(hb:g b=none)(zs:List Int):Win k (Go.Proofs.YtmbfcbbkbefgfaaGreatDoor.blk k e g b zs) g b e (some ⟨b,0,none⟩) [] zs []:=
 ⟨hb,by simp [Go.Proofs.YtmbfcbbkbefgfaaGreatDoor.blk],.inr rfl⟩
def Win.sub(w:Win k h g b e A pre xs post){l m c:Nat}(hl:l<=m)(hm:m<=xs.length)(hc:xs.length<=c):
 Win k h g b e (J9 A c l 1) (pre++(xs.take l).map (bB k)) ((xs.drop l).take (m-l)) ((xs.drop m).map (bB k)++post):=by
 refine ⟨w.free,?_,?_⟩
 ·rw [w.eq]
  congr 3
  have:xs=xs.take l++((xs.drop l).take (m-l)++xs.drop m):=by
   have f:xs.drop m=(xs.drop l).drop (m-l):=by rw [dH];congr 1;omega
   rw [f,cI,cI]
  conv=>lhs;rw [this]
  simp [dP,aU]
 ·by_cases a:m-l=0
  ·left;simp [a]
  ·right
   rcases w.at_ with rfl|d
   ·simp at hm;omega
   ·unfold J9
    rw [iN (by omega),d]
    simp only [gJ,E6,cF,aH,fO,aF]
    rw [aI (by omega)]
def Win.whole{h' g':bC}(w:Win k h g b e A pre xs post){l m:Nat}(hl:l<=m)(hm:m<=xs.length){B:Option bI}{ys:List Int}(hy:ys.length=m-l)(v:Win k h' g' b e B (pre++(xs.take l).map (bB k)) ys ((xs.drop m).map (bB k)++post)):
 Win k h' g' b e A pre (xs.take l++ys++xs.drop m) post:=by
 refine ⟨v.free,?_,?_⟩
 ·rw [v.eq]
  congr 3
  simp [dP,aU]
 ·rcases w.at_ with rfl|a
  ·left
   simp at hm
   have:ys=[]:=aM (by omega)
   simp [this]
  ·exact .inr a
def Priv.win{n c:Nat}(p:eU h g e 1 A n c (xs.map (bB k)))(hx:xs≠[]):∃ b post,Win k h g b e A [] xs post:=by
 obtain ⟨l,o,f⟩:=p
 rcases f with ⟨m,rfl⟩|⟨b,a,i,d,rfl,q,j⟩
 ·simp at l
  exact absurd (aM (by omega)) hx
 ·refine ⟨b,a.drop (n*1),d,?_,.inr i⟩
  rw [cT,<- j,cI]
end
def Fa{P:dG}{t:cC}(one:P.cellsOf t=1/\(P.info? t).isSome=true){k:dY}{n:Int}{i:Nat}{g:bC}{b:Nat}{e:cC}{zs:List Int}(hi:i<zs.length){K:Unit->bC->Prop}
 (x:K () (blk k e g b (zs.set i n))):wpH P (dO t (.pointer (some (eE ⟨b,0,none⟩ (i*1)))) (.int k n)) K (blk k e g b zs):=by
 have:=R1 (P:=P) (t:=t) one (k:=k) (n:=n) (i:=(i:Int)) (g:=g) (b:=b) (e:=e) (zs:=zs) (K:=K) (by simpa using hi) (by simpa using x)
 simpa using this
def Gt{P:dG}{t e e' ty:cC}{k:dY}{bytes:Nat}(s:SliceT P t e' (.int k 0) 1 bytes){h g:bC}{b:Nat}{A:Option bI}{pre post:List dC}{xs:List Int}{n c m d:Nat}(w:Win k h g b e A pre xs post)(hn:n=xs.length){B:Option bI}{ys:List Int}(sy:SlI k h B ys)(hm:m=ys.length)(hle:ys.length<=xs.length){K:VP}
 (x:∀ h',Win k h' g b e A pre (ys++xs.drop ys.length) post->K (I ys.length) h'):wpH P (fB #[t,t] ty #[.slice A n c,.slice B m d]) K h:=by
 subst hn hm
 obtain ⟨i,o,r,l,q⟩:=s.parts
 unfold fB
 simp only [dE,aG,aL,C5,E9 s.und,N4 o,G2,fY,l]
 have j:Nat.min ys.length xs.length=ys.length:=aI hle
 rw [j]
 refine L6 (s:=1) (cs:=ys.map (bB k)) (by simp) sy ?_
 cases A with
 | none=>
  rcases w.at_ with f|f
  ·subst f
   have:ys=[]:=aM (by simpa using hle)
   subst this
   exact x h (by simpa using w)
  ·cases f
 | some a=>
  simp only [C5]
  rcases w.at_ with f|f
  ·subst f
   have:ys=[]:=aM (by simpa using hle)
   subst this
   exact x h (by simpa using w)
  ·cases f
   rw [w.eq]
   refine J8 (ys.map (bB k)) pre.length 0 (pre++xs.map (bB k)++post) (by simp;omega) (fun v p=>?_) ?_
   ·obtain ⟨u,_,rfl⟩:=List.mem_map.1 p;rfl
   ·refine x _ ⟨w.free,?_,?_⟩
    ·congr 3
     unfold N5
     rw [dU,aU pre,dB rfl,fO]
     rw [gG,aY (show pre.length<=pre.length+ys.length by omega),cG,cT]
     rw [eC (by simpa using hle),<- List.map_drop,dP]
     simp only [aU]
    ·right;rfl
def A80{P:dG}{nm:String}{x y c:Int}(hc:0<=c/\c<=1){f:Nat × Nat × Nat->dC}:Qe P (Extern.MathBitsCarry.three nm #[U x,U y,U c] >>= fun p=>pure (f p))=some (f (x.toNat,y.toNat,c.toNat)):=by
 obtain rfl|rfl:c=0\/c=1:=by omega
 ·rfl
 ·rfl
def B3d:aX=18446744073709551616:=by decide
def Do{h:bC}{K:VP}{x y c:Int}(hx:0<=x/\x<18446744073709551616)(hy:0<=y/\y<18446744073709551616)(hc:0<=c/\c<=1)(hK:K (.tuple #[U ((x+y+c)%18446744073709551616),U ((x+y+c)/18446744073709551616)]) h):ECall prog S6 #[U x,U y,U c] h K:=by
 refine B9d B1b (A80 (P:=prog) hc (f:=fun p=>gN ((p.1+p.2.1+p.2.2)%aX) ((p.1+p.2.1+p.2.2)/aX))) ?_
 have b:((x.toNat+y.toNat+c.toNat)%aX:Nat)=(((x+y+c)%18446744073709551616:Int)):=by
  rw [B3d]
  omega
 have a:((x.toNat+y.toNat+c.toNat)/aX:Nat)=(((x+y+c)/18446744073709551616:Int)):=by
  rw [B3d]
  omega
 show K (.tuple #[U ((x.toNat+y.toNat+c.toNat)%aX:Nat),U ((x.toNat+y.toNat+c.toNat)/aX:Nat)]) h
 rw [b,a];exact hK
def Fo{h:bC}{K:VP}{x y c:Int}(hx:0<=x/\x<18446744073709551616)(hy:0<=y/\y<18446744073709551616)(hc:0<=c/\c<=1)(hK:K (.tuple #[U ((x-y-c)%18446744073709551616),U (if x-y-c<0 then 1 else 0)]) h):ECall prog Bs #[U x,U y,U c] h K:=by
 refine B9d B19 (A80 (P:=prog) hc (f:=fun p=>gN ((p.1+aX-p.2.1-p.2.2)%aX) (if p.1<p.2.1+p.2.2 then 1 else 0))) ?_
 have b:((x.toNat+aX-y.toNat-c.toNat)%aX:Nat)=(((x-y-c)%18446744073709551616:Int)):=by
  rw [B3d]
  omega
 have a:(((if x.toNat<y.toNat+c.toNat then 1 else 0:Nat):Nat):Int)=(if x-y-c<0 then 1 else 0):=by
  split<;>split<;>omega
 show K (.tuple #[U ((x.toNat+aX-y.toNat-c.toNat)%aX:Nat),U ((if x.toNat<y.toNat+c.toNat then 1 else 0:Nat):Nat)]) h
 rw [b,a];exact hK
def Ey(x y:Int):Int:=if x<y then -1 else if x>y then 1 else 0
def B35{h:bC}{K:VP}{x:Int}(hK:K (.bool false) h):aW prog Ka #[I x] h K:=by
 refine A7m _ ?_
 unfold A9h
 have:(x != x)=false:=by simp
 rw [this];exact hK
def B34{h:bC}{K:VP}{x:Int}(hK:K (.bool false) h):aW prog Bq #[U x] h K:=by
 refine Xz _ ?_
 unfold Xa
 have:(x != x)=false:=by simp
 rw [this];exact hK
def B36{h:bC}{K:VP}{x:Int}(hK:K (.bool false) h):aW prog Dh #[I x] h K:=by
 refine A2c _ ?_
 unfold Zu
 have:(x != x)=false:=by simp
 rw [this];exact hK
def B4e{h:bC}{K:VP}{x y:Int}(hK:K (I (Ey x y)) h):aW prog A1h #[I x,I y] h K:=by
 refine B65 _ _ ?_
 unfold C0d
 refine B35 ⟨_,rfl,B35 ⟨_,rfl,?_⟩⟩
 unfold Ey at hK
 refine B6 (fun a=>?_) (fun a=>B6 (fun b=>?_) (fun b=>?_))
 ·rw [iP a] at hK;exact hK
 ·rw [iN a,iP b] at hK;exact hK
 ·rw [iN a,iN b] at hK;exact hK
def B4b{h:bC}{K:VP}{x y:Int}(hK:K (I (Ey x y)) h):aW prog Lr #[U x,U y] h K:=by
 refine A5d _ _ ?_
 unfold A5e
 refine B34 ⟨_,rfl,B34 ⟨_,rfl,?_⟩⟩
 unfold Ey at hK
 refine B6 (fun a=>?_) (fun a=>B6 (fun b=>?_) (fun b=>?_))
 ·rw [iP a] at hK;exact hK
 ·rw [iN a,iP b] at hK;exact hK
 ·rw [iN a,iN b] at hK;exact hK
def B4f{h:bC}{K:VP}{x y:Int}(hK:K (I (Ey x y)) h):aW prog Qz #[I x,I y] h K:=by
 refine A7s _ _ ?_
 unfold A9n
 refine B36 ⟨_,rfl,B36 ⟨_,rfl,?_⟩⟩
 unfold Ey at hK
 refine B6 (fun a=>?_) (fun a=>B6 (fun b=>?_) (fun b=>?_))
 ·rw [iP a] at hK;exact hK
 ·rw [iN a,iP b] at hK;exact hK
 ·rw [iN a,iN b] at hK;exact hK
def Nq{h:bC}{K:VP}{x y:Int}(hx:0<=x/\x<18446744073709551616)(hy:0<=y/\y<18446744073709551616)(hK:K (.tuple #[U (x*y/18446744073709551616),U (x*y%18446744073709551616)]) h):aW prog Gn #[U x,U y] h K:=by
 refine B67 _ _ ?_
 unfold C0e
 rw [Cg hx,Cg hy]
 simp only [Xf]
 obtain ⟨d,e,c,b,a⟩:=A6i hx hy (x1:=x/4294967296) (x0:=x%4294967296) (y1:=y/4294967296) (y0:=y%4294967296) (by omega) (by omega) (by omega) (by omega)
 generalize x/4294967296*(y/4294967296)=p11 at *
 generalize x/4294967296*(y%4294967296)=p10 at *
 generalize x%4294967296*(y/4294967296)=p01 at *
 generalize x%4294967296*(y%4294967296)=p00 at *
 rw [C2 (n:=p00) (by omega) (by omega),C2 (n:=p10) (by omega) (by omega),C2 (n:=p01) (by omega) (by omega),C2 (n:=p11) (by omega) (by omega)]
 rw [C2 (n:=p10+p00/4294967296) (by omega) (by omega),Cg (by omega)]
 rw [C2 (n:=(p10+p00/4294967296)%4294967296+p01) (by omega) (by omega)]
 rw [C2 (n:=p11+(p10+p00/4294967296)/4294967296) (by omega) (by omega),C2 (by omega) (by omega),E4]
 have:p11+(p10+p00/4294967296)/4294967296+((p10+p00/4294967296)%4294967296+p01)/4294967296=x*y/18446744073709551616:=by
  rw [a];omega
 rw [this];exact hK
def S3{h:bC}{K:VP}{x y c:Int}(hx:0<=x/\x<18446744073709551616)(hy:0<=y/\y<18446744073709551616)(hc:0<=c/\c<18446744073709551616)(hK:K (.tuple #[U ((x*y+c)%18446744073709551616),U ((x*y+c)/18446744073709551616)]) h):aW prog N2 #[U x,U y,U c] h K:=by
 have d:0<=x*y/\x*y<=18446744073709551615*18446744073709551615:=⟨aS hx.1 hy.1,eP (by omega) (by omega) hy.1 (by decide)⟩
 refine Wj _ _ _ ?_
 unfold Sf
 refine Nq hx hy ⟨_,_,rfl,?_⟩
 refine Do (by omega) hc (by omega) ⟨_,_,rfl,?_⟩
 rw [C2 (by omega) (by omega)]
 have b:(x*y%18446744073709551616+c+0)%18446744073709551616=(x*y+c)%18446744073709551616:=by omega
 have a:x*y/18446744073709551616+(x*y%18446744073709551616+c+0)/18446744073709551616=(x*y+c)/18446744073709551616:=by omega
 rw [b,a];exact hK
def C1u(a:Array UInt8):({ data:=a }:ByteArray)=bs a.toList:=by simp [bs]
def B3e:List UInt8:=[0,1,2,2,3,3,3,3,4,4,4,4,4,4,4,4,5,5,5,5,5,5,5,5,5,5,5,5,5,5,5,5]++aE 32 6++aE 64 7++aE 128 8
def B09:∀ i,i<256->(B3e[i]?).map UInt8.toNat=some (O0 i):=by decide
def A1u{x s:Nat}(h:2^s<=x):O0 x=s+O0 (x/2^s):=by
 have a:0<2^s:=cW (by decide)
 have b:x/2^s≠0:=by
  have:=Nat.div_pos h a;omega
 have:=Za (l:=x%2^s) (t:=x/2^s) (j:=s) (eM _ a) b
 rw [Nat.mod_add_div] at this
 exact this
def A8i{h:bC}{K:VP}{x:Nat}(hx:x<18446744073709551616)(hK:K (I (O0 x)) h):aW prog Tw #[U x] h K:=by
 refine B68 _ ?_
 unfold C0f
 have p:∀ (y s:Nat),s<=64->eD (y:Int) (2^(min ((s:Int)).toNat 64))=((y/2^s:Nat):Int):=by
  intro y s t
  rw [aC,aI t,eQ _ (aQ (bL (by decide)))]
  simp
 refine ⟨fun l d=>∃ (y n:Nat),l=[U y,I n]/\d=h/\y<4294967296/\O0 x=n+O0 y/\n<=32,B6 (fun i=>?_) (fun i=>?_),?_⟩
 ·refine ⟨x/2^32,32,?_,rfl,by omega,A1u (by omega),by omega⟩
  rw [show (32:Int)=((32:Nat):Int) from rfl,p x 32 (by omega)]
 ·exact ⟨x,0,rfl,rfl,by omega,by omega,by omega⟩
 rintro f g d ⟨y,n,b,rfl,e,a,q⟩
 obtain ⟨rfl,rfl⟩:f=(y:Int)/\g=(n:Int):=by simpa using b
 refine ⟨fun l m=>∃ (y n:Nat),l=[U y,I n]/\m=d/\y<65536/\O0 x=n+O0 y/\n<=48,B6 (fun i=>?_) (fun i=>?_),?_⟩
 ·refine ⟨y/2^16,n+16,?_,rfl,by omega,by rw [a,A1u (x:=y) (s:=16) (by omega)];omega,by omega⟩
  rw [show (16:Int)=((16:Nat):Int) from rfl,p y 16 (by omega),B7 (by omega) (by omega)];rfl
 ·exact ⟨y,n,rfl,rfl,by omega,a,by omega⟩
 clear a e b
 rintro f g d ⟨y,n,b,rfl,e,a,q⟩
 obtain ⟨rfl,rfl⟩:f=(y:Int)/\g=(n:Int):=by simpa using b
 refine ⟨fun l m=>∃ (y n:Nat),l=[U y,I n]/\m=d/\y<256/\O0 x=n+O0 y/\n<=56,B6 (fun i=>?_) (fun i=>?_),?_⟩
 ·refine ⟨y/2^8,n+8,?_,rfl,by omega,by rw [a,A1u (x:=y) (s:=8) (by omega)];omega,by omega⟩
  rw [show (8:Int)=((8:Nat):Int) from rfl,p y 8 (by omega),B7 (by omega) (by omega)];rfl
 ·exact ⟨y,n,rfl,rfl,by omega,a,by omega⟩
 clear a e b
 rintro f g d ⟨y,n,b,rfl,e,a,q⟩
 obtain ⟨rfl,rfl⟩:f=(y:Int)/\g=(n:Int):=by simpa using b
 rw [Yc (by omega) (by omega),aC]
 have j:=B09 y e
 cases hc:B3e[y]? with
 | none=>rw [hc] at j;cases j
 | some c=>
  rw [hc] at j
  have o:c.toNat=O0 y:=by simpa using j
  refine ⟨c,⟨by omega,?_⟩,?_⟩
  ·try unfold A8h
   rw [C1u,Is];exact hc
  ·have r:O0 y<=8:=Iv (k:=8) (by omega)
   rw [o,B7 (n:=((O0 y:Nat):Int)) (by omega) (by omega),B7 (by omega) (by omega),<- fP,<- a]
   exact hK
def R5{h:bC}{K:VP}{x:Nat}(hx:x<18446744073709551616)(hK:K (I ((64-O0 x:Nat):Int)) h):aW prog K3 #[U x] h K:=by
 refine Pp _ ?_
 unfold Jk
 refine A8i hx ⟨_,rfl,?_⟩
 have a:O0 x<=64:=Iv (k:=64) (by omega)
 rw [B7 (by omega) (by omega)]
 have:(64:Int)-((O0 x:Nat):Int)=((64-O0 x:Nat):Int):=by omega
 rw [this];exact hK
def A4h{a b:Int}{s:Nat}(ha:0<=a)(hb:0<=b/\b<2^s)(hab:a*2^s+b<18446744073709551616):bor .u64 (a*2^s) b=a*2^s+b:=by
 have d:0<(2:Int)^s:=bL (by decide)
 have f:0<=a*2^s:=aS ha (by omega)
 rw [A72 (by omega) (by omega)]
 have e:(a*2^s).toNat=2^s*a.toNat:=by
  rw [Int.toNat_mul ha (by omega),fH,gU (by decide)];rfl
 have c:b.toNat<2^s:=by
  have:((2^s:Nat):Int)=(2:Int)^s:=by simp
  omega
 rw [e,A8e c,<- e];omega
def Z9{s:Nat}(hs:s<=64):(2:Int)^s*2^(64-s)=18446744073709551616:=by
 rw [<- bD,show s+(64-s)=64 by omega];decide
def B71{x:Int}{s:Nat}(hs:s<=64):eD x (2^(min s 64))=x/2^s:=by
 rw [aI hs];exact eQ x (aQ (bL (by decide)))
def Est.exact{B top u2 v1 v2 U V:Int}(e:Est B 1 top u2 0 v1 v2 0 U V){q:Int}(h:q*(v1*B+v2)<=top*B+u2):q*V<=U:=by
 have c:=e.hU
 have b:=e.hV
 have d:U=top*B+u2:=by rw [c];omega
 have a:V=v1*B+v2:=by rw [b];omega
 rw [d,a];exact h
section
variable {h:bC} {K:VP}
def B48{T u2 v1 v2 X Y:Int}{hp:bC}{J:Int->bC->Prop}(es:Est 4294967296 1 T u2 0 v1 v2 0 X Y)(_hT:T<18446744073709551616)
 (hJ:∀ q,0<=q->q*Y<=X->X<(q+1)*Y->J q hp):
 ∃ (Inv:Int->Int->bC->Prop) (mu:Int->Int->bC->Nat),Inv (T/v1) (T%v1) hp/\
  ∀ q r hp1,Inv q r hp1->(q>=4294967296->Inv q r hp1)/\0<=q/\q<=4294967297/\0<=r/\r<4294967296/\hp1=hp/\
   (q<4294967296->¬ (q*v2>4294967296*r+u2)->J q hp1)/\
   ((q>=4294967296\/q*v2>4294967296*r+u2)->1<=q/\(r+v1>=4294967296->J (q-1) hp1)/\(r+v1<4294967296->Inv (q-1) (r+v1) hp1/\mu (q-1) (r+v1) hp1<mu q r hp1)):=by
 obtain ⟨E,G⟩:=es.first
 have k:=es.init
 have B:=es.V0
 have A:=es.U0
 have y:=es.v1r
 have l:=es.v2r
 have D:=es.u2r
 have f:=es.top0
 have p:0<=T/v1:=bY f (by omega)
 have m:=aO T v1
 have o:=aT T (show v1≠0 by omega)
 have C:=aP T (show 0<v1 by omega)
 refine ⟨fun q r hp1=>hp1=hp/\0<=q/\q<=4294967297/\0<=r/\r<4294967296/\q*v1+r=T/\X<(q+1)*Y,fun q _ _=>q.toNat,⟨rfl,p,by omega,o,by omega,by rw [aR];exact m,k⟩,?_⟩
 rintro q r hp1 ⟨rfl,i,w,t,s,c,e⟩
 have key:q*(v1*4294967296+v2)=(T-r)*4294967296+q*v2:=by rw [<- c];grind
 refine ⟨fun _=>⟨rfl,i,w,t,s,c,e⟩,i,w,t,s,rfl,fun g F=>hJ q i (es.exact (by omega)) e,fun d=>?_⟩
 have j:X<q*Y:=by
  rcases d with g|g
  ·exact es.big g
  ·exact es.low i (by omega)
 have n:1<=q:=by
  by_cases x:1<=q
  ·exact x
  ·have:q=0:=by omega
   subst this;omega
 have b:X<(q-1+1)*Y:=by rw [Int.sub_add_cancel];exact j
 have a:(q-1)*v1+(r+v1)=T:=by grind
 refine ⟨n,fun z=>?_,fun z=>⟨⟨rfl,by omega,by omega,by omega,by omega,a,b⟩,by show (q-1).toNat<q.toNat;omega⟩⟩
 have u:(q-1)*(v1*4294967296+v2)=(T-(r+v1))*4294967296+(q-1)*v2:=by rw [<- a];grind
 have g:(q-1)*v2<=4294967296*v2:=aD (by omega) l.1
 exact hJ (q-1) (by omega) (es.exact (by omega)) b
def Tz{hi lo:Int}{y:Nat}(hhi:0<=hi/\hi<y)(hlo:0<=lo/\lo<18446744073709551616)(hy:y<18446744073709551616)
 (hK:K (.tuple #[U ((hi*18446744073709551616+lo)/y),U ((hi*18446744073709551616+lo)%y)]) h):aW prog Gq #[U hi,U lo,U y] h K:=by
 refine B69 _ _ _ ?_
 unfold C0g
 refine D8 (fun e=>absurd e (by omega)) (fun _=>?_)
 refine B6 (fun e=>absurd e (by omega)) (fun _=>?_)
 refine D8 (fun e=>?_) (fun a5=>?_)
 ·refine B6 (fun e=>absurd e (by omega)) (fun _=>?_)
  refine B6 (fun e=>absurd e (by omega)) (fun _=>?_)
  subst e
  rw [fI,dL] at hK
  rw [bH hlo.1,bW hlo.1,C2 (bY hlo.1 (by omega)) (dA (fE _ hlo.1) hlo.2)]
  exact hK
 refine R5 hy ⟨_,rfl,?_⟩
 have H:y≠0:=by omega
 obtain ⟨a9,a2⟩:=Fb H
 have a1:O0 y<=64:=Iv (k:=64) (by omega)
 have bb:1<=O0 y:=by unfold O0;rw [iN H];omega
 obtain ⟨s,hs⟩:∃ s,s=64-O0 y:=⟨_,rfl⟩
 rw [<- hs]
 have a0:s<64:=by omega
 have o:0<(2:Int)^s:=bL (by decide)
 have z:=Z9 (s:=s) (by omega)
 have al:0<(2:Int)^(64-s):=bL (by decide)
 have x:O0 y=64-s:=by omega
 have ap:(y:Int)<2^(64-s):=by
  rw [<- x]
  have:((y:Nat):Int)<((2^O0 y:Nat):Int):=by omega
  simpa using this
 have an:(2:Int)^(63-s)<=y:=by
  have:((2^(O0 y-1):Nat):Int)<=((y:Nat):Int):=by omega
  rw [show O0 y-1=63-s by omega] at this
  simpa using this
 have M:(2:Int)^s*2^(63-s)=9223372036854775808:=by
  rw [<- bD,show s+(63-s)=63 by omega];decide
 have aj:C0 (s:Int)=(s:Int):=C2 (by omega) (by omega)
 have ae:C0 ((64:Int)-s)=((64-s:Nat):Int):=by rw [C2 (by omega) (by omega)];omega
 have Q:(y:Int)*2^s<18446744073709551616:=by
  rw [<- z,aR];exact cO ap o
 have aw:9223372036854775808<=(y:Int)*2^s:=by
  rw [<- M,aR (y:Int)];exact aJ an (by omega)
 have eY:C0 ((y:Int)*2^(min s 64))=(y:Int)*2^s:=by rw [aI (by omega),C2 (by omega) Q]
 have a3:hi*2^s+2^s<=(y:Int)*2^s:=by
  have:=aD (show hi+1<=(y:Int) by omega) (aQ o)
  rw [Int.add_mul] at this;omega
 have N:0<=hi*2^s:=aS hhi.1 (by omega)
 have ac:0<=lo/2^(64-s)/\lo/2^(64-s)<2^s:=by
  refine ⟨bY hlo.1 (by omega),bJ al ?_⟩
  rw [z];exact hlo.2
 have eT:bor .u64 (C0 (hi*2^(min s 64))) (eD lo (2^(min (64-s) 64)))=hi*2^s+lo/2^(64-s):=by
  rw [aI (show s<=64 by omega),C2 N (by omega),B71 (by omega),A4h hhi.1 ac (by omega)]
 have eL:C0 (lo*2^(min s 64))=lo*2^s%18446744073709551616:=by rw [aI (by omega),E4]
 have ba:0<=lo*2^s%18446744073709551616/\lo*2^s%18446744073709551616<18446744073709551616:=⟨aT _ (by decide),aP _ (by decide)⟩
 have hN:(hi*18446744073709551616+lo)*2^s=(hi*2^s+lo/2^(64-s))*18446744073709551616+lo*2^s%18446744073709551616:=by
  have d1:lo*2^s/18446744073709551616=lo/2^(64-s):=by
   rw [<- z,aR lo,Int.mul_ediv_mul_of_pos _ _ o]
  have d2:=aO (lo*2^s) 18446744073709551616
  rw [d1] at d2
  grind
 generalize hTT:hi*2^s+lo/2^(64-s)=T at *
 generalize hLL:lo*2^s%18446744073709551616=L at *
 generalize hYY:(y:Int)*2^s=Y at *
 have p:0<=T/\T<Y:=by omega
 unfold A5g A5i A5f A5h
 simp only [aj,ae,aC,eY,eT,eL,Xf]
 rw [Cg (by omega),Cg (by omega)]
 have e1:Est 4294967296 1 T (L/4294967296) 0 (Y/4294967296) (Y%4294967296) 0 (T*4294967296+L/4294967296) Y:=
  ⟨by decide,by decide,by omega,by omega,by omega,by omega,by omega,by omega,p.1,by omega,by omega⟩
 refine B6 (fun e=>absurd e (by omega)) (fun _=>?_)
 refine B6 (fun e=>absurd e (by omega)) (fun _=>?_)
 refine B6 (fun e=>absurd e (by omega)) (fun _=>?_)
 refine B6 (fun e=>absurd e (by omega)) (fun _=>?_)
 refine B6 (fun e=>absurd e (by omega)) (fun _=>?_)
 have Z:∀ {q w:Int},0<=q->q<=4294967296->0<=w->w<4294967296->0<=q*w/\q*w<18446744073709551616:=by
  intro q w a b c d
  refine ⟨aS a c,?_⟩
  have:=eP b (show w<=4294967295 by omega) c (by decide)
  omega
 refine ⟨fun l hp=>∃ q,l=[U q]/\hp=h/\0<=q/\q*Y<=T*4294967296+L/4294967296/\T*4294967296+L/4294967296<(q+1)*Y,?_,?_⟩
 ·obtain ⟨Inv,mu,i0,st⟩:=B48 (hp:=h) (J:=fun q hp=>∃ i,[U q]=[U i]/\hp=h/\0<=i/\i*Y<=T*4294967296+L/4294967296/\T*4294967296+L/4294967296<(i+1)*Y) e1 (by omega) (fun q a b c=>⟨q,rfl,rfl,a,b,c⟩)
  refine ⟨fun l hp=>∃ q r,l=[U q,U r]/\Inv q r hp,fun l hp=>mu (iAt l 0) (iAt l 1) hp,⟨T/(Y/4294967296),T%(Y/4294967296),?_,i0⟩,?_⟩
  ·have dm:=aO T (Y/4294967296)
   have G:=bY p.1 (show 0<=Y/4294967296 by omega)
   have d1:T/(Y/4294967296)<=T:=fE _ p.1
   have d2:=aT T (show Y/4294967296≠0 by omega)
   rw [bH p.1,C2 (n:=T/(Y/4294967296)) G (by omega),aR (T/(Y/4294967296))]
   have d3:=aS (show 0<=Y/4294967296 by omega) G
   rw [C2 (n:=Y/4294967296*(T/(Y/4294967296))) d3 (by omega),C2 (by omega) (by omega)]
   have:T-Y/4294967296*(T/(Y/4294967296))=T%(Y/4294967296):=by omega
   rw [this]
  rintro q r m ⟨i,r',hl,hI⟩
  obtain ⟨rfl,rfl⟩:q=i/\r=r':=by simpa using hl
  obtain ⟨_,f,g,r0,r1,rfl,ok,C⟩:=st q r m hI
  have F:=Z (q:=4294967296) (w:=r) (by omega) (by omega) r0 r1
  refine ⟨fun l hp=>l=[]/\hp=m/\(q>=4294967296\/q*(Y%4294967296)>4294967296*r+L/4294967296),B6 (fun O=>⟨rfl,rfl,.inl O⟩) (fun O=>?_),?_⟩
  ·have S:=Z (q:=q) (w:=Y%4294967296) f (by omega) (by omega) (by omega)
   rw [C2 S.1 S.2,C2 F.1 F.2,C2 (n:=4294967296*r+L/4294967296) (by omega) (by omega)]
   exact B6 (fun E=>⟨rfl,rfl,.inr E⟩) (fun E=>ok (by omega) E)
  ·rintro ak ⟨_,rfl,j⟩
   obtain ⟨g1,g2,X⟩:=C j
   rw [C2 (n:=r+Y/4294967296) (by omega) (by omega),C2 (n:=q-1) (by omega) (by omega)]
   exact B6 (fun V=>g2 V) (fun V=>⟨⟨_,_,rfl,(X (by omega)).1⟩,(X (by omega)).2⟩)
 rintro g B ⟨aa,ah,rfl,am,bc,a4⟩
 obtain rfl:g=aa:=by simpa using ah
 have av:g<4294967296:=by
  by_cases D:g<4294967296
  ·exact D
  ·have:=aD (show 4294967296<=g by omega) (show 0<=Y by omega);omega
 have bd:(g+1)*Y=g*Y+Y:=by grind
 have az:0<=g*Y:=aS am (by omega)
 have ad:C0 (C0 (C0 (T*4294967296)+L/4294967296)-C0 (g*Y))=T*4294967296+L/4294967296-g*Y:=by
  simp only [E4];omega
 simp only [ad]
 generalize hRR:T*4294967296+L/4294967296-g*Y=R at *
 have t:0<=R/\R<Y:=by omega
 refine B6 (fun e=>absurd e (by omega)) (fun _=>?_)
 have e2:Est 4294967296 1 R (L%4294967296) 0 (Y/4294967296) (Y%4294967296) 0 (R*4294967296+L%4294967296) Y:=
  ⟨by decide,by decide,by omega,by omega,by omega,by omega,by omega,by omega,t.1,by omega,by omega⟩
 refine ⟨fun l hp=>∃ q,l=[U q]/\hp=B/\0<=q/\q*Y<=R*4294967296+L%4294967296/\R*4294967296+L%4294967296<(q+1)*Y,?_,?_⟩
 ·obtain ⟨Inv,mu,i0,st⟩:=B48 (hp:=B) (J:=fun q hp=>∃ i,[U q]=[U i]/\hp=B/\0<=i/\i*Y<=R*4294967296+L%4294967296/\R*4294967296+L%4294967296<(i+1)*Y) e2 (by omega) (fun q a b c=>⟨q,rfl,rfl,a,b,c⟩)
  refine ⟨fun l hp=>∃ q r,l=[U r,U q]/\Inv q r hp,fun l hp=>mu (iAt l 1) (iAt l 0) hp,⟨R/(Y/4294967296),R%(Y/4294967296),?_,i0⟩,?_⟩
  ·have dm:=aO R (Y/4294967296)
   have G:=bY t.1 (show 0<=Y/4294967296 by omega)
   have d1:R/(Y/4294967296)<=R:=fE _ t.1
   have d2:=aT R (show Y/4294967296≠0 by omega)
   rw [bH t.1,C2 (n:=R/(Y/4294967296)) G (by omega),aR (R/(Y/4294967296))]
   have d3:=aS (show 0<=Y/4294967296 by omega) G
   rw [C2 (n:=Y/4294967296*(R/(Y/4294967296))) d3 (by omega),C2 (by omega) (by omega)]
   have:R-Y/4294967296*(R/(Y/4294967296))=R%(Y/4294967296):=by omega
   rw [this]
  rintro r q m ⟨i,r',hl,hI⟩
  obtain ⟨rfl,rfl⟩:r=r'/\q=i:=by simpa using hl
  obtain ⟨_,f,g,r0,r1,rfl,ok,C⟩:=st q r m hI
  have F:=Z (q:=4294967296) (w:=r) (by omega) (by omega) r0 r1
  refine ⟨fun l hp=>l=[]/\hp=m/\(q>=4294967296\/q*(Y%4294967296)>4294967296*r+L%4294967296),B6 (fun O=>⟨rfl,rfl,.inl O⟩) (fun O=>?_),?_⟩
  ·have S:=Z (q:=q) (w:=Y%4294967296) f (by omega) (by omega) (by omega)
   rw [C2 S.1 S.2,C2 F.1 F.2,C2 (n:=4294967296*r+L%4294967296) (by omega) (by omega)]
   exact B6 (fun E=>⟨rfl,rfl,.inr E⟩) (fun E=>ok (by omega) E)
  ·rintro ak ⟨_,rfl,j⟩
   obtain ⟨g1,g2,X⟩:=C j
   rw [C2 (n:=r+Y/4294967296) (by omega) (by omega),C2 (n:=q-1) (by omega) (by omega)]
   exact B6 (fun V=>g2 V) (fun V=>⟨⟨_,_,rfl,(X (by omega)).1⟩,(X (by omega)).2⟩)
 rintro f a7 ⟨ar,ai,rfl,af,a6,a8⟩
 obtain rfl:f=ar:=by simpa using ai
 refine B6 (fun e=>absurd e (by omega)) (fun _=>?_)
 have ax:f<4294967296:=by
  by_cases D:f<4294967296
  ·exact D
  ·have:=aD (show 4294967296<=f by omega) (show 0<=Y by omega);omega
 have be:(f+1)*Y=f*Y+Y:=by grind
 have au:0<=f*Y:=aS af (by omega)
 have ao:C0 (C0 (C0 (R*4294967296)+L%4294967296)-C0 (f*Y))=R*4294967296+L%4294967296-f*Y:=by
  simp only [E4];omega
 rw [ao,C2 (n:=g*4294967296) (by omega) (by omega),C2 (n:=g*4294967296+f) (by omega) (by omega),B71 (by omega)]
 have ay:(hi*18446744073709551616+lo)*2^s=(g*4294967296+f)*(y*2^s)+(R*4294967296+L%4294967296-f*Y):=by
  rw [hN,hYY]
  have:T*18446744073709551616+L=(T*4294967296+L/4294967296)*4294967296+L%4294967296:=by omega
  rw [this]
  have:T*4294967296+L/4294967296=R+g*Y:=by omega
  rw [this];grind
 have A:R*4294967296+L%4294967296-f*Y=(hi*18446744073709551616+lo-(g*4294967296+f)*y)*2^s:=by grind
 rw [A,fX _ (show (2:Int)^s≠0 by omega)]
 have aq:0<=hi*18446744073709551616+lo-(g*4294967296+f)*y:=by
  by_cases D:0<=hi*18446744073709551616+lo-(g*4294967296+f)*y
  ·exact D
  ·have:=aD (show hi*18446744073709551616+lo-(g*4294967296+f)*y <= -1 by omega) (aQ o);omega
 have ag:hi*18446744073709551616+lo-(g*4294967296+f)*y<y:=by
  by_cases D:hi*18446744073709551616+lo-(g*4294967296+f)*y<y
  ·exact D
  ·have:=aD (show (y:Int)<=hi*18446744073709551616+lo-(g*4294967296+f)*y by omega) (aQ o);omega
 have u:(hi*18446744073709551616+lo)/y=g*4294967296+f:=by
  have:hi*18446744073709551616+lo=(hi*18446744073709551616+lo-(g*4294967296+f)*y)+(g*4294967296+f)*y:=by omega
  rw [this,fM _ _ (by omega),bU aq ag,dL]
 have W:(hi*18446744073709551616+lo)%y=hi*18446744073709551616+lo-(g*4294967296+f)*y:=by
  rw [Int.emod_def,u,aR (y:Int)]
 rw [u,W] at hK
 exact hK
end
def N9{xs:List Int}(d:Dig b64 xs)(i:Nat):0<=xs.getD i 0/\xs.getD i 0<18446744073709551616:=d.getD (by decide) i
def En(c:Int):0<=c%18446744073709551616/\c%18446744073709551616<b64:=⟨aT _ (by decide),aP _ (by decide)⟩
section
variable {h g:bC} {K:VP} {A B:Option bI} {ac bc:Nat}
def Ed{xs:List Int}(s:SlI .u64 h A xs)(hc:xs.length<=ac)(hl:xs.length<=10000000000)(hK:∀ m,m<=xs.length->fU (xs.take m)->val b64 (xs.take m)=val b64 xs->K (.slice A m ac) h):aW prog I7 #[.slice A xs.length ac] h K:=by
 refine B85 _ _ _ ?_
 unfold C42
 refine ⟨fun l k=>∃ m:Nat,l=[I m]/\m<=xs.length/\k=h/\val b64 (xs.take m)=val b64 xs,fun l _=>(iAt l 0).toNat,⟨xs.length,rfl,aZ _,rfl,by rw [aV]⟩,?_⟩
 rintro o n ⟨m,c,f,rfl,d⟩
 obtain rfl:=sI1 c
 refine B6 (fun g=>?_) (fun g=>?_)
 ·obtain ⟨j,rfl⟩:∃ j,m=j+1:=⟨m-1,by omega⟩
  have e:B4 (((j+1:Nat):Int)-1)=(j:Int):=by rw [B7 (by omega) (by omega)];omega
  rw [e]
  have a:=O3 b64 (xs:=xs) (i:=j) (by omega)
  refine s.load rfl (by omega) (by omega) ?_
  rw [aC]
  refine D8 (fun b=>?_) (fun b=>?_)
  ·exact ⟨⟨j,rfl,by omega,rfl,by rw [b] at a;omega⟩,by simp only [iAt,aG];omega⟩
  ·refine ⟨⟨by omega,by omega⟩,?_⟩
   rw [H8,aC,bV,bV]
   refine hK (j+1) f ?_ d
   rw [Hy (by omega)];exact A3n b
 ·have:m=0:=by omega
  subst this
  refine ⟨⟨by omega,by omega⟩,?_⟩
  rw [H8,aC,bV,bV]
  exact hK 0 (by omega) Norm.nil d
def Q5{xs:List Int}(s:SlI .u64 h A xs)(hd:Dig b64 xs)(hc:xs.length<=ac)(hl:xs.length<=10000000000)(hK:∀ m,m<=xs.length->Mw h A m (val b64 xs)->K (.slice A m ac) h):aW prog I7 #[.slice A xs.length ac] h K:=by
 refine Ed s hc hl ?_
 intro m a d b
 refine hK m a ⟨xs.take m,by simp;omega,?_,hd.take m,d,b⟩
 have:=s.cut (c:=ac) (l:=0) (m:=m) (by omega) a hc
 simpa [H8] using this
def Bk{w:Int}(hw:0<=w/\w<18446744073709551616)(hK:∀ A m c h',h.le h'->m<=c->Mw h' A m w->K (.slice A m c) h'):aW prog X6 #[U w] h K:=by
 refine A4v _ ?_
 unfold A4w
 refine D8 (fun e=>?_) (fun e=>?_)
 ·subst e;exact hK none 0 0 h (B3 h) (aZ _) Mag.zero
 ·refine An Q1 rfl ?_
  intro b a
  exact ⟨_,_,_,rfl,hK _ _ _ _ (Heap.le_put _ a) (aZ _) ⟨[w],rfl,SlI.new h b [w] C1 _,Dig.one hw,by simpa [fU] using e,W4 _ _⟩⟩
def F7{x y:Int}{an bn:Nat}(ma:Mw h A an x)(mb:Mw h B bn y)(hl:an<=10000000000)(hK:K (I (Ey x y)) h):aW prog F1 #[.slice A an ac,.slice B bn bc] h K:=by
 obtain ⟨a,rfl,r,g,u,rfl⟩:=ma
 obtain ⟨b,rfl,q,f,t,rfl⟩:=mb
 refine Tc _ _ _ _ _ _ ?_
 unfold Ph
 refine I3 (fun w=>?_) (fun w=>?_)
 ·refine B4e ⟨_,rfl,?_⟩
  have:Ey (a.length:Int) (b.length:Int)=Ey (val b64 a) (val b64 b):=by
   unfold Ey
   by_cases m:a.length<b.length
   ·have:=Jo (by decide) g f t m
    rw [iP (by omega),iP this]
   ·have:=Jo (by decide) f g u (by omega)
    rw [iN (by omega),iP (by omega),iN (by omega),iP (by omega)]
  rw [this];exact hK
 ·have c:a.length=b.length:=by omega
  refine ⟨fun l z=>∃ k:Nat,l=[I ((k:Int)-1)]/\k<=a.length/\z=h/\a.drop k=b.drop k,fun l _=>(iAt l 0+1).toNat,⟨a.length,?_,aZ _,rfl,?_⟩,?_⟩
  ·rw [B7 (by omega) (by omega)]
  ·rw [fD,c,fD]
  rintro i D ⟨k,n,C,rfl,d⟩
  obtain rfl:i=(k:Int)-1:=by simpa using n
  refine B6 (fun m=>?_) (fun m=>?_)
  ·obtain ⟨j,rfl⟩:∃ j,k=j+1:=⟨k-1,by omega⟩
   have e:((j+1:Nat):Int)-1=(j:Int):=by omega
   rw [e]
   refine r.load rfl (by omega) (by omega) ?_
   refine q.load rfl (by omega) (by omega) ?_
   rw [aC]
   refine I3 (fun s=>?_) (fun s=>?_)
   ·refine r.load rfl (by omega) (by omega) ?_
    refine q.load rfl (by omega) (by omega) ?_
    rw [aC]
    refine B4b ⟨_,rfl,B3 _,?_⟩
    have:Ey (a.getD j 0) (b.getD j 0)=Ey (val b64 a) (val b64 b):=by
     unfold Ey
     by_cases p:a.getD j 0<b.getD j 0
     ·have:=Jn (by decide) g f (i:=j) (by omega) (by omega) d p
      rw [iP p,iP this]
     ·have:=Jn (by decide) f g (i:=j) (by omega) (by omega) d.symm (by omega)
      rw [iN p,iP (by omega),iN (by omega),iP (by omega)]
    rw [this];exact hK
   ·rw [B7 (by omega) (by omega)]
    refine ⟨⟨j,rfl,by omega,rfl,?_⟩,by simp only [iAt,aG];omega⟩
    rw [cH (show j<a.length by omega),cH (show j<b.length by omega),d]
    congr 1
    simpa [cU,show j<a.length by omega,show j<b.length by omega] using s
  ·have o:k=0:=by omega
   subst o
   simp at d
   subst d
   have:Ey (val b64 a) (val b64 a)=0:=by unfold Ey;rw [iN (by omega),iN (by omega)]
   rw [this] at hK;exact hK
def Ez{xs:List Int}{an:Nat}(s:SlI .u64 h A xs)(hn:an=xs.length)(hl:xs.length<=10000000000)(hK:∀ A' c' h' g',h.le g'->eU h' g' C1 1 A' xs.length c' (xs.map (bB .u64))->K (.slice A' xs.length c') h'):aW prog Ge #[.slice A an ac] h K:=by
 subst hn
 refine B4z _ _ _ ?_
 unfold B9o
 refine Br.of (fun e=>?_) (fun e=>?_)
 ·have l:A=none:=by simpa using e
  have g:xs=[]:=by
   rcases s with k|⟨a,f,_⟩
   ·simpa using k
   ·rw [l] at f;cases f
  subst g
  exact hK none 0 h h (B3 h) (by simpa using Priv.nil _ _ _ _)
 ·refine La Q1 ?_
  intro b j
  refine ⟨_,_,_,rfl,?_⟩
  have c:=Heap.le_put (h:=h) (b:=b) (.cells #[] C1) j
  refine Oy Q1 (Priv.nil _ _ _ _) (ys:=xs.map (bB .u64)) (by simp) (SlI.mono c s) (fun v i=>?_) (by omega) (by omega) ?_
  ·obtain ⟨a,_,rfl⟩:=List.mem_map.1 i;rfl
  ·intro A' c' h' g' m d
   simp only [fG,cT] at d ⊢
   exact ⟨_,_,_,rfl,hK _ _ _ _ (Heap.le_trans c m) d⟩
variable {b:Nat} {e:cC} {pre post:List dC}
def Iy{xs ys:List Int}{an bn:Nat}(w:Win .u64 h g b e A pre xs post)(hn:an=xs.length)(sy:SlI .u64 g B ys)(hm:bn=ys.length)(dx:Dig b64 xs)(dy:Dig b64 ys)(hle:ys.length<=xs.length)(hfit:val b64 xs+val b64 ys<b64^xs.length)(hl:xs.length<=10000000000)
 (hK:∀ xs' h',xs'.length=xs.length->Dig b64 xs'->val b64 xs'=val b64 xs+val b64 ys->Win .u64 h' g b e A pre xs' post->K (.tuple #[]) h'):aW prog T5 #[.slice A an ac,.slice B bn bc] h K:=by
 subst hn hm
 refine A7b _ _ _ _ _ _ ?_
 unfold A97
 refine ⟨fun l t=>∃ (k:Nat) (c:Int) (zs:List Int),l=[U c,I k]/\k<=ys.length/\zs.length=xs.length/\Dig b64 zs/\(0<=c/\c<=1)/\Win .u64 t g b e A pre zs post/\zs.drop k=xs.drop k/\val b64 (zs.take k)+c*b64^k=val b64 (xs.take k)+val b64 (ys.take k),fun l _=>ys.length-(iAt l 1).toNat,⟨0,0,xs,rfl,by omega,rfl,dx,by omega,w,rfl,by simp [val]⟩,?_⟩
 rintro c i t ⟨k,D,zs,r,J,d,p,u,j,f,x⟩
 obtain ⟨rfl,rfl⟩:c=D/\i=(k:Int):=by simpa using r
 refine B6 (fun z=>?_) (fun z=>?_)
 ·have O:=N9 dy k
  have E:=N9 p k
  have s:=E5 f
  have G:=C4 b64 xs k
  have N:=C4 b64 ys k
  refine (sy.mono j.le).load rfl (by omega) (by omega) ?_
  refine j.sl.load d.symm (by omega) (by omega) ?_
  simp only [aC]
  refine Do E O u ⟨_,_,rfl,?_⟩
  obtain ⟨a,y,_⟩:=SlV.at j.sl (i:=k) (by simp;omega)
  refine ⟨a,y,by omega,by omega,j.storeN F4 y (by omega) ?_⟩
  intro h' C
  rw [B7 (n:=(k:Int)+1) (by omega) (by omega)]
  refine ⟨⟨k+1,_,_,rfl,by omega,by simpa using d,p.set (En _),by omega,C,?_,?_⟩,by simp only [iAt,aG,aL];omega⟩
  ·rw [D3 (by omega)];exact D6 f
  ·rw [C7 (by omega),F0,aF,aI (by omega),bG,Cf,G,N,<- s]
   grind
 ·have q:k=ys.length:=by omega
  subst q
  rw [aV] at x
  refine ⟨fun l t=>∃ (k:Nat) (c:Int) (zs:List Int),l=[U c,I k]/\ys.length<=k/\k<=xs.length/\zs.length=xs.length/\Dig b64 zs/\(0<=c/\c<=1)/\Win .u64 t g b e A pre zs post/\zs.drop k=xs.drop k/\val b64 (zs.take k)+c*b64^k=val b64 (xs.take k)+val b64 ys,fun l _=>xs.length-(iAt l 1).toNat,⟨ys.length,c,zs,rfl,by omega,by omega,d,p,u,j,f,x⟩,?_⟩
  clear x f j p d u J z
  rintro c i t ⟨k,D,zs,r,M,J,d,p,u,j,f,x⟩
  obtain ⟨rfl,rfl⟩:c=D/\i=(k:Int):=by simpa using r
  have o:=F3 b64 zs (i:=k) (by omega)
  have m:=F3 b64 xs (i:=k) (by omega)
  refine I3 (fun L=>B6 (fun z=>?_) (fun z=>?_)) (fun L=>?_)
  ·have E:=N9 p k
   have s:=E5 f
   have G:=C4 b64 xs k
   refine j.sl.load d.symm (by omega) (by omega) ?_
   simp only [aC]
   refine Do E (by omega) u ⟨_,_,rfl,?_⟩
   obtain ⟨a,y,_⟩:=SlV.at j.sl (i:=k) (by simp;omega)
   refine ⟨a,y,by omega,by omega,j.storeN F4 y (by omega) ?_⟩
   intro h' C
   rw [B7 (n:=(k:Int)+1) (by omega) (by omega)]
   refine ⟨⟨k+1,_,_,rfl,by omega,by omega,by simpa using d,p.set (En _),by omega,C,?_,?_⟩,by simp only [iAt,aG,aL];omega⟩
   ·rw [D3 (by omega)];exact D6 f
   ·rw [C7 (by omega),F0,aF,aI (by omega),bG,Cf,G,<- s]
    grind
  ·exfalso
   have q:k=xs.length:=by omega
   subst q
   have H:c=1:=by omega
   subst H
   rw [aV] at x
   have:=C6 (by decide) (p.take xs.length)
   omega
  ·have F:c=0:=by omega
   subst F
   refine hK zs t d p ?_ j
   rw [o,m,f];omega
def Eh{xs ys:List Int}{an bn:Nat}(w:Win .u64 h g b e A pre xs post)(hn:an=xs.length)(sy:SlI .u64 g B ys)(hm:bn=ys.length)(dx:Dig b64 xs)(dy:Dig b64 ys)(hle:ys.length<=xs.length)(hfit:val b64 ys<=val b64 xs)(hl:xs.length<=10000000000)
 (hK:∀ xs' h',xs'.length=xs.length->Dig b64 xs'->val b64 xs'=val b64 xs-val b64 ys->Win .u64 h' g b e A pre xs' post->K (.tuple #[]) h'):aW prog U5 #[.slice A an ac,.slice B bn bc] h K:=by
 subst hn hm
 refine St _ _ _ _ _ _ ?_
 unfold Pa
 have key:∀ {z y c:Int},(0<=z/\z<18446744073709551616)->(0<=y/\y<18446744073709551616)->(0<=c/\c<=1)->(z-y-c)%18446744073709551616=z-y-c+18446744073709551616*(if z-y-c<0 then 1 else 0):=by
  intro z y c T S q;split<;>omega
 refine ⟨fun l x=>∃ (k:Nat) (c:Int) (zs:List Int),l=[U c,I k]/\k<=ys.length/\zs.length=xs.length/\Dig b64 zs/\(0<=c/\c<=1)/\Win .u64 x g b e A pre zs post/\zs.drop k=xs.drop k/\val b64 (zs.take k)=val b64 (xs.take k)-val b64 (ys.take k)+c*b64^k,fun l _=>ys.length-(iAt l 1).toNat,⟨0,0,xs,rfl,by omega,rfl,dx,by omega,w,rfl,by simp [val]⟩,?_⟩
 rintro c i x ⟨k,G,zs,t,M,d,p,q,j,f,r⟩
 obtain ⟨rfl,rfl⟩:c=G/\i=(k:Int):=by simpa using t
 refine B6 (fun E=>?_) (fun E=>?_)
 ·have N:=N9 dy k
  have C:=N9 p k
  have u:=E5 f
  have J:=C4 b64 xs k
  have R:=C4 b64 ys k
  refine (sy.mono j.le).load rfl (by omega) (by omega) ?_
  refine j.sl.load d.symm (by omega) (by omega) ?_
  simp only [aC]
  refine Fo C N q ⟨_,_,rfl,?_⟩
  obtain ⟨a,D,_⟩:=SlV.at j.sl (i:=k) (by simp;omega)
  refine ⟨a,D,by omega,by omega,j.storeN F4 D (by omega) ?_⟩
  intro h' F
  rw [B7 (n:=(k:Int)+1) (by omega) (by omega)]
  refine ⟨⟨k+1,_,_,rfl,by omega,by simpa using d,p.set (En _),by split<;>omega,F,?_,?_⟩,by simp only [iAt,aG,aL];omega⟩
  ·rw [D3 (by omega)];exact D6 f
  ·rw [C7 (by omega),F0,aF,aI (by omega),bG,J,R,<- u,r,key C N q]
   grind
 ·have s:k=ys.length:=by omega
  subst s
  rw [aV] at r
  refine ⟨fun l x=>∃ (k:Nat) (c:Int) (zs:List Int),l=[U c,I k]/\ys.length<=k/\k<=xs.length/\zs.length=xs.length/\Dig b64 zs/\(0<=c/\c<=1)/\Win .u64 x g b e A pre zs post/\zs.drop k=xs.drop k/\val b64 (zs.take k)=val b64 (xs.take k)-val b64 ys+c*b64^k,fun l _=>xs.length-(iAt l 1).toNat,⟨ys.length,c,zs,rfl,by omega,by omega,d,p,q,j,f,r⟩,?_⟩
  clear r f j p d q M E
  rintro c i x ⟨k,G,zs,t,Q,M,d,p,q,j,f,r⟩
  obtain ⟨rfl,rfl⟩:c=G/\i=(k:Int):=by simpa using t
  have o:=F3 b64 zs (i:=k) (by omega)
  have m:=F3 b64 xs (i:=k) (by omega)
  refine I3 (fun O=>B6 (fun E=>?_) (fun E=>?_)) (fun O=>?_)
  ·have C:=N9 p k
   have u:=E5 f
   have J:=C4 b64 xs k
   refine j.sl.load d.symm (by omega) (by omega) ?_
   simp only [aC]
   refine Fo C (by omega) q ⟨_,_,rfl,?_⟩
   obtain ⟨a,D,_⟩:=SlV.at j.sl (i:=k) (by simp;omega)
   refine ⟨a,D,by omega,by omega,j.storeN F4 D (by omega) ?_⟩
   intro h' F
   rw [B7 (n:=(k:Int)+1) (by omega) (by omega)]
   refine ⟨⟨k+1,_,_,rfl,by omega,by omega,by simpa using d,p.set (En _),by split<;>omega,F,?_,?_⟩,by simp only [iAt,aG,aL];omega⟩
   ·rw [D3 (by omega)];exact D6 f
   ·rw [C7 (by omega),F0,aF,aI (by omega),bG,J,<- u,r,key C (y:=0) (by omega) q]
    grind
  ·exfalso
   have s:k=xs.length:=by omega
   subst s
   have L:c=1:=by omega
   subst L
   rw [aV] at r
   have:=L5 (by decide) (p.take xs.length)
   rw [aF,aI (by omega)] at this
   omega
  ·have H:c=0:=by omega
   subst H
   refine hK zs x d p ?_ j
   rw [o,m,f];omega
def A1w{x y:Int}{an bn:Nat}(ma:Mw h A an x)(mb:Mw h B bn y)(hab:bn<=an)(hl:an<=4000000000)(hb0:bn≠0)(hK:∀ A' m c' h',h.le h'->m<=c'->Mw h' A' m (x+y)->K (.slice A' m c') h'):
 wpH prog (Instr.makeSlice Y6 (I (B4 ((an:Int)+1))) (I (B4 ((an:Int)+1)))) (fun v hp1=>∃ (t20A:Option bI) (t20n:Nat) (t20c:Nat),v= .slice t20A t20n t20c/\∀ ty,wpH prog (fB #[Y6,Y6] ty #[.slice t20A t20n t20c,.slice A an ac]) (fun v1 hp2=>∃ (t23:Int),v1=I t23/\aW prog T5 #[.slice t20A t20n t20c,.slice B bn bc] hp2 (fun r hp3=>r= .tuple #[]/\aW prog I7 #[.slice t20A t20n t20c] hp3 (fun r1 hp4=>∃ (t28A:Option bI) (t28n:Nat) (t28c:Nat),r1= .slice t28A t28n t28c/\K (.slice t28A t28n t28c) hp4))) hp1) h:=by
 obtain ⟨a,rfl,C,p,J,rfl⟩:=ma
 obtain ⟨M,rfl,z,o,G,rfl⟩:=mb
 have w:B4 ((a.length:Int)+1)=((a.length+1:Nat):Int):=by rw [B7 (by omega) (by omega)];omega
 rw [w]
 refine J7 Q1 (by omega) (by omega) (by omega) ?_
 intro b u
 rw [aC]
 refine ⟨_,_,_,rfl,fun ty=>?_⟩
 have q:=Win.blk .u64 C1 u (aE (a.length+1) 0)
 refine Gt Q1 q (by simp) (SlI.mono q.le C) rfl (by simp) ?_
 intro L n
 refine ⟨_,rfl,?_⟩
 have c:(aE (a.length+1) (0:Int)).drop a.length=[0]:=by rw [bF];simp [cG]
 rw [c] at n
 have d:val b64 (a++[0])=val b64 a:=by rw [F0];omega
 have t:=L5 (by decide) p
 have D:=L5 (by decide) o
 have F:=C8 (B:=b64) (by decide) hab
 have j:b64^(a.length+1)=b64^a.length*18446744073709551616:=bG _ _
 have s:=D5 (B:=b64) (by decide) a.length
 refine Iy n (by simp) z rfl (p.append (Dig.one (by decide))) o (by simp;omega) ?_ (by simp;omega) ?_
 ·rw [d,aH,dD,j];omega
 intro zs H f i g l
 refine ⟨rfl,?_⟩
 have e:zs.length=a.length+1:=by rw [f];simp
 rw [<- e]
 refine Q5 l.sl i (by omega) (by omega) ?_
 intro m E k
 rw [g,d] at k
 exact ⟨_,_,_,rfl,hK _ _ _ _ l.le E k⟩
def R9{x y:Int}{an bn:Nat}(ma:Mw h A an x)(mb:Mw h B bn y)(ha:an<=ac)(hb:bn<=bc)(hl:an<=4000000000)(hl2:bn<=4000000000)(hK:∀ A' m c' h',h.le h'->m<=c'->Mw h' A' m (x+y)->K (.slice A' m c') h'):aW prog O6 #[.slice A an ac,.slice B bn bc] h K:=by
 refine A4z _ _ _ _ _ _ ?_
 unfold A50
 refine ⟨fun l h'=>h'=h/\∃ (A1 B1:Option bI) (b d c1 c2:Nat) (j g:Int),l=[.slice A1 b c1,.slice B1 d c2]/\Mw h A1 b j/\Mw h B1 d g/\d<=b/\b<=4000000000/\b<=c1/\j+g=x+y,B6 (fun u=>?_) (fun u=>?_),?_⟩
 ·exact ⟨rfl,_,_,_,_,_,_,y,x,rfl,mb,ma,by omega,hl2,hb,fN _ _⟩
 ·exact ⟨rfl,_,_,_,_,_,_,x,y,rfl,ma,mb,by omega,hl,ha,rfl⟩
 ·rintro A1 b c1 B1 d c2 z ⟨rfl,A1',B1',f,a,e,c,j,g,k,q,p,w,n,i,o⟩
  obtain ⟨⟨rfl,rfl,rfl⟩,rfl,rfl,rfl⟩:(A1=A1'/\b=f/\c1=e)/\B1=B1'/\d=a/\c2=c:=by simpa using k
  rw [<- o] at hK
  refine D8 (fun t=>?_) (fun t=>?_)
  ·have:=(p.len_zero (by decide)).2 (by omega)
   subst this
   rw [fL] at hK
   exact hK _ _ _ _ (B3 _) i q
  ·refine Jl _ (A1w (ac:=c1) (bc:=c2) q p w n (by omega) hK) ?_
   rintro v h' ⟨A2,a,c,s,r⟩
   exact ⟨A2,a,c,s,r _⟩
def H1{x y:Int}{an bn:Nat}(ma:Mw h A an x)(mb:Mw h B bn y)(ha:an<=ac)(hl:an<=4000000000)(hxy:y<=x)(hK:∀ A' m c' h',h.le h'->m<=c'->Mw h' A' m (x-y)->K (.slice A' m c') h'):aW prog G7 #[.slice A an ac,.slice B bn bc] h K:=by
 have a:bn<=an:=mb.len_le (by decide) (dA hxy (ma.lt (by decide)))
 refine Rf _ _ _ _ _ _ ?_
 unfold Kp
 refine D8 (fun l=>?_) (fun l=>?_)
 ·have:=(mb.len_zero (by decide)).2 (by omega)
  subst this
  rw [Int.sub_zero] at hK
  exact hK _ _ _ _ (B3 _) ha ma
 ·obtain ⟨E,rfl,q,r,u,rfl⟩:=ma
  obtain ⟨z,rfl,p,o,s,rfl⟩:=mb
  refine Ez q rfl (by omega) ?_
  intro A1 c1 w D k e
  refine ⟨_,_,_,rfl,?_⟩
  obtain ⟨b,g,n⟩:=e.win (by rintro rfl;rw [gK] at a;omega)
  refine Eh n rfl (p.mono k) rfl r o a hxy (by omega) ?_
  intro zs t c f d j
  refine ⟨rfl,?_⟩
  rw [<- c]
  refine Q5 j.sl f (by have:=e.2.1;omega) (by omega) ?_
  intro m C i
  rw [d] at i
  exact ⟨_,_,_,rfl,hK _ _ _ _ (Heap.le_trans k j.le) (by have:=e.2.1;omega) i⟩
def Ix{zs xs:List Int}{an bn:Nat}{wd:Int}(w:Win .u64 h g b e A pre zs post)(hn:an=zs.length)(sx:SlI .u64 g B xs)(hm:bn=xs.length)(dz:Dig b64 zs)(dx:Dig b64 xs)(hle:zs.length=xs.length)(hw:0<=wd/\wd<18446744073709551616)(hl:xs.length<=10000000000)
 (hK:∀ zs' c h',zs'.length=zs.length->Dig b64 zs'->(0<=c/\c<18446744073709551616)->val b64 zs'+c*b64^zs.length=val b64 zs+val b64 xs*wd->Win .u64 h' g b e A pre zs' post->K (U c) h'):aW prog Bn #[.slice A an ac,.slice B bn bc,U wd] h K:=by
 subst hn hm
 refine Xr _ _ _ _ _ _ _ ?_
 unfold Wn
 refine ⟨fun l q=>∃ (k:Nat) (c:Int) (d:List Int),l=[U c,I k]/\k<=xs.length/\d.length=zs.length/\Dig b64 d/\(0<=c/\c<18446744073709551616)/\Win .u64 q g b e A pre d post/\d.drop k=zs.drop k/\val b64 (d.take k)+c*b64^k=val b64 (zs.take k)+val b64 (xs.take k)*wd,fun l _=>xs.length-(iAt l 1).toNat,⟨0,0,zs,rfl,by omega,rfl,dz,by omega,w,rfl,by simp [val]⟩,?_⟩
 rintro c i q ⟨k,C,d,p,H,f,r,t,j,m,u⟩
 obtain ⟨rfl,rfl⟩:c=C/\i=(k:Int):=by simpa using p
 refine B6 (fun E=>?_) (fun E=>?_)
 ·have x:=N9 dx k
  have D:=N9 r k
  have s:=E5 m
  have G:=C4 b64 xs k
  have F:=C4 b64 zs k
  have hm:0<=xs.getD k 0*wd/\xs.getD k 0*wd<=18446744073709551615*18446744073709551615:=⟨aS x.1 hw.1,eP (by omega) (by omega) hw.1 (by decide)⟩
  refine (sx.mono j.le).load rfl (by omega) (by omega) ?_
  rw [aC]
  refine Nq x hw ⟨_,_,rfl,?_⟩
  generalize hmm:xs.getD k 0*wd=mm at *
  refine Do (by omega) t (by omega) ⟨_,_,rfl,?_⟩
  refine j.sl.load f.symm (by omega) (by omega) ?_
  rw [aC]
  refine Do D (by omega) (by omega) ⟨_,_,rfl,?_⟩
  obtain ⟨a,y,_⟩:=SlV.at j.sl (i:=k) (by simp;omega)
  refine ⟨a,y,by omega,by omega,j.storeN F4 y (by omega) ?_⟩
  intro h' z
  rw [B7 (n:=(k:Int)+1) (by omega) (by omega)]
  rw [C2 (n:=mm/18446744073709551616+(mm%18446744073709551616+c+0)/18446744073709551616) (by omega) (by omega)]
  rw [C2 (by omega) (by omega)]
  refine ⟨⟨k+1,_,_,rfl,by omega,by simpa using f,r.set (En _),by omega,z,?_,?_⟩,by simp only [iAt,aG,aL];omega⟩
  ·rw [D3 (by omega)];exact D6 m
  ·rw [C7 (by omega),F0,aF,aI (by omega),bG,G,F,<- s]
   have key:(d.getD k 0+(mm%18446744073709551616+c+0)%18446744073709551616+0)%18446744073709551616+18446744073709551616*(mm/18446744073709551616+(mm%18446744073709551616+c+0)/18446744073709551616+(d.getD k 0+(mm%18446744073709551616+c+0)%18446744073709551616+0)/18446744073709551616)=d.getD k 0+mm+c:=by omega
   generalize (d.getD k 0+(mm%18446744073709551616+c+0)%18446744073709551616+0)%18446744073709551616=dg at *
   generalize mm/18446744073709551616+(mm%18446744073709551616+c+0)/18446744073709551616+(d.getD k 0+(mm%18446744073709551616+c+0)%18446744073709551616+0)/18446744073709551616=cn at *
   rw [<- hmm] at key
   grind
 ·have o:k=xs.length:=by omega
  subst o
  rw [aV,<- hle,aV,<- f,aV] at u
  exact hK d c q f r t (by rw [<- f];exact u) j
def Kg{zs xs:List Int}{an bn:Nat}{wd:Int}(w:Win .u64 h g b e A pre zs post)(hn:an=zs.length)(sx:SlI .u64 g B xs)(hm:bn=xs.length)(dz:Dig b64 zs)(dx:Dig b64 xs)(hle:zs.length=xs.length)(hw:0<=wd/\wd<18446744073709551616)(hl:xs.length<=10000000000)
 (hK:∀ zs' c h',zs'.length=zs.length->Dig b64 zs'->(0<=c/\c<18446744073709551616)->val b64 zs'=val b64 zs-val b64 xs*wd+c*b64^zs.length->Win .u64 h' g b e A pre zs' post->K (U c) h'):aW prog U4 #[.slice A an ac,.slice B bn bc,U wd] h K:=by
 subst hn hm
 refine Lv _ _ _ _ _ _ _ ?_
 unfold Hf
 refine ⟨fun l r=>∃ (k:Nat) (c:Int) (d:List Int),l=[U c,I k]/\k<=xs.length/\d.length=zs.length/\Dig b64 d/\(0<=c/\c<18446744073709551616)/\Win .u64 r g b e A pre d post/\d.drop k=zs.drop k/\val b64 (d.take k)=val b64 (zs.take k)-val b64 (xs.take k)*wd+c*b64^k,fun l _=>xs.length-(iAt l 1).toNat,⟨0,0,zs,rfl,by omega,rfl,dz,by omega,w,rfl,by simp [val]⟩,?_⟩
 rintro c i r ⟨k,C,d,q,H,f,s,u,j,m,o⟩
 obtain ⟨rfl,rfl⟩:c=C/\i=(k:Int):=by simpa using q
 refine B6 (fun E=>?_) (fun E=>?_)
 ·have x:=N9 dx k
  have D:=N9 s k
  have t:=E5 m
  have G:=C4 b64 xs k
  have F:=C4 b64 zs k
  have hm:0<=xs.getD k 0*wd/\xs.getD k 0*wd<=18446744073709551615*18446744073709551615:=⟨aS x.1 hw.1,eP (by omega) (by omega) hw.1 (by decide)⟩
  refine (sx.mono j.le).load rfl (by omega) (by omega) ?_
  rw [aC]
  refine Nq x hw ⟨_,_,rfl,?_⟩
  generalize hmm:xs.getD k 0*wd=mm at *
  refine Do (by omega) u (by omega) ⟨_,_,rfl,?_⟩
  refine j.sl.load f.symm (by omega) (by omega) ?_
  rw [aC]
  refine Fo D (by omega) (by omega) ⟨_,_,rfl,?_⟩
  obtain ⟨a,y,_⟩:=SlV.at j.sl (i:=k) (by simp;omega)
  refine ⟨a,y,by omega,by omega,j.storeN F4 y (by omega) ?_⟩
  intro h' z
  rw [B7 (n:=(k:Int)+1) (by omega) (by omega)]
  rw [C2 (n:=mm/18446744073709551616+(mm%18446744073709551616+c+0)/18446744073709551616) (by omega) (by omega)]
  rw [C2 (by split<;>omega) (by split<;>omega)]
  refine ⟨⟨k+1,_,_,rfl,by omega,by simpa using f,s.set (En _),by split<;>omega,z,?_,?_⟩,by simp only [iAt,aG,aL];omega⟩
  ·rw [D3 (by omega)];exact D6 m
  ·rw [C7 (by omega),F0,aF,aI (by omega),bG,G,F,<- t,o]
   have key:(d.getD k 0-(mm%18446744073709551616+c+0)%18446744073709551616-0)%18446744073709551616=d.getD k 0-mm-c+18446744073709551616*(mm/18446744073709551616+(mm%18446744073709551616+c+0)/18446744073709551616+(if d.getD k 0-(mm%18446744073709551616+c+0)%18446744073709551616-0<0 then 1 else 0)):=by split<;>omega
   rw [key]
   generalize mm/18446744073709551616+(mm%18446744073709551616+c+0)/18446744073709551616+(if d.getD k 0-(mm%18446744073709551616+c+0)%18446744073709551616-0<0 then 1 else 0)=cn at *
   rw [<- hmm]
   grind
 ·have p:k=xs.length:=by omega
  subst p
  rw [aV,<- hle,aV,<- f,aV] at o
  exact hK d c r f s u (by rw [<- f];exact o) j
end
def Yp{x z:Int}{s:Nat}(hs:s<=64)(_hx:0<=x/\x<18446744073709551616)(hz:0<=z/\z<(2:Int)^s):
 bor .u64 z (x*2^s%18446744073709551616)=z+x*2^s%18446744073709551616/\z+x*2^s%18446744073709551616<18446744073709551616/\x*2^s%18446744073709551616=2^s*(x%2^(64-s)):=by
 have k:=Z9 hs
 have c:0<(2:Int)^s:=bL (by decide)
 have j:0<(2:Int)^(64-s):=bL (by decide)
 have a:z<18446744073709551616:=by
  have:(2:Int)^s*1<=2^s*2^(64-s):=aJ (by omega) (by omega)
  omega
 have i:x*2^s%18446744073709551616=2^s*(x%2^(64-s)):=by
  rw [<- k,aR x,Int.mul_emod_mul_of_pos _ _ c]
 have d:=En (x*2^s)
 have f:0<=x%2^(64-s):=aT _ (by omega)
 have g:(x*2^s%18446744073709551616).toNat=2^s*(x%2^(64-s)).toNat:=by
  rw [i,Int.toNat_mul (by omega) f]
  rw [gU (by decide)];rfl
 have e:z.toNat<2^s:=by
  have:((2^s:Nat):Int)=(2:Int)^s:=by simp
  omega
 have b:bor .u64 z (x*2^s%18446744073709551616)=z+x*2^s%18446744073709551616:=by
  rw [A72 ⟨hz.1,a⟩ d,g,Nat.or_comm,A8e e,<- g]
  omega
 refine ⟨b,?_,i⟩
 rw [<- b,A72 ⟨hz.1,a⟩ d]
 have:z.toNat ||| (x*2^s%18446744073709551616).toNat<2^64:=Nat.or_lt_two_pow (by omega) (by have:=d.2;show _<_;omega)
 omega
def Ky(k:Nat):b64^k=(2:Int)^(64*k):=by
 rw [show b64=(2:Int)^64 by decide,<- Int.pow_mul]
section
variable {h g:bC} {K:VP} {A B:Option bI} {ac bc:Nat}
def U1{x:Int}{an s:Nat}(ma:Mw h A an x)(ha:an<=ac)(hl:an<=1000000000)(hs:s<=10000000000)(hK:∀ A' m c' h',h.le h'->m<=c'->Mw h' A' m (x*2^s)->K (.slice A' m c') h'):aW prog T3 #[.slice A an ac,U s] h K:=by
 have u:=ma.len_zero (by decide)
 refine A1x _ _ _ _ ?_
 unfold Ze
 refine D8 (fun N=>?_) (fun N=>D8 (fun j=>?_) (fun j=>?_))
 ·have:=u.2 (by omega)
  subst this
  rw [fI] at hK
  exact hK _ _ _ _ (B3 _) ha ma
 ·have:s=0:=by omega
  subst this
  rw [hO,Int.mul_one] at hK
  exact hK _ _ _ _ (B3 _) ha ma
 ·obtain ⟨a,rfl,sx,dx,nx,rfl⟩:=ma
  obtain ⟨k0,hk0⟩:∃ k0,k0=s/64:=⟨_,rfl⟩
  obtain ⟨r,hr⟩:∃ r,r=s%64:=⟨_,rfl⟩
  have W:B4 (C0 (cM (s:Int) 64))=(k0:Int):=by
   rw [bH (by omega),C2 (by omega) (by omega),B7 (by omega) (by omega)];omega
  have O:dN (s:Int) 64=(r:Int):=by rw [bW (by omega)];omega
  have er:C0 ((64:Int)-(r:Int))=((64-r:Nat):Int):=by rw [C2 (by omega) (by omega)];omega
  simp only [W,O,er,aC]
  have T:B4 (B4 ((a.length:Int)+k0)+1)=((a.length+k0+1:Nat):Int):=by rw [B7 (n:=(a.length:Int)+k0) (by omega) (by omega),B7 (by omega) (by omega)];omega
  rw [T]
  refine J7 Q1 (by omega) (by omega) (by omega) ?_
  intro b F
  rw [aC]
  refine ⟨_,_,_,rfl,?_⟩
  have w:0<(2:Int)^r:=bL (by decide)
  have z:0<(2:Int)^(64-r):=bL (by decide)
  have f:=Z9 (s:=r) (by omega)
  refine ⟨fun l h'=>∃ (k:Nat) (zs:List Int),l=[I k]/\k<=a.length/\zs.length=a.length+k0+1/\Dig b64 zs/\h'=blk .u64 C1 h b zs/\zs.drop (k+k0+1)=aE (a.length-k) 0/\zs.getD (k+k0) 0<2^r/\val b64 (zs.take (k+k0+1))=val b64 (a.take k)*2^s,fun l _=>a.length-(iAt l 0).toNat,⟨0,_,rfl,by omega,by simp,I0 (by decide) _,rfl,?_,?_,?_⟩,?_⟩
  ·rw [bF];congr 1;omega
  ·have:(aE (a.length+k0+1) (0:Int)).getD (0+k0) 0=0:=by simp [cU,List.getElem?_replicate];split<;>rfl
   rw [this];exact w
  ·rw [bZ,Cl];simp [val]
  rintro i hp ⟨k,zs,y,hk,c,C,rfl,t,L,d⟩
  obtain rfl:=sI1 y
  have p:=V8 (k:=.u64) (e:=C1) F zs
  refine B6 (fun j=>?_) (fun j=>?_)
  ·have o:=N9 dx k
   have M:=N9 C (k+k0)
   have V:=C4 b64 a k
   have S:=C4 b64 zs (k+k0)
   have J:B4 ((k:Int)+k0)=((k+k0:Nat):Int):=by rw [B7 (by omega) (by omega)];omega
   have H:B4 (((k+k0:Nat):Int)+1)=((k+k0+1:Nat):Int):=by rw [B7 (by omega) (by omega)];omega
   rw [J,H]
   refine (sx.mono p).load rfl (by omega) (by omega) ?_
   refine (Dl .u64 C1 h b zs).load c.symm (by omega) (by omega) ?_
   simp only [aC]
   refine B6 (fun e=>absurd e (by omega)) (fun _=>?_)
   refine ⟨_,rfl,by omega,by omega,?_⟩
   obtain ⟨Q,R,X⟩:=Yp (s:=r) (by omega) o ⟨M.1,L⟩
   rw [aI (show r<=64 by omega),E4,Q,B71 (show 64-r<=64 by omega)]
   have ad:=En (a.getD k 0*2^r)
   refine Fa (zs:=zs) (i:=k+k0) F4 (by first|omega|(rw [bN];omega)) ?_
   refine B6 (fun e=>absurd e (by omega)) (fun _=>?_)
   refine ⟨_,rfl,by omega,by omega,?_⟩
   refine Fa (zs:=zs.set (k+k0) (zs.getD (k+k0) 0+a.getD k 0*2^r%18446744073709551616)) (i:=k+k0+1) F4 (by first|omega|(rw [bN];omega)) ?_
   have G:0<=a.getD k 0/2^(64-r)/\a.getD k 0/2^(64-r)<2^r:=⟨bY o.1 (by omega),bJ z (by rw [f];exact o.2)⟩
   have ae:(2:Int)^r<=9223372036854775808:=by
    have:=C8 (B:=2) (by decide) (show r<=63 by omega)
    have e:(2:Int)^63=9223372036854775808:=by decide
    omega
   rw [B7 (n:=(k:Int)+1) (by omega) (by omega)]
   refine ⟨⟨k+1,(zs.set (k+k0) (zs.getD (k+k0) 0+a.getD k 0*2^r%18446744073709551616)).set (k+k0+1) (a.getD k 0/2^(64-r)),rfl,by omega,by simpa using c,(C.set ⟨by omega,R⟩).set ⟨G.1,by show _<(18446744073709551616:Int);omega⟩,rfl,?_,?_,?_⟩,by simp only [iAt,aG];omega⟩
   ·rw [show k+1+k0+1=(k+k0+1)+1 by omega,D3 (by omega),D3 (by omega),<- dH,t,bF]
    congr 1
   ·rw [show k+1+k0=k+k0+1 by omega]
    have:((zs.set (k+k0) (zs.getD (k+k0) 0+a.getD k 0*2^r%18446744073709551616)).set (k+k0+1) (a.getD k 0/2^(64-r))).getD (k+k0+1) 0=a.getD k 0/2^(64-r):=by
     rw [cU,hG (by rw [bN];omega)];rfl
    rw [this];exact G.2
   ·rw [show k+1+k0+1=(k+k0+1)+1 by omega,C7 (by rw [bN];omega),F0,C7 (by omega),F0]
    simp only [aF,aH,dD]
    rw [aI (show k+k0<=zs.length by omega),bG,V]
    rw [S] at d
    have D:(2:Int)^s=b64^k0*2^r:=by
     rw [Ky,<- bD];congr 1;omega
    have q:b64^(k+k0)=b64^k*b64^k0:=bD _ _ _
    have aa:=aO (a.getD k 0) (2^(64-r))
    have key:a.getD k 0*2^r%18446744073709551616+18446744073709551616*(a.getD k 0/2^(64-r))=a.getD k 0*2^r:=by
     rw [X,<- f,cX,<- cY]
     have:a.getD k 0%2^(64-r)+2^(64-r)*(a.getD k 0/2^(64-r))=a.getD k 0:=by omega
     rw [this,aR]
    generalize a.getD k 0*2^r%18446744073709551616=lo at *
    generalize a.getD k 0/2^(64-r)=hi at *
    rw [D] at d ⊢
    rw [q] at d ⊢
    have Z:(val b64 (a.take k)+b64^k*a.getD k 0)*(b64^k0*2^r)=val b64 (a.take k)*(b64^k0*2^r)+b64^k*b64^k0*(a.getD k 0*2^r):=by grind
    rw [Z,<- d,<- key]
    grind
  ·have g:k=a.length:=by omega
   subst g
   rw [aV,aK (by omega)] at d
   rw [<- c]
   refine Q5 (Dl _ _ _ _ _) C (aZ _) (by omega) ?_
   intro m hm E
   rw [d] at E
   exact ⟨_,_,_,rfl,hK _ _ _ _ (V8 F _) hm E⟩
def Gy{x:Int}{an s:Nat}(ma:Mw h A an x)(hl:an<=1000000000)(hs:s<=1000000000000)(hK:∀ A' m c' h',h.le h'->m<=c'->Mw h' A' m (x/2^s)->K (.slice A' m c') h'):aW prog Bm #[.slice A an ac,U s] h K:=by
 have M:=ma.nonneg (by decide)
 have af:=ma.lt (by decide)
 refine Xn _ _ _ _ ?_
 unfold We
 obtain ⟨k0,hk0⟩:∃ k0,k0=s/64:=⟨_,rfl⟩
 obtain ⟨r,hr⟩:∃ r,r=s%64:=⟨_,rfl⟩
 have w:C0 (cM (s:Int) 64)=(k0:Int):=by
  rw [bH (by omega),C2 (by omega) (by omega)];omega
 have C:B4 (k0:Int)=(k0:Int):=B7 (by omega) (by omega)
 have em:dN (s:Int) 64=(r:Int):=by rw [bW (by omega)];omega
 have er:C0 ((64:Int)-(r:Int))=((64-r:Nat):Int):=by rw [C2 (by omega) (by omega)];omega
 have en:C0 (an:Int)=(an:Int):=C2 (by omega) (by omega)
 simp only [w,C,em,er,en,aC]
 have n:(2:Int)^s=b64^k0*2^r:=by
  rw [Ky,<- bD];congr 1;omega
 refine B6 (fun h1=>?_) (fun h1=>?_)
 ·have:x/2^s=0:=by
   apply bU M
   rw [n]
   have Q:=C8 (B:=b64) (by decide) (show an<=k0 by omega)
   have S:b64^k0*1<=b64^k0*2^r:=aJ (by have:0<(2:Int)^r:=bL (by decide);omega) (aQ (D5 (by decide) _))
   omega
  rw [this] at hK
  exact hK _ _ _ _ (B3 _) (aZ _) Mag.zero
 ·obtain ⟨a,rfl,Z,p,nx,rfl⟩:=ma
  have F:B4 ((a.length:Int)-k0)=((a.length-k0:Nat):Int):=by rw [B7 (by omega) (by omega)];omega
  rw [F]
  refine J7 Q1 (by omega) (by omega) (by omega) ?_
  intro b W
  rw [aC]
  refine ⟨_,_,_,rfl,?_⟩
  have hp:0<(2:Int)^r:=bL (by decide)
  have d:=Z9 (s:=r) (by omega)
  have N:0<(2:Int)^(64-r):=bL (by decide)
  have ad:(a.drop k0).length=a.length-k0:=aN
  have o:∀ i,(a.drop k0).getD i 0=a.getD (k0+i) 0:=fun i=>A41
  refine ⟨fun l h'=>∃ (k:Nat) (zs:List Int),l=[I k]/\k<=a.length-k0/\zs.length=a.length-k0/\Dig b64 zs/\h'=blk .u64 C1 h b zs/\2^r*val b64 (zs.take k)+(a.drop k0).getD 0 0%2^r=val b64 ((a.drop k0).take k)+b64^k*((a.drop k0).getD k 0%2^r),fun l _=>a.length-(iAt l 0).toNat,⟨0,_,rfl,by omega,by simp,I0 (by decide) _,rfl,by simp [val]⟩,?_⟩
  rintro i ae ⟨k,zs,L,hk,c,O,rfl,R⟩
  obtain rfl:=sI1 L
  have j:∀ zs,h.le (blk .u64 C1 h b zs):=fun zs=>V8 (k:=.u64) (e:=C1) W zs
  have T:=N9 (p.drop k0) k
  refine B6 (fun h2=>?_) (fun h2=>?_)
  ·have e2:B4 ((k:Int)+k0)=((k0+k:Nat):Int):=by rw [B7 (by omega) (by omega)];omega
   have e3:B4 (((k0+k:Nat):Int)+1)=((k0+(k+1):Nat):Int):=by rw [B7 (by omega) (by omega)];omega
   rw [e2,e3]
   refine (Z.mono (j zs)).load rfl (by omega) (by omega) ?_
   refine B6 (fun e=>absurd e (by omega)) (fun _=>?_)
   refine ⟨_,rfl,by omega,by omega,?_⟩
   simp only [aC]
   rw [<- o k,B71 (show r<=64 by omega)]
   have f:0<=(a.drop k0).getD k 0/2^r:=bY T.1 (by omega)
   have J:(a.drop k0).getD k 0/2^r<2^(64-r):=by
    apply bJ hp
    rw [aR,d];exact T.2
   have X:(2:Int)^(64-r)<=18446744073709551616:=by
    rw [<- d]
    have:=aD (show 1<=(2:Int)^r by omega) (aQ N);omega
   refine Fa (zs:=zs) (i:=k) F4 (by first|omega|(rw [bN];omega)) ?_
   have d1:Dig b64 (zs.set k ((a.drop k0).getD k 0/2^r)):=O.set ⟨f,by show _<(18446744073709551616:Int);omega⟩
   have l1:(zs.set k ((a.drop k0).getD k 0/2^r)).length=a.length-k0:=by rw [bN];exact c
   have g1:(zs.set k ((a.drop k0).getD k 0/2^r)).getD k 0=(a.drop k0).getD k 0/2^r:=by simp [cU,show k<zs.length by omega]
   have vr:=C4 b64 (a.drop k0) k
   have g:∀ z:Int,2^r*z=(a.drop k0).getD k 0-(a.drop k0).getD k 0%2^r+18446744073709551616*((a.drop k0).getD (k+1) 0%2^r)->
    2^r*val b64 ((zs.set k z).take (k+1))+(a.drop k0).getD 0 0%2^r=val b64 ((a.drop k0).take (k+1))+b64^(k+1)*((a.drop k0).getD (k+1) 0%2^r):=by
    intro z ez
    rw [C7 (by omega),F0,aF,aI (by omega),vr,bG]
    have F:2^r*(val b64 (zs.take k)+b64^k*z)=2^r*val b64 (zs.take k)+b64^k*(2^r*z):=by grind
    rw [F,ez]
    grind
   have ag:=aO ((a.drop k0).getD k 0) (2^r)
   have H:B4 ((k:Int)+1)=((k+1:Nat):Int):=by rw [B7 (by omega) (by omega)];omega
   rw [H]
   refine B6 (fun h3=>?_) (fun h3=>?_)
   ·have ld:=(Dl .u64 C1 h b (zs.set k ((a.drop k0).getD k 0/2^r)))
    obtain ⟨aa,y,D⟩:=SlV.at ld (i:=k) (by simp;omega)
    refine ⟨aa,y,by omega,by omega,(a.drop k0).getD k 0/2^r,?_,?_⟩
    ·rw [cF,D]
     congr 1
     simp only [List.getElem_map]
     congr 1
     simp
    refine (Z.mono (j _)).load rfl (by omega) (by omega) ?_
    refine B6 (fun e=>absurd e (by omega)) (fun _=>?_)
    refine ⟨_,rfl,by omega,by omega,?_⟩
    simp only [aC]
    rw [<- o (k+1)]
    have gr:=N9 (p.drop k0) (k+1)
    obtain ⟨o1,o2,o3⟩:=Yp (s:=64-r) (by omega) gr ⟨f,J⟩
    rw [aI (show 64-r<=64 by omega),E4,o1]
    refine Fa (zs:=zs.set k ((a.drop k0).getD k 0/2^r)) (i:=k) F4 (by first|omega|(rw [bN];omega)) ?_
    rw [List.set_set]
    have ah:=En ((a.drop k0).getD (k+1) 0*2^(64-r))
    refine ⟨⟨k+1,zs.set k ((a.drop k0).getD k 0/2^r+(a.drop k0).getD (k+1) 0*2^(64-r)%18446744073709551616),rfl,by omega,by simpa using c,O.set ⟨by omega,o2⟩,rfl,g _ ?_⟩,by simp only [iAt,aG];omega⟩
    rw [o3,show 64-(64-r)=r by omega,cY,<- cX,d]
    omega
   ·have u:(a.drop k0).getD (k+1) 0=0:=by simp only [cU,cQ (show (a.drop k0).length<=k+1 by omega)];rfl
    refine ⟨⟨k+1,zs.set k ((a.drop k0).getD k 0/2^r),rfl,by omega,l1,d1,rfl,g _ ?_⟩,by simp only [iAt,aG];omega⟩
    rw [u,gQ,fK,fL];omega
  ·have E:k=a.length-k0:=by omega
   subst E
   have u:(a.drop k0).getD (a.length-k0) 0=0:=by simp only [cU,cQ (show (a.drop k0).length<=a.length-k0 by omega)];rfl
   rw [u,gQ,fK,fL,aK (by omega),aK (by omega)] at R
   have G:=aT ((a.drop k0).getD 0 0) (show (2:Int)^r≠0 by omega)
   have t:=aP ((a.drop k0).getD 0 0) hp
   have q:val b64 a/2^s=val b64 zs:=by
    have sp:=F3 b64 a (i:=k0) (by omega)
    have Q:=L5 (by decide) (p.take k0)
    have S:=C6 (by decide) (p.take k0)
    rw [aF,aI (by omega)] at Q
    rw [n,<- fF (aQ (D5 (by decide) _)),sp,fS _ _ (by have:=D5 (B:=b64) (by decide) k0;omega),bU S Q,dL,<- R,fN,fS _ _ (by omega),bU G t,dL]
   rw [<- c]
   refine Q5 (Dl _ _ _ _ _) O (aZ _) (by omega) ?_
   intro m hm V
   rw [<- q] at V
   exact ⟨_,_,_,rfl,hK _ _ _ _ (V8 W _) hm V⟩
end
def Cz(B:Int)(xs:List Int)(n:Nat):val B (xs++aE n 0)=val B xs:=by rw [G0,Cl];omega
def Np{xs:List Int}{k:Nat}(h:fU xs)(hk:k<xs.length):fU (xs.drop k):=by
 unfold fU at *
 rwa [List.getLast?_drop,iN (by omega)]
def Mw.of{h:bC}{A:Option bI}{xs:List Int}(s:SlI .u64 h A xs)(d:Dig b64 xs)(n:fU xs):Mw h A xs.length (val b64 xs):=⟨xs,rfl,s,d,n,rfl⟩
def A1q{k:dY}{h:bC}{A:Option bI}{xs:List Int}(s:SlI k h A xs){c l:Nat}(hl:l<=xs.length)(hc:xs.length<=c):SlI k h (J9 A c l 1) (xs.drop l):=by
 have:=s.cut (c:=c) (l:=l) (m:=xs.length) hl (aZ _) hc
 rwa [aK (by rw [aN];omega)] at this
def Kc{k:dY}{h:bC}{A:Option bI}{xs:List Int}(s:SlI k h A xs){c m:Nat}(hm:m<=xs.length)(hc:xs.length<=c):SlI k h A (xs.take m):=by
 have:=s.cut (c:=c) (l:=0) (m:=m) (by omega) hm hc
 simpa [H8] using this
def Bi{h:bC}{K:VP}{A:Option bI}{ac n:Nat}{v:Int}{xs:List Int}(s:SlI .u64 h A xs)(hd:Dig b64 xs)(hn:n=xs.length)(hv:val b64 xs=v)(hc:n<=ac)(hl:n<=10000000000)(hK:∀ m,m<=n->Mw h A m v->K (.slice A m ac) h):aW prog I7 #[.slice A n ac] h K:=by
 subst hn hv
 exact Q5 s hd hc hl hK
def C4m(N:Nat):Prop:=∀ {h:bC} {K:VP} {A B:Option bI} {ac bc an bn:Nat} {x y:Int},an+bn<=N->Mw h A an x->Mw h B bn y->an<=ac->bn<=bc->an<=1000000000->bn<=1000000000->
 (∀ A' m c' h',h.le h'->m<=c'->Mw h' A' m (x*y)->K (.slice A' m c') h')->aW prog D0 #[.slice A an ac,.slice B bn bc] h K
section
variable {h g:bC} {K:VP} {A B:Option bI} {ac bc:Nat}
def C37{xs ys:List Int}{b:Nat}(hb:h b=none)(sx:SlI .u64 h A xs)(dx:Dig b64 xs)(sy:SlI .u64 h B ys)(dy:Dig b64 ys)(hl:xs.length<=1000000000)(hl2:ys.length<=1000000000)
 (hK:∀ A' m c' h',h.le h'->m<=c'->Mw h' A' m (val b64 xs*val b64 ys)->K (.slice A' m c') h'):
 Y4 prog K A xs.length ac B ys.length (some ⟨b,0,none⟩) (xs.length+ys.length) (xs.length+ys.length) (blk .u64 C1 h b (aE (xs.length+ys.length) 0)):=by
 unfold Y4
 refine ⟨fun l C=>∃ (k:Nat) (zs:List Int),l=[I k]/\k<=ys.length/\zs.length=xs.length+ys.length/\Dig b64 zs/\Win .u64 C h b C1 (some ⟨b,0,none⟩) [] zs []/\zs.drop (k+xs.length)=aE (ys.length-k) 0/\val b64 (zs.take (k+xs.length))=val b64 xs*val b64 (ys.take k),fun l _=>ys.length-(iAt l 0).toNat,⟨0,_,rfl,by omega,by simp,I0 (by decide) _,Win.blk .u64 C1 hb _,?_,?_⟩,?_⟩
 ·rw [bF];congr 1;omega
 ·rw [bZ,Cl];simp [val]
 rintro i C ⟨k,zs,x,O,r,g,w,s,j⟩
 obtain rfl:=sI1 x
 refine B6 (fun G=>?_) (fun G=>?_)
 ·have M:=N9 dy k
  have L:=C4 b64 ys k
  have J:B4 ((k:Int)+xs.length)=((k+xs.length:Nat):Int):=by rw [B7 (by omega) (by omega)];omega
  rw [J]
  refine (sy.mono w.le).load rfl (by omega) (by omega) ?_
  simp only [aC]
  refine ⟨⟨by omega,by omega⟩,⟨by omega,by omega⟩,?_⟩
  have a:((zs.drop k).take (k+xs.length-k)).length=xs.length:=by rw [aF,aN];omega
  refine Ix (w.sub (l:=k) (m:=k+xs.length) (c:=xs.length+ys.length) (by omega) (by omega) (by omega)) (by rw [a];omega) sx rfl ((g.drop k).take _) dx a M (by omega) ?_
  intro f c h' d e E y D
  rw [a] at d
  have F:=w.whole (l:=k) (m:=k+xs.length) (by omega) (by omega) (by omega) D
  refine ⟨_,rfl,_,rfl,by omega,by omega,?_⟩
  have u:(zs.take k++f++zs.drop (k+xs.length)).length=xs.length+ys.length:=by
   simp only [aH,aF,aN];omega
  refine F.storeN (i:=k+xs.length) F4 rfl (by omega) ?_
  intro Q H
  rw [B7 (n:=(k:Int)+1) (by omega) (by omega)]
  have o:(zs.take k++f++zs.drop (k+xs.length)).take (k+xs.length)=zs.take k++f:=by
   apply dB
   simp only [aH,aF];omega
  have t:(zs.take k++f++zs.drop (k+xs.length)).drop (k+xs.length)=zs.drop (k+xs.length):=by
   apply eI
   simp only [aH,aF];omega
  refine ⟨⟨k+1,_,rfl,by omega,by rw [bN];exact u,(((g.take k).append e).append (g.drop _)).set E,H,?_,?_⟩,by simp only [iAt,aG];omega⟩
  ·rw [show k+1+xs.length=(k+xs.length)+1 by omega,D3 (by omega),<- dH,t,s,bF]
   congr 1
  ·rw [show k+1+xs.length=(k+xs.length)+1 by omega,C7 (by omega),o,F0,G0,L]
   simp only [aH,aF]
   rw [aI (by omega),d,bD]
   have p:val b64 (zs.take (k+xs.length))=val b64 (zs.take k)+b64^k*val b64 ((zs.drop k).take (k+xs.length-k)):=by
    rw [show k+xs.length-k=xs.length by omega,gP,G0,aF,aI (by omega)]
   rw [a] at y
   rw [p] at j
   grind
 ·have q:k=ys.length:=by omega
  subst q
  rw [aV,aK (by omega)] at j
  rw [<- r]
  refine Q5 w.sl g (aZ _) (by omega) ?_
  intro m N z
  rw [j] at z
  exact ⟨_,_,_,rfl,hK _ _ _ _ w.le N z⟩
def Qh{x y:Int}{an bn N:Nat}(ih:C4m N)(hN:2*bn<=N)(ma:Mw h A an x)(mb:Mw h B bn y)(ha:an<=ac)(hbc:bn<=bc)(hl:an<=1000000000)(hb0:0<bn)(hba:bn<=an)(hK:∀ A' m c' h',h.le h'->m<=c'->Mw h' A' m (x*y)->K (.slice A' m c') h'):aW prog Cq #[.slice A an ac,.slice B bn bc] h K:=by
 have ad:=mb.nonneg (by decide)
 have C:=mb.lt (by decide)
 obtain ⟨a,rfl,sx,Q,nx,rfl⟩:=ma
 refine Su _ _ _ _ _ _ ?_
 unfold Pb
 have e1:B4 ((a.length:Int)+bn)=((a.length+bn:Nat):Int):=by rw [B7 (by omega) (by omega)];omega
 rw [e1]
 refine J7 Q1 (by omega) (by omega) (by omega) ?_
 intro b hb
 rw [aC]
 refine ⟨_,_,_,rfl,?_⟩
 refine ⟨fun l L=>∃ (k:Nat) (zs:List Int) (g:bC),l=[I k]/\k<=a.length+bn/\h.le g/\zs.length=a.length+bn/\Dig b64 zs/\Win .u64 L g b C1 (some ⟨b,0,none⟩) [] zs []/\val b64 zs=val b64 (a.take k)*y,fun l _=>a.length+bn-(iAt l 0).toNat,⟨0,_,h,rfl,by omega,B3 h,by simp,I0 (by decide) _,Win.blk .u64 C1 hb _,by rw [Cl];simp [val]⟩,?_⟩
 rintro i L ⟨k,zs,g,af,hk,O,aa,t,w,T⟩
 obtain rfl:=sI1 af
 refine B6 (fun h1=>?_) (fun h1=>?_)
 ·have e2:B4 ((k:Int)+bn)=((k+bn:Nat):Int):=by rw [B7 (by omega) (by omega)];omega
  rw [e2]
  obtain ⟨en,hen⟩:∃ en,en=min a.length (k+bn):=⟨_,rfl⟩
  have e3:(if (a.length:Int)<((k+bn:Nat):Int) then (a.length:Int) else ((k+bn:Nat):Int))=(en:Int):=by split<;>omega
  rw [e3]
  simp only [aC]
  refine ⟨⟨by omega,by omega⟩,⟨by omega,by omega⟩,⟨by omega,by omega⟩,?_⟩
  have S:((a.drop k).take (en-k)).length=en-k:=by rw [aF,aN];omega
  have sp:SlI .u64 g (J9 A ac k 1) ((a.drop k).take (en-k)):=(sx.mono O).cut (c:=ac) (l:=k) (m:=en) (by omega) (by omega) ha
  have dp:Dig b64 ((a.drop k).take (en-k)):=(Q.drop k).take _
  have ar:=C6 (by decide) Q
  have z:∀ m,m<=en-k->fU (((a.drop k).take (en-k)).take m)->val b64 (((a.drop k).take (en-k)).take m)=val b64 ((a.drop k).take (en-k))->
   aW prog D0 #[.slice (J9 A ac k 1) m (ac-k),.slice B bn bc] L (fun W d=>∃ (t38A:Option bI) (t38n:Nat) (t38c:Nat),W= .slice t38A t38n t38c/\Heap.le L d/\aW prog T5 #[.slice (J9 (some ⟨b,0,none⟩) (a.length+bn) k 1) (a.length+bn-k) (a.length+bn-k),.slice t38A t38n t38c] d (fun r2 q=>r2= .tuple #[]/\(∃ (k_1:Nat) (zs:List Int) (g:bC),[I ((k+bn:Nat):Int)]=[I k_1]/\k_1<=a.length+bn/\h.le g/\zs.length=a.length+bn/\Dig b64 zs/\Win .u64 q g b C1 (some ⟨b,0,none⟩) [] zs []/\val b64 zs=val b64 (a.take k_1)*y)/\a.length+bn-(iAt [I ((k+bn:Nat):Int)] 0).toNat<a.length+bn-(iAt [I k] 0).toNat)):=by
   intro m hm s p
   have Mp:Mw g (J9 A ac k 1) m (val b64 ((a.drop k).take (en-k))):=⟨((a.drop k).take (en-k)).take m,by rw [aF];omega,Kc sp (c:=ac) (by omega) (by omega),dp.take m,s,p⟩
   refine w.call ?_
   refine ih (by omega) Mp (mb.mono O) (by omega) hbc (by omega) (by omega) ?_
   intro A' m' c' g2 l2 al M2 h3 w3
   refine ⟨_,_,_,rfl,?_,?_⟩
   ·rw [w.eq,w3.eq]
    intro kk o e
    by_cases H:kk=b
    ·subst H;rw [B9] at e ⊢;exact e
    ·rw [B8 _ _ H] at e ⊢;exact l2 kk o e
   obtain ⟨f,G,J,u,aj,ag⟩:=M2
   have ai:=F3 b64 zs (i:=k) (by omega)
   have ap:=C6 (by decide) (t.take k)
   have V:a.take en=a.take k++(a.drop k).take (en-k):=by
    have:=gP (l:=a) (i:=k) (j:=en-k)
    rwa [show k+(en-k)=en by omega] at this
   have ah:val b64 (a.take en)=val b64 (a.take k)+b64^k*val b64 ((a.drop k).take (en-k)):=by
    rw [V,G0,aF,aI (by omega)]
   have E:val b64 zs+b64^k*val b64 f=val b64 (a.take en)*y:=by
    rw [T,ag,ah];grind
   have aq:val b64 (a.take en)*y<b64^(a.length+bn):=by
    have t1:=L5 (by decide) (Q.take en)
    have t2:=C6 (by decide) (Q.take en)
    rw [aF,aI (by omega)] at t1
    have t3:val b64 (a.take en)*y<=b64^en*y:=aD (by omega) ad
    have t4:b64^en*y<b64^en*b64^bn:=cO C (D5 (by decide) en)
    rw [<- bD] at t4
    have t5:=C8 (B:=b64) (by decide) (show en+bn<=a.length+bn by omega)
    omega
   have F:val b64 (zs.drop k)+val b64 f<b64^(a.length+bn-k):=by
    have e5:b64^(a.length+bn)=b64^k*b64^(a.length+bn-k):=by rw [<- bD];congr 1;omega
    by_cases M:val b64 (zs.drop k)+val b64 f<b64^(a.length+bn-k)
    ·exact M
    ·have:=aJ (show b64^(a.length+bn-k)<=val b64 (zs.drop k)+val b64 f by omega) (aQ (D5 (B:=b64) (by decide) k))
     rw [cY] at this
     omega
   have ak:=C6 (by decide) (t.drop k)
   have am:f.length<=a.length+bn-k:=by
    have Mps:Mw g2 A' f.length (val b64 f):=⟨f,rfl,J,u,aj,rfl⟩
    exact Mps.len_le (by decide) (by omega)
   have ws:=w3.sub (l:=k) (m:=a.length+bn) (c:=a.length+bn) (by omega) (by omega) (by omega)
   have R:(zs.drop k).take (a.length+bn-k)=zs.drop k:=aK (by rw [aN];omega)
   have D:(zs.drop k).length=a.length+bn-k:=by rw [aN];omega
   rw [R] at ws
   refine Iy ws D.symm J G (t.drop k) u (by omega) (by rw [D];exact F) (by omega) ?_
   intro us h5 ao Z ae w5
   have w6:=w3.whole (l:=k) (m:=a.length+bn) (by omega) (by omega) (by omega) w5
   refine ⟨rfl,⟨k+bn,_,g2,rfl,by omega,Heap.le_trans O l2,?_,((t.take k).append Z).append (t.drop _),w6,?_⟩,by simp only [iAt,aG];omega⟩
   ·simp only [aH,aF,aN];omega
   ·rw [aY (by omega),bX,G0,aF,aI (by omega),ae]
    have:a.take (k+bn)=a.take en:=by
     rw [hen]
     by_cases M:a.length<=k+bn
     ·rw [aI M,aV,aK M]
     ·rw [fC (by omega)]
    rw [this,<- E,ai];grind
  have tr:=Ed (K:=fun r n=>∃ (t36A:Option bI) (t36n:Nat) (t36c:Nat),r= .slice t36A t36n t36c/\Heap.le L n/\aW prog D0 #[.slice t36A t36n t36c,.slice B bn bc] n (fun W d=>∃ (t38A:Option bI) (t38n:Nat) (t38c:Nat),W= .slice t38A t38n t38c/\Heap.le n d/\aW prog T5 #[.slice (J9 (some ⟨b,0,none⟩) (a.length+bn) k 1) (a.length+bn-k) (a.length+bn-k),.slice t38A t38n t38c] d (fun r2 q=>r2= .tuple #[]/\(∃ (k_1:Nat) (zs:List Int) (g:bC),[I ((k+bn:Nat):Int)]=[I k_1]/\k_1<=a.length+bn/\h.le g/\zs.length=a.length+bn/\Dig b64 zs/\Win .u64 q g b C1 (some ⟨b,0,none⟩) [] zs []/\val b64 zs=val b64 (a.take k_1)*y)/\a.length+bn-(iAt [I ((k+bn:Nat):Int)] 0).toNat<a.length+bn-(iAt [I k] 0).toNat))) (ac:=ac-k) (sp.mono w.le) (by omega) (by omega) (fun m hm s p=>⟨_,_,_,rfl,B3 _,z m (by omega) s p⟩)
  rw [S] at tr
  exact tr
 ·have X:a.take k=a:=aK (by omega)
  rw [X] at T
  rw [<- aa]
  refine Q5 w.sl t (aZ _) (by omega) ?_
  intro m hm hM
  rw [T] at hM
  exact ⟨_,_,_,rfl,hK _ _ _ _ (Heap.le_trans O w.le) hm hM⟩
def C76{X0 X1 Y0 Y1 P:Int}(hx0:0<=X0)(hx1:0<=X1)(hy0:0<=Y0)(hy1:0<=Y1):
 X0*Y0<=(X0+X1)*(Y0+Y1)/\X1*Y1<=(X0+X1)*(Y0+Y1)-X0*Y0/\(X0+P*X1)*(Y0+P*Y1)=X0*Y0+P*((X0+X1)*(Y0+Y1)-X0*Y0-X1*Y1)+P*P*(X1*Y1):=by
 have a:=aS hx0 hy0
 have b:=aS hx0 hy1
 have c:=aS hx1 hy0
 have d:=aS hx1 hy1
 have e:(X0+X1)*(Y0+Y1)=X0*Y0+X0*Y1+X1*Y0+X1*Y1:=by grind
 refine ⟨by omega,by omega,?_⟩
 rw [e];grind
def C5a:∀ N,C4m N:=by
 intro N
 induction N with
 | zero=>
  intro h K A B ac bc an bn x y hN ma mb ha M hl u z
  have h0:=ma.len_zero (by decide)
  have hx:x=0:=h0.2 (by omega)
  subst hx
  rw [fI] at z
  refine Fe _ _ _ _ _ _ ?_
  unfold Dy
  refine ⟨fun l h'=>h'=h/\l=[.slice A an ac,.slice B bn bc],B6 (fun e=>absurd e (by omega)) (fun _=>⟨rfl,rfl⟩),?_⟩
  rintro A1 s c1 B1 D c2 hp ⟨rfl,hl⟩
  obtain ⟨⟨rfl,rfl,rfl⟩,rfl,rfl,rfl⟩:(A1=A/\s=an/\c1=ac)/\B1=B/\D=bn/\c2=bc:=by simpa using hl
  refine D8 (fun _=>z none 0 0 _ (B3 _) (aZ _) Mag.zero) (fun e=>absurd (by omega) e)
 | succ N ih=>
  intro h K A B ac bc an bn x y hN ma mb ha M hl u z
  refine Fe _ _ _ _ _ _ ?_
  unfold Dy
  refine ⟨fun l h'=>h'=h/\∃ (A1 B1:Option bI) (s D c1 c2:Nat) (x1 y1:Int),l=[.slice A1 s c1,.slice B1 D c2]/\Mw h A1 s x1/\Mw h B1 D y1/\D<=s/\s<=1000000000/\s<=c1/\D<=c2/\s+D<=N+1/\x1*y1=x*y,B6 (fun h1=>?_) (fun h1=>?_),?_⟩
  ·exact ⟨rfl,_,_,_,_,_,_,y,x,rfl,mb,ma,by omega,u,M,ha,by omega,aR _ _⟩
  ·exact ⟨rfl,_,_,_,_,_,_,x,y,rfl,ma,mb,by omega,hl,ha,M,by omega,rfl⟩
  clear ma mb ha M hl u hN
  rintro A1 s c1 B1 D c2 hp ⟨rfl,A1',B1',bl,bh,bj,bp,x1,y1,a5,m1,X,hn,ap,F,S,cs,az⟩
  obtain ⟨⟨rfl,rfl,rfl⟩,rfl,rfl,rfl⟩:(A1=A1'/\s=bl/\c1=bj)/\B1=B1'/\D=bh/\c2=bp:=by simpa using a5
  rw [<- az] at z
  clear a5 az
  have hz:=X.len_zero (by decide)
  refine D8 (fun h0=>?_) (fun h0=>?_)
  ·have:y1=0:=hz.2 (by omega)
   subst this
   rw [fK] at z
   exact z none 0 0 _ (B3 _) (aZ _) Mag.zero
  ·refine ⟨fun l h'=>∃ t:Bool,h'=hp/\l=[.bool t]/\(t=true->y1=1),D8 (fun h1=>?_) (fun h1=>⟨false,rfl,rfl,fun e=>by cases e⟩),?_⟩
   ·obtain ⟨f,ad,sy,O,ny,bd⟩:=X
    refine sy.load ad (by omega) (by omega) ⟨_,rfl,rfl,fun e=>?_⟩
    have e1:f.getD 0 0=1:=by simpa using e
    obtain ⟨d,rfl⟩:∃ d,f=[d]:=by
     cases f with
     | nil=>simp at ad;omega
     | cons d r=>
      cases r with
      | nil=>exact ⟨d,rfl⟩
      | cons _ _=>simp at ad;omega
    rw [<- bd,W4];simpa using e1
   rintro tb Z ⟨t',rfl,u,L⟩
   obtain rfl:tb=t':=by simpa using u
   refine Br.of (fun e=>?_) (fun _=>?_)
   ·rw [L e,Int.mul_one] at z
    exact z _ _ _ _ (B3 _) F m1
   clear L u
   have eL:B4 ((s:Int)+D)=((s+D:Nat):Int):=by rw [B7 (by omega) (by omega)];omega
   refine B6 (fun h2=>?_) (fun h2=>?_)
   ·obtain ⟨g,rfl,sx,dx,nx,rfl⟩:=m1
    obtain ⟨f,rfl,sy,O,ny,rfl⟩:=X
    rw [eL]
    refine J7 Q1 (by omega) (by omega) (by omega) ?_
    intro b M
    rw [aC]
    exact ⟨_,_,_,rfl,C37 M sx dx sy O ap (by omega) z⟩
   ·obtain ⟨H,hH⟩:∃ H,H=(s+1)/2:=⟨_,rfl⟩
    have eH:B4 (cM (B4 ((s:Int)+1)) 2)=(H:Int):=by
     rw [B7 (n:=(s:Int)+1) (by omega) (by omega),bH (by omega),B7 (by omega) (by omega)];omega
    have b6:B4 ((2:Int)*(H:Int))=((2*H:Nat):Int):=by rw [B7 (by omega) (by omega)];omega
    simp only [eH,eL,b6,aC]
    refine B6 (fun h3=>?_) (fun h3=>?_)
    ·refine Qh ih (by omega) m1 X F S ap (by omega) (by omega) ?_
     intro A' m c' h' l' k' M'
     exact ⟨_,_,_,rfl,z _ _ _ _ l' k' M'⟩
    ·have bx:=m1.nonneg (by decide)
     have a6:=m1.lt (by decide)
     have af:=X.lt (by decide)
     have bb:=X.nonneg (by decide)
     obtain ⟨g,rfl,sx,dx,nx,rfl⟩:=m1
     obtain ⟨f,rfl,sy,O,ny,rfl⟩:=X
     have b2:H<g.length:=by omega
     have b3:H<f.length:=by omega
     have a3:=C6 (by decide) (dx.take H)
     have a1:=C6 (by decide) (dx.drop H)
     have au:=C6 (by decide) (O.take H)
     have aw:=C6 (by decide) (O.drop H)
     have b5:=F3 b64 g (i:=H) (by omega)
     have bi:=F3 b64 f (i:=H) (by omega)
     have al:=L5 (by decide) (dx.take H)
     have a2:=L5 (by decide) (O.take H)
     rw [aF,aI (by omega)] at al a2
     have w:Mw Z (J9 A1 c1 H 1) (g.length-H) (val b64 (g.drop H)):=by
      have:=Mw.of (A1q sx (c:=c1) (l:=H) (by omega) F) (dx.drop H) (Np nx b2)
      rwa [aN] at this
     have C:Mw Z (J9 B1 c2 H 1) (f.length-H) (val b64 (f.drop H)):=by
      have:=Mw.of (A1q sy (c:=c2) (l:=H) (by omega) S) (O.drop H) (Np ny b3)
      rwa [aN] at this
     obtain ⟨ka,kb,kc⟩:=C76 (P:=b64^H) a3 a1 au aw
     rw [<- b5,<- bi] at kc
     generalize hX0:val b64 (g.take H)=X0 at *
     generalize hX1:val b64 (g.drop H)=X1 at *
     generalize hY0:val b64 (f.take H)=Y0 at *
     generalize hY1:val b64 (f.drop H)=Y1 at *
     rw [H8,H8,bV,bV,bV]
     refine ⟨⟨by omega,by omega⟩,⟨by omega,by omega⟩,?_⟩
     refine Bi (Kc sx (c:=c1) (m:=H) (by omega) F) (dx.take H) (by rw [aF];omega) hX0 (by omega) (by omega) ?_
     intro mx cn MX0
     refine ⟨_,_,_,rfl,B3 _,⟨by omega,by omega⟩,⟨by omega,by omega⟩,?_⟩
     refine Bi (Kc sy (c:=c2) (m:=H) (by omega) S) (O.take H) (by rw [aF];omega) hY0 (by omega) (by omega) ?_
     intro my cl MY0
     refine ⟨_,_,_,rfl,B3 _,?_⟩
     refine ih (by omega) MX0 MY0 (by omega) (by omega) (by omega) (by omega) ?_
     intro A3 n3 c3 g3 l3 k3 M3
     refine ⟨_,_,_,rfl,?_⟩
     refine ih (by omega) (w.mono l3) (C.mono l3) (by omega) (by omega) (by omega) (by omega) ?_
     intro A4 n4 c4 g4 l4 k4 M4
     refine ⟨_,_,_,rfl,?_⟩
     have E:=Heap.le_trans l3 l4
     refine R9 (MX0.mono E) (w.mono E) (by omega) (by omega) (by omega) (by omega) ?_
     intro A5 n5 c5 g5 l5 k5 M5
     refine ⟨_,_,_,rfl,?_⟩
     have a7:=Heap.le_trans E l5
     refine R9 (MY0.mono a7) (C.mono a7) (by omega) (by omega) (by omega) (by omega) ?_
     intro A6 n6 c6 g6 l6 k6 M6
     refine ⟨_,_,_,rfl,?_⟩
     have ao:=w.lt (by decide)
     have a4:=C.lt (by decide)
     have b1:=D5 (B:=b64) (by decide) H
     have b7:b64^(H+1)=b64^H*18446744073709551616:=bG _ _
     have ca:n5<=H+1:=by
      refine M5.len_le (by decide) ?_
      have:=C8 (B:=b64) (by decide) (show g.length-H<=H by omega)
      omega
     have b9:n6<=H+1:=by
      refine M6.len_le (by decide) ?_
      have:=C8 (B:=b64) (by decide) (show f.length-H<=H by omega)
      omega
     refine ih (by omega) (M5.mono l6) M6 k5 k6 (by omega) (by omega) ?_
     intro A7 n7 c7 g7 l7 k7 M7
     refine ⟨_,_,_,rfl,?_⟩
     have T:=Heap.le_trans (Heap.le_trans l5 l6) l7
     have k:∀ {p q:Int} {i j:Nat},0<=p->p<b64^i->0<=q->q<b64^j->p*q<b64^(i+j):=by
      intro p q i j a b c d
      rw [bD]
      have t1:p*q<=b64^i*q:=aD (by omega) c
      have t2:b64^i*q<b64^i*b64^j:=cO d (D5 (by decide) i)
      omega
     have cb:n7<=n5+n6:=M7.len_le (by decide) (k (M5.nonneg (by decide)) (M5.lt (by decide)) (M6.nonneg (by decide)) (M6.lt (by decide)))
     refine H1 M7 (M3.mono (Heap.le_trans l4 T)) k7 (by omega) ka ?_
     intro A8 n8 c8 g8 l8 k8 M8
     refine ⟨_,_,_,rfl,?_⟩
     have ce:n8<=n7:=M8.len_le (by decide) (by have:=M7.lt (by decide);have:=M3.nonneg (by decide);omega)
     refine H1 M8 (M4.mono (Heap.le_trans T l8)) k8 (by omega) kb ?_
     intro A9 n9 c9 g9 l9 k9 M9
     refine ⟨_,_,_,rfl,?_⟩
     have aa:=Heap.le_trans T (Heap.le_trans l8 l9)
     have ah:Z.le g9:=Heap.le_trans E aa
     refine J7 Q1 (by omega) (by omega) (by omega) ?_
     intro b M
     rw [aC]
     refine ⟨_,_,_,rfl,?_⟩
     have w0:=Win.blk .u64 C1 M (aE (g.length+f.length) 0)
     have b8:n3<=H+H:=M3.len_le (by decide) (k a3 al au a2)
     have cc:n4<=(g.length-H)+(f.length-H):=M4.len_le (by decide) (k a1 ao aw a4)
     obtain ⟨o,av,a9,bu,ck,aj⟩:=M3.mono (Heap.le_trans l4 aa)
     obtain ⟨hi,ay,bf,bq,cj,ae⟩:=M4.mono aa
     obtain ⟨Q,am,a8,ax,bw,ar⟩:=M9
     refine Gt Q1 w0 (by simp) (a9.mono w0.le) av (by simp;omega) ?_
     intro cf V
     refine ⟨_,rfl,⟨by omega,by omega⟩,?_⟩
     have bt:o++(aE (g.length+f.length) (0:Int)).drop o.length=o++aE (g.length+f.length-o.length) 0:=by rw [bF]
     rw [bt] at V
     have W:=V.sub (l:=2*H) (m:=g.length+f.length) (c:=g.length+f.length) (by omega) (by simp;omega) (by simp;omega)
     have b4:((o++aE (g.length+f.length-o.length) (0:Int)).drop (2*H)).take (g.length+f.length-2*H)=aE (g.length+f.length-2*H) 0:=by
      rw [gG,aY (by omega),cT,bF,bZ]
      congr 1;omega
     rw [b4] at W
     refine Gt Q1 W (by simp) (bf.mono W.le) ay (by simp;omega) ?_
     intro cr ak
     refine ⟨_,rfl,⟨by omega,by omega⟩,?_⟩
     rw [bF] at ak
     have G:=V.whole (l:=2*H) (m:=g.length+f.length) (by omega) (by simp;omega) (by simp;omega) ak
     have bz:(o++aE (g.length+f.length-o.length) (0:Int)).take (2*H)=o++aE (2*H-o.length) 0:=by
      rw [dK,aK (by omega),bZ]
      congr 2;omega
     have be:(o++aE (g.length+f.length-o.length) (0:Int)).drop (g.length+f.length)=[]:=by
      apply aY;simp;omega
     rw [bz,be,bX] at G
     generalize hzs:o++aE (2*H-o.length) (0:Int)++(hi++aE (g.length+f.length-2*H-hi.length) 0)=zs at G
     have cg:zs.length=g.length+f.length:=by
      rw [<- hzs];simp;omega
     have J:Dig b64 zs:=by
      rw [<- hzs]
      exact (bu.append (I0 (by decide) _)).append (bq.append (I0 (by decide) _))
     have ba:val b64 zs=X0*Y0+b64^H*b64^H*(X1*Y1):=by
      rw [<- hzs,G0,Cz,Cz,aj,ae]
      have:(o++aE (2*H-o.length) (0:Int)).length=H+H:=by simp;omega
      rw [this,bD]
     have a0:=G.sub (l:=H) (m:=g.length+f.length) (c:=g.length+f.length) (by omega) (by omega) (by omega)
     have bm:(zs.drop H).take (g.length+f.length-H)=zs.drop H:=aK (by rw [aN];omega)
     have ag:(zs.drop H).length=g.length+f.length-H:=by rw [aN];omega
     rw [bm] at a0
     have bg:=F3 b64 zs (i:=H) (by omega)
     have cm:=C6 (by decide) (J.take H)
     have cd:=C6 (by decide) (J.drop H)
     have ci:val b64 g*val b64 f<b64^(g.length+f.length):=k bx a6 bb af
     have ai:val b64 zs+b64^H*val b64 Q=val b64 g*val b64 f:=by rw [kc,ba,ar];grind
     have aq:val b64 (zs.drop H)+val b64 Q<b64^(g.length+f.length-H):=by
      have e5:b64^(g.length+f.length)=b64^H*b64^(g.length+f.length-H):=by rw [<- bD];congr 1;omega
      by_cases hc:val b64 (zs.drop H)+val b64 Q<b64^(g.length+f.length-H)
      ·exact hc
      ·have:=aJ (show b64^(g.length+f.length-H)<=val b64 (zs.drop H)+val b64 Q by omega) (aQ b1)
       rw [cY] at this
       omega
     have cq:Q.length<=g.length+f.length-H:=by
      have Mmi:Mw g9 A9 Q.length (val b64 Q):=⟨Q,rfl,a8,ax,bw,rfl⟩
      exact Mmi.len_le (by decide) (by omega)
     refine Iy a0 ag.symm a8 am (J.drop H) ax (by omega) (by rw [ag];exact aq) (by omega) ?_
     intro us co ch bk bv bo
     refine ⟨rfl,?_⟩
     have R:=G.whole (l:=H) (m:=g.length+f.length) (by omega) (by omega) (by omega) bo
     rw [aY (show zs.length<=g.length+f.length by omega),bX] at R
     have br:(zs.take H++us).length=g.length+f.length:=by
      simp only [aH,aF];omega
     rw [<- br]
     refine Q5 R.sl ((J.take H).append bk) (by omega) (by omega) ?_
     intro m hm hM
     have b0:val b64 (zs.take H++us)=val b64 g*val b64 f:=by
      rw [G0,aF,aI (by omega),bv,<- ai,bg];grind
     rw [b0] at hM
     exact ⟨_,_,_,rfl,z _ _ _ _ (Heap.le_trans ah R.le) hm hM⟩
def H2{x y:Int}{an bn:Nat}(ma:Mw h A an x)(mb:Mw h B bn y)(ha:an<=ac)(hb:bn<=bc)(hl:an<=1000000000)(hl2:bn<=1000000000)(hK:∀ A' m c' h',h.le h'->m<=c'->Mw h' A' m (x*y)->K (.slice A' m c') h'):aW prog D0 #[.slice A an ac,.slice B bn bc] h K:=
 C5a _ (aZ _) ma mb ha hb hl hl2 hK
end
section
variable {h g:bC} {K:VP} {A B:Option bI} {ac bc:Nat}
def B46{hi lo y:Int}(hhi:0<=hi/\hi<y)(hlo:0<=lo/\lo<18446744073709551616)(hy:y<18446744073709551616)
 (hK:K (.tuple #[U ((hi*18446744073709551616+lo)/y),U ((hi*18446744073709551616+lo)%y)]) h):aW prog Gq #[U hi,U lo,U y] h K:=by
 obtain ⟨n,rfl⟩:∃ n:Nat,y=n:=⟨y.toNat,by omega⟩
 exact Tz hhi hlo (by omega) hK
def Vr{x:Int}{an w:Nat}(ma:Mw h A an x)(hw:0<w/\w<18446744073709551616)(hl:an<=1000000000)(hK:∀ A' m c' h',h.le h'->m<=c'->m<=an->Mw h' A' m (x/w)->K (.tuple #[.slice A' m c',U (x%w)]) h'):aW prog Gd #[.slice A an ac,U w] h K:=by
 obtain ⟨a,rfl,C,F,H,rfl⟩:=ma
 refine Xq _ _ _ _ ?_
 unfold Wl
 refine J7 Q1 (by omega) (by omega) (by omega) ?_
 intro b t
 rw [aC]
 refine ⟨_,_,_,rfl,?_⟩
 refine ⟨fun l h'=>∃ (k:Nat) (r:Int) (zs:List Int),l=[U r,I ((k:Int)-1)]/\k<=a.length/\zs.length=a.length/\Dig b64 zs/\(0<=r/\r<w)/\h'=blk .u64 C1 h b zs/\val b64 (a.drop k)=val b64 (zs.drop k)*w+r,fun l _=>(iAt l 1+1).toNat,⟨a.length,0,_,by rw [B7 (by omega) (by omega)],by omega,by simp,I0 (by decide) _,by omega,rfl,by simp [val]⟩,?_⟩
 rintro r i J ⟨k,E,zs,q,G,d,u,c,rfl,f⟩
 obtain ⟨rfl,rfl⟩:r=E/\i=(k:Int)-1:=by simpa using q
 have p:=V8 (k:=.u64) (e:=C1) t zs
 refine B6 (fun z=>?_) (fun z=>?_)
 ·obtain ⟨j,rfl⟩:∃ j,k=j+1:=⟨k-1,by omega⟩
  have e:((j+1:Nat):Int)-1=(j:Int):=by omega
  rw [e]
  have B:=N9 F j
  refine (C.mono p).load rfl (by omega) (by omega) ?_
  rw [aC]
  refine Tz c B hw.2 ⟨_,_,rfl,?_⟩
  have y:0<=r*18446744073709551616+a.getD j 0:=by omega
  have n:0<=(r*18446744073709551616+a.getD j 0)/w/\(r*18446744073709551616+a.getD j 0)/w<18446744073709551616:=by
   constructor
   ·exact bY y (by omega)
   ·apply bJ (by omega)
    have:(r+1)*18446744073709551616<=(w:Int)*18446744073709551616:=aD (by omega) (by decide)
    omega
  refine ⟨_,rfl,by omega,by omega,?_⟩
  refine Fa (zs:=zs) (i:=j) F4 (by omega) ?_
  rw [B7 (by omega) (by omega)]
  refine ⟨⟨j,_,zs.set j ((r*18446744073709551616+a.getD j 0)/w),rfl,by omega,by simpa using d,u.set n,⟨aT _ (by omega),aP _ (by omega)⟩,rfl,?_⟩,by simp only [iAt,aG,aL];omega⟩
  rw [V7 (by omega),Mq b64 (by omega),f]
  have:=aO (r*18446744073709551616+a.getD j 0) w
  simp only [val]
  grind
 ·have g:k=0:=by omega
  subst g
  rw [cK,cK] at f
  rw [<- d]
  refine Q5 (Dl _ _ _ _ _) u (aZ _) (by omega) ?_
  intro m D s
  have n:val b64 a/w=val b64 zs:=by
   rw [f,fN,fM _ _ (by omega),bU c.1 c.2,dL]
  have o:val b64 a%w=r:=by
   rw [f,fN,gL,gE c.1 c.2]
  rw [<- n] at s
  rw [<- o]
  exact ⟨_,_,_,rfl,hK _ _ _ _ (V8 t _) D (by omega) s⟩
def Nm{x:Int}{an w:Nat}(ma:Mw h A an x)(hw:0<w/\w<18446744073709551616)(hl:an<=1000000000)(hK:K (U (x%w)) h):aW prog Ao #[.slice A an ac,U w] h K:=by
 obtain ⟨a,rfl,q,s,y,rfl⟩:=ma
 refine Rg _ _ _ _ ?_
 unfold Kq
 refine ⟨fun l o=>∃ (k:Nat) (r:Int) (Q:Int),l=[U r,I ((k:Int)-1)]/\k<=a.length/\(0<=r/\r<w)/\o=h/\val b64 (a.drop k)=Q*w+r,fun l _=>(iAt l 1+1).toNat,⟨a.length,0,0,by rw [B7 (by omega) (by omega)],by omega,by omega,rfl,by simp [val]⟩,?_⟩
 rintro r i u ⟨k,m,Q,c,t,f,rfl,d⟩
 obtain ⟨rfl,rfl⟩:r=m/\i=(k:Int)-1:=by simpa using c
 refine B6 (fun n=>?_) (fun n=>?_)
 ·obtain ⟨j,rfl⟩:∃ j,k=j+1:=⟨k-1,by omega⟩
  have e:((j+1:Nat):Int)-1=(j:Int):=by omega
  rw [e]
  have p:=N9 s j
  refine q.load rfl (by omega) (by omega) ?_
  rw [aC]
  refine Tz f p hw.2 ⟨_,_,rfl,?_⟩
  rw [B7 (by omega) (by omega)]
  refine ⟨⟨j,_,b64*Q+(r*18446744073709551616+a.getD j 0)/w,rfl,by omega,⟨aT _ (by omega),aP _ (by omega)⟩,rfl,?_⟩,by simp only [iAt,aG,aL];omega⟩
  rw [Mq b64 (by omega),d]
  have:=aO (r*18446744073709551616+a.getD j 0) w
  show _+(18446744073709551616:Int)*_=((18446744073709551616:Int)*_+_)*_+_
  grind
 ·have g:k=0:=by omega
  subst g
  rw [cK] at d
  have b:val b64 a%w=r:=by
   rw [d,fN,gL,gE f.1 f.2]
  rw [b] at hK;exact hK
def A1l{us vs:List Int}{m wn dn:Nat}{X Y:Int}(su:SlI .u64 h A us)(sv:SlI .u64 h B vs)(hwn:wn=us.length)(hdn:dn=vs.length)(du:Dig b64 us)(dv:Dig b64 vs)(hu:us.length=m+3)(hv:vs.length=m+2)(hl:m<=10000000000)(h1:b64<=2*vs.getD (m+1) 0)(hX:val b64 us=X)(hY:val b64 vs=Y)(hlt:X<Y*b64)
 (hK:∀ q,0<=q->q<18446744073709551616->X<(q+1)*Y->(q-1)*Y<=X->K (U q) h):aW prog Ln #[.slice A wn ac,.slice B dn bc] h K:=by
 subst hwn hdn
 have b:=B9e (B:=b64) (by decide) du dv hu hv h1 (by rw [hX,hY];exact hlt)
 rw [hX,hY] at b
 have gu:=N9 du (m+2)
 have k:=N9 du (m+1)
 have Z:=N9 dv (m+1)
 have g:=b.v1r
 have a:=b.v2r
 have ae:=b.u2r
 have S:=b.V0
 have M:=b.U0
 refine A4x _ _ _ _ _ _ ?_
 unfold A4y
 have Q:B4 ((vs.length:Int)-1)=((m+1:Nat):Int):=by rw [B7 (by omega) (by omega)];omega
 have N:B4 ((vs.length:Int)-2)=(m:Int):=by rw [B7 (by omega) (by omega)];omega
 have J:((vs.length:Nat):Int)=((m+2:Nat):Int):=by omega
 rw [Q,N,J]
 refine sv.load (by omega) (by omega) (by omega) ?_
 refine sv.load (by omega) (by omega) (by omega) ?_
 refine su.load rfl (by omega) (by omega) ?_
 simp only [aC]
 refine B6 (fun G=>?_) (fun G=>?_)
 ·have H:=b.top (by
   have:vs.getD (m+1) 0*b64<=us.getD (m+2) 0*b64:=aD G (by decide)
   omega)
  exact hK 18446744073709551615 (by omega) (by omega) H.2 H.1
 ·refine su.load rfl (by omega) (by omega) ?_
  refine su.load rfl (by omega) (by omega) ?_
  simp only [aC]
  refine B46 (by omega) k Z.2 ⟨_,_,rfl,B3 h,?_⟩
  generalize hT:us.getD (m+2) 0*b64+us.getD (m+1) 0=T at b
  have R:us.getD (m+2) 0*18446744073709551616+us.getD (m+1) 0=T:=hT
  have C:0<=T:=b.top0
  have z:=b.init
  have D:=aO T (vs.getD (m+1) 0)
  have aa:=aT T (show vs.getD (m+1) 0≠0 by omega)
  have ad:=aP T (show 0<vs.getD (m+1) 0 by omega)
  have F:0<=T/vs.getD (m+1) 0:=bY C (by omega)
  have o:T/vs.getD (m+1) 0<18446744073709551616:=by
   apply bJ (by omega)
   have:(us.getD (m+2) 0+1)*18446744073709551616<=vs.getD (m+1) 0*18446744073709551616:=aD (by omega) (by decide)
   have:=k.2
   have:18446744073709551616*vs.getD (m+1) 0=vs.getD (m+1) 0*18446744073709551616:=aR _ _
   omega
  refine ⟨fun l V=>∃ q r:Int,l=[U q,U r]/\V=h/\(0<=q/\q<18446744073709551616)/\(0<=r/\r<18446744073709551616)/\q*vs.getD (m+1) 0+r=T/\X<(q+1)*Y,fun l _=>(iAt l 0).toNat,⟨_,_,rfl,rfl,⟨F,o⟩,by omega,by rw [aR];exact D,z⟩,?_⟩
  rintro q r t ⟨W,r',E,rfl,j,hr,u,s⟩
  obtain ⟨rfl,rfl⟩:q=W/\r=r':=by simpa using E
  have hm:0<=q*vs.getD m 0/\q*vs.getD m 0<=18446744073709551615*18446744073709551615:=⟨aS j.1 a.1,eP (by omega) (by have:=(N9 dv m).2;omega) a.1 (by decide)⟩
  have key:q*(vs.getD (m+1) 0*b64+vs.getD m 0)=(T-r)*18446744073709551616+q*vs.getD m 0:=by
   rw [<- u];show q*(vs.getD (m+1) 0*(18446744073709551616:Int)+vs.getD m 0)=_;grind
  have c:q*vs.getD m 0<=r*18446744073709551616+us.getD m 0->K (U q) t:=by
   intro O
   refine hK q j.1 j.2 s (b.up (by show q<=(18446744073709551616:Int);omega) ?_)
   rw [key];show _<=T*(18446744073709551616:Int)+_;omega
  have e:¬ (q*vs.getD m 0<=r*18446744073709551616+us.getD m 0)->Br (decide (C0 (r+vs.getD (m+1) 0)<vs.getD (m+1) 0)) (K (U (C0 (q-1))) t) ((∃ q_1 r_1:Int,[U (C0 (q-1)),U (C0 (r+vs.getD (m+1) 0))]=[U q_1,U r_1]/\t=t/\(0<=q_1/\q_1<18446744073709551616)/\(0<=r_1/\r_1<18446744073709551616)/\q_1*vs.getD (m+1) 0+r_1=T/\X<(q_1+1)*Y)/\(iAt [U (C0 (q-1)),U (C0 (r+vs.getD (m+1) 0))] 0).toNat<(iAt [U q,U r] 0).toNat):=by
   intro hf
   have x:X<q*Y:=b.low j.1 (by rw [key];show T*(18446744073709551616:Int)+_<_;omega)
   have o:1<=q:=by
    by_cases w:1<=q
    ·exact w
    ·have:q=0:=by omega
     subst this;omega
   have f:X<(q-1+1)*Y:=by rw [Int.sub_add_cancel];exact x
   have d:(q-1)*vs.getD (m+1) 0+(r+vs.getD (m+1) 0)=T:=by grind
   rw [C2 (n:=q-1) (by omega) (by omega)]
   refine B6 (fun p=>?_) (fun p=>?_)
   ·rw [E4] at p
    have hb:(q-1)*vs.getD m 0<=18446744073709551616*vs.getD m 0:=aD (by omega) a.1
    have i:(q-1)*(vs.getD (m+1) 0*b64+vs.getD m 0)=(T-(r+vs.getD (m+1) 0))*18446744073709551616+(q-1)*vs.getD m 0:=by
     rw [<- d];show (q-1)*(vs.getD (m+1) 0*(18446744073709551616:Int)+vs.getD m 0)=_;grind
    refine hK (q-1) (by omega) (by omega) f (b.up (by show q-1<=(18446744073709551616:Int);omega) ?_)
    rw [i]
    have:=a.2
    show _<=T*(18446744073709551616:Int)+_
    have:vs.getD m 0<18446744073709551616:=a.2
    omega
   ·have y:r+vs.getD (m+1) 0<18446744073709551616:=by
     by_cases w:r+vs.getD (m+1) 0<18446744073709551616
     ·exact w
     ·rw [E4] at p;have:=g.2;have:vs.getD (m+1) 0<18446744073709551616:=g.2;omega
    rw [C2 (n:=r+vs.getD (m+1) 0) (by omega) y]
    exact ⟨⟨q-1,r+vs.getD (m+1) 0,rfl,rfl,by omega,by omega,d,f⟩,by simp only [iAt,aG];omega⟩
  refine Nq j (by have:=a.2;exact ⟨a.1,this⟩) ⟨_,_,rfl,?_⟩
  have L:0<=us.getD m 0/\us.getD m 0<18446744073709551616:=N9 du m
  refine B6 (fun p=>c (by omega)) (fun p=>?_)
  refine D8 (fun h4=>?_) (fun h4=>e (by omega))
  refine su.load rfl (by omega) (by omega) ?_
  rw [aC]
  exact B6 (fun h5=>c (by omega)) (fun h5=>e (by omega))
end
section
variable {h g:bC} {K:VP} {bu bq:Nat} {pre qs:List Int} {VA:Option bI} {vs:List Int}
def C3y{n N:Nat}{ws:List Int}{q:Int}{J:LP}(hu:g bu=none)(hq:g bq=none)(hne:bu≠bq)(sv:SlI .u64 g VA vs)(dv:Dig b64 vs)(hn:n=vs.length)(dw:Dig b64 ws)(hN:N=(pre++ws).length)(hl:n<ws.length)(hbig:N<=4000000000)
 (hD:val b64 (ws.take n)+val b64 vs<2*b64^n) (hD0:b64^n<=val b64 (ws.take n)+val b64 vs) (htop:ws.getD n 0=18446744073709551615)
 (hJ:∀ ws',ws'.length=ws.length->Dig b64 ws'->ws'.drop (n+1)=ws.drop (n+1)->ws'.getD n 0=0->val b64 (ws'.take n)=val b64 (ws.take n)+val b64 vs-b64^n->J [U (C0 (q-1))] (Ak .u64 C1 g bu (pre++ws') bq qs)):
 Au prog n VA n (some ⟨bu,0,none⟩) N (pre.length:Int) q J (Ak .u64 C1 g bu (pre++ws) bq qs):=by
 unfold Au
 refine ⟨fun l O=>∃ (k:Nat) (c:Int) (zs:List Int),l=[U c,I k]/\k<=n/\zs.length=ws.length/\Dig b64 zs/\(0<=c/\c<=1)/\O=Ak .u64 C1 g bu (pre++zs) bq qs/\zs.drop k=ws.drop k/\val b64 (zs.take k)+c*b64^k=val b64 (ws.take k)+val b64 (vs.take k),fun l _=>n-(iAt l 1).toNat,⟨0,0,ws,rfl,by omega,rfl,dw,by omega,rfl,rfl,by simp [val]⟩,?_⟩
 rintro c i W ⟨k,F,zs,A,T,b,o,D,rfl,a,E⟩
 obtain ⟨rfl,rfl⟩:c=F/\i=(k:Int):=by simpa using A
 have w:g.le (Ak .u64 C1 g bu (pre++zs) bq qs):=Rd hu hq hne
 have C:SlI .u64 (Ak .u64 C1 g bu (pre++zs) bq qs) (some ⟨bu,0,none⟩) (pre++zs):=Wa hne
 have d:N=(pre++zs).length:=by rw [hN,aH,aH,b]
 have R:N=pre.length+zs.length:=by rw [d,aH]
 have B:B4 ((pre.length:Int)+k)=((k+pre.length:Nat):Int):=by rw [B7 (by omega) (by omega)];omega
 have s:B4 ((pre.length:Int)+n)=((n+pre.length:Nat):Int):=by rw [B7 (by omega) (by omega)];omega
 refine B6 (fun M=>?_) (fun M=>?_)
 ·have Q:=N9 dv k
  have H:=N9 o k
  have f:=E5 a
  have L:=C4 b64 vs k
  have S:=C4 b64 ws k
  rw [B]
  refine (sv.mono w).load hn (by omega) (by omega) ?_
  refine C.load d (by omega) (by omega) ?_
  simp only [aC,Ga]
  refine Do H Q D ⟨_,_,rfl,?_⟩
  refine ⟨_,rfl,by omega,by omega,?_⟩
  have p:=O7 (P:=prog) (t:=C1) (k:=.u64) (e:=C1) (g:=g) (bu:=bu) (bq:=bq) (us:=pre++zs) (qs:=qs) (i:=((k+pre.length:Nat):Int)) (n:=(zs.getD k 0+vs.getD k 0+c)%18446744073709551616) F4 hne (by rw [aC];omega)
   (K:=fun _ m=>(∃ (k_1:Nat) (c_1:Int) (zs_1:List Int),[U ((zs.getD k 0+vs.getD k 0+c)/18446744073709551616),I (B4 ((k:Int)+1))]=[U c_1,I k_1]/\k_1<=n/\zs_1.length=ws.length/\Dig b64 zs_1/\(0<=c_1/\c_1<=1)/\m=Ak .u64 C1 g bu (pre++zs_1) bq qs/\zs_1.drop k_1=ws.drop k_1/\val b64 (zs_1.take k_1)+c_1*b64^k_1=val b64 (ws.take k_1)+val b64 (vs.take k_1))/\n-(iAt [U ((zs.getD k 0+vs.getD k 0+c)/18446744073709551616),I (B4 ((k:Int)+1))] 1).toNat<n-(iAt [U c,I k] 1).toNat)
  rw [aC] at p
  refine p ?_
  rw [Kw,B7 (n:=(k:Int)+1) (by omega) (by omega)]
  refine ⟨⟨k+1,_,zs.set k ((zs.getD k 0+vs.getD k 0+c)%18446744073709551616),rfl,by omega,by simpa using b,o.set (En _),by omega,rfl,?_,?_⟩,by simp only [iAt,aG,aL];omega⟩
  ·rw [D3 (by omega)];exact D6 a
  ·rw [C7 (by omega),F0,aF,aI (by omega),bG,Cf,L,S,<- f]
   grind
 ·have z:k=n:=by omega
  subst z
  have f:=E5 a
  rw [s]
  refine C.load d (by omega) (by omega) ?_
  rw [aC,Ga,f,htop]
  refine ⟨_,rfl,by omega,by omega,?_⟩
  have r:vs.take k=vs:=by rw [hn,aV]
  rw [r] at E
  have y:=L5 (by decide) (o.take k)
  rw [aF,aI (by omega)] at y
  have V:=C6 (by decide) (o.take k)
  have x:c=1:=by
   by_cases u:c=0
   ·subst u;omega
   ·omega
  subst x
  have G:C0 (18446744073709551615+1)=0:=by rw [E4];omega
  rw [G]
  have p:=O7 (P:=prog) (t:=C1) (k:=.u64) (e:=C1) (g:=g) (bu:=bu) (bq:=bq) (us:=pre++zs) (qs:=qs) (i:=((k+pre.length:Nat):Int)) (n:=0) F4 hne (by rw [aC];omega) (K:=fun _ j=>J [U (C0 (q-1))] j)
  rw [aC] at p
  refine p ?_
  rw [Kw]
  refine hJ (zs.set k 0) (by simpa using b) (o.set (by decide)) (by rw [D3 (by omega)];exact D6 a) (by simp [cU,show k<zs.length by omega]) ?_
  rw [fW (by omega)]
  omega
end
def B6e{g h':bC}{e:cC}{bu bq:Nat}{A:Option bI}{us qs:List Int}(hne:bu≠bq)(w:Win .u64 h' (blk .u64 e g bq qs) bu e A [] us []):h'=Ak .u64 e g bu us bq qs:=by
 rw [Iu hne,w.eq]
 simp [blk]
def B7v{g:bC}{e:cC}{bu bq:Nat}{us qs:List Int}(hu:g bu=none)(hne:bu≠bq):Win .u64 (Ak .u64 e g bu us bq qs) (blk .u64 e g bq qs) bu e (some ⟨bu,0,none⟩) [] us []:=by
 rw [Iu hne]
 refine Win.blk .u64 e ?_ us
 unfold blk;rw [B8 _ _ hne];exact hu
def A4i{P:dG}{t:cC}{k:dY}{e:cC}{g:bC}{bu bq:Nat}{us qs:List Int}(one:P.cellsOf t=1/\(P.info? t).isSome=true)(hne:bu≠bq){n:Int}{i:Nat}(hi:i<us.length){K:Unit->bC->Prop}
 (x:K () (Ak k e g bu (us.set i n) bq qs)):wpH P (dO t (.pointer (some (eE ⟨bu,0,none⟩ (i*1)))) (.int k n)) K (Ak k e g bu us bq qs):=by
 have:=O7 (P:=P) (t:=t) (k:=k) (e:=e) (g:=g) (bu:=bu) (bq:=bq) (us:=us) (qs:=qs) (i:=(i:Int)) (n:=n) (K:=K) one hne (by simpa using hi) (by simpa using x)
 simpa using this
def A4j{P:dG}{t:cC}{k:dY}{e:cC}{g:bC}{bu bq:Nat}{us qs:List Int}(one:P.cellsOf t=1/\(P.info? t).isSome=true){n:Int}{i:Nat}(hi:i<qs.length){K:Unit->bC->Prop}
 (x:K () (Ak k e g bu us bq (qs.set i n))):wpH P (dO t (.pointer (some (eE ⟨bq,0,none⟩ (i*1)))) (.int k n)) K (Ak k e g bu us bq qs):=by
 have:=Wb (P:=P) (t:=t) (k:=k) (e:=e) (g:=g) (bu:=bu) (bq:=bq) (us:=us) (qs:=qs) (i:=(i:Int)) (n:=n) (K:=K) one (by simpa using hi) (by simpa using x)
 simpa using this
section
variable {h g:bC} {K:VP} {bu bq:Nat} {VA:Option bI} {vs us0:List Int}
set_option maxHeartbeats 1000000 in
def A61{s mm N nq vc xn:Nat}{a b Y:Int}(hu:g bu=none)(hq:g bq=none)(hne:bu≠bq)(sv:SlI .u64 g VA vs)(dv:Dig b64 vs)(hn:vs.length=mm+2)(hv1:b64<=2*vs.getD (mm+1) 0)(hs:s<64)(hY:val b64 vs=Y)(hYb:Y=b*2^s)(du:Dig b64 us0)(hN:us0.length=N)(hua:val b64 us0=a*2^s)(hxn:N=xn+1)(hnq:N=nq+(mm+2))(hnq1:1<=nq)(hbig:N<=1000000001)(htop:val b64 (us0.drop nq)<Y)
 (hK:∀ A1 m1 c1 A2 m2 c2 h',g.le h'->m1<=c1->m2<=c2->Mw h' A1 m1 (a/b)->Mw h' A2 m2 (a%b)->K (.tuple #[.slice A1 m1 c1,.slice A2 m2 c2]) h'):
 Aw prog xn (mm+2) K (s:Int) VA (mm+2) vc (some ⟨bu,0,none⟩) N N (some ⟨bq,0,none⟩) nq nq (Ak .u64 C1 g bu us0 bq (aE nq 0)):=by
 have hp:0<(2:Int)^s:=bL (by decide)
 have a4:Y<b64^(mm+2):=by rw [<- hY,<- hn];exact L5 (by decide) dv
 have a7:0<Y:=by have:=C6 (by decide) (du.drop nq);omega
 have e0:B4 ((xn:Int)-((mm+2:Nat):Int))=(nq:Int)-1:=by rw [B7 (by omega) (by omega)];omega
 unfold Aw
 refine ⟨fun l h'=>∃ (k:Nat) (us qs:List Int),l=[I ((k:Int)-1)]/\k<=nq/\us.length=N/\qs.length=nq/\Dig b64 us/\Dig b64 qs/\h'=Ak .u64 C1 g bu us bq qs/\val b64 (us.drop k)<Y/\val b64 us0=val b64 (qs.drop k)*Y*b64^k+val b64 us,fun l _=>(iAt l 0+1).toNat,⟨nq,us0,_,by rw [e0],by omega,hN,by simp,du,I0 (by decide) _,rfl,htop,by simp [val]⟩,?_⟩
 rintro j a5 ⟨k,us,qs,az,hk,A,Z,t,af,rfl,aq,hv⟩
 obtain rfl:j=(k:Int)-1:=by simpa using az
 have T:g.le (Ak .u64 C1 g bu us bq qs):=Rd hu hq hne
 have su:SlI .u64 (Ak .u64 C1 g bu us bq qs) (some ⟨bu,0,none⟩) us:=Wa hne
 unfold Hg
 refine B6 (fun h1=>?_) (fun h1=>?_)
 ·obtain ⟨j,rfl⟩:∃ j,k=j+1:=⟨k-1,by omega⟩
  have ej:((j+1:Nat):Int)-1=(j:Int):=by omega
  rw [ej]
  have e1:B4 ((j:Int)+((mm+2:Nat):Int))=((j+(mm+2):Nat):Int):=by rw [B7 (by omega) (by omega)];omega
  have e2:B4 (((j+(mm+2):Nat):Int)+1)=((j+(mm+3):Nat):Int):=by rw [B7 (by omega) (by omega)];omega
  simp only [e1,e2,aC]
  have x:=t.drop j
  have D:(us.drop j).length=N-j:=by rw [aN,A]
  have w:val b64 ((us.drop j).drop (mm+3))=0:=by
   have:=Dq (B:=b64) (by decide) (n:=mm+2) (t.drop (j+1)) (by omega)
   rw [dH] at this ⊢
   rw [show j+(mm+3)=j+1+(mm+2) by omega];exact this
  have av:=A2o b64 us j
  have ah:val b64 (us.drop j)<Y*b64:=by
   have ba:=N9 t j
   rw [av]
   have t1:b64*(val b64 (us.drop (j+1))+1)<=b64*Y:=aJ (by omega) (by decide)
   have t2:b64*(val b64 (us.drop (j+1))+1)=b64*val b64 (us.drop (j+1))+18446744073709551616:=by show (18446744073709551616:Int)*_=_;grind
   have t3:Y*b64=b64*Y:=aR _ _
   omega
  have C:=F3 b64 (us.drop j) (i:=mm+3) (by omega)
  rw [w,fK,fL] at C
  have au:=G1 b64 (us.drop j) (mm+2)
  have hX:val b64 (us.drop j)=val b64 ((us.drop j).take (mm+2))+b64^(mm+2)*(us.drop j).getD (mm+2) 0:=by rw [C];exact au
  refine ⟨⟨by omega,by omega⟩,⟨by omega,by omega⟩,?_⟩
  have sw:SlI .u64 (Ak .u64 C1 g bu us bq qs) (J9 (some ⟨bu,0,none⟩) N j 1) ((us.drop j).take (mm+3)):=by
   have:=su.cut (c:=N) (l:=j) (m:=j+(mm+3)) (by omega) (by omega) (by omega)
   rwa [show j+(mm+3)-j=mm+3 by omega] at this
  generalize hXX:val b64 (us.drop j)=X at *
  refine A1l (m:=mm) (X:=X) (Y:=Y) sw (sv.mono T) (by rw [aF,D];omega) hn.symm (x.take _) dv (by rw [aF,D];omega) hn (by omega) hv1 C.symm hY ah ?_
  intro q q0 q1 q2 q3
  refine ⟨_,rfl,⟨by omega,by omega⟩,⟨by omega,by omega⟩,?_⟩
  have w0:=B7v (e:=C1) (us:=us) (qs:=qs) hu hne
  have ap:SlI .u64 (blk .u64 C1 g bq qs) VA vs:=sv.mono (V8 hq qs)
  have hW:(us.drop j).take (j+(mm+2)-j)=(us.drop j).take (mm+2):=by rw [show j+(mm+2)-j=mm+2 by omega]
  have w1:=w0.sub (l:=j) (m:=j+(mm+2)) (c:=N) (by omega) (by omega) (by omega)
  rw [hW] at w1
  have L:((us.drop j).take (mm+2)).length=mm+2:=by rw [aF,D];omega
  refine Kg w1 (by rw [L];omega) ap hn.symm (x.take _) dv (by rw [L,hn]) ⟨q0,q1⟩ (by omega) ?_
  intro W c h2 o F u G w2
  rw [L] at o G
  refine ⟨_,rfl,?_⟩
  have w3:=w0.whole (l:=j) (m:=j+(mm+2)) (by omega) (by omega) (by omega) w2
  have S:=B6e hne w3
  have f:(us.take j).length=j:=by rw [aF,A];omega
  have aw:us.drop (j+(mm+2))=(us.drop j).drop (mm+2):=by rw [dH]
  rw [aU,aw] at S
  subst S
  generalize hws:us.drop j=ws at *
  have p:(W++ws.drop (mm+2)).length=ws.length:=by rw [aH,aN];omega
  have dW:Dig b64 (W++ws.drop (mm+2)):=F.append (x.drop _)
  have ae:(W++ws.drop (mm+2)).getD (mm+2) 0=ws.getD (mm+2) 0:=by
   simp only [cU]
   rw [gM (by omega),o,gC,List.getElem?_drop,dU]
  have M:=N9 x (mm+2)
  have ay:(us.take j++(W++ws.drop (mm+2))).length=N:=by rw [aH,p,f];omega
  have ao:SlI .u64 (Ak .u64 C1 g bu (us.take j++(W++ws.drop (mm+2))) bq qs) (some ⟨bu,0,none⟩) (us.take j++(W++ws.drop (mm+2))):=Wa hne
  have ag:j+(mm+2)=(mm+2)+(us.take j).length:=by omega
  refine ao.load ay.symm (by omega) (by omega) ?_
  rw [aC,ag,Ga,ae]
  refine ⟨_,rfl,by omega,by omega,?_⟩
  refine A4i (i:=mm+2+(us.take j).length) F4 hne (by omega) ?_
  rw [Kw]
  have hP:0<b64^(mm+2):=D5 (by decide) _
  have aj:=L5 (by decide) F
  have a3:=C6 (by decide) F
  rw [o] at aj
  rw [hY] at G
  have hD:X-q*Y=val b64 W+(ws.getD (mm+2) 0-c)*b64^(mm+2):=by rw [G,hX];grind
  have ad:X-q*Y<Y:=by
   have:(q+1)*Y=q*Y+Y:=by grind
   omega
  have a2: -Y<=X-q*Y:=by
   have:(q-1)*Y=q*Y-Y:=by grind
   omega
  have a8:0<=X:=by
   have t1:=C6 (by decide) (x.take (mm+2))
   have t2:=aS (aQ hP) M.1
   omega
  have a6:ws.getD (mm+2) 0-c=0\/ws.getD (mm+2) 0-c= -1:=by
   have t2:ws.getD (mm+2) 0-c<1:=by
    by_cases u:ws.getD (mm+2) 0-c<1
    ·exact u
    ·have:=aD (show 1<=ws.getD (mm+2) 0-c by omega) (aQ hP);omega
   have t3: -2<ws.getD (mm+2) 0-c:=by
    by_cases u: -2<ws.getD (mm+2) 0-c
    ·exact u
    ·have:=aD (show ws.getD (mm+2) 0-c <= -2 by omega) (aQ hP);omega
   omega
  have y:∀ v,((W++ws.drop (mm+2)).set (mm+2) v).take (mm+2)=W:=by
   intro v
   rw [fW (by omega),dB o]
  have O:∀ v,((W++ws.drop (mm+2)).set (mm+2) v).getD (mm+2) 0=v:=by
   intro v
   rw [cU,hG (by omega)];rfl
  have V:∀ v,((W++ws.drop (mm+2)).set (mm+2) v).drop (mm+3)=ws.drop (mm+3):=by
   intro v
   rw [D3 (by omega),show mm+3=(mm+2)+1 by omega,<- dH,eI o,dH]
  refine ⟨fun l h'=>∃ d r,l=[U r]/\h'=Ak .u64 C1 g bu (us.take j++d) bq qs/\d.length=ws.length/\Dig b64 d/\d.drop (mm+3)=ws.drop (mm+3)/\d.getD (mm+2) 0=0/\val b64 (d.take (mm+2))=X-r*Y/\0<=X-r*Y/\X-r*Y<Y/\0<=r/\r<18446744073709551616,B6 (fun h3=>?_) (fun h3=>?_),?_⟩
  ·have E:ws.getD (mm+2) 0-c= -1:=by omega
   rw [E] at hD ⊢
   have aa:C0 (-1)=18446744073709551615:=by rw [E4];omega
   rw [aa]
   have al:1<=q:=by
    by_cases u:1<=q
    ·exact u
    ·have:q=0:=by omega
     subst this;omega
   have e5:(q-1)*Y=q*Y-Y:=by grind
   have bk:=C3y (g:=g) (bu:=bu) (bq:=bq) (pre:=us.take j) (qs:=qs) (VA:=VA) (vs:=vs) (n:=mm+2) (N:=N) (ws:=(W++ws.drop (mm+2)).set (mm+2) 18446744073709551615) (q:=q)
    (J:=fun l h'=>∃ d r,l=[U r]/\h'=Ak .u64 C1 g bu (us.take j++d) bq qs/\d.length=ws.length/\Dig b64 d/\d.drop (mm+3)=ws.drop (mm+3)/\d.getD (mm+2) 0=0/\val b64 (d.take (mm+2))=X-r*Y/\0<=X-r*Y/\X-r*Y<Y/\0<=r/\r<18446744073709551616)
    hu hq hne sv dv hn.symm (dW.set (by decide)) (by rw [aH,bN,p,f];omega) (by rw [bN,p];omega) (by omega) (by rw [y,hY];omega) (by rw [y,hY];omega) (O _) ?_
   ·rw [f] at bk;exact bk
   ·intro d g1 g2 g3 g4 g5
    rw [y,hY] at g5
    rw [C2 (n:=q-1) (by omega) (by omega)]
    refine ⟨d,q-1,rfl,rfl,by rw [g1,bN,p],g2,by rw [g3,V],g4,by omega,by omega,by omega,by omega,by omega⟩
  ·have H:ws.getD (mm+2) 0-c=0:=by omega
   rw [H] at hD ⊢
   have ak:C0 0=0:=by rw [E4];omega
   rw [ak]
   exact ⟨(W++ws.drop (mm+2)).set (mm+2) 0,q,rfl,rfl,by rw [bN,p],dW.set (by decide),V _,O _,by rw [y];omega,by omega,ad,q0,q1⟩
  ·rintro q4 a1 ⟨d,r,an,rfl,g1,g2,g3,g4,g5,g6,g7,g8,g9⟩
   obtain rfl:q4=r:=by simpa using an
   refine ⟨_,rfl,by omega,by omega,?_⟩
   refine A4j (i:=j) F4 (by omega) ?_
   rw [B7 (by omega) (by omega)]
   have R:val b64 d=X-q4*Y:=by
    have z1:=F3 b64 d (i:=mm+3) (by omega)
    rw [g3,w,G1,g4,g5] at z1
    simp at z1
    omega
   refine ⟨⟨j,us.take j++d,qs.set j q4,rfl,by omega,by rw [aH,g1,f];omega,by simpa using Z,(t.take j).append g2,af.set ⟨g8,g9⟩,rfl,?_,?_⟩,by simp only [iAt,aG];omega⟩
   ·rw [eI f,R];exact g7
   ·have Q:=F3 b64 us (i:=j) (by omega)
    rw [hws,hXX] at Q
    rw [hv,V7 (by omega),G0,f,R,Q,bG]
    simp only [val]
    grind
 ·have ai:k=0:=by omega
  subst ai
  simp at aq hv
  have bb:0<b:=by
   by_cases u:0<b
   ·exact u
   ·have:=aD (show b<=0 by omega) (aQ hp);omega
  have a0:=C6 (by decide) t
  have hR:val b64 us=(a-val b64 qs*b)*2^s:=by
   rw [hua,hYb] at hv
   grind
  have ax:0<=a-val b64 qs*b:=by
   by_cases u:0<=a-val b64 qs*b
   ·exact u
   ·have:=aD (show a-val b64 qs*b <= -1 by omega) (aQ hp);omega
  have am:a-val b64 qs*b<b:=by
   by_cases u:a-val b64 qs*b<b
   ·exact u
   ·have:=aD (show b<=a-val b64 qs*b by omega) (aQ hp);omega
  have z:a/b=val b64 qs:=by
   have:a=(a-val b64 qs*b)+val b64 qs*b:=by omega
   rw [this,fM _ _ (by omega),bU ax am,dL]
  have ac:a%b=a-val b64 qs*b:=by
   have:=Int.emod_def a b
   rw [this,z,aR]
  rw [z,ac] at hK
  rw [<- Z]
  refine Q5 B9j af (aZ _) (by omega) ?_
  intro m1 aa M1
  refine ⟨_,_,_,rfl,?_⟩
  rw [<- A]
  refine Q5 su t (aZ _) (by omega) ?_
  intro m2 a9 M2
  refine ⟨_,_,_,rfl,?_⟩
  rw [C2 (by omega) (by omega)]
  refine Gy M2 (by have:=M2.len_le (by decide) (j:=mm+2) (by omega);omega) (by omega) ?_
  intro A3 m3 c3 h3 l3 k3 M3
  have ar:val b64 us/2^s=a-val b64 qs*b:=by rw [hR,fX _ (by omega)]
  rw [ar] at M3
  exact ⟨_,_,_,rfl,hK _ _ _ _ _ _ _ (Heap.le_trans T l3) (by omega) k3 (M1.mono l3) M3⟩
end
section
variable {h g:bC} {K:VP} {A B:Option bI} {ac bc:Nat}
set_option maxHeartbeats 1000000 in
def Ev{x y:Int}{an bn:Nat}(ma:Mw h A an x)(mb:Mw h B bn y)(ha:an<=ac)(hbc:bn<=bc)(hy:y≠0)(hl:an<=1000000000)(hl2:bn<=1000000000)
 (hK:∀ A1 m1 c1 A2 m2 c2 h',h.le h'->m1<=c1->m2<=c2->Mw h' A1 m1 (x/y)->Mw h' A2 m2 (x%y)->K (.tuple #[.slice A1 m1 c1,.slice A2 m2 c2]) h'):aW prog J2 #[.slice A an ac,.slice B bn bc] h K:=by
 have O:=ma.nonneg (by decide)
 have ah:=mb.nonneg (by decide)
 have a6:=mb.len_zero (by decide)
 have u:=ma.lt (by decide)
 have a3:=mb.lt (by decide)
 refine Sw _ _ _ _ _ _ ?_
 unfold Pd
 refine F7 ma mb (by omega) ⟨_,rfl,B6 (fun z=>?_) (fun z=>D8 (fun h2=>?_) (fun h2=>?_))⟩
 ·have M:x<y:=by
   unfold Ey at z
   by_cases c:x<y
   ·exact c
   ·rw [iN c] at z
    by_cases G:x>y
    ·rw [iP G] at z;omega
    ·rw [iN G] at z;omega
  rw [bU O M,gE O M] at hK
  exact hK none 0 0 _ _ _ _ (B3 h) (aZ _) ha Mag.zero ma
 ·obtain ⟨a,rfl,sy,Z,ny,rfl⟩:=mb
  have E:a.length=1:=by omega
  obtain ⟨d,rfl⟩:∃ d,a=[d]:=by
   cases a with
   | nil=>simp at E
   | cons d r=>
    cases r with
    | nil=>exact ⟨d,rfl⟩
    | cons _ _=>simp at E
  rw [W4] at hy ah hK
  have hd:=Z d (by simp)
  obtain ⟨w,rfl⟩:∃ w:Nat,d=w:=⟨d.toNat,by omega⟩
  refine sy.load rfl (by omega) (by simp) ?_
  show aW _ _ #[_,U (w:Int)] _ _
  have hw:w<18446744073709551616:=by have:=hd.2;have:(w:Int)<18446744073709551616:=this;omega
  refine Vr ma ⟨by omega,hw⟩ hl ?_
  intro A' m c' h' au hm a4 hM
  refine ⟨_,_,_,_,rfl,?_⟩
  refine Bk ⟨aT _ (by omega),by have:=aP x (show (0:Int)<w by omega);omega⟩ ?_
  intro A2 m2 c2 h3 Q k3 M3
  exact ⟨_,_,_,rfl,hK _ _ _ _ _ _ _ (Heap.le_trans au Q) hm k3 (hM.mono Q) M3⟩
 ·have al:y<=x:=by
   unfold Ey at z
   by_cases c:x<y
   ·rw [iP c] at z;omega
   ·omega
  have a7:bn<=an:=mb.len_le (by decide) (dA al u)
  have av:=mb
  have aa:=ma
  obtain ⟨a,rfl,sy,Z,ny,rfl⟩:=mb
  obtain ⟨mm,hmm⟩:∃ mm,a.length=mm+2:=⟨a.length-2,by omega⟩
  have gt:=N9 Z (mm+1)
  have ap:=A2t (m:=mm+1) hmm ny
  obtain ⟨C,j⟩:=Bz (B:=b64) (by decide) Z (m:=mm+1) hmm
  have e1:B4 ((a.length:Int)-1)=((mm+1:Nat):Int):=by rw [B7 (by omega) (by omega)];omega
  rw [e1]
  refine sy.load rfl (by omega) (by omega) ?_
  rw [aC]
  obtain ⟨t,ht⟩:∃ t:Nat,a.getD (mm+1) 0=t:=⟨(a.getD (mm+1) 0).toNat,by omega⟩
  rw [ht] at gt ap C j ⊢
  have l:t≠0:=by omega
  refine R5 (by omega) ⟨_,rfl,?_⟩
  obtain ⟨a0,ay⟩:=Fb l
  have a1:O0 t<=64:=Iv (k:=64) (by omega)
  have az:1<=O0 t:=by unfold O0;rw [iN l];omega
  obtain ⟨s,hs⟩:∃ s,s=64-O0 t:=⟨_,rfl⟩
  rw [<- hs]
  have T:s<64:=by omega
  have b:0<(2:Int)^s:=bL (by decide)
  have aj:=Z9 (s:=s) (by omega)
  have q:O0 t=64-s:=by omega
  have af:(t:Int)+1<=2^(64-s):=by
   rw [<- q]
   have:((t+1:Nat):Int)<=((2^O0 t:Nat):Int):=by omega
   simpa using this
  have ak:(2:Int)^(63-s)<=t:=by
   have:((2^(O0 t-1):Nat):Int)<=((t:Nat):Int):=by omega
   rw [show O0 t-1=63-s by omega] at this
   simpa using this
  have D:(2:Int)^s*2^(63-s)=9223372036854775808:=by
   rw [<- bD,show s+(63-s)=63 by omega];decide
  have ao:C0 (s:Int)=(s:Int):=C2 (by omega) (by omega)
  rw [ao]
  have g:=D5 (B:=b64) (by decide) (mm+1)
  have ai:val b64 a*2^s<b64^(mm+2):=by
   have t2:val b64 a*2^s<((t:Int)+1)*b64^(mm+1)*2^s:=bM C b
   have t3:((t:Int)+1)*b64^(mm+1)*2^s=((t:Int)+1)*2^s*b64^(mm+1):=by grind
   have t4:((t:Int)+1)*2^s*b64^(mm+1)<=18446744073709551616*b64^(mm+1):=by
    apply aD _ (aQ g)
    rw [<- aj,aR (2^s)]
    exact aD af (aQ b)
   have t5:b64^(mm+2)=18446744073709551616*b64^(mm+1):=by rw [bG b64 (mm+1),aR]
   omega
  have a8:9223372036854775808*b64^(mm+1)<=val b64 a*2^s:=by
   have t1:(t:Int)*b64^(mm+1)*2^s<=val b64 a*2^s:=aD j (aQ b)
   have t2:9223372036854775808*b64^(mm+1)<=(t:Int)*2^s*b64^(mm+1):=by
    apply aD _ (aQ g)
    rw [<- D,aR (t:Int)]
    exact aJ ak (by omega)
   have t3:(t:Int)*2^s*b64^(mm+1)=(t:Int)*b64^(mm+1)*2^s:=by grind
   omega
  refine U1 av hbc hl2 (by omega) ?_
  intro A1 n1 c1 g1 l1 k1 M1
  refine ⟨_,_,_,rfl,?_⟩
  have am:n1=mm+2:=by
   have q1:=M1.len_le (by decide) ai
   have q2:=M1.lt (by decide)
   by_cases c:n1=mm+2
   ·exact c
   ·have:=C8 (B:=b64) (by decide) (show n1<=mm+1 by omega)
    omega
  subst am
  obtain ⟨X,V,sv,dv,nv,F⟩:=M1
  have ae:b64<=2*X.getD (mm+1) 0:=by
   obtain ⟨q1,q2⟩:=Bz (B:=b64) (by decide) dv (m:=mm+1) V.symm
   rw [F] at q1
   have:9223372036854775808<X.getD (mm+1) 0+1:=by
    by_cases c:9223372036854775808<X.getD (mm+1) 0+1
    ·exact c
    ·have:=aD (show X.getD (mm+1) 0+1<=9223372036854775808 by omega) (aQ g);omega
   show (18446744073709551616:Int)<=_
   omega
  have eN:B4 ((an:Int)+1)=((an+1:Nat):Int):=by rw [B7 (by omega) (by omega)];omega
  rw [eN]
  refine J7 Q1 (by omega) (by omega) (by omega) ?_
  intro bu ar
  rw [aC]
  refine ⟨_,_,_,rfl,?_⟩
  have w0:=Win.blk .u64 C1 ar (aE (an+1) 0)
  refine w0.call ?_
  refine U1 (aa.mono l1) ha hl (by omega) ?_
  intro A3 n3 c3 g3 Q k3 M3 h4 w4
  refine ⟨_,_,_,rfl,?_⟩
  have aq:x*2^s<b64^(an+1):=by
   have t1:x*2^s<b64^an*2^s:=bM u b
   have t2:b64^an*2^s<=b64^an*18446744073709551616:=by
    apply aJ _ (aQ (D5 (by decide) an))
    have:=C8 (B:=2) (by decide) (show s<=64 by omega)
    have e:(2:Int)^64=18446744073709551616:=by decide
    omega
   rw [bG];show _<b64^an*(18446744073709551616:Int);omega
  have a5:=M3.len_le (by decide) aq
  obtain ⟨us,ag,aw,ad,a2,S⟩:=M3
  refine Gt Q1 w4 (by simp) (aw.mono w4.le) ag (by simp;omega) ?_
  intro h5 W
  refine ⟨_,rfl,?_⟩
  rw [bF] at W
  generalize hu0:us++aE (an+1-us.length) (0:Int)=us0 at W
  have H:us0.length=an+1:=by rw [<- hu0];simp;omega
  have o:Dig b64 us0:=by rw [<- hu0];exact ad.append (I0 (by decide) _)
  have p:val b64 us0=x*2^s:=by rw [<- hu0,Cz];exact S
  obtain ⟨nq,hnq⟩:∃ nq,an+1=nq+(mm+2):=⟨an+1-(mm+2),by omega⟩
  have eq:B4 (B4 ((an:Int)-(a.length:Int))+1)=(nq:Int):=by
   rw [B7 (n:=(an:Int)-(a.length:Int)) (by omega) (by omega),B7 (by omega) (by omega)];omega
  rw [eq]
  refine J7 Q1 (by omega) (by omega) (by omega) ?_
  intro bq f
  rw [aC]
  refine ⟨_,_,_,rfl,?_⟩
  have ax:h5=blk .u64 C1 g3 bu us0:=by rw [W.eq];simp [blk]
  subst ax
  have R:g3 bu=none:=W.free
  have L:bu≠bq:=by
   rintro rfl
   unfold blk at f
   rw [B9] at f;cases f
  have J:g3 bq=none:=by
   have:=f
   unfold blk at this
   rwa [B8 _ _ L.symm] at this
  rw [hmm]
  refine A61 (us0:=us0) (N:=an+1) (xn:=an) R J L (sv.mono Q) dv V.symm ae T F rfl o H p rfl hnq (by omega) (by omega) ?_ ?_
  ·have s1:=F3 b64 us0 (i:=nq) (by omega)
   have s2:=C6 (by decide) (o.take nq)
   have s3:val b64 us0<b64^an*2^s:=by
    rw [p];exact bM u b
   have s4:b64^(mm+1)<=val b64 a:=by
    have:=aD (show 1<=(t:Int) by omega) (aQ g);omega
   have s5:b64^nq*(b64^(mm+1)*2^s)<=b64^nq*(val b64 a*2^s):=aJ (aD s4 (aQ b)) (aQ (D5 (by decide) nq))
   have s6:b64^nq*(b64^(mm+1)*2^s)=b64^an*2^s:=by
    rw [<- cX,<- bD,show nq+(mm+1)=an by omega]
   by_cases c:val b64 (us0.drop nq)<val b64 a*2^s
   ·exact c
   ·have:=aJ (show val b64 a*2^s<=val b64 (us0.drop nq) by omega) (aQ (D5 (B:=b64) (by decide) nq));omega
  ·intro A5 m5 c5 A6 m6 c6 h6 l6 k5 k6 M5 M6
   exact hK _ _ _ _ _ _ _ (Heap.le_trans l1 (Heap.le_trans Q l6)) k5 k6 M5 M6
end
def A1p{x a b p:Int}(h:a+p*b=x)(h0:0<=a)(h1:a<p):x/p=b/\x%p=a:=(Int.ediv_emod_unique (by omega)).2 ⟨h,h0,h1⟩
def Xj{P:dG}{h:bC}{A:Option bI}{n m c s:Nat}{cs:List dC}(hl:cs.length=n*s)(hc:cs=[]\/∃ a,A=some a/\∀ j v,cs[j]? = some v->h.cell? (a.add j)=some v){K:Array dC->bC->Prop}(x:K cs.toArray h):
 wpH P (Builtin.firstCells s n (.slice A m c)) K h:=by
 cases A with
 | none=>
  rcases hc with rfl|⟨a,e,_⟩
  ·exact x
  ·cases e
 | some a=>
  show wpH P (loadCells a (n*s)) K h
  rcases hc with rfl|⟨b,e,hc⟩
  ·exact U2 (cs:=[]) hl.symm (fun j v e=>by simp at e) x
  ·cases e
   exact U2 hl.symm hc x
def B7p{P:dG}{t e ty:cC}{k:dY}{bytes:Nat}(s:SliceT P t e (.int k 0) 1 bytes){h g:bC}{b:Nat}{A:Option bI}{pre post:List dC}{xs:List Int}{n c m d:Nat}(w:Win k h g b e A pre xs post)(hn:n=xs.length){B:Option bI}{ys:List Int}(sy:SlI k h B ys)(hm:min m xs.length=ys.length){K:VP}
 (x:∀ h',Win k h' g b e A pre (ys++xs.drop ys.length) post->K (I ys.length) h'):wpH P (fB #[t,t] ty #[.slice A n c,.slice B m d]) K h:=by
 subst hn
 have f:ys.length<=xs.length:=by omega
 obtain ⟨i,p,y,o,r⟩:=s.parts
 unfold fB
 simp only [dE,aG,aL,C5,E9 s.und,N4 p,G2,fY,o]
 have l:Nat.min m xs.length=ys.length:=hm
 rw [l]
 refine Xj (s:=1) (cs:=ys.map (bB k)) (by simp) sy ?_
 cases A with
 | none=>
  rcases w.at_ with j|j
  ·subst j
   have:ys=[]:=aM (by simpa using f)
   subst this
   exact x h (by simpa using w)
  ·cases j
 | some a=>
  simp only [C5]
  rcases w.at_ with j|j
  ·subst j
   have:ys=[]:=aM (by simpa using f)
   subst this
   exact x h (by simpa using w)
  ·cases j
   rw [w.eq]
   refine J8 (ys.map (bB k)) pre.length 0 (pre++xs.map (bB k)++post) (by simp;omega) (fun v q=>?_) ?_
   ·obtain ⟨u,_,rfl⟩:=List.mem_map.1 q;rfl
   ·refine x _ ⟨w.free,?_,?_⟩
    ·congr 3
     unfold N5
     rw [dU,aU pre,dB rfl,fO]
     rw [gG,aY (show pre.length<=pre.length+ys.length by omega),cG,cT]
     rw [eC (by simpa using f),<- List.map_drop,dP]
     simp only [aU]
    ·right;rfl
section
variable {h g:bC} {K:VP} {A B:Option bI} {ac bc:Nat}
def B98(a n:Nat):(if (a:Int)<(n:Int) then (a:Int) else (n:Int))=((min n a:Nat):Int):=by split<;>omega
def Mo{xs:List Int}(d:Dig b64 xs)(n:Nat):val b64 xs/b64^n=val b64 (xs.drop (min n xs.length))/\val b64 xs%b64^n=val b64 (xs.take (min n xs.length)):=by
 by_cases c:n<=xs.length
 ·rw [aI c]
  have e:=F3 b64 xs c
  have b:=C6 (by decide) (d.take n)
  have a:=L5 (by decide) (d.take n)
  rw [aF,aI c] at a
  exact A1p e.symm b a
 ·rw [fC (by omega),fD,aV]
  have b:=C6 (by decide) d
  have a:=L5 (by decide) d
  have f:=C8 (B:=b64) (by decide) (show xs.length<=n by omega)
  exact A1p (by simp [val]) b (by omega)
def Z1{x:Int}{an n:Nat}(ma:Mw h A an x)(ha:an<=ac)(hK:∀ A' m c',m<=c'->m<=an->Mw h A' m (x/b64^n)->K (.slice A' m c') h):aW prog T4 #[.slice A an ac,I n] h K:=by
 obtain ⟨b,rfl,e,a,d,rfl⟩:=ma
 refine A1y _ _ _ _ ?_
 unfold Zf
 rw [B98,aC]
 refine ⟨⟨by omega,by omega⟩,hK _ _ _ (by omega) (by omega) ?_⟩
 rw [(Mo a n).1,<- aN]
 refine Mw.of (A1q e (by omega) ha) (a.drop _) ?_
 by_cases c:min n b.length<b.length
 ·exact Np d c
 ·rw [aY (by omega)];exact Norm.nil
def Fz{x:Int}{an n:Nat}(ma:Mw h A an x)(ha:an<=ac)(hl:an<=10000000000)(hK:∀ A' m c',m<=c'->m<=n->m<=an->Mw h A' m (x%b64^n)->K (.slice A' m c') h):aW prog Cr #[.slice A an ac,I n] h K:=by
 obtain ⟨b,rfl,c,a,e,rfl⟩:=ma
 refine A4r _ _ _ _ ?_
 unfold A4s
 rw [B98,aC,H8,bV,bV]
 refine ⟨⟨by omega,by omega⟩,Bi (Kc c (m:=min n b.length) (by omega) ha) (a.take _) (by rw [aF];omega) (Mo a n).2.symm (by omega) (by omega) ?_⟩
 intro m d M
 exact ⟨_,_,_,rfl,hK _ _ _ (by omega) (by omega) (by omega) M⟩
def Id{x y:Int}{an bn n:Nat}(ma:Mw h A an x)(mb:Mw h B bn y)(hbn:bn<=n)(hl:n+an<=5000000000)(hK:∀ A' m c' h',h.le h'->m<=c'->Mw h' A' m (x*b64^n+y)->K (.slice A' m c') h'):aW prog Lm #[.slice A an ac,.slice B bn bc,I n] h K:=by
 obtain ⟨a,rfl,w,C,F,rfl⟩:=ma
 obtain ⟨d,rfl,u,s,D,rfl⟩:=mb
 refine B86 _ _ _ _ _ _ _ ?_
 unfold C43
 have t:B4 ((n:Int)+a.length)=((n+a.length:Nat):Int):=by rw [B7 (by omega) (by omega)];omega
 rw [t]
 refine J7 Q1 (by omega) (by omega) (by omega) ?_
 intro b p
 rw [aC]
 refine ⟨_,_,_,rfl,?_⟩
 have k:=Win.blk .u64 C1 p (aE (n+a.length) 0)
 refine Gt Q1 k (by simp) (u.mono k.le) rfl (by simp;omega) ?_
 intro G f
 refine ⟨_,rfl,⟨by omega,by omega⟩,?_⟩
 rw [bF] at f
 generalize hz:d++aE (n+a.length-d.length) (0:Int)=zs at f
 have r:zs.length=n+a.length:=by rw [<- hz];simp;omega
 have q:=f.sub (l:=n) (m:=n+a.length) (c:=n+a.length) (by omega) (by omega) (by omega)
 rw [aC]
 refine Gt Q1 q (by rw [aF,aN];omega) (w.mono f.le) rfl (by rw [aF,aN];omega) ?_
 intro E j
 rw [aY (by rw [aF,aN];omega),bX] at j
 have g:=f.whole (l:=n) (m:=n+a.length) (by omega) (by omega) (by omega) j
 rw [aY (show zs.length<=n+a.length by omega),bX] at g
 have i:zs.take n=d++aE (n-d.length) 0:=by
  rw [<- hz,dK,aK (by omega),bZ]
  congr 2;omega
 rw [i] at g
 refine ⟨_,rfl,Bi g.sl ((s.append (I0 (by decide) _)).append C) (by simp;omega) rfl (by omega) (by omega) ?_⟩
 intro m z M
 refine ⟨_,_,_,rfl,hK _ _ _ _ g.le z ?_⟩
 rw [G0,Cz] at M
 have e:(d++aE (n-d.length) (0:Int)).length=n:=by simp;omega
 rw [e] at M
 have o:val b64 a*b64^n+val b64 d=val b64 d+b64^n*val b64 a:=by rw [aR];omega
 rw [o];exact M
def C1v{x y:Int}(hx:0<=x/\x<18446744073709551616)(hy:0<=y/\y<18446744073709551616)(hK:K (.tuple #[U (x*y/18446744073709551616),U (x*y%18446744073709551616)]) h):aW prog B3v #[U x,U y] h K:=by
 refine C2r _ _ ?_
 unfold C75
 exact Nq hx hy ⟨_,_,rfl,hK⟩
def A68{v:Int}{n:Nat}(s:SlI .u64 h A [v])(hn:0<n)(hl:n<=1000000000)(hK:∀ A' h',h.le h'->SlI .u64 h' A' (aE n v)->K (.slice A' n n) h'):aW prog Vk #[.slice A 1 ac,I n] h K:=by
 refine B0t _ _ _ _ ?_
 unfold B4x
 refine B6 (fun d=>by omega) (fun _=>?_)
 rw [C2 (n:=((1:Nat):Int)) (by omega) (by omega),C2 (n:=(n:Int)) (by omega) (by omega)]
 refine C1v (by omega) (by omega) ⟨_,_,rfl,?_⟩
 have C:((1:Nat):Int)*(n:Int)/18446744073709551616=0:=by omega
 have u:((1:Nat):Int)*(n:Int)%18446744073709551616=n:=by omega
 rw [C,u]
 refine B6 (fun d=>by omega) (fun _=>?_)
 refine B6 (fun d=>by omega) (fun _=>?_)
 rw [B7 (n:=(n:Int)) (by omega) (by omega)]
 refine J7 Q1 (by omega) (by omega) (by omega) ?_
 intro b x
 rw [aC]
 refine ⟨_,_,_,rfl,?_⟩
 have q:=Win.blk .u64 C1 x (aE n 0)
 refine Gt Q1 q (by simp) (s.mono q.le) rfl (by simp;omega) ?_
 intro d j
 refine ⟨_,rfl,?_⟩
 rw [bF] at j
 refine ⟨fun l f=>∃ k:Nat,l=[I k]/\0<k/\k<=n/\Win .u64 f h b C1 (some ⟨b,0,none⟩) [] (aE k v++aE (n-k) 0) [],fun l _=>n-(iAt l 0).toNat,⟨1,rfl,by omega,hn,j⟩,?_⟩
 rintro i f ⟨k,e,B,a,w⟩
 obtain rfl:=sI1 e
 refine B6 (fun t=>?_) (fun t=>?_)
 ·have z:(aE k v++aE (n-k) (0:Int)).length=n:=by simp;omega
  refine ⟨⟨by omega,by omega⟩,⟨by omega,by omega⟩,?_⟩
  simp only [aC,H8,bV]
  have g:=w.sub (l:=k) (m:=n) (c:=n) (by omega) (by omega) (by omega)
  have r:((aE k v++aE (n-k) (0:Int)).drop k).take (n-k)=aE (n-k) 0:=by
   rw [eI (by simp),aK (by simp)]
  rw [r] at g
  have y:SlI .u64 f (some ⟨b,0,none⟩) (aE (min k (n-k)) v):=by
   have:=Kc w.sl (c:=n) (m:=min k (n-k)) (by omega) (by omega)
   rwa [cJ (by simp;omega),bZ,aI (by omega)] at this
  refine B7p Q1 g (by simp) y (by simp) ?_
  intro F p
  rw [cP] at p ⊢
  have o:=w.whole (l:=k) (m:=n) (by omega) (by omega) (by simp;omega) p
  have E:B4 ((k:Int)+(min k (n-k):Nat))=((k+min k (n-k):Nat):Int):=by rw [B7 (by omega) (by omega)];omega
  refine ⟨_,rfl,?_⟩
  rw [E]
  refine ⟨⟨_,rfl,by omega,by omega,?_⟩,?_⟩
  ·have D:(aE k v++aE (n-k) (0:Int)).take k++(aE (min k (n-k)) v++(aE (n-k) (0:Int)).drop (min k (n-k)))++(aE k v++aE (n-k) (0:Int)).drop n=aE (k+min k (n-k)) v++aE (n-(k+min k (n-k))) 0:=by
    rw [dB (by simp),aY (show (aE k v++aE (n-k) (0:Int)).length<=n by omega),bX,bF,<- aU,dX]
    congr 2;omega
   rw [D] at o
   exact o
  ·simp only [iAt,aG];omega
 ·have a:k=n:=by omega
  subst a
  have:=w.sl
  rw [gC,List.replicate_zero,bX] at this
  exact hK _ _ w.le this
end
def Mw.high{h:bC}{A:Option bI}{an ac k:Nat}{x:Int}(ma:Mw h A an x)(ha:an<=ac)(hk:k<=an):Mw h (J9 A ac k 1) (an-k) (x/b64^k):=by
 obtain ⟨d,rfl,f,b,c,rfl⟩:=ma
 have e:=(Mo b k).1
 rw [aI hk] at e
 rw [e,<- aN]
 refine Mw.of (A1q f hk ha) (b.drop _) ?_
 by_cases a:k<d.length
 ·exact Np c a
 ·rw [aY (by omega)];exact Norm.nil
def B6k{x P X2 yh top:Int}(hP:0<P)(h1:x<P*P*(X2+1))(h2:P*top<=x)(hlt:X2<yh):top<P*yh:=by
 by_cases b:top<P*yh
 ·exact b
 ·have c:P*(P*yh)<=P*top:=aJ (by omega) (by omega)
  have a:P*P*(X2+1)<=P*P*yh:=aJ (by omega) (aS (by omega) (by omega))
  rw [cX P P yh] at a
  omega
def B6l{x P X2 yh top:Int}(hP:0<P)(h1:P*P*X2<=x)(h2:x<P*(top+1))(hge:yh<=X2):P*yh<=top:=by
 by_cases b:P*yh<=top
 ·exact b
 ·have c:P*(top+1)<=P*(P*yh):=aJ (by omega) (by omega)
  have a:P*P*yh<=P*P*X2:=aJ (by omega) (aS (by omega) (by omega))
  rw [cX P P yh] at a
  omega
def C0a(N:Nat):Prop:=∀ {h:bC} {K:VP} {A B:Option bI} {ac bc an bn:Nat} {x y:Int},bn<=N->Mw h A an x->Mw h B bn y->an<=ac->bn<=bc->an<=1000000000->bn<=200000000->0<bn->9223372036854775808*b64^(bn-1)<=y->x<b64^bn*y->
 (∀ A1 m1 c1 A2 m2 c2 h',h.le h'->m1<=c1->m2<=c2->Mw h' A1 m1 (x/y)->Mw h' A2 m2 (x%y)->K (.tuple #[.slice A1 m1 c1,.slice A2 m2 c2]) h')->aW prog U7 #[.slice A an ac,.slice B bn bc] h K
section
variable {h g:bC} {K:VP} {A B:Option bI} {ac bc:Nat}
def Dk{x y:Int}:Ey x y<0↔x<y:=by
 unfold Ey
 by_cases a:x<y
 ·rw [iP a];simp [a]
 ·rw [iN a]
  by_cases b:x>y
  ·rw [iP b];simp [a]
  ·rw [iN b];simp [a]
set_option maxHeartbeats 1000000 in
def A5u{x y q0 R0 pr:Int}{m bn nq cq np cp nr cr:Nat}{Aq Ap Ar:Option bI}(hx0:0<=x)(mb:Mw h B bn y)(hb:bn<=bc)(hl2:bn<=200000000)(hbm:bn=2*m)(mq:Mw h Aq nq q0)(hq:nq<=cq)(mp:Mw h Ap np pr)(hp2:pr<b64^bn)
 (mr:Mw h Ar nr R0) (hr:nr<=cr) (hq0:q0<b64^m) (hR:R0-pr=x-q0*y) (hy:x-q0*y<y)
 (hK:∀ A1 m1 c1 A2 m2 c2 h',h.le h'->m1<=c1->m2<=c2->Mw h' A1 m1 (x/y)->Mw h' A2 m2 (x%y)->K (.tuple #[.slice A1 m1 c1,.slice A2 m2 c2]) h'):
 At prog B bn bc K Aq nq cq Ap np cp Ar nr cr h:=by
 have D:=mb.lt (by decide)
 have F:=mb.nonneg (by decide)
 have J:=mp.nonneg (by decide)
 unfold At
 refine ⟨fun l c=>∃ (Aq Ar:Option bI) (nq cq nr cr:Nat) (q R:Int),l=[.slice Aq nq cq,.slice Ar nr cr]/\h.le c/\Mw c Aq nq q/\nq<=cq/\Mw c Ar nr R/\nr<=cr/\q<b64^m/\R-pr=x-q*y/\x-q*y<y,fun l c=>match l with|[.slice A n _,_]=>B37 b64 c A n|_=>0,⟨_,_,_,_,_,_,_,_,rfl,B3 h,mq,hq,mr,hr,hq0,hR,hy⟩,?_⟩
 rintro A1 z c1 A2 C c2 c ⟨Aq,Ar,nq,cq,nr,cr,q,R,s,d,mq,hq,mr,hr,hq0,hR,hy⟩
 simp only [bO,cV,and_true] at s
 obtain ⟨⟨rfl,rfl,rfl⟩,rfl,rfl,rfl⟩:=s
 have G:C<=bn+1:=mr.len_le (by decide) (by
  rw [bG]
  show R<b64^bn*18446744073709551616
  omega)
 have H:z<=m:=mq.len_le (by decide) hq0
 refine F7 mr (mp.mono d) (by omega) ⟨_,rfl,?_⟩
 refine B6 (fun k=>?_) (fun k=>?_)
 ·rw [Dk] at k
  have L:=mq.nonneg (by decide)
  have j:1<=q:=by
   by_cases t:1<=q
   ·exact t
   ·obtain rfl:q=0:=by omega
    omega
  refine R9 mr (mb.mono d) hr hb (by omega) (by omega) ?_
  intro A3 w N o e g M3
  refine ⟨_,_,_,rfl,An Q1 rfl ?_⟩
  intro b f
  refine ⟨_,_,_,rfl,?_⟩
  have i:=Heap.le_put (.cells #[U 1] C1) f
  have M1:Mw (o.put b (.cells #[U 1] C1)) (some ⟨b,0,none⟩) 1 1:=⟨[1],rfl,SlI.new o b [1] C1 _,Dig.one (by decide),by simp [fU],W4 _ _⟩
  refine H1 ((mq.mono e).mono i) M1 hq (by omega) j ?_
  intro A5 Q O S r u M5
  refine ⟨_,_,_,rfl,⟨_,_,_,_,_,_,_,_,rfl,Heap.le_trans d (Heap.le_trans e (Heap.le_trans i r)),M5,u,(M3.mono i).mono r,g,by omega,?_,?_⟩,?_⟩
  ·rw [Int.sub_mul];omega
  ·rw [Int.sub_mul];omega
  ·simp only [Am M5,Am mq];omega
 ·rw [Dk] at k
  refine H1 mr (mp.mono d) hr (by omega) (by omega) ?_
  intro A3 w N o e g M3
  obtain ⟨E,M⟩:=A1p (x:=x) (a:=R-pr) (b:=q) (p:=y) (by rw [hR,aR y];omega) (by omega) (by omega)
  refine ⟨_,_,_,rfl,hK _ _ _ _ _ _ _ (Heap.le_trans d e) hq g ?_ ?_⟩
  ·rw [E];exact mq.mono e
  ·rw [M];exact M3
set_option maxHeartbeats 1000000 in
def Uh{N:Nat}(ih:C0a N){x y:Int}{an bn m:Nat}(hm:0<m)(hN:m<=N)(hbm:bn=2*m)(ma:Mw h A an x)(mb:Mw h B bn y)(ha:an<=ac)(hb:bn<=bc)(hl:an<=1000000000)(hl2:bn<=200000000)(htop:9223372036854775808*b64^(bn-1)<=y)(hxy:x<b64^m*y)
 (hK:∀ A1 m1 c1 A2 m2 c2 h',h.le h'->m1<=c1->m2<=c2->Mw h' A1 m1 (x/y)->Mw h' A2 m2 (x%y)->K (.tuple #[.slice A1 m1 c1,.slice A2 m2 c2]) h'):aW prog U6 #[.slice A an ac,.slice B bn bc] h K:=by
 have al:=ma.nonneg (by decide)
 have av:=mb.nonneg (by decide)
 have a5:=mb.lt (by decide)
 have i:=D5 (B:=b64) (by decide) m
 have ah:b64^bn=b64^m*b64^m:=by rw [<- bD];congr 1;omega
 have s:b64^(2*m)=b64^m*b64^m:=by rw [<- bD];congr 1;omega
 have ak:b64^(bn-1)=b64^m*b64^(m-1):=by rw [<- bD];congr 1;omega
 have a:=mb.high (k:=m) hb (by omega)
 rw [show bn-m=m by omega] at a
 have d:=a.nonneg (by decide)
 have ar:=a.lt (by decide)
 have dy:b64^m*(y/b64^m)+y%b64^m=y:=aO _ _
 have W:=aT y (b:=b64^m) (by omega)
 have a0:=aP y i
 have dx:b64^m*(x/b64^m)+x%b64^m=x:=aO _ _
 have au:=aT x (b:=b64^m) (by omega)
 have a4:=aP x i
 have a3:=D5 (B:=b64) (by decide) (m-1)
 have aa:9223372036854775808*b64^(m-1)<=y/b64^m:=by
  by_cases hc:9223372036854775808*b64^(m-1)<=y/b64^m
  ·exact hc
  ·have o:b64^m*(y/b64^m+1)<=b64^m*(9223372036854775808*b64^(m-1)):=aJ (by omega) (by omega)
   have Q:b64^m*(9223372036854775808*b64^(m-1))=9223372036854775808*(b64^m*b64^(m-1)):=by grind
   rw [ak] at htop
   rw [cY] at o
   omega
 obtain ⟨ys,S,sy,g,af,rfl⟩:=mb
 have mb:Mw h B bn (val b64 ys):=⟨ys,S,sy,g,af,rfl⟩
 generalize hyv:val b64 ys=y at *
 refine Sv _ _ _ _ _ _ ?_
 unfold Pc
 have eh:B4 (cM ((bn:Nat):Int) 2)=(m:Int):=by rw [bH (by omega),B7 (by omega) (by omega)];omega
 have ad:B4 (2*(m:Int))=((2*m:Nat):Int):=by rw [B7 (by omega) (by omega)];omega
 simp only [eh,ad,aC,bV,H8]
 rw [show bn-m=m by omega]
 refine ⟨⟨by omega,by omega⟩,⟨by omega,by omega⟩,Bi (Kc sy (m:=m) (c:=bc) (by omega) (by omega)) (g.take m) (by rw [aF];omega) rfl (by omega) (by omega) ?_⟩
 intro yn a6 Myl
 have F:=(Mo g m).2
 rw [aI (by omega),hyv] at F
 rw [<- F] at Myl
 refine ⟨_,_,_,rfl,B3 h,Z1 ma ha ?_⟩
 intro A1 n1 c1 k1 az M1
 refine ⟨_,_,_,rfl,?_⟩
 have C:=M1.nonneg (by decide)
 refine ⟨fun l O=>∃ (Aq Ar:Option bI) (J X L Z:Nat) (q r:Int),l=[.slice Aq J X,.slice Ar L Z]/\h.le O/\Mw O Aq J q/\J<=X/\Mw O Ar L r/\L<=Z/\q<b64^m/\x/b64^m=q*(y/b64^m)+r/\x-q*y<y,?_,?_⟩
 ·refine Z1 ma ha ?_
  intro A2 n2 c2 k2 a8 M2
  refine ⟨_,_,_,rfl,F7 M2 a (by omega) ⟨_,rfl,?_⟩⟩
  have ap:b64^(2*m)*(x/b64^(2*m))+x%b64^(2*m)=x:=aO _ _
  have ai:=aT x (b:=b64^(2*m)) (by have:=D5 (B:=b64) (by decide) (2*m);omega)
  have aj:=aP x (D5 (B:=b64) (by decide) (2*m))
  generalize x/b64^(2*m)=X2 at *
  rw [s] at ap ai aj
  refine B6 (fun M=>?_) (fun M=>?_)
  ·rw [Dk] at M
   have ht:=B6k (x:=x) (top:=x/b64^m) i (by rw [cY];omega) (by omega) M
   refine ih hN M1 a k1 (by omega) (by omega) (by omega) hm aa ht ?_
   intro A3 n3 c3 A4 n4 c4 h3 n k3 k4 M3 M4
   have u:0<y/b64^m:=by omega
   have d1:=aO (x/b64^m) (y/b64^m)
   have d2:=aP (x/b64^m) u
   have d0:=M3.nonneg (by decide)
   refine ⟨_,_,_,_,_,_,rfl,_,_,_,_,_,_,_,_,rfl,n,M3,k3,M4,k4,bJ u ht,by rw [aR];omega,?_⟩
   generalize (x/b64^m)/(y/b64^m)=q at *
   generalize (x/b64^m)%(y/b64^m)=r at *
   generalize x/b64^m=top at *
   generalize y/b64^m=yh at *
   generalize y%b64^m=yl at *
   generalize x%b64^m=xl at *
   generalize b64^m=P at *
   have o:P*(r+1)<=P*yh:=aJ (by omega) (by omega)
   have Q:x-q*y=P*r+xl-q*yl:=by rw [<- dx,<- dy,<- d1];grind
   have t3:=aS d0 W
   rw [cY] at o
   omega
  ·rw [Dk] at M
   have ht:=B6l (x:=x) (top:=x/b64^m) (yh:=y/b64^m) (X2:=X2) i (by omega) (by rw [cY];omega) (by omega)
   refine An Q1 rfl ?_
   intro b ag
   refine ⟨_,_,_,rfl,?_⟩
   have l4:=Heap.le_put (.cells #[U 18446744073709551615] C1) ag
   refine A68 (v:=18446744073709551615) (SlI.new h b [18446744073709551615] C1 _) hm (by omega) ?_
   intro A5 h5 t s5
   refine ⟨_,_,_,rfl,?_⟩
   have E:=Heap.le_trans l4 t
   refine Id (a.mono E) (Mag.zero (k:=.u64) (B:=b64)) (by omega) (by omega) ?_
   intro A6 n6 c6 h6 l6 k6 M6
   refine ⟨_,_,_,rfl,?_⟩
   have e:=Heap.le_trans E l6
   refine H1 (M1.mono e) M6 k1 (by omega) (by rw [aR];omega) ?_
   intro A7 n7 c7 h7 w k7 M7
   have a2:n7<=an:=M7.len_le (by decide) (by
    have:=ma.lt (by decide)
    have o:=aS d (aQ i)
    have Q:1*(x/b64^m)<=b64^m*(x/b64^m):=aD (by omega) C
    omega)
   refine ⟨_,_,_,rfl,?_⟩
   refine R9 M7 ((a.mono e).mono w) k7 (by omega) (by omega) (by omega) ?_
   intro A8 n8 c8 h8 l8 k8 M8
   have G:∀ j:Nat,val b64 (aE j 18446744073709551615)=b64^j-1:=by
    intro j
    induction j with
    | zero=>rfl
    | succ j ihj=>
     rw [List.replicate_succ,val,ihj,bG]
     show (18446744073709551615:Int)+18446744073709551616*(b64^j-1)=b64^j*18446744073709551616-1
     omega
   have M5:Mw h5 A5 m (b64^m-1):=by
    refine ⟨aE m 18446744073709551615,by simp,s5,?_,?_,G m⟩
    ·intro z hz
     have:=List.eq_of_mem_replicate hz
     subst this;decide
    ·obtain ⟨j,rfl⟩:∃ j,m=j+1:=⟨m-1,by omega⟩
     unfold fU
     rw [List.replicate_succ']
     simp
   refine ⟨_,_,_,rfl,_,_,_,_,_,_,_,_,rfl,Heap.le_trans e (Heap.le_trans w l8),((M5.mono l6).mono w).mono l8,aZ _,M8,k8,by omega,?_,?_⟩
   ·grind
   ·have:(b64^m-1)*y=b64^m*y-y:=by grind
    omega
 ·rintro Aq' V a1 Ar' ao aw O ⟨Aq,Ar,J,X,L,Z,q,r,H,lh,R,hq,mr,hr,f,T,am⟩
  simp only [bO,cV,and_true] at H
  obtain ⟨⟨rfl,rfl,rfl⟩,rfl,rfl,rfl⟩:=H
  have D:=R.nonneg (by decide)
  have a7:=mr.nonneg (by decide)
  have ay:V<=m:=R.len_le (by decide) f
  have ax:ao<=an:=mr.len_le (by decide) (by
   have:=ma.lt (by decide)
   have o:=aS D d
   have Q:1*(x/b64^m)<=b64^m*(x/b64^m):=aD (by omega) C
   omega)
  refine H2 R (Myl.mono lh) hq (by omega) (by omega) (by omega) ?_
  intro A3 n3 c3 h3 n k3 M3
  refine ⟨_,_,_,rfl,Fz (ma.mono (Heap.le_trans lh n)) ha (by omega) ?_⟩
  intro A4 n4 c4 k4 ae aq M4
  refine ⟨_,_,_,rfl,Id (mr.mono n) M4 ae (by omega) ?_⟩
  intro A5 n5 c5 h5 t k5 M5
  have p:=Heap.le_trans lh (Heap.le_trans n t)
  refine ⟨_,_,_,rfl,A5u (q0:=q) (m:=m) al (mb.mono p) hb hl2 hbm ((R.mono n).mono t) hq (M3.mono t) ?_ M5 k5 f ?_ am ?_⟩
  ·rw [ah]
   have o:q*(y%b64^m)<=q*b64^m:=aJ (by omega) D
   have Q:q*b64^m<b64^m*b64^m:=bM f i
   omega
  ·generalize x/b64^m=top at *
   generalize y/b64^m=yh at *
   generalize y%b64^m=yl at *
   generalize x%b64^m=xl at *
   generalize b64^m=P at *
   rw [<- dx,<- dy,T];grind
  ·intro A6 n6 c6 A7 n7 c7 h7 w k6 k7 M6 M7
   exact hK _ _ _ _ _ _ _ (Heap.le_trans p w) k6 k7 M6 M7
end
set_option maxHeartbeats 1000000 in
def C3i:∀ N,C0a N:=by
 intro N
 induction N with
 | zero=>intro h K A B J Q W d x y L _ _ _ _ _ _ E;omega
 | succ N ih=>
  intro h K A B J Q W d x y hN k g w F hl i ak f j G
  have ah:=k.nonneg (by decide)
  have ae:=g.nonneg (by decide)
  have e:0<y:=by
   have:=D5 (B:=b64) (by decide) (d-1);omega
  refine Sy _ _ _ _ _ _ ?_
  unfold Pe
  have c:aW prog J2 #[.slice A W J,.slice B d Q] h (fun r hp=>∃ (t22aA:Option bI) (t22an:Nat) (t22ac:Nat) (t22bA:Option bI) (t22bn:Nat) (t22bc:Nat),r= .tuple #[.slice t22aA t22an t22ac,.slice t22bA t22bn t22bc]/\K (.tuple #[.slice t22aA t22an t22ac,.slice t22bA t22bn t22bc]) hp):=by
   refine Ev k g w F (by omega) hl (by omega) ?_
   intro A1 m1 c1 A2 m2 c2 h' l s R M1 M2
   exact ⟨_,_,_,_,_,_,rfl,G _ _ _ _ _ _ _ l s R M1 M2⟩
  refine B6 (fun L=>c) (fun L=>?_)
  refine I3 (fun E=>c) (fun E=>?_)
  rw [bW (by omega)] at E
  obtain ⟨m,hbm⟩:∃ m,d=2*m:=⟨d/2,by omega⟩
  have eh:B4 (cM ((d:Nat):Int) 2)=(m:Int):=by rw [bH (by omega),B7 (by omega) (by omega)];omega
  simp only [eh]
  have T:=D5 (B:=b64) (by decide) m
  have u:b64^d=b64^m*b64^m:=by rw [<- bD];congr 1;omega
  have dx:b64^m*(x/b64^m)+x%b64^m=x:=aO _ _
  have aa:=aT x (b:=b64^m) (by omega)
  have aj:=aP x T
  rw [u] at j
  refine Z1 k w ?_
  intro A1 n1 c1 s ag M1
  refine ⟨_,_,_,rfl,?_⟩
  have V:x/b64^m<b64^m*y:=by
   by_cases hc:x/b64^m<b64^m*y
   ·exact hc
   ·have D:b64^m*(b64^m*y)<=b64^m*(x/b64^m):=aJ (by omega) (by omega)
    rw [cX] at j
    omega
  refine Uh ih (by omega) (by omega) hbm M1 g s F (by omega) i f V ?_
  intro A2 n2 c2 A3 n3 c3 h3 C R k3 M2 M3
  refine ⟨_,_,_,_,_,_,rfl,Fz (k.mono C) w (by omega) ?_⟩
  intro A4 n4 c4 k4 o H M4
  have d1:=aO (x/b64^m) y
  have d2:=aP (x/b64^m) e
  have d3:=aT (x/b64^m) (b:=y) (by omega)
  have q:x/b64^m/y<b64^m:=bJ e V
  have ai:n3<=d:=M3.len_le (by decide) (by have:=g.lt (by decide);omega)
  have af:n2<=m:=M2.len_le (by decide) q
  refine ⟨_,_,_,rfl,Id M3 M4 o (by omega) ?_⟩
  intro A5 n5 c5 h5 n k5 M5
  refine ⟨_,_,_,rfl,?_⟩
  have S:(x/b64^m)%y*b64^m+x%b64^m<b64^m*y:=by
   have D:b64^m*((x/b64^m)%y+1)<=b64^m*y:=aJ (by omega) (by omega)
   rw [cY,aR] at D
   omega
  have ad:n5<=d+m:=M5.len_le (by decide) (by
   have D:b64^m*y<b64^m*b64^d:=cO (g.lt (by decide)) T
   rw [Nat.add_comm,bD];omega)
  refine Uh ih (by omega) (by omega) hbm M5 (g.mono (Heap.le_trans C n)) k5 F (by omega) i f S ?_
  intro A6 n6 c6 A7 n7 c7 h7 O k6 k7 M6 M7
  have z:n6<=m:=M6.len_le (by decide) (bJ e S)
  refine ⟨_,_,_,_,_,_,rfl,Id ((M2.mono n).mono O) M6 z (by omega) ?_⟩
  intro A8 n8 c8 h8 M k8 M8
  refine ⟨_,_,_,rfl,?_⟩
  have e1:=aO ((x/b64^m)%y*b64^m+x%b64^m) y
  have Z:=aP ((x/b64^m)%y*b64^m+x%b64^m) e
  have X:=aT ((x/b64^m)%y*b64^m+x%b64^m) (b:=y) (by omega)
  have M7':=M7.mono M
  have t:=Heap.le_trans C (Heap.le_trans n (Heap.le_trans O M))
  generalize ((x/b64^m)%y*b64^m+x%b64^m)/y=q2 at *
  obtain ⟨f1,f2⟩:=A1p (x:=x) (a:=((x/b64^m)%y*b64^m+x%b64^m)%y) (b:=x/b64^m/y*b64^m+q2) (p:=y) (by
   generalize ((x/b64^m)%y*b64^m+x%b64^m)%y=r2 at *
   generalize x/b64^m/y=q1 at *
   generalize x/b64^m%y=r1 at *
   generalize x/b64^m=top at *
   generalize x%b64^m=xl at *
   generalize b64^m=P at *
   grind) X Z
  refine G _ _ _ _ _ _ _ t k8 k7 ?_ ?_
  ·rw [f1];exact M8
  ·rw [f2];exact M7'
def Yq{ys:List Int}{k t s:Nat}(dy:Dig b64 ys)(hk:ys.length=k+1)(ht:ys.getD k 0=(t:Int))(ht0:t≠0)(hs:s=64-O0 t):s<64/\val b64 ys*2^s<b64^(k+1)/\9223372036854775808*b64^k<=val b64 ys*2^s:=by
 have r:=N9 dy k
 obtain ⟨e,a⟩:=Bz (B:=b64) (by decide) dy (m:=k) hk
 rw [ht] at r e a
 obtain ⟨q,n⟩:=Fb ht0
 have o:O0 t<=64:=Iv (k:=64) (by omega)
 have p:1<=O0 t:=by unfold O0;rw [iN ht0];omega
 have d:s<64:=by omega
 have c:0<(2:Int)^s:=bL (by decide)
 have j:=Z9 (s:=s) (by omega)
 have b:O0 t=64-s:=by omega
 have i:(t:Int)+1<=2^(64-s):=by
  rw [<- b]
  have:((t+1:Nat):Int)<=((2^O0 t:Nat):Int):=by omega
  simpa using this
 have l:(2:Int)^(63-s)<=t:=by
  have:((2^(O0 t-1):Nat):Int)<=((t:Nat):Int):=by omega
  rw [show O0 t-1=63-s by omega] at this
  simpa using this
 have f:(2:Int)^s*2^(63-s)=9223372036854775808:=by
  rw [<- bD,show s+(63-s)=63 by omega];decide
 have g:=D5 (B:=b64) (by decide) k
 refine ⟨d,?_,?_⟩
 ·have u:val b64 ys*2^s<((t:Int)+1)*b64^k*2^s:=bM e c
  have w:((t:Int)+1)*b64^k*2^s=((t:Int)+1)*2^s*b64^k:=by grind
  have x:((t:Int)+1)*2^s*b64^k<=18446744073709551616*b64^k:=by
   apply aD _ (aQ g)
   rw [<- j,aR (2^s)]
   exact aD i (aQ c)
  have z:b64^(k+1)=18446744073709551616*b64^k:=by rw [bG b64 k,aR]
  omega
 ·have y:(t:Int)*b64^k*2^s<=val b64 ys*2^s:=aD a (aQ c)
  have u:9223372036854775808*b64^k<=(t:Int)*2^s*b64^k:=by
   apply aD _ (aQ g)
   rw [<- f,aR (t:Int)]
   exact aJ l (by omega)
  have w:(t:Int)*2^s*b64^k=(t:Int)*b64^k*2^s:=by grind
  omega
section
variable {h g:bC} {K:VP} {A B:Option bI} {ac bc:Nat}
set_option maxHeartbeats 1000000 in
def A73{D V a b:Int}{S sh dn dc vc bn bq:Nat}{pieces t46:Int}{DA VA:Option bI}(hS:B4 ((B4 (cM (B4 ((B4 (((bn:Nat):Int)+pieces))-(1:Int))) pieces))*pieces)=(S:Int))
 (hsh:C0 (B4 ((B4 ((64:Int)*(B4 ((S:Int)-((bn:Nat):Int)))))+t46))=(sh:Int)) (hS0:0<S) (hS2:S<=200000000) (hsh2:sh<=100000000000) (hb:h bq=none) (hD:Mw h DA dn D) (hdc:dn<=dc) (hdn:0<dn) (hdl:dn<=2000000000) (hV:Mw h VA S V) (hvc:S<=vc) (hVt:9223372036854775808*b64^(S-1)<=V)
 (hDa:D=a*2^sh) (hVb:V=b*2^sh)
 (hK:∀ A1 m1 c1 A2 m2 c2 h',h.le h'->m1<=c1->m2<=c2->Mw h' A1 m1 (a/b)->Mw h' A2 m2 (a%b)->K (.tuple #[.slice A1 m1 c1,.slice A2 m2 c2]) h'):
 Ay prog bn K pieces t46 VA S vc DA dn dc (some ⟨bq,0,none⟩) (dn+S) (dn+S) (blk .u64 C1 h bq (aE (dn+S) 0)):=by
 have E:=hD.nonneg (by decide)
 have aj:=hD.lt (by decide)
 have z:=hV.lt (by decide)
 have o:0<V:=by have:=D5 (B:=b64) (by decide) (S-1);omega
 have R:0<(2:Int)^sh:=bL (by decide)
 have hQ:=D5 (B:=b64) (by decide) S
 unfold Ay
 simp only [hS,hsh]
 obtain ⟨nb,hnb⟩:∃ nb,nb=(dn-1)/S:=⟨_,rfl⟩
 have ak:nb*S<=dn-1:=by rw [hnb];exact Nat.div_mul_le_self _ _
 have ah:dn-1<nb*S+S:=by
  have G:=eG (dn-1) S
  have h2:=eM (dn-1) hS0
  rw [<- hnb,fH] at G
  omega
 have e1:B4 (B4 (cM (B4 ((dn:Int)-1)) (S:Int))*(S:Int))=((nb+1:Nat):Int)*S-S:=by
  rw [B7 (n:=(dn:Int)-1) (by omega) (by omega),show (dn:Int)-1=((dn-1:Nat):Int) by omega,<- cL,<- hnb]
  have:nb<=dn-1:=by rw [hnb];exact eF _ _
  have T:(nb:Int)*(S:Int)=((nb*S:Nat):Int):=by simp
  rw [B7 (n:=(nb:Int)) (by omega) (by omega),T,B7 (by omega) (by omega),fP,Int.add_mul,T]
  omega
 refine ⟨fun l R=>∃ (j n c:Nat) (A:Option bI) (d:List Int) (r:Int) (g:bC),l=[.slice A n c,I ((j:Int)*S-S)]/\h.le g/\j*S+d.length=dn+S/\Dig b64 d/\Win .u64 R g bq C1 (some ⟨bq,0,none⟩) [] (aE (j*S) 0++d) []/\Mw g A n r/\n<=c/\r=(D/b64^(j*S))%V/\val b64 d=(D/b64^(j*S))/V,fun l _=>(iAt l 1+S).toNat,⟨nb+1,0,0,none,aE (dn-1+1-nb*S) 0,0,h,by rw [e1],B3 h,?_,I0 (by decide) _,?_,Mag.zero,aZ _,?_,?_⟩,?_⟩
 ·rw [cP,eZ,eV];omega
 ·rw [dX,show (nb+1)*S+(dn-1+1-nb*S)=dn+S by rw [eZ,eV];omega]
  exact Win.blk .u64 C1 hb _
 ·have:=C8 (B:=b64) (by decide) (show dn<=(nb+1)*S by rw [eZ,eV];omega)
  rw [bU E (by omega),gQ]
 ·have:=C8 (B:=b64) (by decide) (show dn<=(nb+1)*S by rw [eZ,eV];omega)
  rw [bU E (by omega),Int.zero_ediv,Cl]
 rintro A1 n1 c1 st a0 ⟨j,n,c,A',d,r,g,N,lg,s,L,w,Mr,az,t,k⟩
 simp only [bO,cV,cR,and_true,true_and] at N
 obtain ⟨⟨rfl,rfl,rfl⟩,rfl⟩:=N
 refine B6 (fun G=>?_) (fun G=>?_)
 ·obtain ⟨i,rfl⟩:∃ i,j=i+1:=⟨j-1,by
   rcases j with _|j
   ·simp at G;omega
   ·rfl⟩
  obtain ⟨e,he⟩:∃ e,e=i*S:=⟨_,rfl⟩
  have H:(i+1)*S=e+S:=by rw [he,eZ,eV]
  have Z:((i+1:Nat):Int)*(S:Int)-(S:Int)=(e:Int):=by rw [<- cD,H];omega
  rw [H] at s w t k
  rw [Z]
  have av:=D5 (B:=b64) (by decide) e
  refine w.call (Z1 (hD.mono lg) hdc ?_)
  intro A2 n2 c2 k2 ay M2 h2 w2
  refine ⟨_,_,_,rfl,w2.call (Fz M2 k2 (by omega) ?_)⟩
  intro A3 n3 c3 k3 ae ai M3 T w3
  have ax:=Mr.nonneg (by decide)
  have au:r<V:=by rw [t];exact aP _ o
  have ao:n1<=S:=Mr.len_le (by decide) (by omega)
  refine ⟨_,_,_,rfl,w3.call (Id Mr M3 ae (by omega) ?_)⟩
  intro A4 n4 c4 g4 l4 k4 M4 h4 w4
  have af:D/b64^(e+S)=D/b64^e/b64^S:=by rw [bD,fF (by omega)]
  rw [af] at t k
  have dm:=aO (D/b64^e) (b64^S)
  have aw:=aT (D/b64^e) (b:=b64^S) (by omega)
  have ap:=aP (D/b64^e) hQ
  generalize hD1:D/b64^e=D1 at *
  have q:r*b64^S+D1%b64^S<b64^S*V:=by
   have t1:b64^S*(r+1)<=b64^S*V:=aJ (by omega) (by omega)
   rw [cY,aR] at t1
   omega
  have ar:n4<=S+S:=M4.len_le (by decide) (by
   have t1:b64^S*V<b64^S*b64^S:=cO z hQ
   rw [bD];omega)
  have y:=Heap.le_trans lg l4
  refine ⟨_,_,_,rfl,w4.call (C3i S (aZ _) M4 (hV.mono y) k4 hvc (by omega) hS2 hS0 hVt q ?_)⟩
  intro A5 n5 c5 A6 n6 c6 g6 l6 k5 k6 M5 M6 h6 O
  have al:n5<=S:=M5.len_le (by decide) (bJ o q)
  refine ⟨_,_,_,_,_,_,rfl,⟨by omega,by omega⟩,?_⟩
  rw [aC]
  have ac:aE (e+S) (0:Int)++d=aE e 0++(aE S 0++d):=by rw [<- aU,dX]
  rw [ac] at O
  have am:(aE e (0:Int)++(aE S 0++d)).length=dn+S:=by simp only [aH,cP];omega
  have w7:=O.sub (l:=e) (m:=dn+S) (c:=dn+S) (by omega) (by omega) (by omega)
  have e7:((aE e (0:Int)++(aE S 0++d)).drop e).take (dn+S-e)=aE S 0++d:=by
   rw [eI (by simp),aK (by simp only [aH,cP];omega)]
  rw [e7] at w7
  obtain ⟨u,J,X,ad,an,C⟩:=M5
  refine Gt Q1 w7 (by simp only [aH,cP];omega) (X.mono O.le) J (by simp only [aH,cP];omega) ?_
  intro h8 w8
  rw [eC (by simp;omega),bF,<- aU u] at w8
  have f:(u++aE (S-u.length) (0:Int)).length=S:=by simp;omega
  have w9:=O.whole (l:=e) (m:=dn+S) (by omega) (by omega) (by rw [aH,f];omega) w8
  rw [dB (by simp),aY (show (aE e (0:Int)++(aE S 0++d)).length<=dn+S by omega),bX] at w9
  have e8:B4 ((e:Int)-(S:Int))=((i:Nat):Int)*S-S:=by
   rw [B7 (by omega) (by omega),he,cD]
  have aq:=aO (r*b64^S+D1%b64^S) V
  have F:=aT (r*b64^S+D1%b64^S) (b:=V) (by omega)
  have M:=aP (r*b64^S+D1%b64^S) o
  have aa:=aO (D1/b64^S) V
  rw [<- t,<- k] at aa
  obtain ⟨f1,f2⟩:=A1p (x:=D1) (a:=(r*b64^S+D1%b64^S)%V) (b:=val b64 u+b64^S*val b64 d) (p:=V) (by
   rw [C]
   generalize (r*b64^S+D1%b64^S)%V=r2 at *
   generalize hq2:(r*b64^S+D1%b64^S)/V=q2 at *
   generalize D1%b64^S=bl at *
   generalize D1/b64^S=D2 at *
   generalize b64^S=Q at *
   generalize val b64 d=W at *
   grind) F M
  refine ⟨_,rfl,?_⟩
  rw [e8]
  refine ⟨⟨i,_,_,_,(u++aE (S-u.length) 0)++d,_,g6,rfl,Heap.le_trans y l6,?_,?_,?_,M6,k6,?_,?_⟩,?_⟩
  ·rw [aH,f];omega
  ·exact (ad.append (I0 (by decide) _)).append L
  ·rw [<- he];exact w9
  ·rw [<- he,hD1,f2]
  ·rw [<- he,hD1,f1,G0,f,Cz]
  ·simp only [iAt,aL,aG]
   rw [<- cD,<- he]
   omega
 ·obtain rfl:j=0:=by
   rcases j with _|j
   ·rfl
   ·rw [<- cD,eZ,eV] at G
    omega
  rw [gV,List.replicate_zero,cT] at w
  rw [gV,hO,Int.ediv_one] at t k
  rw [gV,fG] at s
  have ag:0<b:=by
   by_cases hc:0<b
   ·exact hc
   ·have:=aD (show b<=0 by omega) (aQ R);omega
  obtain ⟨f1,f2⟩:=A1p (x:=D) (a:=(a%b)*2^sh) (b:=a/b) (p:=V) (by
   have:=aO a b
   rw [hDa,hVb]
   conv=>rhs;rw [<- this]
   grind) (aS (aT _ (by omega)) (by omega)) (by rw [hVb];exact bM (aP _ ag) R)
  refine Bi w.sl L s.symm k (by omega) (by omega) ?_
  intro m2 k2 M2
  refine ⟨_,_,_,rfl,?_⟩
  refine Gy (Mr.mono w.le) (by have:=Mr.len_le (j:=S) (by decide) (by have:=aP D o;omega);omega) (by omega) ?_
  intro A3 n3 c3 T l3 k3 M3
  rw [t,f2,fX _ (by omega)] at M3
  rw [f1] at M2
  exact ⟨_,_,_,rfl,hK _ _ _ _ _ _ _ (Heap.le_trans lg (Heap.le_trans w.le l3)) k2 k3 (M2.mono l3) M3⟩
set_option maxHeartbeats 1000000 in
def Rb{x y:Int}{an bn:Nat}(ma:Mw h A an x)(mb:Mw h B bn y)(ha:an<=ac)(hbc:bn<=bc)(hl:an<=800000000)(hl2:bn<=100000000)(ha0:0<an)(hb0:0<bn)
 (hK:∀ A1 m1 c1 A2 m2 c2 h',h.le h'->m1<=c1->m2<=c2->Mw h' A1 m1 (x/y)->Mw h' A2 m2 (x%y)->K (.tuple #[.slice A1 m1 c1,.slice A2 m2 c2]) h'):aW prog Cs #[.slice A an ac,.slice B bn bc] h K:=by
 have ai:=ma.nonneg (by decide)
 have ae:=ma.len_zero (by decide)
 have r:=ma.lt (by decide)
 refine Ta _ _ _ _ _ _ ?_
 unfold Pf Jb
 refine ⟨fun l hp=>hp=h/\∃ p:Nat,l=[I p]/\0<p/\p<=bn,fun l _=>bn-(iAt l 0).toNat,⟨rfl,1,rfl,by omega,by omega⟩,?_⟩
 rintro u hp ⟨rfl,p,N,o,af⟩
 obtain rfl:=sI1 N
 have Z:B4 (cM (B4 (B4 ((bn:Int)+(p:Int))-1)) (p:Int))=(((bn+p-1)/p:Nat):Int):=by
  rw [B7 (n:=(bn:Int)+p) (by omega) (by omega),B7 (n:=(bn:Int)+p-1) (by omega) (by omega),show (bn:Int)+p-1=((bn+p-1:Nat):Int) by omega,<- cL]
  have:(bn+p-1)/p<=bn+p-1:=eF _ _
  generalize (bn+p-1)/p=q at *
  rw [B7 (by omega) (by omega)]
 refine B6 (fun d=>by omega) (fun _=>?_)
 obtain ⟨S,hS⟩:∃ S,S=(bn+p-1)/p*p:=⟨_,rfl⟩
 have aa:bn<=S/\S<=bn+p-1:=by
  have d:=eG (bn+p-1) p
  have E:=eM (bn+p-1) o
  rw [fH,<- hS] at d
  omega
 have T:B4 ((B4 (cM (B4 (B4 ((bn:Int)+(p:Int))-1)) (p:Int)))*(p:Int))=(S:Int):=by
  rw [Z,<- cD,<- hS,B7 (by omega) (by omega)]
 refine B6 (fun d=>?_) (fun d=>?_)
 ·rw [Z] at d
  have E:80<=(bn+p-1)/p:=by omega
  rw [Nat.le_div_iff_mul_le o] at E
  have F:B4 ((p:Int)*2)=((p*2:Nat):Int):=by rw [B7 (by omega) (by omega)];omega
  rw [F]
  exact ⟨⟨rfl,_,rfl,by omega,by omega⟩,by simp only [iAt,aG];omega⟩
 ·refine B6 (fun d=>by omega) (fun _=>?_)
  obtain ⟨k,hk⟩:∃ k,bn=k+1:=⟨bn-1,by omega⟩
  have M:=mb
  obtain ⟨a,z,sy,W,ny,rfl⟩:=mb
  have c:a.length=k+1:=by omega
  have gt:=N9 W k
  have H:=A2t c ny
  have F:B4 ((bn:Int)-1)=(k:Int):=by rw [B7 (by omega) (by omega)];omega
  rw [F]
  subst z
  refine sy.load rfl (by omega) (by omega) ?_
  rw [aC]
  obtain ⟨t,ht⟩:∃ t:Nat,a.getD k 0=t:=⟨(a.getD k 0).toNat,by omega⟩
  rw [ht] at gt H ⊢
  refine R5 (by omega) ⟨_,rfl,?_⟩
  obtain ⟨s,hs⟩:∃ s,s=64-O0 t:=⟨_,rfl⟩
  rw [<- hs]
  obtain ⟨X,L,R⟩:=Yq W c ht (by omega) hs
  simp only [T]
  obtain ⟨sh,hsh⟩:∃ sh,sh=64*(S-a.length)+s:=⟨_,rfl⟩
  have e4:C0 (B4 (B4 (64*B4 ((S:Int)-(a.length:Int)))+(s:Int)))=(sh:Int):=by
   rw [B7 (n:=(S:Int)-(a.length:Int)) (by omega) (by omega),B7 (n:=64*((S:Int)-(a.length:Int))) (by omega) (by omega),B7 (by omega) (by omega),C2 (by omega) (by omega)]
   omega
  simp only [e4]
  have f:(2:Int)^sh=2^s*b64^(S-a.length):=by rw [hsh,bD,Ky,aR]
  have g:=D5 (B:=b64) (by decide) (S-a.length)
  have ag:0<(2:Int)^s:=bL (by decide)
  have i:0<(2:Int)^sh:=bL (by decide)
  have ad:val b64 a*2^sh=val b64 a*2^s*b64^(S-a.length):=by rw [f,cX]
  have C:val b64 a*2^sh<b64^S:=by
   have w:val b64 a*2^s*b64^(S-a.length)<b64^(k+1)*b64^(S-a.length):=bM L g
   rw [<- bD,show k+1+(S-a.length)=S by omega] at w
   omega
  have Q:9223372036854775808*b64^(S-1)<=val b64 a*2^sh:=by
   have w:9223372036854775808*b64^k*b64^(S-a.length)<=val b64 a*2^s*b64^(S-a.length):=aD R (aQ g)
   rw [cX,<- bD,show k+(S-a.length)=S-1 by omega] at w
   omega
  refine U1 M hbc (by omega) (by omega) ?_
  intro A1 b c1 d l1 k1 M1
  refine ⟨_,_,_,rfl,?_⟩
  have O:b=S:=by
   have q1:=M1.len_le (by decide) C
   have q2:=M1.lt (by decide)
   by_cases hc:b=S
   ·exact hc
   ·have:=C8 (B:=b64) (by decide) (show b<=S-1 by omega)
    have:=D5 (B:=b64) (by decide) (S-1)
    omega
  subst O
  refine U1 (ma.mono l1) ha (by omega) (by omega) ?_
  intro A2 j c2 E l2 k2 M2
  refine ⟨_,_,_,rfl,?_⟩
  have ah:j<=an+(1+(b-a.length)):=M2.len_le (by decide) (by
   have w:x*2^sh<b64^an*2^sh:=bM r i
   have t2:(2:Int)^sh<=b64^(1+(b-a.length)):=by
    rw [f,bD]
    apply aD _ (aQ g)
    have:=C8 (B:=2) (by decide) (show s<=64 by omega)
    have e:(2:Int)^64=18446744073709551616:=by decide
    show (2:Int)^s<=b64^1
    rw [bG,hO]
    show (2:Int)^s<=1*18446744073709551616
    omega
   have t3:b64^an*2^sh<=b64^an*b64^(1+(b-a.length)):=aJ t2 (aQ (D5 (by decide) an))
   rw [bD b64 an]
   omega)
  have m:0<j:=by
   rcases Nat.eq_zero_or_pos j with G|G
   ·have:=(M2.len_zero (by decide)).2 G
    rcases Int.mul_eq_zero.1 this with h3|h3<;>omega
   ·exact G
  have e5:B4 ((j:Int)+(b:Int))=((j+b:Nat):Int):=by rw [B7 (by omega) (by omega)];omega
  rw [e5]
  refine J7 Q1 (by omega) (by omega) (by omega) ?_
  intro bq J
  rw [aC]
  refine ⟨_,_,_,rfl,?_⟩
  refine B6 (fun d=>by omega) (fun _=>?_)
  refine A73 (D:=x*2^sh) (V:=val b64 a*2^sh) (sh:=sh) (S:=b) T e4 (by omega) (by omega) (by omega) J M2 k2 m (by omega) (M1.mono l2) k1 Q rfl rfl ?_
  intro A3 n3 c3 A4 n4 c4 h4 l4 k3 k4 M3 M4
  exact hK _ _ _ _ _ _ _ (Heap.le_trans l1 (Heap.le_trans l2 l4)) k3 k4 M3 M4
def S7{x y:Int}{an bn:Nat}(ma:Mw h A an x)(mb:Mw h B bn y)(ha:an<=ac)(hbc:bn<=bc)(hy:y≠0)(hl:an<=800000000)(hl2:bn<=100000000)
 (hK:∀ A1 m1 c1 A2 m2 c2 h',h.le h'->m1<=c1->m2<=c2->Mw h' A1 m1 (x/y)->Mw h' A2 m2 (x%y)->K (.tuple #[.slice A1 m1 c1,.slice A2 m2 c2]) h'):aW prog P6 #[.slice A an ac,.slice B bn bc] h K:=by
 refine Wk _ _ _ _ _ _ ?_
 unfold Sh
 have a:aW prog J2 #[.slice A an ac,.slice B bn bc] h (fun r d=>∃ (t22aA:Option bI) (t22an:Nat) (t22ac:Nat) (t22bA:Option bI) (t22bn:Nat) (t22bc:Nat),r= .tuple #[.slice t22aA t22an t22ac,.slice t22bA t22bn t22bc]/\K (.tuple #[.slice t22aA t22an t22ac,.slice t22bA t22bn t22bc]) d):=by
  refine Ev ma mb ha hbc hy (by omega) (by omega) ?_
  intro A1 m1 c1 A2 m2 c2 h' l b c M1 M2
  exact ⟨_,_,_,_,_,_,rfl,hK _ _ _ _ _ _ _ l b c M1 M2⟩
 refine B6 (fun f=>B6 (fun e=>?_) (fun _=>a)) (fun _=>a)
 rw [B7 (by omega) (by omega)] at e
 refine Rb ma mb ha hbc hl hl2 (by omega) (by omega) ?_
 intro A1 m1 c1 A2 m2 c2 h' l b c M1 M2
 exact ⟨_,_,_,_,_,_,rfl,hK _ _ _ _ _ _ _ l b c M1 M2⟩
end
def TZ(x k:Nat):Prop:=∃ m,x=2^k*(2*m+1)
def TZ.ex:∀ {x:Nat},x≠0->∃ k,TZ x k:=by
 intro x
 induction x using Nat.strongRecOn with
 | _ x ih=>
  intro h
  rcases Nat.mod_two_eq_zero_or_one x with b|b
  ·obtain ⟨k,m,a⟩:=ih (x/2) (by omega) (by omega)
   refine ⟨k+1,m,?_⟩
   rw [dT,fH (2^k),fA,<- a];omega
  ·exact ⟨0,x/2,by omega⟩
def TZ.lt{x k n:Nat}(h:TZ x k)(hx:x<2^n):k<n:=by
 obtain ⟨m,rfl⟩:=h
 have b:2^k*1<=2^k*(2*m+1):=fV _ (by omega)
 exact (gO (a:=2) (by decide)).1 (by omega)
def B2z{a u v:Nat}:(2^a*u) ||| (2^a*v)=2^a*(u ||| v):=by
 apply Nat.eq_of_testBit_eq
 intro i
 simp only [Nat.testBit_or,gR,Bool.and_or_distrib_left]
def B95{u v:Nat}(h:u%2=1\/v%2=1):(u ||| v)%2=1:=by simpa using h
def TZ.or'{x y a b:Nat}(hx:TZ x a)(hy:TZ y b)(hab:a<=b):TZ (x ||| y) a/\TZ (y ||| x) a:=by
 obtain ⟨m,rfl⟩:=hx
 obtain ⟨n,rfl⟩:=hy
 obtain ⟨d,rfl⟩:∃ d,b=a+d:=⟨b-a,by omega⟩
 rw [eB,fA,B2z,B2z]
 have e:=B95 (u:=2*m+1) (v:=2^d*(2*n+1)) (.inl (by omega))
 have c:=B95 (u:=2^d*(2*n+1)) (v:=2*m+1) (.inr (by omega))
 exact ⟨⟨_/2,by rw [<- eG (_ ||| _) 2,e]⟩,⟨_/2,by rw [<- eG (_ ||| _) 2,c]⟩⟩
def TZ.or{x y a b:Nat}(hx:TZ x a)(hy:TZ y b):TZ (x ||| y) (min a b):=by
 by_cases h:a<=b
 ·rw [aI h];exact (hx.or' hy h).1
 ·rw [fC (by omega)];exact (hy.or' hx (by omega)).2
def TZ.bit{x k:Nat}(h:TZ x k)(hx:x<2^64):x &&& (2^64-x)=2^k:=by
 obtain ⟨m,rfl⟩:=h
 have g:0<2^k:=cW (by decide)
 have c:2^k*(2*m+1)=2^k*(2*m)+(2^k-1)+1:=by rw [gI,cF];omega
 apply Nat.eq_of_testBit_eq
 intro i
 rw [Nat.testBit_and]
 have f:(2^64-2^k*(2*m+1)).testBit i=(decide (i<64) && !(2^k*(2*m)+(2^k-1)).testBit i):=by
  rw [c];exact Nat.testBit_two_pow_sub_succ (by omega) i
 rw [f,Nat.testBit_two_pow_mul_add _ (by omega),gR,Nat.testBit_two_pow]
 by_cases b:i<k
 ·simp [b,show ¬ i>=k by omega,show ¬ k=i by omega]
 ·by_cases e:i=k
  ·subst e
   have a:i<64:=TZ.lt ⟨m,rfl⟩ hx
   simp [a,Nat.testBit_zero]
  ·obtain ⟨d,hd⟩:∃ d,i-k=d+1:=⟨i-k-1,by omega⟩
   rw [iN b,hd,Nat.testBit_succ,Nat.testBit_succ,show (2*m+1)/2=m by omega,show 2*m/2=m by omega]
   simp only [show ¬ k=i by omega,decide_false]
   cases m.testBit d<;>simp
def A03{o k:Nat}(h:o%2=1):Nat.Coprime (2^k) o:=Nat.Coprime.pow_left k (by unfold Nat.Coprime;rw [Nat.gcd_rec,h];rfl)
def C1b{x y a b m:Nat}(hx:x=2^a*(2*m+1))(hy:TZ y b):eA x y=2^(min a b)*eA (2*m+1) y:=by
 obtain ⟨n,rfl⟩:=hy
 subst hx
 have c:eA (2*m+1) (2^b*(2*n+1))=eA (2*m+1) (2*n+1):=dJ (2*n+1) (A03 (by omega))
 rw [c]
 by_cases h:a<=b
 ·obtain ⟨d,rfl⟩:∃ d,b=a+d:=⟨b-a,by omega⟩
  rw [aI h,eB,fA,Nat.gcd_mul_left,dJ _ (A03 (by omega))]
 ·obtain ⟨d,rfl⟩:∃ d,a=b+d:=⟨a-b,by omega⟩
  rw [fC (by omega),eB,fA,Nat.gcd_mul_left,Nat.Coprime.gcd_mul_left_cancel _ (A03 (by omega))]
def A2p(k:Nat):Nat:=(2^k*285870213051353865%18446744073709551616)/2^58
def Gtz(h:bC):Prop:=∀ k,k<64->h.cell? (eE ⟨0,0,none⟩ (A2p k*1))=some (Y k)
def Gtz.mono{h h':bC}(g:Gtz h)(l:h.le h'):Gtz h':=fun k a=>B5 l (g k a)
section
variable {h g:bC} {K:VP} {A B:Option bI} {ac bc:Nat}
def Kv{x k:Nat}(gl:Gtz h)(tz:TZ x k)(hx:x<18446744073709551616)(hK:K (I k) h):aW prog L8 #[U x] h K:=by
 have a:=tz.lt (n:=64) hx
 have d:x≠0:=by
  obtain ⟨m,rfl⟩:=tz
  have:0<2^k:=cW (by decide)
  have:=Nat.mul_pos this (show 0<2*m+1 by omega)
  omega
 refine Mh _ ?_
 unfold Hi
 refine D8 (fun e=>by omega) (fun _=>?_)
 have b:C0 (0-(x:Int))=((2^64-x:Nat):Int):=by
  rw [E4];omega
 have f:Re .u64 (x:Int) ((2^64-x:Nat):Int)=((2^k:Nat):Int):=by
  rw [B4k (by omega) (by omega),aC,aC,tz.bit hx]
 have c:eD (C0 (((2^k:Nat):Int)*285870213051353865)) (2^(min ((58:Int)).toNat 64))=((A2p k:Nat):Int):=by
  show eD _ (2^(min 58 64))=_
  rw [B71 (by decide),E4]
  unfold A2p
  rw [dZ,gH,cD]
  rfl
 rw [b,f,c,aC]
 have g:A2p k<64:=by
  unfold A2p
  have:(2^k*285870213051353865)%18446744073709551616<18446744073709551616:=eM _ (by decide)
  exact Nat.div_lt_of_lt_mul (by omega)
 refine ⟨⟨by omega,by omega⟩,_,gl k a,?_⟩
 rw [B7 (by omega) (by omega)]
 exact hK
def A42{x y:Nat}(gl:Gtz h)(hx:x<18446744073709551616)(hy:y<18446744073709551616)(hK:K (U (eA x y:Nat)) h):aW prog Ql #[U x,U y] h K:=by
 refine A7a _ _ ?_
 unfold A96
 refine D8 (fun e=>?_) (fun e=>?_)
 ·obtain rfl:x=0:=by omega
  rw [A72 (by omega) (by omega)]
  simpa using hK
 refine D8 (fun J=>?_) (fun J=>?_)
 ·obtain rfl:y=0:=by omega
  rw [A72 (by omega) (by omega)]
  simpa using hK
 obtain ⟨a,j⟩:=TZ.ex (x:=x) (by omega)
 obtain ⟨b,p⟩:=TZ.ex (x:=y) (by omega)
 have R:=j.lt (n:=64) hx
 have O:=p.lt (n:=64) hy
 rw [A72 (by omega) (by omega),aC,aC]
 have q:x ||| y<18446744073709551616:=Nat.or_lt_two_pow (n:=64) hx hy
 refine Kv gl (j.or p) q ⟨_,rfl,?_⟩
 refine Kv gl j hx ⟨_,rfl,?_⟩
 refine B6 (fun i=>by omega) (fun _=>?_)
 obtain ⟨m,o⟩:=j
 have D:=C1b o p
 have G:eD (x:Int) (2^(min ((a:Int)).toNat 64))=((2*m+1:Nat):Int):=by
  rw [aC,B71 (by omega),show ((2:Int)^a)=((2^a:Nat):Int) by simp,<- dZ,o,gS _ (cW (by decide))]
 rw [G]
 have w:2*m+1<=x:=by
  rw [o];exact gW _ (cW (by decide))
 refine ⟨fun l M=>M=h/\∃ u v:Nat,l=[U u,U v]/\u%2=1/\u<18446744073709551616/\v<18446744073709551616/\eA u v=eA (2*m+1) y,fun l _=>(iAt l 0+iAt l 1).toNat,⟨rfl,2*m+1,y,rfl,by omega,by omega,hy,rfl⟩,?_⟩
 rintro S Q E ⟨rfl,u,v,z,F,B,g,d⟩
 simp only [bO,cR,and_true,true_and] at z
 obtain ⟨rfl,rfl⟩:=z
 refine I3 (fun i=>?_) (fun i=>?_)
 ·obtain ⟨c,s⟩:=TZ.ex (x:=v) (by omega)
  have N:=s.lt (n:=64) g
  refine Kv gl s g ⟨_,rfl,?_⟩
  refine B6 (fun i=>by omega) (fun _=>?_)
  obtain ⟨n,r⟩:=s
  have C:eD (v:Int) (2^(min ((c:Int)).toNat 64))=((2*n+1:Nat):Int):=by
   rw [aC,B71 (by omega),show ((2:Int)^c)=((2^c:Nat):Int) by simp,<- dZ,r,gS _ (cW (by decide))]
  have t:2*n+1<=v:=by
   rw [r];exact gW _ (cW (by decide))
  have f:eA u (2*n+1)=eA u v:=by
   rw [r,dJ _ (A03 F)]
  rw [C]
  refine B6 (fun A=>?_) (fun A=>?_)
  ·have k:C0 ((u:Int)-((2*n+1:Nat):Int))=((u-(2*n+1):Nat):Int):=by rw [C2 (by omega) (by omega)];omega
   rw [k]
   refine ⟨⟨rfl,_,_,rfl,by omega,by omega,by omega,?_⟩,?_⟩
   ·rw [gX (by omega),gY,f,d]
   ·simp only [iAt,aG,aL];omega
  ·have k:C0 (((2*n+1:Nat):Int)-(u:Int))=((2*n+1-u:Nat):Int):=by rw [C2 (by omega) (by omega)];omega
   rw [k]
   refine ⟨⟨rfl,_,_,rfl,by omega,by omega,by omega,?_⟩,?_⟩
   ·rw [gX (by omega),f,d]
   ·simp only [iAt,aG,aL];omega
 ·refine B6 (fun i=>by omega) (fun _=>?_)
  obtain rfl:v=0:=by omega
  rw [Nat.gcd_zero_right] at d
  rw [aC,aI (show min a b<=64 by omega)]
  have L:(u:Int)*2^(min a b)=((eA x y:Nat):Int):=by
   rw [D,<- d,cD,aR];simp
  have H:eA x y<=x:=Nat.le_of_dvd (by omega) (Nat.gcd_dvd_left x y)
  rw [L,C2 (by omega) (by omega)]
  exact hK
end
def B1x{xs:List Int}(d:Dig b64 xs){k s:Nat}(hl:xs.length<=k+2)(hs:s<=64):val b64 xs/(b64^k*2^(64-s))=xs.getD (k+1) 0*2^s+xs.getD k 0/2^(64-s):=by
 have c:=C4 b64 xs (k+1)
 have g:=C4 b64 xs k
 rw [aK (show xs.length<=k+1+1 by omega)] at c
 have i:=D5 (B:=b64) (by decide) k
 have j:0<(2:Int)^(64-s):=bL (by decide)
 have b:=Z9 (s:=s) hs
 have f:=C6 (by decide) (d.take k)
 have l:=L5 (by decide) (d.take k)
 have m:=C8 (B:=b64) (by decide) (show (xs.take k).length<=k by rw [aF];omega)
 rw [<- fF (aQ i)]
 have e:val b64 xs/b64^k=xs.getD k 0+18446744073709551616*xs.getD (k+1) 0:=by
  refine (A1p (a:=val b64 (xs.take k)) ?_ f (by omega)).1
  rw [c,g,bG]
  show _=val b64 (xs.take k)+_+b64^k*18446744073709551616*_
  grind
 rw [e,<- b,aR (2^s),cX,fS _ _ (by omega),aR (2^s)]
 omega
section
variable {h g:bC} {K:VP} {A B:Option bI} {ac bc:Nat}
def C2b(a b u0 u1 v0 v1:Int)(odd:Bool):Prop:=(0<=u0/\u0<18446744073709551616)/\(0<=u1/\u1<18446744073709551616)/\(0<=v0/\v0<18446744073709551616)/\(0<=v1/\v1<18446744073709551616)/\(v0≠0->Leh a b u0 v0 u1 v1 (Lc a b u0 v0 odd) (Lb a b u1 v1 odd))
def B70{a b F S W t20 t26 t33:Int}(hF:F=bor .u64 (C0 (t26*2^(min (C0 t20).toNat 64))) (eD t33 (2^(min (C0 ((64:Int)-(C0 t20))).toNat 64))))(hW:0<W)(hFa:F=a/W)(hSb:S=b/W)(hb0:0<=b)(hba:b<=a)(hF64:F<18446744073709551616)
 (hK:∀ u0 u1 v0 v1 odd,C2b a b u0 u1 v0 v1 odd->K (.agg #[U u0,U u1,U v0,U v1,.bool odd]) h):Ja prog K t20 t26 t33 S h:=by
 have da:=aO a W
 have db:=aO b W
 have s:=aT a (b:=W) (by omega)
 have t:=aP a hW
 have x:=aT b (b:=W) (by omega)
 have u:=aP b hW
 have r:0<=S:=by rw [hSb];exact bY hb0 (by omega)
 have w:S<=F:=by rw [hSb,hFa];exact Int.ediv_le_ediv hW hba
 unfold Ja
 rw [<- hF]
 refine ⟨fun l B=>B=h/\∃ (first c f d u0 u1 v0 v1:Int) (odd:Bool),l=[U first,U c,U f,U d,U u0,U u1,U v0,U v1,.bool odd]/\LS F S first c u0 v0 u1 v1 f d odd/\C2b a b u0 u1 v0 v1 odd/\f<=F/\d<=(if F=0 then 1 else F),fun l _=>(iAt l 1).toNat,⟨rfl,_,_,_,_,_,_,_,_,_,rfl,LS.init r w,⟨by omega,by omega,by omega,by omega,fun e=>absurd rfl e⟩,by omega,by split<;>omega⟩,?_⟩
 rintro first c f d u0 u1 v0 v1 odd B ⟨rfl,p,j,Q,L,M,N,T,E,y,z,k,q,D,R⟩
 simp only [bO,cR,Value.bool.injEq,and_true,true_and] at z
 obtain ⟨rfl,rfl,rfl,rfl,rfl,rfl,rfl,rfl,rfl⟩:=z
 have A:=k.v2pos
 have m:=k.ord
 have G:=k.hF
 refine B6 (fun h1=>?_) (fun _=>hK _ _ _ _ _ q)
 have i:1<=c:=by omega
 have C:=k.bound2 i
 have J:first<=F:=by
  have t1:1*first<=d*first:=aD (by omega) (by omega)
  have t2:=aS (show 0<=v1 by omega) m.1
  omega
 rw [C2 (n:=first-c) (by omega) (by omega),C2 (n:=v1+d) (by omega) (by omega)]
 refine B6 (fun Z=>?_) (fun _=>hK _ _ _ _ _ q)
 refine B6 (fun e=>by omega) (fun _=>?_)
 refine B6 (fun e=>by omega) (fun _=>?_)
 rw [bW (by omega),bH (by omega)]
 have g:=k.step (by omega) (by omega)
 have O:=g.bound i
 have o:0<=first/c:=bY (by omega) (by omega)
 have V:first/c<=first:=fE _ (by omega)
 have X:=aS o (show 0<=f by omega)
 have H:=aS o (show 0<=d by omega)
 rw [C2 (n:=first/c) (by omega) (by omega),C2 (n:=first/c*f) (by omega) (by omega),C2 (n:=first/c*d) (by omega) (by omega),C2 (n:=u1+first/c*f) (by omega) (by omega),C2 (n:=v1+first/c*d) (by omega) (by omega)]
 refine ⟨⟨rfl,_,_,_,_,_,_,_,_,_,rfl,g,⟨⟨by omega,q.2.1.2⟩,⟨by omega,by omega⟩,⟨by omega,q.2.2.2.1.2⟩,⟨by omega,by omega⟩,fun e=>g.leh e hW (al:=a%W) (bl:=b%W) ?_ ?_ ⟨s,t⟩ ⟨x,u⟩⟩,by omega,by split<;>omega⟩,?_⟩
 ·rw [hFa,aR];omega
 ·rw [hSb,aR];omega
 ·have:=aP first (show 0<c by omega)
  have:=aT first (show c≠0 by omega)
  simp only [iAt,aL,aG];omega
set_option maxHeartbeats 1000000 in
def A0b{a b:Int}{an bn:Nat}(ma:Mw h A an a)(mb:Mw h B bn b)(hba:b<=a)(hb2:2<=bn)(hl:an<=1000000000)
 (hK:∀ u0 u1 v0 v1 odd,C2b a b u0 u1 v0 v1 odd->K (.agg #[U u0,U u1,U v0,U v1,.bool odd]) h):aW prog Ll #[.slice A an ac,.slice B bn bc] h K:=by
 have V:=mb.nonneg (by decide)
 have ae:bn<=an:=mb.len_le (by decide) (dA hba (ma.lt (by decide)))
 obtain ⟨k,rfl⟩:∃ k,an=k+2:=⟨an-2,by omega⟩
 obtain ⟨j,i,S,D,nx,rfl⟩:=ma
 obtain ⟨f,p,Q,N,ny,rfl⟩:=mb
 refine A4p _ _ _ _ _ _ ?_
 unfold A4q
 have e1:B4 (((k+2:Nat):Int)-1)=((k+1:Nat):Int):=by rw [B7 (by omega) (by omega)];omega
 have e2:B4 (((k+2:Nat):Int)-2)=(k:Int):=by rw [B7 (by omega) (by omega)];omega
 simp only [e1,e2]
 have gt:=N9 D (k+1)
 have J:=N9 D k
 have M:=A2t (m:=k+1) i.symm nx
 obtain ⟨t,ht⟩:∃ t:Nat,j.getD (k+1) 0=t:=⟨(j.getD (k+1) 0).toNat,by omega⟩
 rw [i]
 refine S.load rfl (by omega) (by omega) ?_
 rw [aC,ht]
 rw [ht] at gt M
 refine R5 (by omega) ⟨_,rfl,?_⟩
 obtain ⟨s,hs⟩:∃ s,s=64-O0 t:=⟨_,rfl⟩
 rw [<- hs]
 obtain ⟨X,o,af⟩:=Yq D i.symm ht (by omega) hs
 refine S.load rfl (by omega) (by omega) ?_
 simp only [aC,ht]
 have g:C0 (s:Int)=s:=C2 (by omega) (by omega)
 have c:C0 (64-(s:Int))=((64-s:Nat):Int):=by rw [C2 (by omega) (by omega)];omega
 refine B6 (fun e=>by rw [g] at e;omega) (fun _=>?_)
 refine S.load rfl (by omega) (by omega) ?_
 simp only [aC]
 refine B6 (fun e=>by rw [g,c] at e;omega) (fun _=>?_)
 have T:0<(2:Int)^s:=bL (by decide)
 have n:0<(2:Int)^(64-s):=bL (by decide)
 have w:=Z9 (s:=s) (by omega)
 have R:=D5 (B:=b64) (by decide) k
 have W:0<b64^k*2^(64-s):=Int.mul_pos R n
 have x:=B1x D (k:=k) (s:=s) (by omega) (by omega)
 have d:=B1x N (k:=k) (s:=s) (by omega) (by omega)
 have r:val b64 j/(b64^k*2^(64-s))<18446744073709551616:=by
  apply bJ W
  have E:18446744073709551616*(b64^k*2^(64-s))*2^s=18446744073709551616*b64^k*(2^s*2^(64-s)):=by grind
  rw [w] at E
  have L:b64^(k+1+1)=18446744073709551616*b64^k*18446744073709551616:=by
   rw [bG,bG]
   show b64^k*18446744073709551616*18446744073709551616=_
   grind
  rw [L,<- E] at o
  exact Int.lt_of_mul_lt_mul_right o (by omega)
 have ad:val b64 f/(b64^k*2^(64-s))<=val b64 j/(b64^k*2^(64-s)):=Int.ediv_le_ediv W hba
 have q1:∀ z:Int,0<=z/\z<18446744073709551616->0<=z/2^(64-s)/\z/2^(64-s)<2^s:=fun z G=>
  ⟨bY G.1 (by omega),bJ n (by rw [w];exact G.2)⟩
 have y:∀ u z:Int,0<=u->0<=z/\z<18446744073709551616->u*2^s+z/2^(64-s)<18446744073709551616->bor .u64 (C0 (u*2^(min (C0 (s:Int)).toNat 64))) (eD z (2^(min (C0 (64-C0 (s:Int))).toNat 64)))=u*2^s+z/2^(64-s):=by
  intro u z Z G O
  have:=q1 z G
  have:=aS Z (aQ T)
  rw [g,c,aC,aC,B71 (by omega),aI (show s<=64 by omega),C2 (by omega) (by omega),A4h Z (by omega) O]
 have gy:=N9 N (k+1)
 have H:=N9 N k
 rw [ht] at x
 refine ⟨fun l hp=>hp=h/\l=[U (val b64 f/(b64^k*2^(64-s)))],?_,?_⟩
 ·refine D8 (fun e=>?_) (fun e=>?_)
  ·rw [p]
   refine Q.load rfl (by omega) (by omega) ?_
   simp only [aC]
   refine B6 (fun e=>by rw [g] at e;omega) (fun _=>?_)
   refine Q.load rfl (by omega) (by omega) ?_
   simp only [aC]
   refine B6 (fun e=>by rw [g,c] at e;omega) (fun _=>?_)
   rw [y _ _ gy.1 H (by omega),d]
   first|exact ⟨rfl,rfl⟩|exact ⟨trivial,rfl⟩
  ·refine D8 (fun e=>?_) (fun e=>?_)
   ·rw [p]
    refine Q.load rfl (by omega) (by omega) ?_
    simp only [aC]
    refine B6 (fun e=>by rw [g,c] at e;omega) (fun _=>?_)
    have:f.getD (k+1) 0=0:=by simp [cU,cQ (show f.length<=k+1 by omega)]
    rw [this,fI,dL] at d
    rw [g,c,aC,B71 (by omega),d]
    first|exact ⟨rfl,rfl⟩|exact ⟨trivial,rfl⟩
   ·have E:f.getD (k+1) 0=0:=by simp [cU,cQ (show f.length<=k+1 by omega)]
    have L:f.getD k 0=0:=by simp [cU,cQ (show f.length<=k by omega)]
    rw [E,L,fI,dL,Int.zero_ediv] at d
    rw [d]
    exact ⟨rfl,rfl⟩
 ·rintro C aa ⟨rfl,q⟩
  simp only [bO,cR,and_true,true_and] at q
  subst q
  exact B70 (F:=val b64 j/(b64^k*2^(64-s))) (by rw [y _ _ (by omega) J (by omega),x]) W rfl rfl V hba r hK
end
def Win.swap{k k':dY}{h g1 g:bC}{ba bb:Nat}{e e':cC}{A B:Option bI}{pa qa pb qb:List dC}{us bs:List Int}(wa:Win k h g1 ba e A pa us qa)(wb:Win k' g1 g bb e' B pb bs qb):∃ g2,Win k' h g2 bb e' B pb bs qb/\Win k g2 g ba e A pa us qa:=by
 have a:ba≠bb:=by
  rintro rfl
  have:=wa.free
  rw [wb.eq,B9] at this
  cases this
 have b:g ba=none:=by
  have:=wa.free
  rwa [wb.eq,B8 _ _ a] at this
 refine ⟨g.put ba (.cells (pa++us.map (bB k)++qa).toArray e),⟨?_,?_,wb.at_⟩,⟨b,rfl,wa.at_⟩⟩
 ·rw [B8 _ _ a.symm];exact wb.free
 ·rw [wa.eq,wb.eq];exact Heap.put_comm _ _ _ a.symm
def A07{z y c:Int}(hz:0<=z/\z<18446744073709551616)(hy:0<=y/\y<18446744073709551616)(hc:0<=c/\c<=1):(z-y-c)%18446744073709551616=z-y-c+18446744073709551616*(if z-y-c<0 then 1 else 0):=by
 split<;>omega
def A3t(z:Int):z%18446744073709551616=z-18446744073709551616*(z/18446744073709551616):=by omega
def Nu{x y c:Int}(hx:0<=x/\x<18446744073709551616)(hy:0<=y/\y<18446744073709551616)(hc:0<=c/\c<18446744073709551616):0<=(x*y+c)/18446744073709551616/\(x*y+c)/18446744073709551616<18446744073709551616:=by
 have a:=aS hx.1 hy.1
 have b:x*y<=18446744073709551615*y:=aD (by omega) hy.1
 omega
def pin{v w B m:Int}(h:v=w+B*m)(hv:0<=v/\v<B)(hw:0<=w/\w<B):v=w:=by
 have a:0<B:=by omega
 by_cases b:m <= -1
 ·have:=aJ b (aQ a);omega
 ·by_cases c:1<=m
  ·have:=aJ c (aQ a);omega
  ·obtain rfl:m=0:=by omega
   omega
section
variable {h g g1:bC} {K:VP} {A B:Option bI} {ac bc an bn ba bb:Nat} {e:cC} {qa qb:List dC}
set_option maxHeartbeats 1000000 in
def B0l{us bs:List Int}{u0 u1 v0 v1:Int}{odd:Bool}(wa:Win .u64 h g1 ba e A [] us qa)(wb:Win .u64 g1 g bb e B [] bs qb)(ha:an=us.length)(hb:bn=bs.length)(hab:us.length=bs.length)(da:Dig b64 us)(db:Dig b64 bs)(hl:us.length<=1000000000)(hu0:0<=u0/\u0<18446744073709551616)(hu1:0<=u1/\u1<18446744073709551616)(hv0:0<=v0/\v0<18446744073709551616)(hv1:0<=v1/\v1<18446744073709551616)
 (hX0:0<=Lc (val b64 us) (val b64 bs) u0 v0 odd/\Lc (val b64 us) (val b64 bs) u0 v0 odd<b64^us.length) (hX1:0<=Lb (val b64 us) (val b64 bs) u1 v1 odd/\Lb (val b64 us) (val b64 bs) u1 v1 odd<b64^us.length)
 (hK:∀ us' bs' h' g1',us'.length=us.length->bs'.length=us.length->Dig b64 us'->Dig b64 bs'->val b64 us'=Lc (val b64 us) (val b64 bs) u0 v0 odd->val b64 bs'=Lb (val b64 us) (val b64 bs) u1 v1 odd->Win .u64 h' g1' ba e A [] us' qa->Win .u64 g1' g bb e B [] bs' qb->K (.tuple #[]) h'):
 aW prog A14 #[.agg #[U u0,U u1,U v0,U v1,.bool odd],.slice A an ac,.slice B bn bc] h K:=by
 subst ha hb
 refine B50 _ _ _ _ _ _ _ _ _ _ _ ?_
 unfold B9p
 refine ⟨fun l hp=>∃ (k:Nat) (f c d b Q S:Int) (D n:List Int) (g1:bC),l=[U f,U c,U d,U b,U Q,U S,I k]/\k<=us.length/\D.length=us.length/\n.length=us.length/\Dig b64 D/\Dig b64 n/\(0<=f/\f<18446744073709551616)/\(0<=c/\c<18446744073709551616)/\(0<=d/\d<18446744073709551616)/\(0<=b/\b<18446744073709551616)/\(0<=Q/\Q<=1)/\(0<=S/\S<=1)/\Win .u64 hp g1 ba e A [] D qa/\Win .u64 g1 g bb e B [] n qb/\D.drop k=us.drop k/\n.drop k=bs.drop k/\
  val b64 (D.take k)=Lc (val b64 (us.take k)) (val b64 (bs.take k)) u0 v0 odd+b64^k*((if odd then c-f else f-c)+Q)/\val b64 (n.take k)=Lb (val b64 (us.take k)) (val b64 (bs.take k)) u1 v1 odd+b64^k*((if odd then b-d else d-b)+S),fun l _=>us.length-(iAt l 6).toNat,⟨0,0,0,0,0,0,0,us,bs,g1,rfl,by omega,rfl,hab.symm,da,db,by omega,by omega,by omega,by omega,by omega,by omega,wa,wb,rfl,rfl,by simp [val,Lc],by simp [val,Lb]⟩,?_⟩
 rintro f c d b Q S i hp ⟨k,ai,ag,af,aj,ah,ae,D,n,g1,V,hk,a,u,O,N,hP,hQ,hR,hT,z,o,M,R,H,J,j,w⟩
 simp only [bO,cR,and_true,true_and] at V
 obtain ⟨rfl,rfl,rfl,rfl,rfl,rfl,rfl⟩:=V
 refine B6 (fun h1=>?_) (fun h1=>?_)
 ·have Z:=N9 O k
  have gy:=N9 N k
  have C:=E5 H
  have m:=E5 J
  have vx:=C4 b64 us k
  have vy:=C4 b64 bs k
  obtain ⟨g2,aa,ad⟩:=M.swap R
  refine M.sl.load a.symm (by omega) (by omega) ?_
  refine aa.sl.load (by omega) (by omega) (by omega) ?_
  simp only [aC]
  obtain ⟨aA,hA,_⟩:=SlV.at M.sl (i:=k) (by simp;omega)
  obtain ⟨aB,W,_⟩:=SlV.at R.sl (i:=k) (by simp;omega)
  generalize hx0:D.getD k 0=x at *
  generalize hy0:n.getD k 0=y at *
  refine S3 Z hu0 hP ⟨_,_,rfl,?_⟩
  refine S3 gy hv0 hQ ⟨_,_,rfl,?_⟩
  refine S3 gy hv1 hR ⟨_,_,rfl,?_⟩
  refine S3 Z hu1 hT ⟨_,_,rfl,?_⟩
  have bP:=Nu Z hu0 hP
  have bQ:=Nu gy hv0 hQ
  have bR:=Nu gy hv1 hR
  have bT:=Nu Z hu1 hT
  have mP:=En (x*u0+f)
  have X:=En (y*v0+c)
  have mR:=En (y*v1+d)
  have mT:=En (x*u1+b)
  have kP:=A3t (x*u0+f)
  have kQ:=A3t (y*v0+c)
  have kR:=A3t (y*v1+d)
  have kT:=A3t (x*u1+b)
  have ek:B4 ((k:Int)+1)=((k+1:Nat):Int):=by rw [B7 (by omega) (by omega)];omega
  rw [ek]
  generalize (x*u0+f)/18446744073709551616=cP2 at *
  generalize (y*v0+c)/18446744073709551616=cQ2 at *
  generalize (y*v1+d)/18446744073709551616=cR2 at *
  generalize (x*u1+b)/18446744073709551616=cT2 at *
  generalize (x*u0+f)%18446744073709551616=p at *
  generalize (y*v0+c)%18446744073709551616=q at *
  generalize (y*v1+d)%18446744073709551616=r at *
  generalize (x*u1+b)%18446744073709551616=t at *
  have s:b64^(k+1)=b64^k*18446744073709551616:=bG _ _
  cases odd with
  | true=>
   refine Br.of (fun _=>?_) (fun e=>by cases e)
   refine Fo mP X z ⟨_,_,rfl,aA,hA,by omega,by omega,M.storeN F4 hA (by omega) ?_⟩
   intro h2 w2
   refine Fo mR mT o ⟨_,_,rfl,aB,W,by omega,by omega,?_⟩
   obtain ⟨g3,E,F⟩:=w2.swap R
   refine E.storeN F4 W (by omega) ?_
   intro h4 w4
   obtain ⟨g5,G,L⟩:=w4.swap F
   refine ⟨⟨k+1,_,_,_,_,_,_,_,_,g5,rfl,by omega,by simpa using a,by simpa using u,O.set (En _),N.set (En _),bP,bQ,bR,bT,by split<;>omega,by split<;>omega,G,L,?_,?_,?_,?_⟩,by simp only [iAt,aG,aL];omega⟩
   ·rw [D3 (by omega)];exact D6 H
   ·rw [D3 (by omega)];exact D6 J
   ·rw [C7 (by omega),F0,aF,aI (by omega),s,vx,vy,<- C,<- m,j,A07 mP X z]
    simp only [Lc,if_true]
    grind
   ·rw [C7 (by omega),F0,aF,aI (by omega),s,vx,vy,<- C,<- m,w,A07 mR mT o]
    simp only [Lb,if_true]
    grind
  | false=>
   refine Br.of (fun e=>by cases e) (fun _=>?_)
   refine Fo X mP z ⟨_,_,rfl,aA,hA,by omega,by omega,M.storeN F4 hA (by omega) ?_⟩
   intro h2 w2
   refine Fo mT mR o ⟨_,_,rfl,aB,W,by omega,by omega,?_⟩
   obtain ⟨g3,E,F⟩:=w2.swap R
   refine E.storeN F4 W (by omega) ?_
   intro h4 w4
   obtain ⟨g5,G,L⟩:=w4.swap F
   refine ⟨⟨k+1,_,_,_,_,_,_,_,_,g5,rfl,by omega,by simpa using a,by simpa using u,O.set (En _),N.set (En _),bP,bQ,bR,bT,by split<;>omega,by split<;>omega,G,L,?_,?_,?_,?_⟩,by simp only [iAt,aG,aL];omega⟩
   ·rw [D3 (by omega)];exact D6 H
   ·rw [D3 (by omega)];exact D6 J
   ·rw [C7 (by omega),F0,aF,aI (by omega),s,vx,vy,<- C,<- m,j,A07 X mP z]
    simp only [Lc,eS,if_false]
    grind
   ·rw [C7 (by omega),F0,aF,aI (by omega),s,vx,vy,<- C,<- m,w,A07 mT mR o]
    simp only [Lb,eS,if_false]
    grind
 ·obtain rfl:k=us.length:=by omega
  rw [aK (show D.length<=us.length by omega),aV,aK (show bs.length<=us.length by omega)] at j
  rw [aK (show n.length<=us.length by omega),aV,aK (show bs.length<=us.length by omega)] at w
  have bx:=L5 (by decide) O
  have T:=L5 (by decide) N
  rw [a] at bx
  rw [u] at T
  exact hK D n hp g1 a u O N (pin j ⟨C6 (by decide) O,bx⟩ hX0) (pin w ⟨C6 (by decide) N,T⟩ hX1) M R
end
def Win.priv{k:dY}{h g:bC}{b m c:Nat}{e:cC}{A:Option bI}{xs:List Int}{post:List dC}(w:Win k h g b e A [] xs post)(hx:xs≠[])(hc:c=xs.length+post.length)(hm:m<=xs.length):eU h g e 1 A m c ((xs.take m).map (bB k)):=by
 refine ⟨by simp;omega,by omega,.inr ⟨b,xs.map (bB k)++post,?_,w.free,?_,by simp;omega,?_⟩⟩
 ·rcases w.at_ with a|a
  ·exact absurd a hx
  ·simpa using a
 ·have:=w.eq
  rwa [cT] at this
 ·rw [cF,cJ (by simp;omega),List.map_take]
def Fg{k:dY}{h g:bC}{n c:Nat}{e:cC}{A:Option bI}{xs:List Int}(p:eU h g e 1 A n c (xs.map (bB k)))(hx:xs≠[]):∃ b post,Win k h g b e A [] xs post/\c=xs.length+post.length:=by
 obtain ⟨l,o,f⟩:=p
 rw [fO] at l
 rcases f with ⟨m,rfl⟩|⟨b,a,i,d,rfl,q,j⟩
 ·exact absurd (aM (by omega)) hx
 ·refine ⟨b,a.drop (n*1),⟨d,?_,.inr i⟩,?_⟩
  ·rw [cT,<- j,cI]
  ·rw [aN];omega
def Priv.swap{h g1 g:bC}{e e':cC}{s s' n c m d:Nat}{A B:Option bI}{xs ys:List dC}(pa:eU h g1 e s A n c xs)(pb:eU g1 g e' s' B m d ys):∃ g2,eU h g2 e' s' B m d ys/\eU g2 g e s A n c xs:=by
 obtain ⟨k,p,z⟩:=pa
 obtain ⟨l,o,u⟩:=pb
 rcases z with ⟨y,rfl⟩|⟨i,b,t,a,rfl,r⟩
 ·exact ⟨g,⟨l,o,u⟩,⟨k,p,.inl ⟨y,rfl⟩⟩⟩
 ·rcases u with ⟨D,rfl⟩|⟨w,q,x,j,rfl,C⟩
  ·exact ⟨_,⟨l,o,.inl ⟨D,rfl⟩⟩,⟨k,p,.inr ⟨i,b,t,a,rfl,r⟩⟩⟩
  ·have f:i≠w:=by
    rintro rfl
    rw [B9] at a;cases a
   rw [B8 _ _ f] at a
   refine ⟨g.put i (.cells b.toArray e),⟨l,o,.inr ⟨w,q,x,?_,Heap.put_comm _ _ _ f.symm,C⟩⟩,⟨k,p,.inr ⟨i,b,t,a,rfl,r⟩⟩⟩
   rw [B8 _ _ f.symm];exact j
abbrev Pw(h g:bC)(A:Option bI)(n c:Nat)(us:List Int):Prop:=eU h g C1 1 A n c (us.map (bB .u64))
def GI(h:bC)(G:Nat)(hp:bC)(A:Option bI)(n c:Nat)(B:Option bI)(m d:Nat):Prop:=∃ (us vs:List Int) (g1 g:bC),h.le g/\Pw hp g1 A n c us/\Pw g1 g B m d vs/\Dig b64 us/\Dig b64 vs/\fU us/\fU vs/\n=us.length/\m=vs.length/\val b64 vs<=val b64 us/\gD (val b64 us) (val b64 vs)=G/\us.length<=100000000
def B3h{a b:Int}(ha:0<=a)(hb:0<=b):gD b (a%b)=gD a b:=by
 obtain ⟨x,rfl⟩:=dS ha
 obtain ⟨y,rfl⟩:=dS hb
 rw [<- gH,dR,dR,gY x,gY y,<- Nat.gcd_rec]
section
variable {h g:bC} {K:VP} {A B:Option bI} {ac bc:Nat}
set_option maxHeartbeats 1000000 in
def B7d{G an bn:Nat}{hp:bC}(gl:Gtz h)(gi:GI h G hp A an ac B bn bc)(hK:∀ A' m c' h',h.le h'->m<=c'->Mw h' A' m (G:Int)->K (.slice A' m c') h'):Lw prog K A an ac B bn bc hp:=by
 unfold Lw
 refine ⟨fun l hp=>∃ (A B:Option bI) (n c m d:Nat),l=[.slice A n c,.slice B m d]/\GI h G hp A n c B m d,fun l hp=>match l with|[_,.slice B n _]=>B37 b64 hp B n|_=>0,⟨_,_,_,_,_,_,rfl,gi⟩,?_⟩
 rintro A1 T c1 B1 m1 d1 hp ⟨A,B,n,c,m,d,hl,q,o,g1,g,lg,C,W,du,dv,nu,nv,hn,V,M,a,bj⟩
 simp only [bO,cV,and_true] at hl
 obtain ⟨⟨rfl,rfl,rfl⟩,rfl,rfl,rfl⟩:=hl
 have Ma:Mw hp A1 T (val b64 q):=⟨q,hn,C.slV,du,nu,rfl⟩
 have Mb:Mw hp B1 m1 (val b64 o):=⟨o,V,SlV.mono C.le W.slV,dv,nv,rfl⟩
 have Z:=C.2.1
 have a8:=W.2.1
 have F:=C6 (by decide) du
 have a0:=C6 (by decide) dv
 have a1:m1<=T:=Mb.len_le (by decide) (dA M (Ma.lt (by decide)))
 have D:h.le hp:=Heap.le_trans lg (Heap.le_trans W.le C.le)
 have a5:=Mb.len_zero (by decide)
 refine B6 (fun h1=>?_) (fun h1=>?_)
 ·refine A0b Ma Mb M (by omega) (by omega) ?_
  intro u0 u1 v0 v1 bi st
  refine ⟨_,_,_,_,_,rfl,D8 (fun e=>?_) (fun e=>?_)⟩
  ·refine S7 Ma Mb Z a8 (by omega) (by omega) (by omega) ?_
   intro A2 m2 c2 A3 m3 c3 h6 l6 p k3 M2 M3
   refine ⟨_,_,_,_,_,_,rfl,?_⟩
   have bp:m3<=m1:=M3.len_le (by decide) (by have:=aP (val b64 q) (show 0<val b64 o by omega);have:=Mb.lt (by decide);omega)
   obtain ⟨ws,ax,a7,S,ak,a4⟩:=M3
   refine Ez a7 ax (by omega) ?_
   intro A4 c4 h7 g7 l7 p7
   obtain ⟨g2,N,O⟩:=C.swap W
   obtain ⟨g8,l8,be⟩:=N.after (Heap.le_trans l6 l7)
   obtain ⟨g9,a3,a9⟩:=Priv.swap p7 be
   have br:=aP (val b64 q) (show 0<val b64 o by omega)
   have Mn:Mw h7 A4 ws.length (val b64 ws):=⟨ws,rfl,p7.slV,S,ak,rfl⟩
   refine ⟨_,_,_,rfl,⟨_,_,_,_,_,_,rfl,o,ws,g9,g8,Heap.le_trans lg (Heap.le_trans O.le l8),a3,a9,dv,S,nv,ak,V,rfl,by omega,?_,by omega⟩,?_⟩
   ·rw [a4,B3h F a0];exact a
   ·simp only [Am Mn,Am Mb]
    have:=C6 (by decide) S
    omega
  ·obtain ⟨ap,ah,ag,aj,lh⟩:=st
   have lh:=lh e
   unfold Sg
   obtain ⟨g2,N,O⟩:=C.swap W
   refine ⟨fun l hp=>∃ (B:Option bI) (m d j:Nat) (g1 g:bC),l=[.slice B m d]/\h.le g/\Pw hp g1 B m d (o++aE j 0)/\Pw g1 g A1 T c1 q/\m=o.length+j/\m<=T,fun l _=>match l with|[.slice _ m _]=>T-m|_=>0,⟨B1,m1,d1,0,g2,g,rfl,lg,by simpa using N,O,by omega,a1⟩,?_⟩
   rintro B2 m2 d2 bk ⟨B',m',d',j,g3,g4,ad,X,aa,ae,bq,bh⟩
   simp only [bO,cV,and_true] at ad
   obtain ⟨rfl,rfl,rfl⟩:=ad
   refine B6 (fun h2=>?_) (fun h2=>?_)
   ·refine Ds Q1 aa rfl rfl (by omega) (by omega) ?_
    intro A5 c5 h5 g5 l5 p5
    obtain ⟨g6,l6,a6⟩:=ae.after l5
    refine ⟨⟨A5,m2+1,c5,j+1,g5,g6,rfl,Heap.le_trans X l6,?_,a6,by omega,by omega⟩,by simp only;omega⟩
    have p6:=p5
    rw [<- List.map_singleton (f:=bB .u64),<- dP,aU,<- List.replicate_succ'] at p6
    exact p6
   ·obtain ⟨g5,az,a2⟩:=aa.swap ae
    have x:(o++aE j (0:Int)).length=q.length:=by simp;omega
    have i:q≠[]:=by rintro rfl;simp at hn;omega
    have al:o++aE j (0:Int)≠[]:=by intro h0;rw [h0] at x;simp at x;exact i (aM x.symm)
    obtain ⟨ba,qa,wa,bm⟩:=Fg az i
    obtain ⟨bb,qb,wb,bo⟩:=Fg a2 al
    have av:=lh.gcd
    have bf:=lh.ord
    have ay:=lh.le
    have bg:val b64 o<b64^q.length:=by rw [<- hn];exact dA M (Ma.lt (by decide))
    refine B0l wa wb hn (by omega) x.symm du (dv.append (I0 (by decide) _)) (by omega) ap ah ag aj (by rw [Cz];omega) (by rw [Cz];omega) ?_
    intro s k h6 g6 y z bd ai J u Q aq
    rw [Cz] at J u
    have L:s≠[]:=by rintro rfl;simp at y;exact i (aM y.symm)
    have E:k≠[]:=by rintro rfl;simp at z;exact i (aM z.symm)
    refine ⟨rfl,?_⟩
    rw [show T=s.length by omega]
    refine Ed Q.sl (by omega) (by omega) ?_
    intro k1 aw ar am
    refine ⟨_,_,_,rfl,?_⟩
    rw [show m2=k.length by omega]
    refine Ed (SlV.mono Q.le aq.sl) (by omega) (by omega) ?_
    intro p au af R
    have pA:=Q.priv (m:=k1) (c:=c1) L (by omega) aw
    have pB:=aq.priv (m:=p) (c:=d2) E (by omega) au
    have e1:(s.take k1).length=k1:=by rw [aF];omega
    have e2:(k.take p).length=p:=by rw [aF];omega
    have Mn:Mw h6 B2 p (val b64 (k.take p)):=⟨k.take p,e2.symm,SlV.mono pA.le pB.slV,ai.take _,af,rfl⟩
    refine ⟨_,_,_,rfl,⟨_,_,_,_,_,_,rfl,s.take k1,k.take p,_,_,X,pA,pB,bd.take _,ai.take _,ar,af,e1.symm,e2.symm,?_,?_,by omega⟩,?_⟩
    ·rw [am,R,J,u];omega
    ·rw [am,R,J,u,av];exact a
    ·simp only [Am Mn,Am Mb]
     rw [R,u];omega
 ·refine D8 (fun h2=>?_) (fun h2=>?_)
  ·have h0:val b64 o=0:=a5.2 (by omega)
   rw [h0,Int.gcd_zero_right] at a
   refine hK _ _ _ _ D Z ?_
   rw [<- a,Int.natAbs_of_nonneg F];exact Ma
  ·have bt:m1=1:=by omega
   obtain ⟨w,rfl⟩:∃ w,o=[w]:=by
    rcases o with _|⟨w,_|⟨w',r⟩⟩
    ·simp at V;omega
    ·exact ⟨w,rfl⟩
    ·simp at V;omega
   have hw:=dv w (by simp)
   rw [W4] at *
   obtain ⟨t,rfl⟩:∃ t:Nat,w=(t:Int):=dS hw.1
   have bl:(t:Int)<18446744073709551616:=hw.2
   have ao:0<t:=by omega
   have sb:SlI .u64 hp B1 [(t:Int)]:=SlV.mono C.le W.slV
   refine sb.load V (by omega) (by omega) ?_
   refine sb.load V (by omega) (by omega) ?_
   show aW _ _ #[_,U ((t:Nat):Int)] _ _
   refine Nm Ma ⟨ao,by omega⟩ (by omega) ⟨_,rfl,B3 _,?_⟩
   have r0:=aT (val b64 q) (b:=(t:Int)) (by omega)
   have r1:=aP (val b64 q) (show (0:Int)<(t:Int) by omega)
   have H:=B3h F (show (0:Int)<=(t:Int) by omega)
   obtain ⟨r,hr⟩:=dS r0
   rw [hr] at r1 H ⊢
   show aW _ _ #[U ((t:Nat):Int),_] _ _
   refine A42 (gl.mono D) (by omega) (by omega) ⟨_,rfl,B3 _,?_⟩
   rw [dR] at H
   have ay:eA t r<=t:=Nat.le_of_dvd ao (Nat.gcd_dvd_left t r)
   refine Bk (by omega) ?_
   intro A2 m2 c2 h2 l2 p M2
   rw [H,a] at M2
   exact ⟨_,_,_,rfl,l2,hK _ _ _ _ (Heap.le_trans D l2) p M2⟩
def Oa{x y:Int}{an bn:Nat}(gl:Gtz h)(ma:Mw h A an x)(mb:Mw h B bn y)(ha:an<=ac)(hb:bn<=bc)(hl:an<=100000000)(hl2:bn<=100000000)(hK:∀ A' m c' h',h.le h'->m<=c'->Mw h' A' m (gD x y:Int)->K (.slice A' m c') h'):aW prog Gc #[.slice A an ac,.slice B bn bc] h K:=by
 refine A4t _ _ _ _ _ _ ?_
 unfold A4u
 refine ⟨fun l r=>r=h/\∃ (A B:Option bI) (n c m d:Nat) (f a:Int),l=[.slice A n c,.slice B m d]/\Mw h A n f/\Mw h B m a/\a<=f/\n<=c/\m<=d/\n<=100000000/\m<=100000000/\gD f a=gD x y,?_,?_⟩
 ·refine F7 ma mb (by omega) ⟨_,rfl,B6 (fun b=>?_) (fun b=>?_)⟩
  ·rw [Dk] at b
   exact ⟨rfl,_,_,_,_,_,_,_,_,rfl,mb,ma,by omega,hb,ha,hl2,hl,Int.gcd_comm _ _⟩
  ·rw [Dk] at b
   exact ⟨rfl,_,_,_,_,_,_,_,_,rfl,ma,mb,by omega,ha,hb,hl,hl2,rfl⟩
 ·rintro A1 Q c1 B1 W T r ⟨rfl,A2,B2,n,c,m,d,f,a,e,M1,M2,j,O,R,l1,X,g⟩
  simp only [bO,cV,and_true] at e
  obtain ⟨⟨rfl,rfl,rfl⟩,rfl,rfl,rfl⟩:=e
  have o:=M1.nonneg (by decide)
  refine D8 (fun b=>?_) (fun b=>?_)
  ·have:a=0:=(M2.len_zero (by decide)).2 (by omega)
   subst this
   rw [Int.gcd_zero_right] at g
   refine hK _ _ _ _ (B3 _) O ?_
   rw [<- g,Int.natAbs_of_nonneg o];exact M1
  ·obtain ⟨u,i,s,L,D,rfl⟩:=M1
   obtain ⟨J,k,t,G,nv,rfl⟩:=M2
   refine Ez s i (by omega) ?_
   intro A3 Z h3 g3 q p
   refine ⟨_,_,_,rfl,?_⟩
   refine Ez (SlV.mono (Heap.le_trans q p.le) t) k (by omega) ?_
   intro A4 S h4 V C N
   refine ⟨_,_,_,rfl,?_⟩
   obtain ⟨H,F,w⟩:=p.after C
   obtain ⟨z,E,M⟩:=Priv.swap N w
   exact B7d gl ⟨u,J,z,H,Heap.le_trans q F,E,M,L,G,D,nv,rfl,rfl,j,g,by omega⟩ hK
end
structure ZI (h:bC) (s:Bool) (A:Option bI) (n c:Nat) (z:Int):Prop where
 cap:n<=c
 mag:Mw h A n (z.natAbs:Int)
 sgn:s=decide (z<0)
def ZI.mono{h h':bC}{s:Bool}{A:Option bI}{n c:Nat}{z:Int}(i:ZI h s A n c z)(l:h.le h'):ZI h' s A n c z:=⟨i.cap,i.mag.mono l,i.sgn⟩
def ZI.zero{h:bC}{A:Option bI}:ZI h false A 0 0 0:=⟨aZ _,Mag.zero,rfl⟩
def ZI.len{h:bC}{s:Bool}{A:Option bI}{n c m:Nat}{z:Int}(i:ZI h s A n c z)(hz:ZB m z)(hm:m<=6400000000):n<=100000000:=by
 obtain ⟨k,hk⟩:∃ k,k=100000000:=⟨_,rfl⟩
 rw [<- hk]
 refine i.mag.len_le (by decide) ?_
 rw [Ky]
 have b:(z.natAbs:Int)<2^m:=by
  have:((z.natAbs:Nat):Int)<((2^m:Nat):Int):=Int.ofNat_lt.2 hz
  simpa using this
 have a:=C8 (B:=2) (by decide) (show m<=64*k by omega)
 exact Int.lt_of_lt_of_le b a
def ZI.zeroIff{h:bC}{s:Bool}{A:Option bI}{n c:Nat}{z:Int}(i:ZI h s A n c z):z=0↔n=0:=by
 have:=i.mag.len_zero (by decide)
 omega
section
variable {h g:bC} {K:VP} {A B:Option bI} {s s':Bool} {an ac bn bc m:Nat} {x y:Int}
def O4{v:Nat}{n c:Nat}{neg:Bool}(M:Mw h A n (v:Int))(hc:n<=c)(hK:∀ s,ZI h s A n c (if neg then -(v:Int) else v)->K (.agg #[.bool s,.slice A n c]) h):aW prog Q7 #[.bool neg,.slice A n c] h K:=by
 have a:=M.len_zero (by decide)
 refine B0s _ _ _ _ ?_
 unfold B4w
 cases neg with
 | true=>
  refine Br.of (fun _=>hK _ ⟨hc,?_,?_⟩) (fun e=>by cases e)
  ·simpa using M
  ·simp only [if_true,decide_eq_decide];omega
 | false=>
  refine Br.of (fun e=>by cases e) (fun _=>hK _ ⟨hc,?_,?_⟩)
  ·simpa using M
  ·simp
def T8(i:ZI h s A an ac x)(hK:∀ s',ZI h s' A an ac (-x)->K (.agg #[.bool s',.slice A an ac]) h):aW prog Ih #[.agg #[.bool s,.slice A an ac]] h K:=by
 refine C1z _ _ _ _ ?_
 unfold C6d
 refine O4 (neg:= !s) i.mag i.cap ?_
 intro c b
 have e:(if (!s)=true then -(x.natAbs:Int) else x.natAbs)= -x:=by
  have:=i.sgn
  by_cases a:x<0
  ·simp only [a,decide_true] at this;subst this;simp;omega
  ·simp only [a,decide_false] at this;subst this;simp;omega
 rw [e] at b
 exact ⟨_,_,_,_,rfl,hK _ b⟩
def Hq(i:ZI h s A an ac x)(j:ZI h s' B bn bc y)(hx:ZB m x)(hy:ZB m y)(hm:m<=6400000000)(hK:∀ s1 A' n' c' h',h.le h'->ZI h' s1 A' n' c' (x+y)->K (.agg #[.bool s1,.slice A' n' c']) h'):aW prog Vj #[.agg #[.bool s,.slice A an ac],.agg #[.bool s',.slice B bn bc]] h K:=by
 have p:=i.len hx hm
 have q:=j.len hy hm
 have f:=i.sgn
 have a:=j.sgn
 refine C23 _ _ _ _ _ _ _ _ ?_
 unfold C6h
 refine Br.of (fun e=>?_) (fun e=>?_)
 ·have e:s=s':=by simpa using e
  subst e
  refine R9 i.mag j.mag i.cap j.cap (by omega) (by omega) ?_
  intro A1 o c1 b d k M1
  refine ⟨_,_,_,rfl,d,?_⟩
  rw [<- fP] at M1
  refine O4 (neg:=s) M1 k ?_
  intro s1 c
  refine ⟨_,_,_,_,rfl,B3 _,hK _ _ _ _ _ d ?_⟩
  have l:(if s=true then -((x.natAbs+y.natAbs:Nat):Int) else ((x.natAbs+y.natAbs:Nat):Int))=x+y:=by
   cases s with
   | true=>have b:=of_decide_eq_true f.symm;have g:=of_decide_eq_true a.symm;simp;omega
   | false=>have b:=of_decide_eq_false f.symm;have g:=of_decide_eq_false a.symm;simp;omega
  rw [l] at c
  exact c
 ·have e:s≠s':=by simpa using e
  refine F7 i.mag j.mag (by omega) ⟨_,rfl,B6 (fun b=>?_) (fun b=>?_)⟩
  ·have n:¬ (x.natAbs:Int)<y.natAbs:=by rw [<- Dk];omega
   refine H1 i.mag j.mag i.cap (by omega) (by omega) ?_
   intro A1 o c1 b d k M1
   refine ⟨_,_,_,rfl,d,?_⟩
   rw [show (x.natAbs:Int)-y.natAbs=((x.natAbs-y.natAbs:Nat):Int) by omega] at M1
   refine O4 (neg:=s) M1 k ?_
   intro s1 c
   refine ⟨_,_,_,_,rfl,B3 _,hK _ _ _ _ _ d ?_⟩
   have l:(if s=true then -((x.natAbs-y.natAbs:Nat):Int) else ((x.natAbs-y.natAbs:Nat):Int))=x+y:=by
    cases s with
    | true=>cases s' with
     | true=>exact absurd rfl e
     | false=>have b:=of_decide_eq_true f.symm;have g:=of_decide_eq_false a.symm;rw [iP rfl];omega
    | false=>cases s' with
     | true=>have b:=of_decide_eq_false f.symm;have g:=of_decide_eq_true a.symm;rw [iN (by simp)];omega
     | false=>exact absurd rfl e
   rw [l] at c
   exact c
  ·have n:(x.natAbs:Int)<y.natAbs:=by rw [<- Dk];omega
   refine H1 j.mag i.mag j.cap (by omega) (by omega) ?_
   intro A1 o c1 b d k M1
   refine ⟨_,_,_,rfl,d,?_⟩
   rw [show (y.natAbs:Int)-x.natAbs=((y.natAbs-x.natAbs:Nat):Int) by omega] at M1
   refine O4 (neg:=s') M1 k ?_
   intro s1 c
   refine ⟨_,_,_,_,rfl,B3 _,hK _ _ _ _ _ d ?_⟩
   have l:(if s'=true then -((y.natAbs-x.natAbs:Nat):Int) else ((y.natAbs-x.natAbs:Nat):Int))=x+y:=by
    cases s with
    | true=>cases s' with
     | true=>exact absurd rfl e
     | false=>have b:=of_decide_eq_true f.symm;have g:=of_decide_eq_false a.symm;rw [iN (by simp)];omega
    | false=>cases s' with
     | true=>have b:=of_decide_eq_false f.symm;have g:=of_decide_eq_true a.symm;rw [iP rfl];omega
     | false=>exact absurd rfl e
   rw [l] at c
   exact c
def B1e(i:ZI h s A an ac x)(j:ZI h s' B bn bc y)(hx:ZB m x)(hy:ZB m y)(hm:m<=6400000000)(hK:∀ s1 A' n' c' h',h.le h'->ZI h' s1 A' n' c' (x-y)->K (.agg #[.bool s1,.slice A' n' c']) h'):aW prog B3o #[.agg #[.bool s,.slice A an ac],.agg #[.bool s',.slice B bn bc]] h K:=by
 refine C1x _ _ _ _ _ _ _ _ ?_
 unfold C6b
 refine T8 j ?_
 intro s1 c
 refine ⟨_,_,_,_,rfl,B3 _,Hq i c hx hy.neg hm ?_⟩
 intro f A2 d c2 e a b
 exact ⟨_,_,_,_,rfl,a,hK _ _ _ _ _ a (by rw [Int.sub_eq_add_neg];exact b)⟩
def L4(i:ZI h s A an ac x)(j:ZI h s' B bn bc y)(hx:ZB m x)(hy:ZB m y)(hm:m<=6400000000)(hK:∀ s1 A' n' c' h',h.le h'->ZI h' s1 A' n' c' (x*y)->K (.agg #[.bool s1,.slice A' n' c']) h'):aW prog Bh #[.agg #[.bool s,.slice A an ac],.agg #[.bool s',.slice B bn bc]] h K:=by
 have g:=i.len hx hm
 have l:=j.len hy hm
 have b:=i.sgn
 have a:=j.sgn
 refine C20 _ _ _ _ _ _ _ _ ?_
 unfold C6e
 refine H2 i.mag j.mag i.cap j.cap (by omega) (by omega) ?_
 intro A1 k c1 n d e M1
 refine ⟨_,_,_,rfl,d,?_⟩
 rw [<- cD] at M1
 refine O4 (neg:= !(s==s')) M1 e ?_
 intro s1 c
 refine ⟨_,_,_,_,rfl,B3 _,hK _ _ _ _ _ d ?_⟩
 have f:(if (!(s==s'))=true then -((x.natAbs*y.natAbs:Nat):Int) else ((x.natAbs*y.natAbs:Nat):Int))=x*y:=by
  rw [cD]
  cases s with
  | true=>cases s' with
   | true=>rw [show (x.natAbs:Int)= -x by have:=of_decide_eq_true b.symm;omega,show (y.natAbs:Int)= -y by have:=of_decide_eq_true a.symm;omega];show -x * -y=x*y;exact Int.neg_mul_neg x y
   | false=>rw [show (x.natAbs:Int)= -x by have:=of_decide_eq_true b.symm;omega,show (y.natAbs:Int)=y by have:=of_decide_eq_false a.symm;omega];show -(-x*y)=x*y;rw [Int.neg_mul,Int.neg_neg]
  | false=>cases s' with
   | true=>rw [show (x.natAbs:Int)=x by have:=of_decide_eq_false b.symm;omega,show (y.natAbs:Int)= -y by have:=of_decide_eq_true a.symm;omega];show -(x * -y)=x*y;rw [Int.mul_neg,Int.neg_neg]
   | false=>rw [show (x.natAbs:Int)=x by have:=of_decide_eq_false b.symm;omega,show (y.natAbs:Int)=y by have:=of_decide_eq_false a.symm;omega];rfl
 rw [f] at c
 exact c
def Cj(gl:Gtz h)(i:ZI h s A an ac x)(j:ZI h s' B bn bc y)(hx:ZB m x)(hy:ZB m y)(hm:m<=6400000000)(hK:∀ A' n' c' h',h.le h'->ZI h' false A' n' c' (gD x y:Int)->K (.agg #[.bool false,.slice A' n' c']) h'):aW prog Od #[.agg #[.bool s,.slice A an ac],.agg #[.bool s',.slice B bn bc]] h K:=by
 have c:=i.len hx hm
 have d:=j.len hy hm
 refine C22 _ _ _ _ _ _ _ _ ?_
 unfold C6g
 refine Oa gl i.mag j.mag i.cap j.cap c d ?_
 intro A1 e c1 f b a M1
 refine ⟨_,_,_,rfl,hK _ _ _ _ b ⟨a,?_,?_⟩⟩
 ·rw [dR] at M1
  rw [cN]
  exact M1
 ·simp
def Eb(i:ZI h s A an ac x)(hK:K (I (Int.sign x)) h):aW prog Lj #[.agg #[.bool s,.slice A an ac]] h K:=by
 have c:=i.zeroIff
 have b:=i.sgn
 refine B83 _ _ _ _ ?_
 unfold C41
 refine D8 (fun e=>?_) (fun e=>?_)
 ·obtain rfl:x=0:=by omega
  simpa using hK
 ·refine Br.of (fun a=>?_) (fun a=>?_)
  ·subst a
   have:=of_decide_eq_true b.symm
   rw [eO this] at hK;exact hK
  ·subst a
   have:=of_decide_eq_false b.symm
   rw [fJ (by omega)] at hK;exact hK
def Mj(i:ZI h s A an ac x)(j:ZI h s' B bn bc y)(hx:ZB m x)(hy:ZB m y)(hm:m<=6400000000)(hK:K (I (Ey x y)) h):aW prog Jw #[.agg #[.bool s,.slice A an ac],.agg #[.bool s',.slice B bn bc]] h K:=by
 have f:=i.len hx hm
 have g:=j.len hy hm
 have d:=i.sgn
 have a:=j.sgn
 refine A79 _ _ _ _ _ _ _ _ ?_
 unfold A95
 have c1:x<0->y<0->Ey (y.natAbs:Int) x.natAbs=Ey x y:=fun c b=>by unfold Ey;split<;>split<;>first|rfl|omega|(split<;>split<;>first|rfl|omega)|(split<;>first|rfl|omega)
 have c2:¬ x<0->¬ y<0->Ey (x.natAbs:Int) y.natAbs=Ey x y:=fun c b=>by rw [show (x.natAbs:Int)=x by omega,show (y.natAbs:Int)=y by omega]
 cases s with
 | true=>
  have c:=of_decide_eq_true d.symm
  refine Br.of (fun _=>?_) (fun e=>by cases e)
  cases s' with
  | true=>
   have b:=of_decide_eq_true a.symm
   refine Br.of (fun _=>?_) (fun e=>by cases e)
   exact F7 j.mag i.mag (by omega) ⟨_,rfl,by rw [c1 c b];exact hK⟩
  | false=>
   have b:=of_decide_eq_false a.symm
   refine Br.of (fun e=>by cases e) (fun _=>Br.of (fun _=>?_) (fun e=>by cases e))
   have:Ey x y= -1:=by unfold Ey;rw [iP (by omega)]
   rw [this] at hK;exact hK
 | false=>
  have c:=of_decide_eq_false d.symm
  refine Br.of (fun e=>by cases e) (fun _=>Br.of (fun e=>by cases e) (fun _=>?_))
  cases s' with
  | true=>
   have b:=of_decide_eq_true a.symm
   refine Br.of (fun _=>?_) (fun e=>by cases e)
   have:Ey x y=1:=by unfold Ey;rw [iN (by omega),iP (by omega)]
   rw [this] at hK;exact hK
  | false=>
   have b:=of_decide_eq_false a.symm
   refine Br.of (fun e=>by cases e) (fun _=>?_)
   exact F7 i.mag j.mag (by omega) ⟨_,rfl,by rw [c2 c b];exact hK⟩
end
section
variable {h g:bC} {K:VP} {A B:Option bI} {s s':Bool} {an ac bn bc m:Nat} {x y:Int}
def Ab(hs:s=decide (x<0)):(s=true/\x= -(x.natAbs:Int))\/(s=false/\x=(x.natAbs:Int)):=by
 by_cases h:x<0
 ·left;exact ⟨by rw [hs];simpa using h,by omega⟩
 ·right;exact ⟨by rw [hs];simpa using h,by omega⟩
def B6n(a b:Nat):(a:Int).tdiv b=((a/b:Nat):Int)/\(-(a:Int)).tdiv (-(b:Int))=((a/b:Nat):Int)/\(-(a:Int)).tdiv b= -((a/b:Nat):Int)/\(a:Int).tdiv (-(b:Int))= -((a/b:Nat):Int):=by
 refine ⟨(cL a b).symm,?_,?_,?_⟩
 ·rw [Int.neg_tdiv,Int.tdiv_neg,Int.neg_neg,cL]
 ·rw [Int.neg_tdiv,cL]
 ·rw [Int.tdiv_neg,cL]
def A7z(a b:Nat):(a:Int).tmod b=((a%b:Nat):Int)/\(-(a:Int)).tmod (-(b:Int))= -((a%b:Nat):Int)/\(-(a:Int)).tmod b= -((a%b:Nat):Int)/\(a:Int).tmod (-(b:Int))=((a%b:Nat):Int):=by
 refine ⟨(dI a b).symm,?_,?_,?_⟩
 ·rw [Int.neg_tmod,Int.tmod_neg,dI]
 ·rw [Int.neg_tmod,dI]
 ·rw [Int.tmod_neg,dI]
def Rm(i:ZI h s A an ac x)(j:ZI h s' B bn bc y)(hx:ZB m x)(hy:ZB m y)(hm:m<=6400000000)(hy0:y≠0)(hK:∀ s1 A1 n1 c1 s2 A2 n2 c2 h',h.le h'->ZI h' s1 A1 n1 c1 (x.tdiv y)->ZI h' s2 A2 n2 c2 (x.tmod y)->K (.tuple #[.agg #[.bool s1,.slice A1 n1 c1],.agg #[.bool s2,.slice A2 n2 c2]]) h'):aW prog Oc #[.agg #[.bool s,.slice A an ac],.agg #[.bool s',.slice B bn bc]] h K:=by
 have l:=i.len hx hm
 have p:=j.len hy hm
 have r:=j.zeroIff
 have d:=Ab i.sgn
 have c:=Ab j.sgn
 refine B0p _ _ _ _ _ _ _ _ ?_
 unfold B4q
 refine D8 (fun e=>by omega) (fun _=>?_)
 refine S7 i.mag j.mag i.cap j.cap (by omega) (by omega) (by omega) ?_
 intro A1 n c1 A2 o c2 q g f k M1 M2
 refine ⟨_,_,_,_,_,_,rfl,?_⟩
 rw [<- dZ] at M1
 rw [<- gH] at M2
 refine O4 (neg:= !(s==s')) M1 f ?_
 intro s1 b
 refine ⟨_,_,_,_,rfl,B3 _,?_⟩
 refine O4 (neg:=s) M2 k ?_
 intro s2 a
 refine ⟨_,_,_,_,rfl,B3 _,hK _ _ _ _ _ _ _ _ _ g ?_ ?_⟩
 ·have e:(if (!(s==s'))=true then -((x.natAbs/y.natAbs:Nat):Int) else ((x.natAbs/y.natAbs:Nat):Int))=x.tdiv y:=by
   have t:=B6n x.natAbs y.natAbs
   rcases d with ⟨rfl,hx'⟩|⟨rfl,hx'⟩<;>rcases c with ⟨rfl,hy'⟩|⟨rfl,hy'⟩<;>rw [<- hx',<- hy'] at t
   ·exact t.2.1.symm
   ·exact t.2.2.1.symm
   ·exact t.2.2.2.symm
   ·exact t.1.symm
  rw [e] at b;exact b
 ·have e:(if s=true then -((x.natAbs%y.natAbs:Nat):Int) else ((x.natAbs%y.natAbs:Nat):Int))=x.tmod y:=by
   have t:=A7z x.natAbs y.natAbs
   rcases d with ⟨rfl,hx'⟩|⟨rfl,hx'⟩<;>rcases c with ⟨rfl,hy'⟩|⟨rfl,hy'⟩<;>rw [<- hx',<- hy'] at t
   ·exact t.2.1.symm
   ·exact t.2.2.1.symm
   ·exact t.2.2.2.symm
   ·exact t.1.symm
  rw [e] at a;exact a
def F9(i:ZI h s A an ac x)(hK:K (.bool (decide (x=0))) h):aW prog E8 #[.agg #[.bool s,.slice A an ac]] h K:=by
 have b:=i.zeroIff
 refine B0q _ _ _ _ ?_
 unfold B4r
 have:((an:Int)==0)=decide (x=0):=by
  by_cases a:x=0
  ·simp [a,b.1 a]
  ·have:¬ an=0:=fun e=>a (b.2 e)
   simp [a,this]
 rw [this];exact hK
def Q4(i:ZI h s A an ac x)(hK:K (.bool (decide (x=1))) h):aW prog Z5 #[.agg #[.bool s,.slice A an ac]] h K:=by
 have k:=Ab i.sgn
 have l:=i.zeroIff
 have M:=i.mag
 refine B4s _ _ _ _ ?_
 unfold B9k
 rcases k with ⟨rfl,f⟩|⟨rfl,f⟩
 ·refine Br.of (fun e=>by cases e) (fun _=>?_)
  rw [show decide (x=1)=false by simp;omega] at hK;exact hK
 ·refine Br.of (fun _=>?_) (fun e=>by cases e)
  obtain ⟨d,a,g,p,o,b⟩:=M
  refine D8 (fun e=>?_) (fun e=>?_)
  ·obtain ⟨w,rfl⟩:∃ w,d=[w]:=by
    rcases d with _|⟨w,_|⟨m,r⟩⟩
    ·simp at a;omega
    ·exact ⟨w,rfl⟩
    ·simp at a;omega
   refine g.load a (by omega) (by omega) ?_
   rw [W4] at b
   show K (.bool (w==1)) h
   have:(w==1)=decide (x=1):=by
    by_cases c:x=1
    ·have:w=1:=by omega
     simp [c,this]
    ·have:¬ w=1:=by omega
     simp [c,this]
   rw [this];exact hK
  ·have:¬ x=1:=by
    rintro rfl
    have c:=i.mag.len_le (j:=1) (by decide) (by decide)
    have n:¬ an=0:=fun e=>by have:=l.2 e;omega
    omega
   rw [show decide (x=1)=false by simp [this]] at hK;exact hK
def Q3(i:ZI h s A an ac x)(j:ZI h s' B bn bc y)(hx:ZB m x)(hy:ZB m y)(hm:m<=6400000000)(hy0:y≠0)(hK:∀ s1 A1 n1 c1 h',h.le h'->ZI h' s1 A1 n1 c1 (x.tdiv y)->K (.agg #[.bool s1,.slice A1 n1 c1]) h'):aW prog Ep #[.agg #[.bool s,.slice A an ac],.agg #[.bool s',.slice B bn bc]] h K:=by
 refine C1y _ _ _ _ _ _ _ _ ?_
 unfold C6c
 refine Q4 j ⟨_,rfl,B6 (fun e=>?_) (fun e=>?_)⟩
 ·subst e
  exact hK _ _ _ _ _ (B3 _) (by rw [Int.tdiv_one];exact i)
 ·refine Rm i j hx hy hm hy0 ?_
  intro s1 A1 n1 c1 f A2 d c2 g b a c
  exact ⟨_,_,_,_,_,_,_,_,rfl,hK _ _ _ _ _ b a⟩
def A5l(i:ZI h s A an ac x)(j:ZI h s' B bn bc y)(hx:ZB m x)(hm:m<=6400000000)(hK:K (.bool (decide (x=y))) h):aW prog A0z #[.agg #[.bool s,.slice A an ac],.agg #[.bool s',.slice B bn bc]] h K:=by
 have l:=i.len hx hm
 have g:=Ab i.sgn
 have f:=Ab j.sgn
 have d:=i.sgn
 have b:=j.sgn
 refine B4u _ _ _ _ _ _ _ _ ?_
 unfold B9m
 refine Br.of (fun e=>?_) (fun e=>?_)
 ·have e:s=s':=by simpa using e
  refine F7 i.mag j.mag (by omega) ⟨_,rfl,?_⟩
  have:(Ey (x.natAbs:Int) y.natAbs==0)=decide (x=y):=by
   by_cases c:x=y
   ·subst c;unfold Ey;simp
   ·have k:¬ x.natAbs=y.natAbs:=by
     rcases g with ⟨rfl,hx'⟩|⟨rfl,hx'⟩<;>rcases f with ⟨a,hy'⟩|⟨a,hy'⟩<;>(rw [<- e] at a)<;>first|omega|(cases a)
    unfold Ey
    by_cases a:(x.natAbs:Int)<y.natAbs
    ·rw [iP a];simp [c]
    ·rw [iN a,iP (by omega)];simp [c]
  rw [this];exact hK
 ·have e:s≠s':=by simpa using e
  have:¬ x=y:=by rintro rfl;exact e (d.trans b.symm)
  rw [show decide (x=y)=false by simp [this]] at hK;exact hK
def Ec{n:Int}(h1: -9223372036854775808<=n)(h2:n<=9223372036854775807)(hK:∀ s1 A1 n1 c1 h',h.le h'->ZI h' s1 A1 n1 c1 n->K (.agg #[.bool s1,.slice A1 n1 c1]) h'):aW prog Rx #[I n] h K:=by
 refine C24 _ ?_
 unfold C6i
 refine B6 (fun a=>?_) (fun a=>?_)
 ·have e:C0 (0-C0 n)=(n.natAbs:Int):=by rw [E4,E4];omega
  rw [e]
  refine Bk (by omega) ?_
  intro A1 d c1 h1 c b M1
  exact ⟨_,_,_,rfl,hK _ _ _ _ _ c ⟨b,M1,by simpa using a⟩⟩
 ·have e:C0 n=(n.natAbs:Int):=by rw [E4];omega
  rw [e]
  refine Bk (by omega) ?_
  intro A1 d c1 h1 c b M1
  exact ⟨_,_,_,rfl,hK _ _ _ _ _ c ⟨b,M1,by simpa using a⟩⟩
end
def A9q{P:dG}{t d e:cC}(ht:P.underlying t=some .string)(hd:P.underlying d=some (.slice e))(he:P.underlying e=some (.int .u8)){h:bC}{l:List UInt8}{K:VP}
 (x:∀ A c h',h.le h'->l.length<=c->SlV h' A (yv l)->K (.slice A l.length c) h'):wpH P (convert t d (.string (bs l))) K h:=by
 unfold convert
 simp only [C5,E9 ht,E9 hd,E9 he]
 unfold Conv.stringToBytes
 simp only [C5]
 refine Jm rfl (fun o=>?_)
 have a:(bs l).size=l.length:=by simp [bs,eR]
 have f:l.length<=(Question.appendCap (bs l).size 0 e).cut o:=by
  rw [a];simp only [Question.cut];omega
 generalize (Question.appendCap (bs l).size 0 e).cut o=cap at *
 rw [R4]
 intro b r
 generalize hcs:((bs l).data.map (fun b=>bB .u8 b.toNat)++fQ (cap-(bs l).size) (bB .u8 0))=cs
 have m:h.le (h.put b (.cells cs e (cs.size,cs.size+1))):=Heap.le_put _ r
 have j:(h.put b (.cells cs e)).freeze { block:=b,off:=cs.size } 1=h.put b (.cells cs e (cs.size,cs.size+1)):=by
  unfold Heap.freeze
  rw [iN (by decide)]
  funext k
  by_cases g:k=b
  ·subst g
   simp only [if_true,B9,gJ]
   rfl
  ·rw [iN g,B8 _ _ g,B8 _ _ g]
 refine ⟨cs,e,_,B9 _ _ _,?_⟩
 refine ⟨⟨_,B9 _ _ _⟩,?_⟩
 show K (.slice (some ⟨b,0,none⟩) (bs l).size cap) ((h.put b (.cells cs e)).freeze { block:=b,off:=cs.size } 1)
 rw [j,a]
 refine x _ _ _ m f (.inr ⟨_,rfl,?_⟩)
 intro i v n
 have p:i<l.length:=by
  have:=(List.getElem?_eq_some_iff.1 n).1
  simpa [yv] using this
 have q:eE ⟨b,0,none⟩ i=⟨b,i,none⟩:=by rw [E6,fG]
 rw [q,E7,<- hcs,Array.getElem?_append_left (by simp [bs];exact p)]
 rw [<- n]
 simp [yv,bs]
def A6o{x y:Int}(hy:0<y):(x.tmod y<0->x/y=x.tdiv y-1)/\(0<=x.tmod y->x/y=x.tdiv y):=by
 have e:=Int.mul_tdiv_add_tmod x y
 have b: -y<x.tmod y/\x.tmod y<y:=by
  have d:=eM x.natAbs (show 0<y.natAbs by omega)
  have t:=A7z x.natAbs y.natAbs
  rw [show ((y.natAbs:Nat):Int)=y by omega] at t
  by_cases c:x<0
  ·rw [show -((x.natAbs:Nat):Int)=x by omega] at t
   have:=t.2.2.1
   omega
  ·rw [show ((x.natAbs:Nat):Int)=x by omega] at t
   have:=t.1
   omega
 refine ⟨fun h=>?_,fun h=>?_⟩
 ·refine (A1p (a:=x.tmod y+y) ?_ (by omega) (by omega)).1
  rw [Int.mul_sub];omega
 ·exact (A1p (a:=x.tmod y) (by omega) h (by omega)).1
def ZB.tdiv{m:Nat}{x y:Int}(h:ZB m x):ZB m (x.tdiv y):=by
 unfold ZB at *
 rw [Int.natAbs_tdiv]
 exact Nat.lt_of_le_of_lt (eF _ _) h
section
variable {h g:bC} {K:VP} {A B:Option bI} {s s':Bool} {an ac bn bc m:Nat} {x y:Int}
def Xe(i:ZI h s A an ac x)(j:ZI h s' B bn bc y)(hx:ZB m x)(hy:ZB m y)(hm:m+1<=6400000000)(hy0:0<y)(hK:∀ s1 A1 n1 c1 h',h.le h'->ZI h' s1 A1 n1 c1 (x/y)->K (.agg #[.bool s1,.slice A1 n1 c1]) h'):aW prog Lk #[.agg #[.bool s,.slice A an ac],.agg #[.bool s',.slice B bn bc]] h K:=by
 have l:=A6o (x:=x) hy0
 refine A4n _ _ _ _ _ _ _ _ ?_
 unfold A4o
 refine Rm i j hx hy (by omega) (by omega) ?_
 intro s1 A1 n1 c1 t A2 z c2 u d c o
 refine ⟨_,_,_,_,_,_,_,_,rfl,?_⟩
 refine Eb o ⟨_,rfl,B3 _,?_⟩
 refine Eb (j.mono d) ⟨_,rfl,B3 _,?_⟩
 rw [fJ hy0,Int.mul_one]
 have C: -1<=Int.sign (x.tmod y)/\Int.sign (x.tmod y)<=1:=by
  rcases Int.lt_trichotomy (x.tmod y) 0 with h|h|h
  ·rw [eO h];omega
  ·rw [h];decide
  ·rw [fJ h];omega
 rw [B7 (by omega) (by omega)]
 refine B6 (fun e=>?_) (fun e=>?_)
 ·have a:x.tmod y<0:=Int.sign_neg_iff.1 e
  refine Ec (by omega) (by omega) ?_
  intro G A3 q E F f p
  refine ⟨_,_,_,_,rfl,f,?_⟩
  refine B1e (m:=m+1) (c.mono f) p (hx.tdiv.mono (by omega)) ?_ hm ?_
  ·unfold ZB
   have:1<=2^m:=Nat.one_le_two_pow
   rw [dT];simp;omega
  ·intro D A4 r w H k g
   rw [<- l.1 a] at g
   exact ⟨_,_,_,_,rfl,k,hK _ _ _ _ _ (Heap.le_trans d (Heap.le_trans f k)) g⟩
 ·have b:0<=x.tmod y:=by
   by_cases n:x.tmod y<0
   ·exact absurd (by rw [eO n];decide) e
   ·omega
  rw [<- l.2 b] at c
  exact hK _ _ _ _ _ d c
end
def B06{ws:List Int}{k:Nat}(d:Dig b64 ws)(hl:ws.length=k+1)(h:b64^k<=val b64 ws):fU ws:=by
 unfold fU
 intro e
 rw [List.getLast?_eq_getElem?,hl,Nat.add_sub_cancel] at e
 have:=(Bz (B:=b64) (by decide) d hl).1
 have a:ws.getD k 0=0:=by simp [cU,e]
 rw [a] at this
 omega
section
variable {h g:bC} {K:VP} {A B:Option bI} {ac bc:Nat}
def B7s{Invv:LP}{muv:LN}{d1:ByteArray}{n c:Nat}{chunk base:Int}{us:List Int}{hp hp2:bC}(p:Pw hp2 g A n c us)(hn:n=us.length)(du:Dig b64 us)(nu:fU us)(hl:n<=100000000)(hch:0<=chunk/\chunk<18446744073709551616)(hba:1<=base/\base<18446744073709551616)
 (hK:∀ A' n' c' us' h' g',g.le g'->Pw h' g' A' n' c' us'->n'=us'.length->n'<=n+1->Dig b64 us'->fU us'->val b64 us'=chunk+base*val b64 us->Invv [.string ((d1).extract ((B4 ((dN (B4 (((eR d1:Nat):Int)-(1:Int))) (19:Int))+(1:Int))).toNat) ((d1).size)),.slice A' n' c'] h'/\muv [.string ((d1).extract ((B4 ((dN (B4 (((eR d1:Nat):Int)-(1:Int))) (19:Int))+(1:Int))).toNat) ((d1).size)),.slice A' n' c'] h'<muv [.string d1,.slice A n c] hp):
 V9 prog Invv muv d1 A n c chunk base hp hp2:=by
 have F:=C6 (by decide) du
 unfold V9
 refine ⟨fun l s=>∃ (k:Nat) (j:Int) (d:List Int),l=[U j,I k]/\k<=n/\(0<=j/\j<18446744073709551616)/\d.length=us.length/\Dig b64 d/\Pw s g A n c d/\d.drop k=us.drop k/\val b64 (d.take k)+b64^k*j=chunk+base*val b64 (us.take k),fun l _=>n-(iAt l 1).toNat,⟨0,chunk,us,rfl,by omega,hch,rfl,du,p,rfl,by simp [val]⟩,?_⟩
 rintro j i s ⟨k,D,d,G,hk,o,e,t,pw,y,B⟩
 obtain ⟨rfl,rfl⟩:j=D/\i=(k:Int):=by simpa using G
 refine B6 (fun h1=>?_) (fun h1=>?_)
 ·have O:=N9 t k
  have E:=E5 y
  have S:=C4 b64 us k
  have z:d≠[]:=by rintro rfl;simp at e;omega
  obtain ⟨b,J,w,R⟩:=Fg pw z
  refine w.sl.load (by omega) (by omega) (by omega) ?_
  simp only [aC]
  generalize hx:d.getD k 0=x at *
  refine S3 O (by omega) o ⟨_,_,rfl,?_⟩
  obtain ⟨a,N,_⟩:=SlV.at w.sl (i:=k) (by simp;omega)
  refine ⟨a,N,by omega,by omega,w.storeN F4 N (by omega) ?_⟩
  intro h4 w4
  have bP:=Nu O (show 0<=base/\base<18446744073709551616 by omega) o
  have V:=A3t (x*base+j)
  have W:B4 ((k:Int)+1)=((k+1:Nat):Int):=by rw [B7 (by omega) (by omega)];omega
  rw [W]
  have Q:=w4.priv (m:=n) (c:=c) (by intro X;have:=congrArg List.length X;rw [bN,gK] at this;exact z (aM this)) (by simpa using R) (by simp;omega)
  rw [aK (by simp;omega)] at Q
  refine ⟨⟨k+1,_,_,rfl,by omega,bP,by simpa using e,t.set (En _),Q,?_,?_⟩,by simp only [iAt,aG,aL];omega⟩
  ·rw [D3 (by omega)];exact D6 y
  ·rw [C7 (by omega),F0,aF,aI (by omega),bG,S,<- E,V]
   show _+b64^k*_+b64^k*18446744073709551616*_=_
   generalize (x*base+j)/18446744073709551616=q at *
   grind
 ·obtain rfl:k=n:=by omega
  rw [aK (show d.length<=k by omega),aK (show us.length<=k by omega)] at B
  refine I3 (fun C=>?_) (fun C=>?_)
  ·refine Ds Q1 pw rfl rfl (by omega) (by omega) ?_
   intro A5 T h5 g5 Z L
   rw [<- List.map_singleton (f:=bB .u64),<- dP] at L
   refine hK A5 (k+1) T (d++[j]) h5 g5 Z L (by simp;omega) (by omega) (t.append (Dig.one o)) ?_ ?_
   ·unfold fU;simpa using C
   ·rw [F0,<- B,e,<- hn]
  ·subst C
   rw [fK,fL] at B
   refine hK A k c d s g (B3 _) pw (by omega) (by omega) t ?_ B
   rcases us with _|⟨u,r⟩
   ·have:d=[]:=aM (by simpa using e)
    rw [this];exact Norm.nil
   ·refine B06 (k:=r.length) t (by simpa using e) ?_
    have M:Mw hp2 A k (val b64 (u::r)):=⟨_,hn,p.slV,du,nu,rfl⟩
    have H:=M.ge (by decide) (by simp at hn;omega)
    rw [show k-1=r.length by simp at hn;omega] at H
    have:1*val b64 (u::r)<=base*val b64 (u::r):=aD hba.1 F
    omega
end
section
variable {h g:bC} {K:VP} {A B:Option bI} {ac bc:Nat}
def B8y{k:Nat}(h:k<=19):10^k<=10000000000000000000:=eK (bK (by decide) h) (by decide)
def B0k{Invv:LP}{muv:LN}{d1:ByteArray}{n c tn:Nat}{T:Option bI}{l:List UInt8}{hp hp1:bC}(sv:SlV hp1 T (yv l))(ht:tn=l.length)(hd:∀ c∈l,G9 c)(h19:l.length<=19)
 (hK:(0<=B4 ((dN (B4 (((eR d1:Nat):Int)-(1:Int))) (19:Int))+(1:Int))/\B4 ((dN (B4 (((eR d1:Nat):Int)-(1:Int))) (19:Int))+(1:Int))<=(((d1).size:Nat):Int))/\V9 prog Invv muv d1 A n c (J4 l:Int) ((10^l.length:Nat):Int) hp hp1):
 Dx prog Invv muv d1 A n c T tn hp1 hp:=by
 subst ht
 unfold Dx
 refine ⟨fun s hp=>hp=hp1/\∃ k:Nat,s=[U (J4 (l.take k)),U ((10^k:Nat):Int),I k]/\k<=l.length,fun s _=>l.length-(iAt s 2).toNat,⟨rfl,0,by simp [J4],by omega⟩,?_⟩
 rintro y z i r ⟨rfl,k,b,x⟩
 simp only [bO,cR,and_true,true_and] at b
 obtain ⟨rfl,rfl,rfl⟩:=b
 refine B6 (fun t=>?_) (fun t=>?_)
 ·have d:k<l.length:=by omega
  obtain ⟨a,w,g⟩:=SlV.at sv (i:=k) (by rw [Hr];omega)
  have e:=hd l[k] (gF d)
  have j:=Gr (l:=l.take k) (fun c g=>hd c (fT g))
  rw [aF,aI (by omega)] at j
  have q:=B8y (k:=k+1) (by omega)
  have f:10^(k+1)=10^k*10:=dT _ _
  refine ⟨a,w,by omega,by omega,((l[k].toNat:Nat):Int),?_,?_⟩
  ·rw [aC,cF,g];simp [yv]
  ·unfold G9 at e
   have o:C0 (wu8 (((l[k].toNat:Nat):Int)-48))=((l[k].toNat-48:Nat):Int):=by
    rw [Yc (by omega) (by omega),C2 (by omega) (by omega)];omega
   have u:C0 (C0 (10*((J4 (l.take k):Nat):Int))+C0 (wu8 (((l[k].toNat:Nat):Int)-48)))=((J4 (l.take (k+1)):Nat):Int):=by
    rw [o,C2 (n:=10*((J4 (l.take k):Nat):Int)) (by omega) (by omega),C2 (by omega) (by omega),dV d,Ip];omega
   have p:C0 (((10^k:Nat):Int)*10)=((10^(k+1):Nat):Int):=by rw [C2 (by omega) (by omega),f];simp
   have m:B4 ((k:Int)+1)=((k+1:Nat):Int):=by rw [B7 (by omega) (by omega)];omega
   rw [u,p,m]
   exact ⟨⟨rfl,k+1,rfl,by omega⟩,by simp only [iAt,aG,aL];omega⟩
 ·obtain rfl:k=l.length:=by omega
  rw [aV]
  exact hK
def Sr{l:List UInt8}(hd:∀ c∈l,G9 c)(hl:l.length<=100000000)(hK:∀ A n c h',h.le h'->n<=c->Mw h' A n (J4 l:Int)->K (.slice A n c) h'):aW prog M0 #[.string (bs l)] h K:=by
 refine Wi _ ?_
 unfold Se Kr
 refine ⟨fun s H=>∃ (f a:List UInt8) (e:List Int) (A:Option bI) (n c:Nat) (g:bC),s=[.string (bs a),.slice A n c]/\l=f++a/\h.le g/\Pw H g A n c e/\n=e.length/\Dig b64 e/\fU e/\val b64 e=(J4 f:Int)/\n<=f.length,fun s _=>match s with|[.string d,_]=>d.size|_=>0,⟨[],l,[],none,0,0,h,rfl,rfl,B3 h,Priv.nil _ _ _ _,rfl,Dig.nil,Norm.nil,rfl,by omega⟩,?_⟩
 rintro d1 A1 n1 c1 H ⟨f,a,e,A2,n2,c2,g,G,b,C,p,J,E,D,z,S⟩
 simp only [bO,cV,Value.string.injEq,and_true] at G
 obtain ⟨rfl,rfl,rfl,rfl⟩:=G
 have F:l.length=f.length+a.length:=by rw [b,aH]
 rw [H9]
 refine B6 (fun Q=>?_) (fun Q=>?_)
 ·obtain ⟨sz,hsz⟩:∃ sz,sz=(a.length-1)%19+1:=⟨_,rfl⟩
  have t:B4 (dN (B4 ((a.length:Int)-1)) 19+1)=(sz:Int):=by
   rw [B7 (n:=(a.length:Int)-1) (by omega) (by omega),bW (by omega),B7 (by omega) (by omega)];omega
  rw [t,aC,L3]
  refine ⟨⟨by omega,by omega⟩,A9q T1 Eg.und Cm ?_⟩
  intro T tc h2 X W B
  refine ⟨_,_,_,rfl,?_⟩
  have M:(a.drop 0).take (sz-0)=a.take sz:=by simp
  rw [M] at B ⊢
  have m:(a.take sz).length=sz:=by rw [aF];omega
  obtain ⟨g2,q,V⟩:=p.after X
  refine B0k B rfl (fun c i=>hd c (by rw [b];exact List.mem_append_right _ (fT i))) (by omega) ?_
  rw [H9,t]
  refine ⟨⟨by omega,by omega⟩,?_⟩
  have x:=Gr (l:=a.take sz) (fun c i=>hd c (by rw [b];exact List.mem_append_right _ (fT i)))
  rw [m] at x ⊢
  have ht:=B8y (k:=sz) (by omega)
  have R:0<10^sz:=cW (by decide)
  refine B7s V J E D (by omega) (by omega) (by omega) ?_
  intro A' Z L r h' N u p' w O y j o
  rw [H9,t,aC,L3,aK (by rw [aN];omega)]
  refine ⟨⟨f++a.take sz,a.drop sz,r,A',Z,L,N,rfl,by rw [aU,cI];exact b,Heap.le_trans C (Heap.le_trans q u),p',w,y,j,?_,by rw [aH,m];omega⟩,?_⟩
  ·rw [o,z,Gs,m,fP,cD,aR];omega
  ·simp only [H9,aN];omega
 ·have:a=[]:=aM (by omega)
  subst this
  rw [bX] at b
  subst b
  exact hK _ _ _ _ (Heap.le_trans C p.le) p.2.1 ⟨e,J,p.slV,E,D,z⟩
end
def zb(l:List UInt8):List Int:=l.map fun c=>(c.toNat:Int)
def Ho(l:List UInt8):(zb l).length=l.length:=by simp [zb]
def A2j(a b:List UInt8):zb (a++b)=zb a++zb b:=by simp [zb]
def C2w(l:List UInt8):(zb l).map (bB .u8)=yv l:=by simp [zb,yv]
def A9w:∀ v,v<100->J1[2*v+1]? = some (dch (v%10))/\J1[2*v]? = some (dch (v/10)):=by decide +kernel
def A2u(a:Nat):dN (a:Int) 100=((a%100:Nat):Int):=(dI a 100).symm
def tm4(a:Nat):dN (a:Int) 10000=((a%10000:Nat):Int):=(dI a 10000).symm
def tm8(a:Nat):dN (a:Int) 100000000=((a%100000000:Nat):Int):=(dI a 100000000).symm
def A5x(a:Nat):cM (a:Int) 100=((a/100:Nat):Int):=(cL a 100).symm
def td4(a:Nat):cM (a:Int) 10000=((a/10000:Nat):Int):=(cL a 10000).symm
def td8(a:Nat):cM (a:Int) 100000000=((a/100000000:Nat):Int):=(cL a 100000000).symm
def Hj{a:Nat}(h:a<4294967296):F6 (a:Int)=a:=O1 (by omega) (by omega)
def Nr(a:Nat):(a:Int)*2=((2*a:Nat):Int):=by omega
def A78(a:Nat):(a:Int)+1=((a+1:Nat):Int):=by omega
def FBI(g:bC)(b:Nat)(e:cC)(A:Option bI)(pre post:List dC)(N u0 nd u:Nat)(hp:bC):Prop:=
 ∃ (ys:List Int) (t:List UInt8),Win .u8 hp g b e A pre (ys++zb t) post/\ys.length=nd/\nd+t.length=N/\pad N u0=pad nd u++t/\u<10^nd
section
variable {P:dG} {h g:bC} {K:VP} {A:Option bI} {b:Nat} {e:cC} {pre post:List dC}
def Kz(one:P.cellsOf 5=1/\(P.info? 5).isSome=true){N u0 j u:Nat}(f:FBI g b e A pre post N u0 (j+2) u h){E1 E0 I1 I2:Int}(h1:E1=((2*(u%100)+1:Nat):Int))(h0:E0=((2*(u%100):Nat):Int))(hI1:I1=((j+1:Nat):Int))(hI2:I2=(j:Int)){C:bC->Prop}(hC:∀ h',FBI g b e A pre post N u0 j (u/100) h'->C h'):
 ∃ (t:UInt8),(0<=E1/\J1[E1.toNat]? = some t)/\∃ (t0:UInt8),(0<=E0/\J1[E0.toNat]? = some t0)/\∃ a1,A=some a1/\0<=I1/\I1<((N:Nat):Int)/\wpH P (dO 5 (.pointer (some (eE a1 (I1.toNat*1)))) (Y ((t.toNat:Nat):Int))) (fun _ hp1=>∃ a2,A=some a2/\0<=I2/\I2<((N:Nat):Int)/\wpH P (dO 5 (.pointer (some (eE a2 (I2.toNat*1)))) (Y ((t0.toNat:Nat):Int))) (fun _ hp2=>C hp2) hp1) h:=by
 subst h1 h0 hI1 hI2
 obtain ⟨c,t,w,B,D,q,i⟩:=f
 obtain ⟨r,m⟩:=A9w (u%100) (by omega)
 have s:∃ a,A=some a:=by
  rcases w.at_ with h0|h0
  ·have:=congrArg List.length h0
   rw [aH,gK] at this;omega
  ·exact ⟨_,h0⟩
 obtain ⟨a,d⟩:=s
 have y:(c++zb t).length=N:=by rw [aH,Ho];omega
 refine ⟨_,⟨by omega,by rw [aC];exact r⟩,_,⟨by omega,by rw [aC];exact m⟩,a,d,by omega,by omega,?_⟩
 rw [aC]
 refine w.storeN one d (by omega) ?_
 intro z o
 refine ⟨a,d,by omega,by omega,?_⟩
 rw [aC]
 refine o.storeN one d (by rw [bN];omega) ?_
 intro p k
 refine hC p ⟨c.take j,[dch (u/10%10),dch (u%10)]++t,?_,by rw [aF];omega,by simp;omega,?_,?_⟩
 ·have n:((c++zb t).set (j+1) ((dch (u%100%10)).toNat:Int)).set j ((dch (u%100/10)).toNat:Int)=c.take j++zb ([dch (u/10%10),dch (u%10)]++t):=by
   have x:c=c.take j++[c[j]'(by omega),c[j+1]'(by omega)]:=by
    conv=>lhs;rw [<- cI j c]
    congr 1
    rw [cH (by omega),cH (by omega),aY (by omega)]
   have l:(c.take j).length=j:=by rw [aF];omega
   rw [x,show u%100%10=u%10 by omega,show u%100/10=u/10%10 by omega]
   generalize c[j]'_=y0
   generalize c[j+1]'_=y1
   rw [cJ (by omega),aK (show (c.take j).length<=j by omega)]
   generalize c.take j=zs at *
   rw [aU,fR _ _ (by omega),fR _ _ (by omega),l,A2j]
   simp [zb]
  rw [n] at k;exact k
 ·rw [q,C13];simp
 ·rw [eB] at i
  exact Nat.div_lt_of_lt_mul (by rw [fH];exact i)
end
section
variable {h g:bC} {K:VP} {A:Option bI} {b:Nat} {e:cC} {pre post:List dC}
def Ms:prog.cellsOf 5=1/\(prog.info? 5).isSome=true:=A9v
def C3k{N u0 nd x:Nat}(hN:N<=24)(f:FBI g b e A pre post N u0 nd x h)(hn:nd<2)(hK:∀ h',Win .u8 h' g b e A pre (zb (pad N u0)) post->K (.tuple #[]) h'):Bc prog A N K nd x h:=by
 obtain ⟨c,t,w,j,hN,m,k⟩:=f
 unfold Bc
 refine B6 (fun p=>?_) (fun p=>?_)
 ·obtain rfl:nd=1:=by omega
  obtain ⟨y,rfl⟩:∃ y,c=[y]:=by
   rcases c with _|⟨y,_|⟨z,r⟩⟩
   ·simp at j
   ·exact ⟨y,rfl⟩
   ·simp at j
  have q:∃ a,A=some a:=by
   rcases w.at_ with i|i
   ·simp at i
   ·exact ⟨_,i⟩
  obtain ⟨a,n⟩:=q
  refine ⟨a,n,by omega,by omega,?_⟩
  rw [show ((0:Int)).toNat=0 from rfl]
  refine w.storeN Ms n (by simp) ?_
  intro o l
  refine hK o ?_
  have d:x<10:=by simpa using k
  have ev:wu8 (F6 (48+(x:Int)))=((dch x).toNat:Int):=by
   rw [O1 (by omega) (by omega),Yc (by omega) (by omega),Ew d];omega
  rw [ev] at l
  have s:pad 1 x=[dch x]:=by
   rw [Tj,B2w _ (by omega),show x%10=x by omega];rfl
  rw [m,s,A2j]
  simpa [zb] using l
 ·obtain rfl:nd=0:=by omega
  have:c=[]:=aM j
  subst this
  have d:x=0:=by simpa using k
  refine hK h ?_
  rw [m,B2w _ d]
  simpa using w
def C3j{N u0 nd x:Nat}(hN:N<=24)(f:FBI g b e A pre post N u0 nd x h)(hn:nd<4)(hK:∀ h',Win .u8 h' g b e A pre (zb (pad N u0)) post->K (.tuple #[]) h'):Be prog A N K nd x h:=by
 unfold Be
 have s:x<10000:=by
  obtain ⟨_,_,_,_,_,_,k⟩:=f
  exact cZ k (eK (bK (by decide) (show nd<=4 by omega)) (by decide))
 refine ⟨fun l d=>∃ nd x:Nat,l=[I nd,U32 x]/\FBI g b e A pre post N u0 nd x d/\nd<2,B6 (fun q=>?_) (fun q=>?_),?_⟩
 ·obtain ⟨j,rfl⟩:∃ j,nd=j+2:=⟨nd-2,by omega⟩
  refine Kz Ms f ?_ ?_ (by rw [B7 (by omega) (by omega)];omega) (by rw [B7 (by omega) (by omega)];omega) ?_
  ·simp (disch:=omega) only [A2u,Hj,Nr,A78]
  ·simp (disch:=omega) only [A2u,Hj,Nr]
  ·intro t o
   refine ⟨j,x/100,?_,o,by omega⟩
   rw [B7 (by omega) (by omega),A5x,Hj (by omega)]
   simp only [bO,cR,and_true,true_and];omega
 ·exact ⟨nd,x,rfl,f,by omega⟩
 ·rintro c i d ⟨m,n,p,r,a⟩
  obtain ⟨rfl,rfl⟩:c=(m:Int)/\i=(n:Int):=by simpa using p
  exact C3k hN r a hK
def X5{u an ac:Nat}{xs:List Int}(w:Win .u8 h g b e A pre xs post)(hn:an=xs.length)(hN:an<=24)(hu:u<10^an)(hu2:u<18446744073709551616)(hK:∀ h',Win .u8 h' g b e A pre (zb (pad an u)) post->K (.tuple #[]) h'):aW prog Q8 #[.slice A an ac,U (u:Int)] h K:=by
 refine Te _ _ _ _ ?_
 unfold Pl
 refine ⟨fun l d=>∃ a v:Nat,l=[U v,I a]/\FBI g b e A pre post an u a v d/\v<=u,fun l _=>(iAt l 1).toNat,⟨an,u,rfl,⟨xs,[],by simpa [zb] using w,hn.symm,by simp,by simp,hu⟩,aZ _⟩,?_⟩
 rintro L i d ⟨a,v,B,f,M⟩
 obtain ⟨rfl,rfl⟩:L=(v:Int)/\i=(a:Int):=by simpa using B
 have J:a<=an:=by obtain ⟨_,_,_,_,hN,_,_⟩:=f;omega
 refine B6 (fun z=>?_) (fun z=>?_)
 ·obtain ⟨j,rfl⟩:∃ j,a=j+8:=⟨a-8,by omega⟩
  refine Kz (j:=j+6) Ms f ?_ ?_ (by rw [B7 (by omega) (by omega)];omega) (by rw [B7 (by omega) (by omega)];omega) ?_
  ·simp (disch:=omega) only [tm8,tm4,A2u,Hj,Nr,A78];omega
  ·simp (disch:=omega) only [tm8,tm4,A2u,Hj,Nr];omega
  intro p G
  refine Kz (j:=j+4) Ms G ?_ ?_ (by rw [B7 (by omega) (by omega)];omega) (by rw [B7 (by omega) (by omega)];omega) ?_
  ·simp (disch:=omega) only [tm8,tm4,A5x,Hj,Nr,A78];omega
  ·simp (disch:=omega) only [tm8,tm4,A5x,Hj,Nr];omega
  intro F c
  refine Kz (j:=j+2) Ms c ?_ ?_ (by rw [B7 (by omega) (by omega)];omega) (by rw [B7 (by omega) (by omega)];omega) ?_
  ·simp (disch:=omega) only [tm8,A2u,td4,Hj,Nr,A78];omega
  ·simp (disch:=omega) only [tm8,A2u,td4,Hj,Nr];omega
  intro H k
  refine Kz (j:=j) Ms k ?_ ?_ (by rw [B7 (by omega) (by omega)];omega) (by rw [B7 (by omega) (by omega)];omega) ?_
  ·simp (disch:=omega) only [tm8,A5x,td4,Hj,Nr,A78];omega
  ·simp (disch:=omega) only [tm8,A5x,td4,Hj,Nr];omega
  intro N t
  have D:B4 (((j+8:Nat):Int)-8)=(j:Int):=by rw [B7 (by omega) (by omega)];omega
  have r:C0 (cM (v:Int) 100000000)=((v/100/100/100/100:Nat):Int):=by
   rw [td8,C2 (by omega) (by omega)];omega
  rw [D,r]
  exact ⟨⟨j,_,rfl,t,by omega⟩,by simp only [iAt,aG,aL];omega⟩
 ·have E:v<100000000:=by
   obtain ⟨_,_,_,_,_,_,hu⟩:=f
   exact cZ hu (eK (bK (by decide) (show a<=8 by omega)) (by decide))
  refine ⟨fun l d=>∃ a x:Nat,l=[I a,U32 x]/\FBI g b e A pre post an u a x d/\a<4,B6 (fun p=>?_) (fun p=>?_),?_⟩
  ·obtain ⟨j,rfl⟩:∃ j,a=j+4:=⟨a-4,by omega⟩
   refine Kz (j:=j+2) Ms f ?_ ?_ (by rw [B7 (by omega) (by omega)];omega) (by rw [B7 (by omega) (by omega)];omega) ?_
   ·simp (disch:=omega) only [tm4,A2u,Hj,Nr,A78];omega
   ·simp (disch:=omega) only [tm4,A2u,Hj,Nr];omega
   intro F c
   refine Kz (j:=j) Ms c ?_ ?_ (by rw [B7 (by omega) (by omega)];omega) (by rw [B7 (by omega) (by omega)];omega) ?_
   ·simp (disch:=omega) only [tm4,A5x,Hj,Nr,A78];omega
   ·simp (disch:=omega) only [tm4,A5x,Hj,Nr];omega
   intro H k
   refine ⟨j,v/100/100,?_,k,by omega⟩
   rw [B7 (by omega) (by omega),Hj (by omega),td4,Hj (by omega)]
   simp only [bO,cR,and_true,true_and];omega
  ·exact ⟨a,v,by rw [Hj (by omega)],f,by omega⟩
  ·rintro m C y ⟨s,q,n,c,o⟩
   obtain ⟨rfl,rfl⟩:m=(s:Int)/\C=(q:Int):=by simpa using n
   exact C3j hN c o hK
end
def Vh{P:dG}{h:bC}{l:List UInt8}{m:Nat}{ys:List dC}(hy:ys=yv l)(hm:m=l.length){K:Array dC->bC->Prop}(x:K ys.toArray h):wpH P (Builtin.firstCells 1 m (.string (bs l))) K h:=by
 subst hm hy
 show K _ h
 have e:((bs l).extract 0 l.length).data.map (fun b=>bB .u8 b.toNat)=(yv l).toArray:=by
  rw [L3]
  apply Array.toList_inj.1
  simp [bs,yv]
 rw [e];exact x
def Wc{P:dG}{t e e' ty:cC}{z:dC}{bytes:Nat}(st:SliceT P t e z 1 bytes){h g:bC}{A:Option bI}{n c:Nat}{xs:List dC}(p:eU h g e' 1 A n c xs)
 {B:Option bI} {m d:Nat} {ys:List dC} (hy:ys.length=m) (hc:SlV h B ys) (h1:∀ v∈ys,A8f v=true) (hb:(2*(n+m)+192)*bytes<=281474976710656) (hm:n+m<=9223372036854775807) {K:VP}
 (x1:n+m<=c->∀ h',eU h' g e' 1 A (n+m) c (xs++ys)->K (.slice A (n+m) c) h') (x2:c<n+m->∀ A' c' h' g',g.le g'->eU h' g' e 1 A' (n+m) c' (xs++ys)->K (.slice A' (n+m) c') h'):
 wpH P (dQ #[t,t] ty #[.slice A n c,.slice B m d]) K h:=by
 obtain ⟨i,C,hz,H,D⟩:=st.parts
 have O:=st.pos
 have y:=p.1
 rw [cF] at y
 unfold dQ
 simp only [dE,aG,aL,C5,E9 st.und,N4 C,G2,eS,if_false,fY,H,Bool.not_false,if_true]
 by_cases f:n+m<=c
 ·simp only [f,if_true,C5]
  refine L6 (by omega) hc ?_
  rcases p.2.2 with ⟨M,hg⟩|⟨b,k,hA,R,hh,o,u⟩
  ·have Q:n=0:=by omega
   have T:m=0:=by omega
   subst Q;subst hg
   have r:ys=[]:=aM (by omega)
   have J:xs=[]:=aM (by omega)
   have s:K (.slice A (0+m) c) h:=x1 f h ⟨by rw [r,J,T];rfl,by omega,.inl ⟨M,rfl⟩⟩
   subst r
   cases A with
   | none=>exact s
   | some a=>exact s
  ·subst hA
   simp only [C5,E6,fG]
   rw [hh]
   rw [cF] at o u ⊢
   refine J8 ys.toArray.toList n 0 k ?_ (fun v W=>h1 v (by simpa using W)) ?_
   ·simp only
    omega
   ·simp only [G2,dU]
    refine x1 f _ ⟨by rw [aH];omega,f,.inr ⟨b,_,rfl,R,rfl,?_,?_⟩⟩
    ·simp only [N5,aH,aF,aN,o,hy];omega
    ·have x:(k.take n).length=n:=by rw [aF,o];omega
     unfold N5
     have t1:(k.take n).take (n+m)=k.take n:=aK (by rw [x];omega)
     have X:ys.take m=ys:=aK (by omega)
     rw [cF,aU,dK,x,cG,dK,t1,X,hy,gC,List.take_zero,bX,u]
 ·have E:c<n+m:=by omega
  simp only [f,if_false,C5,I5 C,D]
  have N:=Qg E
  have aa:Builtin.nextslicecap (n+m) c*bytes<=281474976710656:=eK (Nat.mul_le_mul_right _ N) hb
  rw [iN (by rintro ⟨h',_⟩;simp only [IntKind.max,IntKind.signed,IntKind.bits] at h';simp at h';omega)]
  simp only [C5,I5 C,D]
  rw [iN (by simp only [show (2^48:Nat)=281474976710656 from rfl];omega)]
  simp only [G2,C5]
  refine Jm rfl fun Z=>?_
  simp only [Fi,I5 C]
  have G:xs=[]\/∃ a,A=some a/\∀ j v,xs[j]? = some v->h.cell? (a.add j)=some v:=p.slV
  refine L6 p.1 G ?_
  refine L6 (by omega) hc ?_
  simp only [R3 C hz,R4]
  intro b q
  have w:∃ l,(Question.appendCap (n+m) c e).cut Z=l/\n+m<=l:=⟨_,rfl,by simp only [Question.cut];omega⟩
  obtain ⟨l,S,V⟩:=w
  rw [S]
  have F:=p.le
  refine x2 E _ l _ h F ⟨by rw [aH];omega,V,.inr ⟨b,xs++ys++(dF z.cells (l-(n+m))).toList,rfl,q,?_,?_,?_⟩⟩
  ·congr 1;simp
  ·have L:(dF z.cells (l-(n+m))).toList.length=l-(n+m):=by simp [dF,st.cells]
   rw [aH,aH,y,hy,L];omega
  ·rw [cF,cJ (by rw [aH];omega),aK (by rw [aH];omega)]
def B0m{P:dG}{t e e' ty t2:cC}{z:dC}{bytes:Nat}(st:SliceT P t e z 1 bytes)(hu:P.underlying t2=some .string){h g:bC}{A:Option bI}{n c:Nat}{xs:List dC}(p:eU h g e' 1 A n c xs)
 {m:Nat} {l:List UInt8} {ys:List dC} (hly:ys=yv l) (hm0:m=l.length) (hy:ys.length=m) (h1:∀ v∈ys,A8f v=true) (hb:(2*(n+m)+192)*bytes<=281474976710656) (hm:n+m<=9223372036854775807) {K:VP}
 (x1:n+m<=c->∀ h',eU h' g e' 1 A (n+m) c (xs++ys)->K (.slice A (n+m) c) h') (x2:c<n+m->∀ A' c' h' g',g.le g'->eU h' g' e 1 A' (n+m) c' (xs++ys)->K (.slice A' (n+m) c') h'):
 wpH P (dQ #[t,t2] ty #[.slice A n c,.string (bs l)]) K h:=by
 obtain ⟨i,B,hz,G,C⟩:=st.parts
 have N:=st.pos
 have y:=p.1
 rw [cF] at y
 unfold dQ
 simp only [dE,aG,aL,C5,E9 st.und,E9 hu,N4 B,G2,eS,if_false,fY,G,Bool.not_false,if_true,H9,<- hm0]
 by_cases d:n+m<=c
 ·simp only [d,if_true,C5]
  refine Vh hly hm0 ?_
  rcases p.2.2 with ⟨L,W⟩|⟨b,f,Z,Q,X,o,u⟩
  ·have O:n=0:=by omega
   have hm0:m=0:=by omega
   subst O;subst W
   have r:ys=[]:=aM (by omega)
   have H:xs=[]:=aM (by omega)
   have s:K (.slice A (0+m) c) h:=x1 d h ⟨by rw [r,H,hm0];rfl,by omega,.inl ⟨L,rfl⟩⟩
   subst r
   cases A with
   | none=>exact s
   | some a=>exact s
  ·subst Z
   simp only [C5,E6,fG]
   rw [X]
   rw [cF] at o u ⊢
   refine J8 ys.toArray.toList n 0 f ?_ (fun v T=>h1 v (by simpa using T)) ?_
   ·simp only
    omega
   ·simp only [G2,dU]
    refine x1 d _ ⟨by rw [aH];omega,d,.inr ⟨b,_,rfl,Q,rfl,?_,?_⟩⟩
    ·simp only [N5,aH,aF,aN,o,hy];omega
    ·have x:(f.take n).length=n:=by rw [aF,o];omega
     unfold N5
     have t1:(f.take n).take (n+m)=f.take n:=aK (by rw [x];omega)
     have t2:ys.take m=ys:=aK (by omega)
     rw [cF,aU,dK,x,cG,dK,t1,t2,hy,gC,List.take_zero,bX,u]
 ·have D:c<n+m:=by omega
  simp only [d,if_false,C5,I5 B,C]
  have M:=Qg D
  have aa:Builtin.nextslicecap (n+m) c*bytes<=281474976710656:=eK (Nat.mul_le_mul_right _ M) hb
  rw [iN (by rintro ⟨h',_⟩;simp only [IntKind.max,IntKind.signed,IntKind.bits] at h';simp at h';omega)]
  simp only [C5,I5 B,C]
  rw [iN (by simp only [show (2^48:Nat)=281474976710656 from rfl];omega)]
  simp only [G2,C5]
  refine Jm rfl fun V=>?_
  simp only [Fi,I5 B]
  have F:xs=[]\/∃ a,A=some a/\∀ j v,xs[j]? = some v->h.cell? (a.add j)=some v:=p.slV
  refine L6 p.1 F ?_
  refine Vh hly hm0 ?_
  simp only [R3 B hz,R4]
  intro b q
  have w:∃ k,(Question.appendCap (n+m) c e).cut V=k/\n+m<=k:=⟨_,rfl,by simp only [Question.cut];omega⟩
  obtain ⟨k,R,S⟩:=w
  rw [R]
  have E:=p.le
  refine x2 D _ k _ h E ⟨by rw [aH];omega,S,.inr ⟨b,xs++ys++(dF z.cells (k-(n+m))).toList,rfl,q,?_,?_,?_⟩⟩
  ·congr 1;simp
  ·have J:(dF z.cells (k-(n+m))).toList.length=k-(n+m):=by simp [dF,st.cells]
   rw [aH,aH,y,hy,J];omega
  ·rw [cF,cJ (by rw [aH];omega),aK (by rw [aH];omega)]
def A0n(l:List UInt8):∀ v∈yv l,A8f v=true:=by
 intro v a
 simp only [yv,List.mem_map] at a
 obtain ⟨c,_,rfl⟩:=a
 rfl
def Dn{P:dG}{t:cC}{z v:dC}(hz:(P.info? t).map (fun i=>i.zero)=some (some z)){K:VP}{h:bC}(x:∀ b,h b=none->K (.pointer (some ⟨b,0,none⟩)) (h.put b (.cells z.cells t))):wpH P (Instr.alloc t true v) K h:=by
 cases hi:P.info? t with
 | none=>rw [hi] at hz;cases hz
 | some i=>
  rw [hi] at hz
  simp only [gJ,fZ] at hz
  unfold Instr.alloc
  simp only [C5,R3 hi hz]
  unfold newVar
  simp only [R4,G2]
  exact x
def A94:(prog.info? Ue).map (fun i=>i.zero)=some (some (.agg (fQ 24 (.int .u8 0)))):=by kernel_rfl
def Gp(h:bC):Prop:=∀ k,k<20->h.cell? (eE ⟨3,0,none⟩ (k*1))=some (U ((10^k:Nat):Int))
def Gp.mono{h h':bC}(g:Gp h)(l:h.le h'):Gp h':=fun k a=>B5 l (g k a)
section
variable {h g:bC} {K:VP}
def Yg{i:Nat}(hi:i<100)(hK:K (.string (bs (N8 i))) h):aW prog To #[I i] h K:=by
 refine B5e _ ?_
 unfold B9x
 have key:∀ i:Nat,i<100->(i<10->A0q.extract i (i+1)=bs (N8 i))/\(¬ i<10->J1.extract (2*i) (2*i+2)=bs (N8 i)):=by
  intro i hi
  have d:N8 i=if i<10 then [dch i] else [dch (i/10),dch (i%10)]:=by
   split
   ·by_cases b:i=0
    ·subst b;rfl
    ·rw [Z8 b,T6 b,show i/10=0 by omega,I8,show i%10=i by omega];rfl
   ·rw [Z8 (by omega),T6 (by omega),T6 (by omega),show i/10/10=0 by omega,I8,show i/10%10=i/10 by omega];rfl
  rw [d]
  revert i
  decide +kernel
 obtain ⟨c,g⟩:=key i hi
 refine B6 (fun e=>?_) (fun e=>?_)
 ·have a:B4 ((i:Int)+1)=((i+1:Nat):Int):=by rw [B7 (by omega) (by omega)];omega
  rw [a,aC,aC,c (by omega)]
  exact ⟨⟨by omega,by show _<=((36:Nat):Int);omega⟩,⟨by omega,by omega⟩,hK⟩
 ·have a:B4 ((i:Int)*2)=((2*i:Nat):Int):=by rw [B7 (by omega) (by omega)];omega
  have f:B4 (((2*i:Nat):Int)+2)=((2*i+2:Nat):Int):=by rw [B7 (by omega) (by omega)];omega
  rw [a,f,aC,aC,g (by omega)]
  exact ⟨⟨by omega,by show _<=((200:Nat):Int);omega⟩,⟨by omega,by omega⟩,hK⟩
def Dt{d:Nat}(gp:Gp h)(h0:d≠0)(hd:d<18446744073709551616)(hK:K (I ((dd d).length:Int)) h):aW prog Ah #[U (d:Int)] h K:=by
 refine A22 _ ?_
 unfold Zi
 have c:O0 d<=64:=Iv hd
 obtain ⟨_,_,e⟩:=B97 (O0 d) (by omega)
 refine A8i hd ⟨_,rfl,A23 _ ?_⟩
 unfold Zj
 have b:eD (B4 ((O0 d:Int)*78913)) (2^(min ((18:Int)).toNat 64))=((ndg (O0 d):Nat):Int):=by
  rw [show (2:Int)^(min ((18:Int)).toNat 64)=262144 by decide,eQ _ (by decide),B7 (by omega) (by omega)]
  unfold ndg;omega
 rw [b]
 refine ⟨_,rfl,⟨by omega,by omega⟩,_,by rw [aC];exact gp _ (by omega),B5f _ ?_⟩
 unfold B9y
 rw [C3f h0 hd] at hK
 refine B6 (fun a=>⟨_,rfl,?_⟩) (fun a=>⟨_,rfl,?_⟩)
 ·rw [iP (by omega)] at hK
  rw [B7 (by omega) (by omega)]
  exact hK
 ·rw [iN (by omega)] at hK
  rw [B7 (by omega) (by omega)]
  exact hK
def Cx{e':cC}{A:Option bI}{n c i:Nat}{l:List UInt8}(gp:Gp h)(p:eU h g e' 1 A n c (yv l))(hi:i<18446744073709551616)(hn:n<=1000000000000)
 (hK:∀ A' c' e2 h' g',g.le g'->eU h' g' e2 1 A' (n+(N8 i).length) c' (yv (l++N8 i))->(n+(N8 i).length<=c->A'=A/\c'=c/\e2=e')->(e'=F8->e2=F8)->K (.slice A' (n+(N8 i).length:Nat) c') h'):aW prog V4 #[.slice A n c,U (i:Int),I 10] h K:=by
 refine Xv _ _ _ _ _ ?_
 unfold Wu
 refine D8 (fun _=>?_) (fun e=>absurd rfl e)
 have r:(N8 i).length<=20:=(Ov (by decide)).2 (by show i<10^20;omega)
 refine B6 (fun G=>?_) (fun G=>?_)
 ·rw [B7 (by omega) (by omega)]
  refine Yg (by omega) ⟨_,rfl,?_⟩
  refine B0m Eg T1 p (l:=N8 i) rfl rfl (Hr _) (A0n _) (by omega) (by omega) ?_ ?_
  ·intro u h' a
   rw [<- T9] at a
   exact ⟨_,_,_,rfl,hK _ _ _ _ _ (B3 _) a (fun _=>⟨rfl,rfl,rfl⟩) id⟩
  ·intro u A' c' h' g' q a
   rw [<- T9] at a
   exact ⟨_,_,_,rfl,hK _ _ _ _ _ q a (fun e=>by omega) (fun _=>rfl)⟩
 ·refine Dn A94 ?_
  intro b f
  have L:(Value.agg (fQ 24 (.int .u8 0))).cells=((aE 24 (0:Int)).map (bB .u8)).toArray:=by rfl
  rw [L]
  have E:Win .u8 (h.put b (.cells ((aE 24 (0:Int)).map (bB .u8)).toArray Ue)) h b Ue (some ⟨b,0,none⟩) [] (aE 24 (0:Int)) []:=⟨f,by simp,.inr rfl⟩
  generalize (h.put b (.cells ((aE 24 (0:Int)).map (bB .u8)).toArray Ue))=h1' at *
  refine ⟨_,rfl,Dt (gp.mono E.le) (by omega) hi ⟨_,rfl,?_⟩⟩
  have y:N8 i=dd i:=Z8 (by omega)
  rw [y] at r hK
  refine ⟨⟨by omega,by omega⟩,?_⟩
  rw [aC,bV]
  have D:=E.sub (l:=0) (m:=(dd i).length) (c:=24) (by omega) (by simp;omega) (by simp)
  have x:((aE 24 (0:Int)).drop 0).take ((dd i).length-0)=aE (dd i).length 0:=by
   rw [cK,bZ,bV,aI (by omega)]
  rw [x] at D
  have t:i<10^(dd i).length:=Q9.1 (aZ _)
  refine X5 D (by simp) (by omega) t hi ?_
  intro C s
  refine ⟨rfl,⟨by omega,by omega⟩,?_⟩
  have w:pad (dd i).length i=dd i:=by simp [pad]
  rw [w] at s
  have J:SlV C (J9 (some ⟨b,0,none⟩) 24 0 1) (yv (dd i)):=by
   have:=s.sl
   unfold SlI at this
   rw [C2w] at this
   exact this
  have j:=s.eq
  obtain ⟨o,ho⟩:∃ o,C=h.put b o:=⟨_,j⟩
  subst ho
  have H:=p.put f o
  have d:g.le (g.put b o):=by
   intro k F B
   have z:k≠b:=by
    rintro rfl
    rw [p.le k F B] at f;cases f
   rw [B8 _ _ z];exact B
  refine Wc Eg H (Hr _) J (A0n _) (by omega) (by omega) ?_ ?_
  ·intro u h' a
   rw [<- T9] at a
   exact ⟨_,_,_,rfl,hK _ _ _ _ _ d a (fun _=>⟨rfl,rfl,rfl⟩) id⟩
  ·intro u A' c' h' g' q a
   rw [<- T9] at a
   exact ⟨_,_,_,rfl,hK _ _ _ _ _ (Heap.le_trans d q) a (fun e=>by omega) (fun _=>rfl)⟩
end
structure Ext (g:bC) (e':cC) (A:Option bI) (n c:Nat) (l t:List UInt8) (A':Option bI) (n' c':Nat) (e2:cC) (g' h':bC):Prop where
 le:g.le g'
 priv:eU h' g' e2 1 A' n' c' (yv (l++t))
 len:n'=n+t.length
 fit:n+t.length<=c->A'=A/\c'=c/\e2=e'
 tag:e'=F8->e2=F8
def Ext.trans{g g1 g2 h1 h2:bC}{e' e1 e2:cC}{A A1 A2:Option bI}{n c n1 c1 n2 c2:Nat}{l t s:List UInt8}(x:Ext g e' A n c l t A1 n1 c1 e1 g1 h1)(y:Ext g1 e1 A1 n1 c1 (l++t) s A2 n2 c2 e2 g2 h2):Ext g e' A n c l (t++s) A2 n2 c2 e2 g2 h2:=by
 refine ⟨Heap.le_trans x.le y.le,?_,?_,?_,fun e=>y.tag (x.tag e)⟩
 ·have:=y.priv;rwa [aU] at this
 ·rw [y.len,x.len,aH];omega
 ·intro a
  rw [aH] at a
  obtain ⟨rfl,rfl,rfl⟩:=x.fit (by omega)
  have b:=x.len
  exact y.fit (by omega)
section
variable {h g:bC} {K:VP} {A:Option bI} {n c:Nat} {e':cC} {l:List UInt8}
def Hc{i:Nat}(gp:Gp h)(p:eU h g e' 1 A n c (yv l))(hi:i<18446744073709551616)(hn:n<=1000000000000)
 (hK:∀ A' n' c' e2 g' h',Ext g e' A n c l (N8 i) A' n' c' e2 g' h'->K (.slice A' n' c') h'):aW prog Gm #[.slice A n c,U (i:Int),I 10] h K:=by
 refine Yb _ _ _ _ _ ?_
 unfold Xc
 refine Cx gp p hi hn ?_
 intro A' c' e2 h' g' b e a d
 exact ⟨_,_,_,rfl,hK _ _ _ _ _ _ ⟨b,e,rfl,a,d⟩⟩
def Fx{ch:UInt8}{v:Int}(hv:v=(ch.toNat:Int))(p:eU h g e' 1 A n c (yv l))(hn:n<=1000000000000){KK:Option bI->Nat->Nat->bC->Prop}
 (x:∀ A' n' c' e2 g' h',Ext g e' A n c l [ch] A' n' c' e2 g' h'->KK A' n' c' h'):
 wpH prog (Instr.buildSlice Hv 1 #[(0,Y v)]) (fun v1 hp1=>∃ (A1:Option bI) (n1 c1:Nat),v1= .slice A1 n1 c1/\wpH prog (dQ #[Hv,Hv] Hv #[.slice A n c,.slice A1 n1 c1]) (fun v2 hp2=>∃ (A2:Option bI) (n2 c2:Nat),v2= .slice A2 n2 c2/\KK A2 n2 c2 hp2) hp1) h:=by
 subst hv
 refine An Eg rfl ?_
 intro b a
 refine ⟨_,_,_,rfl,?_⟩
 have w:=p.put a (.cells #[Y (ch.toNat:Int)] F8)
 have d:g.le (g.put b (.cells #[Y (ch.toNat:Int)] F8)):=by
  intro k y q
  have i:k≠b:=by
   rintro rfl
   rw [p.le k y q] at a;cases a
  rw [B8 _ _ i];exact q
 have t:SlV (h.put b (.cells #[Y (ch.toNat:Int)] F8)) (some ⟨b,0,none⟩) (yv [ch]):=by
  refine .inr ⟨_,rfl,fun j u o=>?_⟩
  rw [E6,E7]
  match j with
  | 0=>simpa [yv] using o
  | j+1=>simp [yv] at o
 refine Wc Eg w (m:=1) (ys:=yv [ch]) rfl t (A0n _) (by omega) (by omega) ?_ ?_
 ·intro r h' f
  rw [<- T9] at f
  exact ⟨_,_,_,rfl,x _ _ _ _ _ _ ⟨d,f,rfl,fun _=>⟨rfl,rfl,rfl⟩,id⟩⟩
 ·intro r A' c' h' g' s f
  rw [<- T9] at f
  exact ⟨_,_,_,rfl,x _ _ _ _ _ _ ⟨Heap.le_trans d s,f,rfl,fun e=>by simp at e;omega,fun _=>rfl⟩⟩
def Th{i:Int}(h:i<0):Hl i=[45]++N8 i.natAbs:=by unfold Hl;rw [iP h];rfl
def Jp{i:Int}(h:¬ i<0):Hl i=N8 i.natAbs:=by unfold Hl;rw [iN h]
def Ko{i:Int}(gp:Gp g)(p:eU h g e' 1 A n c (yv l))(h1: -9223372036854775808<=i)(h2:i<9223372036854775808)(hn:n<=100000000000)
 (hK:∀ A' n' c' e2 g' h',Ext g e' A n c l (Hl i) A' n' c' e2 g' h'->K (.slice A' n' c') h'):aW prog Dj #[.slice A n c,I i,I 10] h K:=by
 refine A2h _ _ _ _ _ ?_
 unfold Zz
 refine A27 _ _ _ _ _ ?_
 unfold Zn
 refine B6 (fun b=>?_) (fun b=>?_)
 ·rw [Th b] at hK
  refine Fx (ch:=45) rfl p (by omega) ?_
  intro A1 s c1 r t q a
  have e:C0 (0-C0 i)=((i.natAbs:Nat):Int):=by rw [E4,E4];omega
  rw [e]
  refine Cx (gp.mono (Heap.le_trans a.le a.priv.le)) a.priv (by omega) (by have:=a.len;simp at this;omega) ?_
  intro A2 c2 e2 j o k m d f
  exact ⟨_,_,_,rfl,_,_,_,rfl,hK _ _ _ _ _ _ (a.trans ⟨k,m,rfl,d,f⟩)⟩
 ·rw [Jp b] at hK
  have e:C0 i=((i.natAbs:Nat):Int):=by rw [E4];omega
  rw [e]
  refine Cx (gp.mono p.le) p (by omega) (by omega) ?_
  intro A2 c2 e2 j o k m d f
  exact ⟨_,_,_,rfl,_,_,_,rfl,hK _ _ _ _ _ _ ⟨k,m,rfl,d,f⟩⟩
def A2l{b:Nat}{e:cC}{B:Option bI}{pre post:List dC}{s:List UInt8}(w:Win .u8 h g b e B pre (zb s) post):SlV h B (yv s):=by
 have:=w.sl
 unfold SlI at this
 rw [C2w] at this
 exact this
def Kj{i:Int}(gp:Gp h)(h1: -9223372036854775808<=i)(h2:i<9223372036854775808)(hK:K (.string (bs (Hl i))) h):aW prog Di #[I i,I 10] h K:=by
 refine FCall.pure (A2f _ _ ?_)
 unfold Zx
 refine A25 _ _ ?_
 unfold Zl
 refine D8 (fun _=>?_) (fun e=>absurd rfl e)
 refine ⟨fun L n=>L=[.bool (decide (0<=i/\i<100))]/\n=h,B6 (fun j=>⟨by simp [j],rfl⟩) (fun j=>⟨by simp [j],rfl⟩),?_⟩
 rintro t n ⟨H,rfl⟩
 obtain rfl:t=decide (0<=i/\i<100):=by simpa using H
 refine B6 (fun j=>?_) (fun j=>?_)
 ·obtain ⟨k,rfl⟩:∃ k:Nat,i=k:=⟨i.toNat,by omega⟩
  refine Yg (by omega) ⟨_,rfl,⟨_,rfl,B3 _,?_⟩⟩
  rw [Jp (by omega)] at hK
  exact hK
 ·refine Dn A94 ?_
  intro b D
  have J:(Value.agg (fQ 24 (.int .u8 0))).cells=((aE 24 (0:Int)).map (bB .u8)).toArray:=by rfl
  rw [J]
  have q:Win .u8 (n.put b (.cells ((aE 24 (0:Int)).map (bB .u8)).toArray Ue)) n b Ue (some ⟨b,0,none⟩) [] (aE 24 (0:Int)) []:=⟨D,by simp,.inr rfl⟩
  generalize (n.put b (.cells ((aE 24 (0:Int)).map (bB .u8)).toArray Ue))=hp1 at *
  refine ⟨_,rfl,?_⟩
  obtain ⟨u,hu⟩:∃ u:Nat,u=i.natAbs:=⟨_,rfl⟩
  have a:u≠0:=by omega
  have B:N8 u=dd u:=Z8 a
  have C:(dd u).length<=20:=Q9.2 (by show u<10^20;omega)
  have z:B4 (1+(((dd u).length:Nat):Int))=((1+(dd u).length:Nat):Int):=by rw [B7 (by omega) (by omega)];omega
  have r:=q.sub (l:=1) (m:=1+(dd u).length) (c:=24) (by omega) (by simp;omega) (by simp)
  have x:((aE 24 (0:Int)).drop 1).take (1+(dd u).length-1)=aE (dd u).length 0:=by
   rw [bF,bZ,aI (by omega)];congr 1;omega
  rw [x] at r
  have g:u<10^(dd u).length:=Q9.1 (aZ _)
  have o:pad (dd u).length u=dd u:=by simp [pad]
  have p:1+(dd u).length-1=(dd u).length:=by omega
  refine B6 (fun f=>?_) (fun f=>?_)
  ·rw [Th f,<- hu,B] at hK
   have e:C0 (0-C0 i)=(u:Int):=by rw [E4,E4];omega
   rw [e]
   refine Dt (gp.mono q.le) a (by omega) ⟨_,rfl,?_⟩
   rw [z,aC]
   refine ⟨⟨by omega,by omega⟩,⟨by omega,by omega⟩,?_⟩
   rw [show ((1:Int)).toNat=1 from rfl,p]
   refine X5 r (by simp) (by omega) g (by omega) ?_
   intro s d
   rw [o] at d
   refine ⟨rfl,B6 (fun _=>?_) (fun w=>absurd f w)⟩
   have G:=q.whole (l:=1) (m:=1+(dd u).length) (by omega) (by simp;omega) (by rw [Ho];omega) d
   refine ⟨⟨by omega,by omega⟩,?_⟩
   rw [show ((0:Int)).toNat=0 from rfl]
   refine G.storeN Ms rfl (by simp) ?_
   intro E A
   refine ⟨⟨by omega,by omega⟩,?_⟩
   have y:=A.sub (l:=0) (m:=1+(dd u).length) (c:=24) (by omega) (by simp [Ho];omega) (by simp [Ho];omega)
   have F:((((aE 24 (0:Int)).take 1++zb (dd u)++(aE 24 (0:Int)).drop (1+(dd u).length)).set 0 45).drop 0).take (1+(dd u).length-0)=zb ([45]++dd u):=by
    rw [cK,bZ,show min 1 24=1 from rfl,show aE 1 (0:Int)=[0] from rfl,aU,List.singleton_append,List.set_cons_zero,bV,Nat.add_comm 1,List.take_succ_cons,dB (Ho _)]
    rfl
   rw [F] at y
   refine Jq Eg.und Cm T1 (A2l y) (by simp;omega) ⟨_,rfl,_,rfl,?_,hK⟩
   exact A.le
  ·rw [Jp f,<- hu,B] at hK
   have e:C0 i=(u:Int):=by rw [E4];omega
   rw [e]
   refine Dt (gp.mono q.le) a (by omega) ⟨_,rfl,?_⟩
   rw [z,aC]
   refine ⟨⟨by omega,by omega⟩,⟨by omega,by omega⟩,?_⟩
   rw [show ((1:Int)).toNat=1 from rfl,p]
   refine X5 r (by simp) (by omega) g (by omega) ?_
   intro s d
   rw [o] at d
   refine ⟨rfl,B6 (fun w=>absurd w f) (fun _=>?_)⟩
   refine ⟨⟨by omega,by omega⟩,⟨by omega,by omega⟩,?_⟩
   exact Jq Eg.und Cm T1 (A2l d) rfl ⟨_,rfl,_,rfl,d.le,hK⟩
def Xm{s q:List UInt8}(hK:K (.tuple #[.string (bs (if q <+: s then s.drop q.length else s)),.bool (decide (q <+: s))]) h):aW prog Io #[.string (bs s),.string (bs q)] h K:=by
 refine A2g _ _ ?_
 unfold Zy
 refine A26 _ _ ?_
 unfold Zm
 have b:aW prog Ik #[.string (bs s),.string (bs q)] h (fun r b=>r= .bool (decide (q <+: s))/\b=h):=by
  refine A24 _ _ ?_
  unfold Zk
  simp only [H9]
  refine B6 (fun a=>?_) (fun a=>?_)
  ·refine ⟨⟨by omega,by omega⟩,?_,trivial⟩
   rw [aC,L3,Kn]
   congr 1
   rw [decide_eq_decide,cK,bV,List.prefix_iff_eq_take]
   exact eq_comm
  ·refine ⟨?_,trivial⟩
   congr 1
   symm
   rw [decide_eq_false_iff_not]
   intro c
   have:=c.length_le
   omega
 refine b.mono ?_
 rintro r d ⟨rfl,rfl⟩
 refine ⟨_,rfl,O9 (B6 (fun a=>?_) (fun a=>?_))⟩
 ·rw [iP a,decide_eq_true a] at hK
  have:=a.length_le
  simp only [H9]
  refine ⟨⟨by omega,by omega⟩,_,_,rfl,?_⟩
  rw [aC,L3,aK (by rw [aN];omega)]
  exact hK
 ·rw [iN a,decide_eq_false a] at hK
  exact ⟨_,_,rfl,hK⟩
end
abbrev cB:Int:=10000000000000000000
section
variable {h g:bC} {K:VP} {A B:Option bI} {ac bc:Nat}
def C3z{Invv:LP}{muv:LN}{WA CA:Option bI}{wn wc cn cc:Nat}{us:List Int}{hp1 g1:bC}(p:Pw hp1 g1 WA wn wc us)(hne:us≠[])(hwn:wn=us.length)(du:Dig b64 us)(hl:wn<=100000000)
 (hK:∀ (ws:List Int) (m:Nat) (r:Int) (hp2:bC),Pw hp2 g1 WA m wc (ws.take m)->m=(ws.take m).length->m<=wn->fU (ws.take m)->Dig b64 (ws.take m)->val b64 us=val b64 (ws.take m)*cB+r->(0<=r/\r<cB)->
  wpH prog (Instr.buildSlice Y6 1 #[(0,U r)]) (fun v hp6=>∃ (t44A:Option bI) (t44n:Nat) (t44c:Nat),v= .slice t44A t44n t44c/\wpH prog (dQ #[Y6,Y6] Y6 #[.slice CA cn cc,.slice t44A t44n t44c]) (fun v1 hp7=>∃ (t45A:Option bI) (t45n:Nat) (t45c:Nat),v1= .slice t45A t45n t45c/\Invv [.slice WA m wc,.slice t45A t45n t45c] hp7/\muv [.slice WA m wc,.slice t45A t45n t45c] hp7<muv [.slice WA wn wc,.slice CA cn cc] hp1) hp6) hp2):
 Cy prog Invv muv WA wn wc CA cn cc hp1:=by
 obtain ⟨b,g,N,R⟩:=Fg p hne
 unfold Cy
 refine ⟨fun s M=>∃ (k:Nat) (r:Int) (ws:List Int),s=[U r,I ((k:Int)-1)]/\k<=wn/\(0<=r/\r<cB)/\ws.length=us.length/\Dig b64 ws/\Win .u64 M g1 b C1 WA [] ws g/\ws.take k=us.take k/\val b64 (us.drop k)=val b64 (ws.drop k)*cB+r,fun s _=>(iAt s 1+1).toNat,⟨wn,0,us,by rw [B7 (by omega) (by omega)],by omega,by decide,rfl,du,N,rfl,by rw [aY (by omega)];simp [val]⟩,?_⟩
 rintro c i hp2 ⟨k,r,ws,L,Q,t,l,u,w,f,o⟩
 obtain ⟨rfl,rfl⟩:c=r/\i=(k:Int)-1:=by simpa using L
 refine B6 (fun D=>?_) (fun D=>?_)
 ·obtain ⟨j,rfl⟩:∃ j,k=j+1:=⟨k-1,by omega⟩
  have e:((j+1:Nat):Int)-1=(j:Int):=by omega
  rw [e]
  have E:=N9 u j
  refine w.sl.load (by omega) (by omega) (by omega) ?_
  rw [aC]
  refine Tz (y:=10000000000000000000) t E (by decide) ⟨_,_,rfl,?_⟩
  have H:us.getD j 0=ws.getD j 0:=by
   have n:(ws.take (j+1)).getD j 0=(us.take (j+1)).getD j 0:=by rw [f]
   simpa [cU,List.getElem?_take] using n.symm
  generalize hx:ws.getD j 0=x at *
  have F:0<=c/\c<10000000000000000000:=t
  have S:0<=c*18446744073709551616+x:=by omega
  have G:0<=(c*18446744073709551616+x)/10000000000000000000/\(c*18446744073709551616+x)/10000000000000000000<18446744073709551616:=by omega
  obtain ⟨a,A,_⟩:=SlV.at w.sl (i:=j) (by simp;omega)
  refine ⟨a,A,by omega,by omega,w.storeN F4 A (by omega) ?_⟩
  intro T J
  rw [B7 (by omega) (by omega)]
  refine ⟨⟨j,_,_,rfl,by omega,by show _/\_<(10000000000000000000:Int);omega,by simpa using l,u.set G,J,?_,?_⟩,by simp only [iAt,aG,aL];omega⟩
  ·rw [fW (by omega)]
   have n:=congrArg (List.take j) f
   rw [List.take_take,List.take_take,aI (by omega)] at n
   exact n
  ·rw [V7 (by omega),Mq b64 (by omega),o,H]
   have:=aO (c*18446744073709551616+x) 10000000000000000000
   simp only [val]
   generalize (c*18446744073709551616+x)/10000000000000000000=q at *
   generalize (c*18446744073709551616+x)%10000000000000000000=s at *
   grind
 ·obtain rfl:k=0:=by omega
  rw [cK,cK] at o
  rw [show wn=ws.length by omega] at hK ⊢
  refine Ed w.sl (by omega) (by omega) ?_
  intro m B O z
  refine ⟨_,_,_,rfl,?_⟩
  have d:ws≠[]:=by intro C;apply hne;exact aM (by rw [<- l,C];rfl)
  exact hK ws m c hp2 (w.priv d (by omega) B) (by rw [aF];omega) B O (u.take m) (by rw [z];exact o) t
end
