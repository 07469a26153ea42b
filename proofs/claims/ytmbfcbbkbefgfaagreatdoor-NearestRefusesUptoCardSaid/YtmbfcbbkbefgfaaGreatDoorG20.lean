/- A part. -/
import Derived.Test.YtmbfcbbkbefgfaaGreatDoorG18
import Derived.Test.YtmbfcbbkbefgfaaGreatDoorG19
import Derived.Test.YtmbfcbbkbefgfaaGreatDoorG10
open Go.Proofs.Tryz
set_option linter.all false
open _root_.Go.Addr renaming add->eF
open _root_.Array renaming replicate->fR
open Bool renaming false_eq_true->eU
open _root_.Go.Builtin renaming zeroCells->dF,append_->dQ,copy_->fC,lenOf->fZ
open _root_.ByteArray renaming size->eS
open _root_.Go.Extern.MathBitsCarry renaming m64->aX,pair->gO
open _root_.Go.Instr renaming storeAt->dO
open Int renaming toNat_natCast->aC,mul_le_mul_of_nonneg_right->aD,mul_le_mul_of_nonneg_left->aJ,mul_ediv_add_emod->aO,emod_lt_of_pos->aP,le_of_lt->aQ,mul_comm->aR,mul_nonneg->aS,emod_nonneg->aT,pow_add->bD,pow_succ->bG,tdiv_eq_ediv_of_nonneg->bH,ediv_lt_of_lt_mul->bJ,pow_pos->bL,mul_lt_mul_of_pos_right->bM,ediv_eq_zero_of_lt->bU,tmod_eq_emod_of_nonneg->bW,ediv_nonneg->bY,natCast_mul->cD,ofNat_tdiv->cL,tdiv->cM,natAbs_natCast->cN,mul_lt_mul_of_pos_left->cO,mul_assoc->cX,mul_add->cY,lt_of_le_of_lt->dA,ofNat_tmod->dI,zero_add->dL,tmod->dN,gcd_natCast_natCast->dR,eq_ofNat_of_zero_le->dS,natCast_ediv->dZ,fdiv->eE,sign_eq_neg_one_of_neg->eP,mul_le_mul->eQ,fdiv_eq_ediv_of_nonneg->eR,ediv_le_self->fF,ediv_ediv_of_nonneg->fG,zero_mul->fJ,sign_eq_one_of_pos->fK,mul_zero->fL,add_zero->fM,add_mul_ediv_right->fN,add_comm->fO,natCast_add->fQ,add_mul_ediv_left->fT,mul_ediv_cancel->fY,gcd->gE,emod_eq_of_lt->gF,natCast_emod->gI,add_mul_emod_self_right->gM,zero_emod->gR,toNat_pow_of_nonneg->gV,pow_zero->iA
open List renaming replicate->aE,length_take->aF,getElem?_cons_zero->aG,length_append->aH,take_of_length_le->aK,getElem?_cons_succ->aL,eq_nil_of_length_eq_zero->aM,length_drop->aN,append_assoc->aU,take_length->aV,drop_of_length_le->aY,drop_replicate->bF,length_set->bN,append_nil->bX,take_replicate->bZ,drop_eq_getElem_cons->cH,take_append_drop->cI,take_append_of_le_length->cJ,drop_zero->cK,length_replicate->cP,getElem?_eq_none->cQ,nil_append->cT,getD->cU,take_left'->dB,length_singleton->dD,getElem?_toArray->dE,drop_drop->dH,take_append->dK,getElem?_eq_getElem->dM,map_append->dP,take_succ_eq_append_getElem->dV,replicate_append_replicate->dX,drop_append_of_le_length->eD,drop_left'->eJ,drop_length->fE,length_map->fP,set_append_right->fS,mem_of_mem_take->fU,take_set_of_le->fX,getElem_mem->gG,drop_append->gH,length_nil->gL,getElem?_append_right->gN,take_add->gQ,getElem?_set_self->hO
open List.cons renaming injEq->bO
open Nat renaming min_eq_left->aI,le_refl->aZ,pow_le_pow_right->bK,sub_zero->bV,mul_one->cF,add_sub_cancel_left->cG,pow_pos->cW,lt_of_lt_of_le->cZ,pow_succ->dT,add_zero->dU,gcd->eA,pow_add->eC,div_le_self->eG,div_add_mod->eI,pow_le_pow_left->eK,le_trans->eM,mod_lt->eO,one_mul->eZ,add_mul->fA,mul_assoc->fB,min_eq_right->fD,zero_add->fH,mul_comm->fI,mul_le_mul_left->fW,sub_self->gD,mul_add->gJ,pow_lt_pow_iff_right->gP,testBit_two_pow_mul->gS,mul_div_cancel_left->gU,zero_mul->gW,le_mul_of_pos_left->gX,gcd_sub_self_right->gY,gcd_comm->gZ,div_div_eq_div_mul->hG
open Nat.Coprime renaming gcd_mul_left_cancel_right->dJ
open Option renaming map_some->gK
open Option.some renaming injEq->gC
open _root_.Go.Value renaming int->bB
open _root_.Go.Value.int renaming injEq->cR
open _root_.Go.Value.slice renaming injEq->cV
open _root_.Go renaming Addr->bI,TypeId->cC,Value->dC,Program->dG,IntKind->dY
open _root_.Go.Proofs.YtmbfcbbkbefgfaaGreatDoor renaming FCall->aW,Heap->bC,Priv->eV,Norm->fV
namespace Go.Proofs.YtmbfcbbkbefgfaaGreatDoor
set_option maxRecDepth 20000
open Go
def Cm:prog.underlying F8=some (.int .u8):=by kernel_rfl
def T1:prog.underlying B1o=some .string:=by kernel_rfl
def pv:List Nat->Nat
 | []=>0
 | d::r=>d+1000000000*pv r
def C0z(ps:List Nat)(d:Nat):pv (ps++[d])=pv ps+10^(9*ps.length)*d:=by
 induction ps with
 | nil=>simp [pv]
 | cons p ps ih=>
  simp only [List.cons_append,pv,ih,List.length_cons]
  rw [show 9*(ps.length+1)=9*ps.length+9 by omega,eC,show 10^9=1000000000 by decide]
  grind
def B00(ps:List Nat)(k:Nat):pv (ps.drop k)<=pv ps:=by
 induction ps generalizing k with
 | nil=>simp
 | cons p ps ih=>
  cases k with
  | zero=>simp
  | succ k=>have:=ih k;simp only [List.drop_succ_cons,pv];omega
def C10{ps:List Nat}{k:Nat}(h:k<ps.length):pv (ps.drop k)=ps[k]+1000000000*pv (ps.drop (k+1)):=by
 rw [cH h];rfl
def pw(e:Nat):Nat:=if e=0 then 0 else 10^(e-1)
def A0i(e:Nat):pw (e+1)=10^e:=by simp [pw]
def B2o(e:Nat):pw (e+1)/10=pw e:=by
 rw [A0i]
 cases e with
 | zero=>simp [pw]
 | succ e=>rw [A0i,dT,Nat.mul_div_cancel _ (by decide)]
def C1o(V d:Nat)(hd:d<10):dd (10*V+d)=if V≠0\/d≠0 then dd V++[dch d] else dd V:=by
 by_cases h:10*V+d=0
 ·have a:V=0:=by omega
  have b:d=0:=by omega
  subst a b
  simp
 ·rw [iP (by omega),T6 h,show (10*V+d)/10=V by omega,show (10*V+d)%10=d by omega]
def B0g(n:Nat):(dd n).length=0↔n=0:=by
 constructor
 ·intro h
  by_cases a:n=0
  ·exact a
  ·exact absurd (aM h) (B7o a)
 ·rintro rfl;rw [I8];rfl
section
variable {h h':bC} {K:VP} {A B:Option bI} {n c n' c':Nat} {s s':Bool} {x y z:Int} {m:Nat} {p q:Rat} {a b w:QV}
def Vv(i:NI h s A n c z)(hz:ZB m z)(hm:m<=1000000000)(hK:K (.string (bs (N8 z.natAbs))) h):aW prog Ol #[.agg #[.bool s,.slice A n c]] h K:=by
 have h0:=i.zero_iff
 have ap:=i.len hz hm
 refine FCall.pure (B13 _ _ _ _ ?_)
 unfold B5p
 refine D8 (fun e=>?_) (fun e=>?_)
 ·have:z=0:=h0.1 (by omega)
  subst this
  exact ⟨B3 h,hK⟩
 ·have a9:z≠0:=fun e1=>e (by have:=h0.2 e1;omega)
  generalize hZ:z.natAbs=Z at *
  have bb:Z<2^m:=by rw [<- hZ];exact hz
  rw [Z8 (show Z≠0 by omega)] at hK
  have x:=i.mag
  rw [hZ] at x
  refine ⟨fun l p=>∃ (b:List Nat) (X:Nat) (A B:Option bI) (c H mc:Nat) (g:bC),l=[.slice A b.length c,.slice B H mc]/\h.le g/\eV p g C3 1 A b.length c (b.map fun (d:Nat)=>U32 (d:Int))/\Mg g B H X/\H<=100000000/\(∀ d∈b,d<1000000000)/\Z=pv b+10^(9*b.length)*X/\29*b.length<=m+29,fun l p=>match l with|[_,.slice B n _]=>B37 b32 p B n|_=>0,⟨[],Z,none,A,0,n,c,h,rfl,B3 h,Priv.nil _ _ _ _,x,ap,by simp,by simp [pv],by simp⟩,?_⟩
  rintro A1 n1 c1 B1 H mc p ⟨b,X,A1',B1',av,aq,ac,g,hl,O,P1,M1,q1,L,q,a7⟩
  obtain ⟨⟨rfl,rfl,rfl⟩,rfl,rfl,rfl⟩:(A1=A1'/\n1=b.length/\c1=av)/\B1=B1'/\H=aq/\mc=ac:=by simpa using hl
  have ba:=M1.len_zero (by decide)
  refine B6 (fun h1=>?_) (fun h1=>?_)
  ·have hX:X≠0:=by omega
   have a6:29*b.length<m:=by
    have h2:2^(29*b.length)<=10^(9*b.length):=by
     rw [Nat.pow_mul,Nat.pow_mul]
     exact eK (by decide) _
    have h3:10^(9*b.length)*1<=10^(9*b.length)*X:=fW _ (by omega)
    exact (gP (a:=2) (by decide)).1 (by omega)
   refine P1.call ?_
   refine Nf M1 (by decide) q1 ?_
   intro A2 m2 c2 h2 l2 k2 k3 M2 h3 P3
   refine ⟨_,_,_,_,rfl,?_⟩
   have N:((X:Int)%1000000000)=((X%1000000000:Nat):Int):=by omega
   have Q:((X:Int)/1000000000)=((X/1000000000:Nat):Int):=by omega
   rw [Q] at M2
   rw [N]
   refine Ds Pv P3 rfl rfl (by omega) (by omega) ?_
   intro A4 c4 T W l4 P4
   have M4:Mg W A2 m2 ((X/1000000000:Nat):Int):=M2.mono l4
   refine ⟨⟨b++[X%1000000000],X/1000000000,A4,A2,c4,m2,c2,W,by simp,Heap.le_trans O (Heap.le_trans l2 l4),by simpa using P4,M4,by omega,?_,?_,?_⟩,?_⟩
   ·intro d hd
    rcases List.mem_append.1 hd with w|w
    ·exact L d w
    ·rw [List.mem_singleton.1 w];exact eO _ (by decide)
   ·rw [C0z,aH,dD,gJ,eC,q,Nat.add_assoc,fB,<- gJ,show 10^(9*1)=1000000000 by decide,Nat.mod_add_div]
   ·rw [aH,dD];omega
   ·show B37 b32 T A2 m2<B37 b32 p B1 H
    rw [Am (M4.mono P4.le),Am (M1.mono P1.le)]
    simp only [aC]
    exact Nat.div_lt_self (by omega) (by decide)
  ·have hX:X=0:=by omega
   subst hX
   rw [Nat.mul_zero,dU] at q
   have ak:SlV p A1 (b.map fun (d:Nat)=>U32 (d:Int)):=P1.slV
   have a8:b.length≠0:=by
    intro e0
    rw [aM e0] at q
    simp [pv] at q;omega
   have ar:∀ V,V<=Z->(dd V).length<=m:=by
    intro V hV
    apply Q9.2
    have:2^m<=10^m:=eK (by decide) _
    omega
   have e1:B4 ((b.length:Int)-1)=(b.length:Int)-1:=B7 (by omega) (by omega)
   rw [e1]
   refine ⟨fun l T=>∃ (k:Nat) (A:Option bI) (n c:Nat) (g:bC),l=[.slice A n c,I ((k:Int)-1)]/\k<=b.length/\p.le g/\n=(dd (pv (b.drop k))).length/\eV T g F8 1 A n c (yv (dd (pv (b.drop k)))),fun l _=>(iAt l 1+1).toNat,⟨b.length,none,0,0,p,rfl,aZ _,B3 p,by simp [pv,I8],by simpa [pv,I8,yv] using Priv.nil _ _ _ _⟩,?_⟩
   rintro A2 n2 c2 i2 T ⟨k,A2',a0,af,W,aw,hk,lg,G,P2⟩
   obtain ⟨⟨rfl,rfl,rfl⟩,rfl⟩:(A2=A2'/\n2=a0/\c2=af)/\i2=(k:Int)-1:=by simpa using aw
   refine B6 (fun h2=>?_) (fun h2=>?_)
   ·obtain ⟨j,rfl⟩:∃ j,k=j+1:=⟨k-1,by omega⟩
    have ej:((j+1:Nat):Int)-1=(j:Int):=by omega
    rw [ej]
    have hj:j<b.length:=by omega
    have ah:=C10 hj
    have F:b[j]<1000000000:=L _ (gG hj)
    have a5:=B00 b j
    refine ⟨fun l w=>∃ (e:Nat) (A:Option bI) (n c:Nat) (g:bC),l=[.slice A n c,U32 (pw e:Int)]/\e<=9/\p.le g/\n=(dd (pv (b.drop (j+1))*10^(9-e)+b[j]/10^e)).length/\eV w g F8 1 A n c (yv (dd (pv (b.drop (j+1))*10^(9-e)+b[j]/10^e))),fun l _=>(iAt l 1).toNat,⟨9,A2,n2,c2,W,rfl,by omega,lg,?_,?_⟩,?_⟩
    ·rw [Nat.div_eq_of_lt (by simpa using F)];simpa using G
    ·rw [Nat.div_eq_of_lt (by simpa using F)];simpa using P2
    rintro A5 n5 c5 d w ⟨e,A5',a3,aj,g5,ag,he,r,t,P5⟩
    obtain ⟨⟨rfl,rfl,rfl⟩,rfl⟩:(A5=A5'/\n5=a3/\c5=aj)/\d=(pw e:Int):=by simpa using ag
    generalize hV:pv (b.drop (j+1))*10^(9-e)+b[j]/10^e=V at *
    refine B6 (fun R=>?_) (fun R=>?_)
    ·obtain ⟨f,rfl⟩:∃ f,e=f+1:=by
      cases e with
      | zero=>simp [pw] at R
      | succ f=>exact ⟨f,rfl⟩
     have y:pw (f+1)=10^f:=A0i f
     have ai:0<10^f:=cW (by decide)
     have a4:10^f<=100000000:=by
      have:10^f<=10^8:=bK (by decide) (by omega)
      simpa using this
     have C:pv (b.drop (j+1))*10^(9-f)+b[j]/10^f=10*V+b[j]/10^f%10:=by
      rw [<- hV,show 9-f=(9-(f+1))+1 by omega,dT,dT,<- hG,gJ]
      have:=eI (b[j]/10^f) 10
      grind
     have S:10*V+b[j]/10^f%10<=Z:=by
      rw [<- C]
      have J:10^(9-f)*10^f=1000000000:=by rw [<- eC,show 9-f+f=9 by omega]
      have t2:10^(9-f)<=1000000000:=by rw [<- J];exact Nat.le_mul_of_pos_right _ ai
      have t3:pv (b.drop (j+1))*10^(9-f)<=pv (b.drop (j+1))*1000000000:=fW _ t2
      have t4:=eG b[j] (10^f)
      omega
     have ec:wu8 (F6 ((48:Int)+dN (F6 (cM (b[j]:Int) ((pw (f+1):Nat):Int))) 10))=((48+b[j]/10^f%10:Nat):Int):=by
      rw [y]
      have J:cM (b[j]:Int) ((10^f:Nat):Int)=((b[j]/10^f:Nat):Int):=by rw [<- cL]
      rw [J]
      have t2:b[j]/10^f<1000000000:=Nat.lt_of_le_of_lt (eG _ _) F
      clear J
      generalize b[j]/10^f=D at t2 ⊢
      rw [O1 (n:=(D:Int)) (by omega) (by omega)]
      have t3:dN (D:Int) 10=((D%10:Nat):Int):=by
       rw [bW (by omega)];omega
      rw [t3,O1 (by omega) (by omega),Yc (by omega) (by omega)];omega
     have u:b[j]/10^f%10<10:=eO _ (by decide)
     have M:SlV w A1 (b.map fun (d:Nat)=>U32 (d:Int)):=ak.mono (Heap.le_trans r P5.le)
     refine ⟨fun l R=>∃ (A:Option bI) (n c:Nat) (g:bC),l=[.slice A n c]/\p.le g/\n=(dd (10*V+b[j]/10^f%10)).length/\eV R g F8 1 A n c (yv (dd (10*V+b[j]/10^f%10))),?_,?_⟩
     ·obtain ⟨ad,aa,E⟩:=SlV.at M (i:=j) (by simpa using hj)
      refine ⟨ad,aa,by omega,by omega,(b[j]:Int),by rw [aC,cF,E];simp,?_⟩
      refine B6 (fun e0=>absurd e0 (by omega)) (fun _=>?_)
      rw [ec]
      have o:=C1o V (b[j]/10^f%10) u
      have az:=B0g V
      refine ⟨fun l h7=>l=[.bool (decide (V≠0\/b[j]/10^f%10≠0))]/\h7=w,B6 (fun h7=>⟨?_,rfl⟩) (fun h7=>⟨?_,rfl⟩),?_⟩
      ·have:V≠0:=by omega
       simp [this]
      ·have:V=0:=by omega
       have e2:∀ D:Nat,(((48+D:Nat):Int) != 48)=decide (V≠0\/D≠0):=by
        intro D
        rw [Bool.eq_iff_iff,bne_iff_ne,decide_eq_true_iff];omega
       rw [e2]
      rintro tb h7 ⟨ae,rfl⟩
      obtain rfl:tb=decide (V≠0\/b[j]/10^f%10≠0):=by simpa using ae
      refine B6 (fun h8=>?_) (fun h8=>?_)
      ·rw [iP h8] at o
       have ay:=ar _ S
       rw [o,aH,dD] at ay
       refine Ds Eg P5 rfl rfl (by omega) (by omega) ?_
       intro A9 c9 h9 g9 l9 P9
       refine ⟨A9,n5+1,c9,g9,rfl,Heap.le_trans r l9,by rw [o,aH,t];rfl,?_⟩
       rw [o,T9]
       have:yv [dch (b[j]/10^f%10)]=[Y ((48+b[j]/10^f%10:Nat):Int)]:=by
        simp only [yv,List.map_cons,List.map_nil,Ew u]
       rw [this];exact P9
      ·rw [iN h8] at o
       exact ⟨A5,n5,c5,g5,rfl,r,by rw [o];exact t,by rw [o];exact P5⟩
     ·rintro A9 n9 c9 h9 ⟨A9',al,an,g9,ax,ao,a2,P9⟩
      obtain ⟨rfl,rfl,rfl⟩:A9=A9'/\n9=al/\c9=an:=by simpa using ax
      have ed:F6 (cM ((pw (f+1):Nat):Int) 10)=((pw f:Nat):Int):=by
       have J:cM ((pw (f+1):Nat):Int) 10=((pw (f+1)/10:Nat):Int):=by rw [dZ,bH (by omega)];rfl
       rw [J,B2o,O1 (by omega) (by have:=B2o f;rw [y] at this;omega)]
      rw [ed]
      refine ⟨⟨f,A9,n9,c9,g9,rfl,by omega,ao,by rw [C];exact a2,by rw [C];exact P9⟩,?_⟩
      simp only [iAt,aG,aL,aC]
      have:=B2o f
      rw [y] at this ⊢
      omega
    ·have a1:e=0:=by
      cases e with
      | zero=>rfl
      | succ f=>rw [A0i] at R;have:0<10^f:=cW (by decide);omega
     subst a1
     have au:V=pv (b.drop j):=by rw [<- hV,ah];simp;omega
     rw [au] at P5 t
     rw [B7 (by omega) (by omega)]
     exact ⟨⟨j,A5,n5,c5,g5,rfl,by omega,r,t,P5⟩,by simp only [iAt,aG,aL];omega⟩
   ·have am:k=0:=by omega
    subst am
    rw [cK,<- q] at P2 G
    refine Jq Eg.und Cm T1 P2.slV G ?_
    exact ⟨_,rfl,Heap.le_trans O (Heap.le_trans P1.le (Heap.le_trans lg P2.le)),hK⟩
end
def Yz(a:Array UInt8):({ data:=a }:ByteArray)=bs a.toList:=by simp [bs]
def Cu{l:List UInt8}(h:∀ c∈l,G9 c):J4 l<2^(4*l.length):=by
 have a:=Gr h
 have d:10^l.length<=16^l.length:=eK (by decide) _
 have b:16^l.length=2^(4*l.length):=by rw [Nat.pow_mul]
 omega
def B98{h:bC}{A:Option bI}{n m:Nat}{X:Nat}(M:Mg h A n X)(hx:X<2^m)(hm:m<=1000000000):n<=100000000:=by
 have:=B3c (j:=32) (by decide) M (m:=m) (by have:((X:Nat):Int)<((2^m:Nat):Int):=by omega
                                            simpa using this)
 omega
section
variable {h h':bC} {K:VP} {A B:Option bI} {n c n' c':Nat} {s s':Bool} {x y z:Int} {m:Nat} {p q:Rat} {a b w:QV} {l:List UInt8}
def If(hl:l.length<=200000000)(hK:∀ s A n c ok h',h.le h'->(ok=true->(∀ c∈l,G9 c)/\l≠[]/\NI h' s A n c (J4 l))->(ok=false->¬ ((∀ c∈l,G9 c)/\l≠[]))->K (.tuple #[.agg #[.bool s,.slice A n c],.bool ok]) h'):aW prog Bp #[.string (bs l)] h K:=by
 refine Xw _ ?_
 unfold Ww
 simp only [H9]
 refine ⟨fun L x=>∃ (i:Nat) (A:Option bI) (n c:Nat),L=[.slice A n c,I i,.bool false,.slice none 0 0]/\i<=l.length/\h.le x/\(∀ c∈l.take i,G9 c)/\Mg x A n (J4 (l.take i))/\n<=c,fun L _=>l.length-(iAt L 1).toNat,⟨0,none,0,0,rfl,by omega,B3 h,by simp,Mag.zero,aZ _⟩,?_⟩
 rintro A1 n1 c1 Q R A2 n2 c2 x ⟨i,A1',V,af,hL,hi,r,d,M,D⟩
 obtain ⟨⟨rfl,rfl,rfl⟩,rfl,rfl,rfl,rfl,rfl⟩:(A1=A1'/\n1=V/\c1=af)/\Q=(i:Int)/\R=false/\A2=none/\n2=0/\c2=0:=by simpa using hL
 refine B6 (fun h1=>?_) (fun h1=>?_)
 ·refine ⟨fun L hq=>∃ (k:Nat),L=[I ((i+k:Nat):Int),U32 (J4 ((l.drop i).take k):Nat),U32 ((10^k:Nat):Int),.bool false,.slice none 0 0]/\0<k/\k<=9/\i+k<=l.length/\hq=x/\(∀ c∈(l.drop i).take k,G9 c),?_,?_⟩
  ·refine ⟨fun L hq=>∃ (k:Nat),L=[I ((i+k:Nat):Int),U32 (J4 ((l.drop i).take k):Nat),U32 ((10^k:Nat):Int),I k,.bool false,.slice none 0 0]/\k<=9/\i+k<=l.length/\hq=x/\(∀ c∈(l.drop i).take k,G9 c),fun L _=>9-(iAt L 3).toNat,⟨0,by simp [J4],by omega,by omega,rfl,by simp⟩,?_⟩
   rintro Z v f k2 z A3 W N J ⟨k,u,w,o,rfl,a⟩
   obtain ⟨rfl,rfl,rfl,rfl,rfl,rfl,rfl,rfl⟩:Z=((i+k:Nat):Int)/\v=((J4 ((l.drop i).take k):Nat):Int)/\f=((10^k:Nat):Int)/\k2=(k:Int)/\z=false/\A3=none/\W=0/\N=0:=by simpa using u
   refine B6 (fun h2=>B6 (fun h3=>?_) (fun h3=>?_)) (fun h2=>?_)
   ·have B:i+k<l.length:=by omega
    have g:(bs l)[((i+k:Nat):Int).toNat]? = some l[i+k]:=by rw [aC,Is,dM B]
    have q:¬ G9 l[i+k]->∀ s A n c,K (.tuple #[.agg #[.bool s,.slice A n c],.bool false]) J:=by
     intro hb s A n c
     exact hK _ _ _ _ _ _ r (fun e=>by cases e) (fun _ ⟨C,_⟩=>hb (C _ (gG B)))
    refine ⟨l[i+k],⟨by omega,g⟩,B6 (fun G=>?_) (fun G=>?_)⟩
    ·exact q (fun hd=>by unfold G9 at hd;omega) _ _ _ _
    ·refine ⟨l[i+k],⟨by omega,g⟩,B6 (fun C=>?_) (fun C=>?_)⟩
     ·exact q (fun hd=>by unfold G9 at hd;omega) _ _ _ _
     ·have ad:G9 l[i+k]:=by unfold G9;omega
      refine ⟨l[i+k],⟨by omega,g⟩,?_⟩
      have j:(l.drop i).take (k+1)=(l.drop i).take k++[l[i+k]]:=by
       rw [dV (by rw [aN];omega)];simp
      have T:J4 ((l.drop i).take k)<10^k:=by
       have:=Gr a
       rwa [aF,aN,aI (by omega)] at this
      have ah:10^k<=100000000:=by
       have:10^k<=10^8:=bK (by decide) (by omega)
       simpa using this
      have y:B4 (((i+k:Nat):Int)+1)=((i+(k+1):Nat):Int):=by rw [B7 (by omega) (by omega)];omega
      have e2:B4 ((k:Int)+1)=((k+1:Nat):Int):=by rw [B7 (by omega) (by omega)];omega
      have e3:F6 (((10^k:Nat):Int)*10)=((10^(k+1):Nat):Int):=by rw [dT,O1 (by omega) (by omega)];omega
      have S:F6 (F6 (((J4 ((l.drop i).take k):Nat):Int)*10)+F6 (wu8 ((l[i+k].toNat:Int)-48)))=((J4 ((l.drop i).take (k+1)):Nat):Int):=by
       rw [j,Ip,Yc (by omega) (by omega),O1 (n:=(l[i+k].toNat:Int)-48) (by omega) (by omega),O1 (n:=((J4 ((l.drop i).take k):Nat):Int)*10) (by omega) (by omega),O1 (by omega) (by omega)];omega
      rw [y,e2,e3,S]
      refine ⟨⟨k+1,rfl,by omega,by omega,rfl,?_⟩,by simp only [iAt,aG,aL];omega⟩
      rw [j]
      intro c D
      rcases List.mem_append.1 D with p|p
      ·exact a c p
      ·rw [List.mem_singleton.1 p];exact ad
   ·exact ⟨k,rfl,by omega,w,o,rfl,a⟩
   ·exact ⟨k,rfl,by omega,w,o,rfl,a⟩
  ·rintro Z v f F A3 W N t ⟨k,u,aj,w,o,rfl,a⟩
   obtain ⟨rfl,rfl,rfl,rfl,rfl,rfl,rfl⟩:Z=((i+k:Nat):Int)/\v=((J4 ((l.drop i).take k):Nat):Int)/\f=((10^k:Nat):Int)/\F=false/\A3=none/\W=0/\N=0:=by simpa using u
   have T:J4 ((l.drop i).take k)<10^k:=by
    have:=Gr a
    rwa [aF,aN,aI (by omega)] at this
   have ah:0<10^k/\10^k<=1000000000:=by
    have:10^k<=10^9:=bK (by decide) (by omega)
    exact ⟨cW (by decide),by simpa using this⟩
   have aa:((l.drop i).take k).length=k:=by rw [aF,aN];omega
   have j:l.take (i+k)=l.take i++(l.drop i).take k:=gQ
   have E:∀ c∈l.take (i+k),G9 c:=by
    rw [j];intro c D
    rcases List.mem_append.1 D with p|p
    ·exact d c p
    ·exact a c p
   have O:J4 (l.take (i+k))=J4 (l.take i)*10^k+J4 ((l.drop i).take k):=by rw [j,Gs,aa]
   have X:J4 (l.take i)<2^(4*l.length):=cZ (Cu d) (bK (by decide) (by rw [aF];omega))
   have ai:J4 (l.take (i+k))<2^(4*l.length):=cZ (Cu E) (bK (by decide) (by rw [aF];omega))
   have ae:=B98 M X (by omega)
   refine An Pv rfl ?_
   intro H ac
   refine ⟨_,_,_,rfl,?_⟩
   have lf:=Heap.le_put (h:=t) (b:=H) (.cells #[U32 ((10^k:Nat):Int)] C3) ac
   have Mf:Mg (t.put H (.cells #[U32 ((10^k:Nat):Int)] C3)) (some ⟨H,0,none⟩) 1 ((10^k:Nat):Int):=
    ⟨[((10^k:Nat):Int)],rfl,SlI.new t H [((10^k:Nat):Int)] C3 _,Dig.one ⟨by omega,by show _<(4294967296:Int);omega⟩,by simp only [fV,List.getLast?_singleton,ne_eq,gC];omega,W4 _ _⟩
   refine Uz (M.mono lf) Mf ae (by omega) ?_
   intro A4 m4 c4 G l4 k4 M4
   refine ⟨_,_,_,rfl,?_⟩
   refine An Pv rfl ?_
   intro bv ag
   refine ⟨_,_,_,rfl,?_⟩
   have lv:=Heap.le_put (h:=G) (b:=bv) (.cells #[U32 ((J4 ((l.drop i).take k):Nat):Int)] C3) ag
   refine Y8 (xs:=[((J4 ((l.drop i).take k):Nat):Int)]) (SlI.new G bv _ C3 _) (Dig.one ⟨by omega,by show _<(4294967296:Int);omega⟩) (aZ _) (by simp) ?_
   intro m5 k5 M5
   refine ⟨_,_,_,rfl,?_⟩
   rw [W4] at M5
   have S:((J4 (l.take i):Nat):Int)*((10^k:Nat):Int)=((J4 (l.take i)*10^k:Nat):Int):=by rw [cD]
   rw [S] at M4
   refine Wd (M4.mono lv) M5 (B98 M4 (m:=4*l.length) (by omega) (by omega)) (by simp at k5;omega) ?_
   intro A6 m6 c6 p l6 k6 M6
   have e6:((J4 (l.take i)*10^k:Nat):Int)+((J4 ((l.drop i).take k):Nat):Int)=((J4 (l.take (i+k)):Nat):Int):=by rw [O];omega
   rw [e6] at M6
   exact ⟨_,_,_,rfl,⟨i+k,A6,m6,c6,rfl,o,Heap.le_trans r (Heap.le_trans lf (Heap.le_trans l4 (Heap.le_trans lv l6))),E,M6,k6⟩,by simp only [iAt,aG,aL];omega⟩
 ·have:i=l.length:=by omega
  subst this
  rw [aV] at d M
  refine N6 M D ?_
  intro s1 Q
  refine ⟨_,_,_,_,rfl,?_⟩
  have e:(!((bs l).toList==({ data:=#[] }:ByteArray).toList))=decide (l≠[]):=by
   rw [Yz,Kn];simp
  rw [e]
  refine hK _ _ _ _ _ _ r (fun y=>⟨d,by simpa using y,Q⟩) (fun y=>?_)
  have:l=[]:=by simpa using y
  rintro ⟨_,C⟩;exact C this
def Cv{n m:Nat}(h:n<2^m):(N8 n).length<=m+1:=by
 rw [Ov (by omega)]
 have:2^m<=10^(m+1):=eM (eK (by decide) m) (bK (by decide) (by omega))
 omega
def A2w(i:NQ h w q)(hq:Sz m q)(hm:m<=1000000000)(hK:K (.string (bs (I9 q))) h):aW prog Qp #[w.v] h K:=by
 have f:=i.num.sg
 have c:=i.den_zero
 refine B8d _ _ _ _ _ _ _ _ ?_
 unfold C49
 have p:=Cv hq.num
 have o:=Cv (n:=q.den) (m:=m) (by have:=hq.den;unfold ZB at this;simpa using this)
 refine Vv i.num hq.num hm ⟨_,rfl,?_⟩
 refine ⟨fun l g=>l=[.string (bs (Hl q.num))]/\g=h,Br.of (fun e=>?_) (fun e=>?_),?_⟩
 ·have a:q.num<0:=by rw [f] at e;simpa using e
  refine ⟨?_,?_,rfl⟩
  ·rw [Yz,H9,H9];simp;omega
  ·rw [Yz,It];unfold Hl;rw [iP a];rfl
 ·have a:¬ q.num<0:=by rw [f] at e;simpa using e
  exact ⟨by unfold Hl;rw [iN a],rfl⟩
 rintro t r ⟨k,rfl⟩
 obtain rfl:t=bs (Hl q.num):=by simpa using k
 have s:(Hl q.num).length<=m+2:=by
  unfold Hl;split
  ·rw [List.length_cons];omega
  ·omega
 refine B6 (fun e=>?_) (fun e=>?_)
 ·have d:¬ q.den=1:=fun j=>by have:=c.2 j;omega
  have b:=i.den
  rw [iN d] at b
  refine Vv b hq.den hm ⟨_,rfl,?_,?_,?_⟩
  ·rw [Yz,H9,H9,cN];simp;omega
  ·rw [Yz,It,H9,H9,cN];simp;omega
  ·rw [Yz,It,It,cN]
   unfold I9 at hK
   rw [iN d] at hK
   exact hK
 ·have d:q.den=1:=c.1 (by omega)
  unfold I9 at hK
  rw [iP d,bX] at hK
  exact hK
def C0o{t a r a' r':List UInt8}(h1:t=a++r)(h2:∀ c∈a,c≠47)(h3:r=[]\/r.head? = some 47)(g1:t=a'++r')(g2:∀ c∈a',c≠47)(g3:r'=[]\/r'.head? = some 47):a=a'/\r=r':=by
 induction a generalizing t a' with
 | nil=>
  cases a' with
  | nil=>simp at h1 g1;exact ⟨rfl,h1.symm.trans g1⟩
  | cons c a'=>
   exfalso
   subst h1
   rcases h3 with h3|h3
   ·subst h3;simp at g1
   ·rw [g1] at h3
    simp at h3
    exact g2 c (by simp) h3
 | cons c a ih=>
  cases a' with
  | nil=>
   exfalso
   subst g1
   rcases g3 with g3|g3
   ·subst g3;simp at h1
   ·rw [h1] at g3
    simp at g3
    exact h2 c (by simp) g3
  | cons c' a'=>
   subst h1
   simp at g1
   obtain ⟨rfl,g1⟩:=g1
   obtain ⟨e,d⟩:=ih rfl (fun x b=>h2 x (by simp [b])) g1 (fun x b=>g2 x (by simp [b]))
   exact ⟨by rw [e],d⟩
def B1s(q:Rat):I9 q=(if q.num<0 then [45] else [])++(N8 q.num.natAbs++(if q.den=1 then [] else 47::N8 q.den)):=by
 unfold I9 Hl;split<;>simp
def B47(n:Nat):∀ c∈N8 n,c≠47:=fun c a=>(A8j (Ox n c a)).2
def Vm{neg:Bool}{q:Rat}(h:neg=decide (q.num<0)):Rat.divInt (if neg=true then -((q.num.natAbs:Nat):Int) else ((q.num.natAbs:Nat):Int)) q.den=q:=by
 have:(if neg=true then -((q.num.natAbs:Nat):Int) else ((q.num.natAbs:Nat):Int))=q.num:=by
  rw [h]
  by_cases a:q.num<0
  ·rw [iP (by simpa using a)];omega
  ·rw [iN (by simpa using a)];omega
 rw [this,Rat.num_divInt_den]
def B2m(hl:l.length<=100000000)(hK1:∀ q,l=I9 q->∀ w h',h.le h'->NQ h' w q->K (.tuple #[w.v,.bool true]) h')(hK0:¬ IsNum l->∀ (w:QV) h',h.le h'->K (.tuple #[w.v,.bool false]) h'):aW prog A6r #[.string (bs l)] h K:=by
 refine B8f _ ?_
 unfold C4b
 simp only [H9]
 refine ⟨fun L h'=>L=[.bool (l.head? == some 45)]/\h'=h,B6 (fun C=>?_) (fun C=>?_),?_⟩
 ·cases l with
  | nil=>simp at C
  | cons c r=>
   refine ⟨c,⟨by omega,by rw [Is];rfl⟩,?_,rfl⟩
   have:((c.toNat:Int)==45)=((c::r).head? == some 45):=by
    rw [Bool.eq_iff_iff,beq_iff_eq,beq_iff_eq,List.head?_cons,gC]
    constructor
    ·intro e;apply UInt8.toNat_inj.1;show c.toNat=45;omega
    ·rintro rfl;rfl
   rw [this]
 ·have:l=[]:=aM (by omega)
  subst this;exact ⟨rfl,rfl⟩
 rintro neg hp ⟨hL,rfl⟩
 obtain rfl:neg=(l.head? == some 45):=by simpa using hL
 refine ⟨fun L h'=>L=[.string (bs (if (l.head? == some 45) then l.drop 1 else l))]/\h'=hp,Br.of (fun e=>?_) (fun e=>?_),?_⟩
 ·have ai:1<=l.length:=by
   cases l with
   | nil=>simp at e
   | cons _ _=>simp
  refine ⟨⟨by omega,by omega⟩,?_,rfl⟩
  rw [iP e,L3,aK (by rw [aN];show _<=l.length-1;exact aZ _)];rfl
 ·rw [iN (by rw [e];simp)];exact ⟨rfl,rfl⟩
 rintro t0 J ⟨ae,rfl⟩
 generalize ht:(if (l.head? == some 45) then l.drop 1 else l)=t at *
 obtain rfl:t0=bs t:=by simpa using ae
 have an:t.length<=l.length:=by rw [<- ht];split<;>simp
 have af:l=(if (l.head? == some 45) then [45] else [])++t:=by
  rw [<- ht]
  cases l with
  | nil=>simp
  | cons c r=>
   by_cases p:c=45
   ·subst p;simp
   ·simp [p]
 have m:∀ q,l=I9 q->(l.head? == some 45)=decide (q.num<0)/\t=N8 q.num.natAbs++(if q.den=1 then [] else 47::N8 q.den):=by
  intro q e
  have f:=Hw q
  rw [<- e] at f
  have hh:=f.head
  refine ⟨hh.symm,?_⟩
  have s:=af
  rw [<- hh,e,B1s q] at s
  by_cases A:q.num<0
  ·simp [A] at s;exact s.symm
  ·simp [A] at s;exact s.symm
 refine ⟨fun L h'=>∃ a:Nat,L=[I a]/\h'=J/\a<=t.length/\(∀ c∈t.take a,c≠47)/\(t.drop a=[]\/(t.drop a).head? = some 47),?_,?_⟩
 ·simp only [H9]
  refine ⟨fun L h'=>∃ i:Nat,L=[I t.length,I i]/\h'=J/\i<=t.length/\(∀ c∈t.take i,c≠47),fun L _=>t.length-(iAt L 1).toNat,⟨0,rfl,rfl,by omega,by simp⟩,?_⟩
  rintro aa i1 ao ⟨i,T,rfl,hi,d⟩
  obtain ⟨rfl,rfl⟩:aa=(t.length:Int)/\i1=(i:Int):=by simpa using T
  refine B6 (fun C=>?_) (fun C=>?_)
  ·have B:i<t.length:=by omega
   refine ⟨t[i],⟨by omega,by rw [aC,Is,dM B]⟩,D8 (fun h2=>?_) (fun h2=>?_)⟩
   ·refine ⟨i,rfl,rfl,hi,d,.inr ?_⟩
    rw [List.head?_drop,dM B]
    congr 1
    apply UInt8.toNat_inj.1
    show t[i].toNat=47
    omega
   ·rw [B7 (by omega) (by omega)]
    refine ⟨⟨i+1,rfl,rfl,by omega,?_⟩,by simp only [iAt,aG,aL];omega⟩
    rw [dV B]
    intro c p
    rcases List.mem_append.1 p with O|O
    ·exact d c O
    ·rw [List.mem_singleton.1 O]
     intro e;rw [e] at h2;exact h2 rfl
  ·have:i=t.length:=by omega
   subst this
   exact ⟨t.length,rfl,rfl,aZ _,d,.inl (by simp)⟩
 rintro al X ⟨a,Z,rfl,aj,d,j⟩
 obtain rfl:=sI1 Z
 simp only [H9,L3,aC,cK,bV]
 refine ⟨⟨by omega,by omega⟩,?_⟩
 have g:t=t.take a++t.drop a:=(cI a t).symm
 have b:∀ q,l=I9 q->t.take a=N8 q.num.natAbs/\t.drop a=(if q.den=1 then [] else 47::N8 q.den):=by
  intro q e
  refine C0o g d j (m q e).2 (B47 _) ?_
  split
  ·left;rfl
  ·right;rfl
 refine If (by rw [aF];omega) ?_
 intro s1 A1 n1 c1 ap C M k1 k0
 refine ⟨_,_,_,_,_,rfl,O9 (Br.of (fun e=>?_) (fun e=>?_))⟩
 ·obtain ⟨dg,am,iN⟩:=k1 e
  have F:ZB (4*l.length) (J4 (t.take a):Int):=by
   unfold ZB
   rw [cN]
   exact cZ (Cu dg) (bK (by decide) (by rw [aF];omega))
  have im:=iN.mag
  rw [cN] at im
  refine N6 im iN.cap ?_
  intro s2 i2
  refine ⟨_,_,_,_,rfl,?_⟩
  have k:ZB (4*l.length) (if (l.head? == some 45)=true then -((J4 (t.take a):Nat):Int) else ((J4 (t.take a):Nat):Int)):=by
   split
   ·exact F.neg
   ·exact F
  have E:∀ (D:Rat) (w:QV) (o:bC),X.le o->NQ o w D->Sz (4*l.length+1) D->(∀ q,l=I9 q->q=D)->
   aW prog Qp #[w.v] o (fun r5 H=>∃ (t79:ByteArray),r5= .string t79/\Heap.le o H/\K (.tuple #[w.v,.bool (ByteArray.toList t79==ByteArray.toList (bs l))]) H):=by
   intro D w o Q S ag ac
   refine A2w S ag (by omega) ⟨_,rfl,B3 _,?_⟩
   rw [Kn]
   by_cases p:I9 D=l
   ·rw [decide_eq_true p]
    exact hK1 D p.symm w o Q S
   ·rw [decide_eq_false p]
    refine hK0 ?_ w o Q
    rintro ⟨q,e⟩
    exact p (by rw [<- ac q e];exact e.symm)
  refine B6 (fun s=>?_) (fun s=>?_)
  ·have e3:B4 ((a:Int)+1)=((a+1:Nat):Int):=by rw [B7 (by omega) (by omega)];omega
   rw [e3]
   refine ⟨⟨by omega,by omega⟩,?_⟩
   rw [aC,aK (show (t.drop (a+1)).length<=t.length-(a+1) by rw [aN];omega)]
   have hb:t.drop a=47::t.drop (a+1):=by
    rcases j with A|A
    ·have:=congrArg List.length A;rw [aN] at this;simp at this;omega
    ·rw [List.head?_drop] at A
     have u:a<t.length:=by omega
     rw [dM u] at A
     rw [cH u]
     congr 1
     simpa using A
   refine If (by rw [aN];omega) ?_
   intro s3 A3 n3 c3 ak O N j1 j0
   have n:∀ q,l=I9 q->q.den≠1/\t.drop (a+1)=N8 q.den:=by
    intro q e
    have:=(b q e).2
    rw [hb] at this
    by_cases z:q.den=1
    ·simp [z] at this
    ·simp [z] at this;exact ⟨z,this⟩
   refine ⟨_,_,_,_,_,rfl,O9 (Br.of (fun V=>?_) (fun V=>?_))⟩
   ·obtain ⟨ad,ah,iD⟩:=j1 V
    refine A37 iD ⟨_,rfl,D8 (fun W=>?_) (fun W=>?_)⟩
    ·refine hK0 ?_ ⟨false,none,0,0,false,none,0,0⟩ _ (Heap.le_trans M N)
     rintro ⟨q,e⟩
     have R:=(n q e).2
     have h7:((J4 (t.drop (a+1)):Nat):Int)=0:=Int.sign_eq_zero_iff_zero.1 W
     rw [R,Ai] at h7
     exact q.den_nz (by omega)
    ·have y:((J4 (t.drop (a+1)):Nat):Int)≠0:=fun e6=>W (by rw [e6];rfl)
     have x:ZB (4*l.length) (J4 (t.drop (a+1)):Int):=by
      unfold ZB
      rw [cN]
      exact cZ (Cu ad) (bK (by decide) (by rw [aN];omega))
     refine Ob (i2.mono N) iD y k x (by omega) ?_
     intro w o Q S
     refine ⟨_,_,_,_,_,_,_,_,rfl,?_⟩
     refine E _ w o (Heap.le_trans M (Heap.le_trans N Q)) S ((Pk y k x).mono (by omega)) ?_
     intro q e
     rw [(b q e).1,(n q e).2,Ai,Ai]
     exact (Vm (m q e).1).symm
   ·refine hK0 ?_ ⟨false,none,0,0,false,none,0,0⟩ _ (Heap.le_trans M N)
    rintro ⟨q,e⟩
    exact j0 V (by rw [(n q e).2];exact ⟨Ox _,Vu _⟩)
  ·have G:a=t.length:=by omega
   refine E _ ⟨s2,A1,n1,c1,false,none,0,0⟩ C M (NQ.whole i2) (Sz.int (k.mono (by omega)) (by omega)) ?_
   intro q e
   have R:=(b q e).2
   rw [G,fE] at R
   have z:q.den=1:=by
    by_cases z:q.den=1
    ·exact z
    ·simp [z] at R
   rw [(b q e).1,Ai]
   have:=Vm (m q e).1
   rw [z] at this
   rw [<- Kb]
   exact this.symm
 ·refine hK0 ?_ ⟨false,none,0,0,false,none,0,0⟩ _ M
  rintro ⟨q,s⟩
  exact k0 e (by rw [(b q s).1];exact ⟨Ox _,Vu _⟩)
end
def ndg(x:Nat):Nat:=x*78913/262144
def B96:∀ x,x<65->2^x<=10^(ndg x+1)/\(ndg x=0\/10^(ndg x-1)<=2^(x-1))/\ndg x<=19:=by decide
def A4d{n k:Nat}(h1:10^k<=n)(h2:n<10^(k+1)):(dd n).length=k+1:=by
 have a:=(Q9 (n:=n) (k:=k+1)).2 h2
 have b:¬ (dd n).length<=k:=fun e=>by have:=Q9.1 e;omega
 omega
def C3e{d:Nat}(h0:d≠0)(h:d<2^64):(dd d).length=ndg (O0 d)+(if 10^ndg (O0 d)<=d then 1 else 0):=by
 have j:=Iv h
 obtain ⟨i,g⟩:=Fb h0
 obtain ⟨e,b,f⟩:=B96 (O0 d) (by omega)
 split
 ·rename_i a
  exact A4d a (by omega)
 ·rename_i a
  rcases b with b|b
  ·rw [b] at a;simp at a;omega
  ·obtain ⟨k,hk⟩:∃ k,ndg (O0 d)=k+1:=by
    by_cases c:ndg (O0 d)=0
    ·rw [c] at a;simp at a;omega
    ·exact ⟨ndg (O0 d)-1,by omega⟩
   rw [hk] at a b ⊢
   rw [Nat.add_sub_cancel] at b
   rw [dU]
   exact A4d (by omega) (by omega)
def C12(w n:Nat):pad (w+2) n=pad w (n/100)++[dch (n/10%10),dch (n%10)]:=by
 rw [Tj,Tj,hG];simp
def B2v(n:Nat)(h:n=0):pad 0 n=[]:=by subst h;simp [pad,I8]
abbrev b64:Int:=18446744073709551616
abbrev Mw(h:bC)(A:Option bI)(len:Nat)(n:Int):Prop:=Mag .u64 b64 h A len n
structure Win (k:dY) (h g:bC) (b:Nat) (e:cC) (A:Option bI) (pre:List dC) (xs:List Int) (post:List dC):Prop where
 free:g b=none
 eq:h=g.put b (.cells (pre++xs.map (bB k)++post).toArray e)
 at_:xs=[]\/A=some ⟨b,pre.length,none⟩
section
variable {k:dY} {h g:bC} {b:Nat} {e:cC} {A:Option bI} {pre post:List dC} {xs:List Int}
def Win.le(w:Win k h g b e A pre xs post):g.le h:=by rw [w.eq];exact Heap.le_put _ w.free
def Win.sl(w:Win k h g b e A pre xs post):SlI k h A xs:=by
 rcases w.at_ with rfl|c
 ·exact SlI.nil
 ·right
  refine ⟨_,c,fun i v a=>?_⟩
  rw [w.eq,E6,E7]
  have f:i<(xs.map (bB k)).length:=by
   by_cases d:i<(xs.map (bB k)).length
   ·exact d
   ·rw [cQ (by omega)] at a;cases a
  simp only [dE]
  rw [aU,gN (by omega),cG,List.getElem?_append_left f]
  exact a
def Win.store{P:dG}{t:cC}(one:P.cellsOf t=1/\(P.info? t).isSome=true)(w:Win k h g b e A pre xs post){a:bI}(ha:A=some a){i v:Int}(h0:0<=i)(h1:i<xs.length){K:Unit->bC->Prop}
 (x:∀ h',Win k h' g b e A pre (xs.set i.toNat v) post->K () h'):wpH P (dO t (.pointer (some (eF a (i.toNat*1)))) (.int k v)) K h:=by
 have d:i.toNat<xs.length:=by omega
 have c:A=some ⟨b,pre.length,none⟩:=by
  rcases w.at_ with rfl|c
  ·simp at d
  ·exact c
 rw [ha] at c
 cases c
 rw [w.eq,E6,cF]
 refine Ei one.1 one.2 rfl rfl (by simp;omega) ?_
 refine x _ ⟨w.free,?_,.inr ha⟩
 have:(pre++xs.map (bB k)++post).toArray.setIfInBounds (pre.length+i.toNat) (.int k v)=(pre++(xs.set i.toNat v).map (bB k)++post).toArray:=by
  rw [List.map_set]
  simp only [List.setIfInBounds_toArray,aU]
  congr 1
  rw [fS _ _ (by omega),cG,List.set_append_left _ _ (by simpa using d)]
 rw [this]
def Win.storeN{P:dG}{t:cC}(one:P.cellsOf t=1/\(P.info? t).isSome=true)(w:Win k h g b e A pre xs post){a:bI}(ha:A=some a){i:Nat}{v:Int}(h1:i<xs.length){K:Unit->bC->Prop}
 (x:∀ h',Win k h' g b e A pre (xs.set i v) post->K () h'):wpH P (dO t (.pointer (some (eF a (i*1)))) (.int k v)) K h:=by
 have:=w.store one ha (i:=(i:Int)) (v:=v) (K:=K) (by omega) (by omega) (by simpa using x)
 simpa using this
def Win.call{P:dG}{f:FuncId}{args:Array dC}(w:Win k h g b e A pre xs post){K:VP}(x:aW P f args g (fun r h0=>∀ h',Win k h' h0 b e A pre xs post->K r h')):aW P f args h K:=by
 rw [w.eq]
 exact FCall.frame w.free x fun r h0 a c=>c _ ⟨a,rfl,w.at_⟩
def Win.blk(k:dY)(e:cC){g:bC}{b:Nat}(hb:g b=none)(zs:List Int):Win k (Go.Proofs.YtmbfcbbkbefgfaaGreatDoor.blk k e g b zs) g b e (some ⟨b,0,none⟩) [] zs []:=
 ⟨hb,by simp [Go.Proofs.YtmbfcbbkbefgfaaGreatDoor.blk],.inr rfl⟩
def Win.sub(w:Win k h g b e A pre xs post){l m c:Nat}(hl:l<=m)(hm:m<=xs.length)(hc:xs.length<=c):
 Win k h g b e (J9 A c l 1) (pre++(xs.take l).map (bB k)) ((xs.drop l).take (m-l)) ((xs.drop m).map (bB k)++post):=by
 refine ⟨w.free,?_,?_⟩
 ·rw [w.eq]
  congr 3
  have:xs=xs.take l++((xs.drop l).take (m-l)++xs.drop m):=by
   have d:xs.drop m=(xs.drop l).drop (m-l):=by rw [dH];congr 1;omega
   rw [d,cI,cI]
  conv=>lhs;rw [this]
  simp [dP,aU]
 ·by_cases f:m-l=0
  ·left;simp [f]
  ·right
   rcases w.at_ with rfl|a
   ·simp at hm;omega
   ·unfold J9
    rw [iN (by omega),a]
    simp only [gK,E6,cF,aH,fP,aF]
    rw [aI (by omega)]
def Win.whole{h' g':bC}(w:Win k h g b e A pre xs post){l m:Nat}(hl:l<=m)(hm:m<=xs.length){B:Option bI}{ys:List Int}(hy:ys.length=m-l)(v:Win k h' g' b e B (pre++(xs.take l).map (bB k)) ys ((xs.drop m).map (bB k)++post)):
 Win k h' g' b e A pre (xs.take l++ys++xs.drop m) post:=by
 refine ⟨v.free,?_,?_⟩
 ·rw [v.eq]
  congr 3
  simp [dP,aU]
 ·rcases w.at_ with rfl|a
  ·left
   simp at hm
   have:ys=[]:=aM (by omega)
   simp [this]
  ·exact .inr a
def Priv.win{n c:Nat}(p:eV h g e 1 A n c (xs.map (bB k)))(hx:xs≠[]):∃ b post,Win k h g b e A [] xs post:=by
 obtain ⟨i,o,d⟩:=p
 rcases d with ⟨m,rfl⟩|⟨b,a,f,j,rfl,q,l⟩
 ·simp at i
  exact absurd (aM (by omega)) hx
 ·refine ⟨b,a.drop (n*1),j,?_,.inr f⟩
  rw [cT,<- l,cI]
end
def Fa{P:dG}{t:cC}(one:P.cellsOf t=1/\(P.info? t).isSome=true){k:dY}{n:Int}{i:Nat}{g:bC}{b:Nat}{e:cC}{zs:List Int}(hi:i<zs.length){K:Unit->bC->Prop}
 (x:K () (blk k e g b (zs.set i n))):wpH P (dO t (.pointer (some (eF ⟨b,0,none⟩ (i*1)))) (.int k n)) K (blk k e g b zs):=by
 have:=R1 (P:=P) (t:=t) one (k:=k) (n:=n) (i:=(i:Int)) (g:=g) (b:=b) (e:=e) (zs:=zs) (K:=K) (by simpa using hi) (by simpa using x)
 simpa using this
def Gt{P:dG}{t e e' ty:cC}{k:dY}{bytes:Nat}(s:SliceT P t e' (.int k 0) 1 bytes){h g:bC}{b:Nat}{A:Option bI}{pre post:List dC}{xs:List Int}{n c m d:Nat}(w:Win k h g b e A pre xs post)(hn:n=xs.length){B:Option bI}{ys:List Int}(sy:SlI k h B ys)(hm:m=ys.length)(hle:ys.length<=xs.length){K:VP}
 (x:∀ h',Win k h' g b e A pre (ys++xs.drop ys.length) post->K (I ys.length) h'):wpH P (fC #[t,t] ty #[.slice A n c,.slice B m d]) K h:=by
 subst hn hm
 obtain ⟨i,p,r,l,o⟩:=s.parts
 unfold fC
 simp only [dE,aG,aL,C5,E9 s.und,N4 p,G2,fZ,l]
 have j:Nat.min ys.length xs.length=ys.length:=aI hle
 rw [j]
 refine L6 (s:=1) (cs:=ys.map (bB k)) (by simp) sy ?_
 cases A with
 | none=>
  rcases w.at_ with f|f
  ·subst f
   have:ys=[]:=aM (by simpa using hle)
   subst this
   exact x h (by simpa using w)
  ·cases f
 | some a=>
  simp only [C5]
  rcases w.at_ with f|f
  ·subst f
   have:ys=[]:=aM (by simpa using hle)
   subst this
   exact x h (by simpa using w)
  ·cases f
   rw [w.eq]
   refine J8 (ys.map (bB k)) pre.length 0 (pre++xs.map (bB k)++post) (by simp;omega) (fun v q=>?_) ?_
   ·obtain ⟨u,_,rfl⟩:=List.mem_map.1 q;rfl
   ·refine x _ ⟨w.free,?_,?_⟩
    ·congr 3
     unfold N5
     rw [dU,aU pre,dB rfl,fP]
     rw [gH,aY (show pre.length<=pre.length+ys.length by omega),cG,cT]
     rw [eD (by simpa using hle),<- List.map_drop,dP]
     simp only [aU]
    ·right;rfl
def A7z{P:dG}{nm:String}{x y c:Int}(hc:0<=c/\c<=1){f:Nat × Nat × Nat->dC}:Qe P (Extern.MathBitsCarry.three nm #[U x,U y,U c] >>= fun p=>pure (f p))=some (f (x.toNat,y.toNat,c.toNat)):=by
 obtain rfl|rfl:c=0\/c=1:=by omega
 ·rfl
 ·rfl
def B3d:aX=18446744073709551616:=by decide
def Do{h:bC}{K:VP}{x y c:Int}(hx:0<=x/\x<18446744073709551616)(hy:0<=y/\y<18446744073709551616)(hc:0<=c/\c<=1)(hK:K (.tuple #[U ((x+y+c)%18446744073709551616),U ((x+y+c)/18446744073709551616)]) h):ECall prog S6 #[U x,U y,U c] h K:=by
 refine B9c B1a (A7z (P:=prog) hc (f:=fun p=>gO ((p.1+p.2.1+p.2.2)%aX) ((p.1+p.2.1+p.2.2)/aX))) ?_
 have b:((x.toNat+y.toNat+c.toNat)%aX:Nat)=(((x+y+c)%18446744073709551616:Int)):=by
  rw [B3d]
  omega
 have a:((x.toNat+y.toNat+c.toNat)/aX:Nat)=(((x+y+c)/18446744073709551616:Int)):=by
  rw [B3d]
  omega
 show K (.tuple #[U ((x.toNat+y.toNat+c.toNat)%aX:Nat),U ((x.toNat+y.toNat+c.toNat)/aX:Nat)]) h
 rw [b,a];exact hK
def Fo{h:bC}{K:VP}{x y c:Int}(hx:0<=x/\x<18446744073709551616)(hy:0<=y/\y<18446744073709551616)(hc:0<=c/\c<=1)(hK:K (.tuple #[U ((x-y-c)%18446744073709551616),U (if x-y-c<0 then 1 else 0)]) h):ECall prog Bs #[U x,U y,U c] h K:=by
 refine B9c B18 (A7z (P:=prog) hc (f:=fun p=>gO ((p.1+aX-p.2.1-p.2.2)%aX) (if p.1<p.2.1+p.2.2 then 1 else 0))) ?_
 have b:((x.toNat+aX-y.toNat-c.toNat)%aX:Nat)=(((x-y-c)%18446744073709551616:Int)):=by
  rw [B3d]
  omega
 have a:(((if x.toNat<y.toNat+c.toNat then 1 else 0:Nat):Nat):Int)=(if x-y-c<0 then 1 else 0):=by
  split<;>split<;>omega
 show K (.tuple #[U ((x.toNat+aX-y.toNat-c.toNat)%aX:Nat),U ((if x.toNat<y.toNat+c.toNat then 1 else 0:Nat):Nat)]) h
 rw [b,a];exact hK
def Ey(x y:Int):Int:=if x<y then -1 else if x>y then 1 else 0
def B35{h:bC}{K:VP}{x:Int}(hK:K (.bool false) h):aW prog Ka #[I x] h K:=by
 refine A7l _ ?_
 unfold A9g
 have:(x != x)=false:=by simp
 rw [this];exact hK
def B34{h:bC}{K:VP}{x:Int}(hK:K (.bool false) h):aW prog Bq #[U x] h K:=by
 refine Xz _ ?_
 unfold Xa
 have:(x != x)=false:=by simp
 rw [this];exact hK
def B36{h:bC}{K:VP}{x:Int}(hK:K (.bool false) h):aW prog Dh #[I x] h K:=by
 refine A2c _ ?_
 unfold Zu
 have:(x != x)=false:=by simp
 rw [this];exact hK
def B4e{h:bC}{K:VP}{x y:Int}(hK:K (I (Ey x y)) h):aW prog A1h #[I x,I y] h K:=by
 refine B65 _ _ ?_
 unfold C0c
 refine B35 ⟨_,rfl,B35 ⟨_,rfl,?_⟩⟩
 unfold Ey at hK
 refine B6 (fun a=>?_) (fun a=>B6 (fun b=>?_) (fun b=>?_))
 ·rw [iP a] at hK;exact hK
 ·rw [iN a,iP b] at hK;exact hK
 ·rw [iN a,iN b] at hK;exact hK
def B4b{h:bC}{K:VP}{x y:Int}(hK:K (I (Ey x y)) h):aW prog Lr #[U x,U y] h K:=by
 refine A5c _ _ ?_
 unfold A5d
 refine B34 ⟨_,rfl,B34 ⟨_,rfl,?_⟩⟩
 unfold Ey at hK
 refine B6 (fun a=>?_) (fun a=>B6 (fun b=>?_) (fun b=>?_))
 ·rw [iP a] at hK;exact hK
 ·rw [iN a,iP b] at hK;exact hK
 ·rw [iN a,iN b] at hK;exact hK
def B4f{h:bC}{K:VP}{x y:Int}(hK:K (I (Ey x y)) h):aW prog Qz #[I x,I y] h K:=by
 refine A7r _ _ ?_
 unfold A9m
 refine B36 ⟨_,rfl,B36 ⟨_,rfl,?_⟩⟩
 unfold Ey at hK
 refine B6 (fun a=>?_) (fun a=>B6 (fun b=>?_) (fun b=>?_))
 ·rw [iP a] at hK;exact hK
 ·rw [iN a,iP b] at hK;exact hK
 ·rw [iN a,iN b] at hK;exact hK
def Nq{h:bC}{K:VP}{x y:Int}(hx:0<=x/\x<18446744073709551616)(hy:0<=y/\y<18446744073709551616)(hK:K (.tuple #[U (x*y/18446744073709551616),U (x*y%18446744073709551616)]) h):aW prog Gn #[U x,U y] h K:=by
 refine B67 _ _ ?_
 unfold C0d
 rw [Cg hx,Cg hy]
 simp only [Xf]
 obtain ⟨b,c,d,e,a⟩:=A6h hx hy (x1:=x/4294967296) (x0:=x%4294967296) (y1:=y/4294967296) (y0:=y%4294967296) (by omega) (by omega) (by omega) (by omega)
 generalize x/4294967296*(y/4294967296)=p11 at *
 generalize x/4294967296*(y%4294967296)=p10 at *
 generalize x%4294967296*(y/4294967296)=p01 at *
 generalize x%4294967296*(y%4294967296)=p00 at *
 rw [C2 (n:=p00) (by omega) (by omega),C2 (n:=p10) (by omega) (by omega),C2 (n:=p01) (by omega) (by omega),C2 (n:=p11) (by omega) (by omega)]
 rw [C2 (n:=p10+p00/4294967296) (by omega) (by omega),Cg (by omega)]
 rw [C2 (n:=(p10+p00/4294967296)%4294967296+p01) (by omega) (by omega)]
 rw [C2 (n:=p11+(p10+p00/4294967296)/4294967296) (by omega) (by omega),C2 (by omega) (by omega),E4]
 have:p11+(p10+p00/4294967296)/4294967296+((p10+p00/4294967296)%4294967296+p01)/4294967296=x*y/18446744073709551616:=by
  rw [a];omega
 rw [this];exact hK
def S3{h:bC}{K:VP}{x y c:Int}(hx:0<=x/\x<18446744073709551616)(hy:0<=y/\y<18446744073709551616)(hc:0<=c/\c<18446744073709551616)(hK:K (.tuple #[U ((x*y+c)%18446744073709551616),U ((x*y+c)/18446744073709551616)]) h):aW prog N2 #[U x,U y,U c] h K:=by
 have d:0<=x*y/\x*y<=18446744073709551615*18446744073709551615:=⟨aS hx.1 hy.1,eQ (by omega) (by omega) hy.1 (by decide)⟩
 refine Wj _ _ _ ?_
 unfold Sf
 refine Nq hx hy ⟨_,_,rfl,?_⟩
 refine Do (by omega) hc (by omega) ⟨_,_,rfl,?_⟩
 rw [C2 (by omega) (by omega)]
 have a:(x*y%18446744073709551616+c+0)%18446744073709551616=(x*y+c)%18446744073709551616:=by omega
 have b:x*y/18446744073709551616+(x*y%18446744073709551616+c+0)/18446744073709551616=(x*y+c)/18446744073709551616:=by omega
 rw [a,b];exact hK
def C1t(a:Array UInt8):({ data:=a }:ByteArray)=bs a.toList:=by simp [bs]
def B3e:List UInt8:=[0,1,2,2,3,3,3,3,4,4,4,4,4,4,4,4,5,5,5,5,5,5,5,5,5,5,5,5,5,5,5,5]++aE 32 6++aE 64 7++aE 128 8
def B08:∀ i,i<256->(B3e[i]?).map UInt8.toNat=some (O0 i):=by decide
def A1u{x s:Nat}(h:2^s<=x):O0 x=s+O0 (x/2^s):=by
 have a:0<2^s:=cW (by decide)
 have b:x/2^s≠0:=by
  have:=Nat.div_pos h a;omega
 have:=Za (l:=x%2^s) (t:=x/2^s) (j:=s) (eO _ a) b
 rw [Nat.mod_add_div] at this
 exact this
def A8h{h:bC}{K:VP}{x:Nat}(hx:x<18446744073709551616)(hK:K (I (O0 x)) h):aW prog Tw #[U x] h K:=by
 refine B68 _ ?_
 unfold C0e
 have m:∀ (y s:Nat),s<=64->eE (y:Int) (2^(min ((s:Int)).toNat 64))=((y/2^s:Nat):Int):=by
  intro y s r
  rw [aC,aI r,eR _ (aQ (bL (by decide)))]
  simp
 refine ⟨fun l d=>∃ (y n:Nat),l=[U y,I n]/\d=h/\y<4294967296/\O0 x=n+O0 y/\n<=32,B6 (fun i=>?_) (fun i=>?_),?_⟩
 ·refine ⟨x/2^32,32,?_,rfl,by omega,A1u (by omega),by omega⟩
  rw [show (32:Int)=((32:Nat):Int) from rfl,m x 32 (by omega)]
 ·exact ⟨x,0,rfl,rfl,by omega,by omega,by omega⟩
 rintro g f d ⟨y,n,b,rfl,e,a,q⟩
 obtain ⟨rfl,rfl⟩:g=(y:Int)/\f=(n:Int):=by simpa using b
 refine ⟨fun l o=>∃ (y n:Nat),l=[U y,I n]/\o=d/\y<65536/\O0 x=n+O0 y/\n<=48,B6 (fun i=>?_) (fun i=>?_),?_⟩
 ·refine ⟨y/2^16,n+16,?_,rfl,by omega,by rw [a,A1u (x:=y) (s:=16) (by omega)];omega,by omega⟩
  rw [show (16:Int)=((16:Nat):Int) from rfl,m y 16 (by omega),B7 (by omega) (by omega)];rfl
 ·exact ⟨y,n,rfl,rfl,by omega,a,by omega⟩
 clear a e b
 rintro g f d ⟨y,n,b,rfl,e,a,q⟩
 obtain ⟨rfl,rfl⟩:g=(y:Int)/\f=(n:Int):=by simpa using b
 refine ⟨fun l o=>∃ (y n:Nat),l=[U y,I n]/\o=d/\y<256/\O0 x=n+O0 y/\n<=56,B6 (fun i=>?_) (fun i=>?_),?_⟩
 ·refine ⟨y/2^8,n+8,?_,rfl,by omega,by rw [a,A1u (x:=y) (s:=8) (by omega)];omega,by omega⟩
  rw [show (8:Int)=((8:Nat):Int) from rfl,m y 8 (by omega),B7 (by omega) (by omega)];rfl
 ·exact ⟨y,n,rfl,rfl,by omega,a,by omega⟩
 clear a e b
 rintro g f d ⟨y,n,b,rfl,e,a,q⟩
 obtain ⟨rfl,rfl⟩:g=(y:Int)/\f=(n:Int):=by simpa using b
 rw [Yc (by omega) (by omega),aC]
 have j:=B08 y e
 cases hc:B3e[y]? with
 | none=>rw [hc] at j;cases j
 | some c=>
  rw [hc] at j
  have p:c.toNat=O0 y:=by simpa using j
  refine ⟨c,⟨by omega,?_⟩,?_⟩
  ·try unfold A8g
   rw [C1t,Is];exact hc
  ·have t:O0 y<=8:=Iv (k:=8) (by omega)
   rw [p,B7 (n:=((O0 y:Nat):Int)) (by omega) (by omega),B7 (by omega) (by omega),<- fQ,<- a]
   exact hK
def R5{h:bC}{K:VP}{x:Nat}(hx:x<18446744073709551616)(hK:K (I ((64-O0 x:Nat):Int)) h):aW prog K3 #[U x] h K:=by
 refine Pp _ ?_
 unfold Jk
 refine A8h hx ⟨_,rfl,?_⟩
 have a:O0 x<=64:=Iv (k:=64) (by omega)
 rw [B7 (by omega) (by omega)]
 have:(64:Int)-((O0 x:Nat):Int)=((64-O0 x:Nat):Int):=by omega
 rw [this];exact hK
def A4g{a b:Int}{s:Nat}(ha:0<=a)(hb:0<=b/\b<2^s)(hab:a*2^s+b<18446744073709551616):bor .u64 (a*2^s) b=a*2^s+b:=by
 have f:0<(2:Int)^s:=bL (by decide)
 have d:0<=a*2^s:=aS ha (by omega)
 rw [A71 (by omega) (by omega)]
 have e:(a*2^s).toNat=2^s*a.toNat:=by
  rw [Int.toNat_mul ha (by omega),fI,gV (by decide)];rfl
 have c:b.toNat<2^s:=by
  have:((2^s:Nat):Int)=(2:Int)^s:=by simp
  omega
 rw [e,A8d c,<- e];omega
def Z9{s:Nat}(hs:s<=64):(2:Int)^s*2^(64-s)=18446744073709551616:=by
 rw [<- bD,show s+(64-s)=64 by omega];decide
def B71{x:Int}{s:Nat}(hs:s<=64):eE x (2^(min s 64))=x/2^s:=by
 rw [aI hs];exact eR x (aQ (bL (by decide)))
def Est.exact{B top u2 v1 v2 U V:Int}(e:Est B 1 top u2 0 v1 v2 0 U V){q:Int}(h:q*(v1*B+v2)<=top*B+u2):q*V<=U:=by
 have a:=e.hU
 have d:=e.hV
 have c:U=top*B+u2:=by rw [a];omega
 have b:V=v1*B+v2:=by rw [d];omega
 rw [c,b];exact h
section
variable {h:bC} {K:VP}
def B48{T u2 v1 v2 X Y:Int}{hp:bC}{J:Int->bC->Prop}(es:Est 4294967296 1 T u2 0 v1 v2 0 X Y)(_hT:T<18446744073709551616)
 (hJ:∀ q,0<=q->q*Y<=X->X<(q+1)*Y->J q hp):
 ∃ (Inv:Int->Int->bC->Prop) (mu:Int->Int->bC->Nat),Inv (T/v1) (T%v1) hp/\
  ∀ q r hp1,Inv q r hp1->(q>=4294967296->Inv q r hp1)/\0<=q/\q<=4294967297/\0<=r/\r<4294967296/\hp1=hp/\
   (q<4294967296->¬ (q*v2>4294967296*r+u2)->J q hp1)/\
   ((q>=4294967296\/q*v2>4294967296*r+u2)->1<=q/\(r+v1>=4294967296->J (q-1) hp1)/\(r+v1<4294967296->Inv (q-1) (r+v1) hp1/\mu (q-1) (r+v1) hp1<mu q r hp1)):=by
 obtain ⟨F,G⟩:=es.first
 have n:=es.init
 have y:=es.V0
 have B:=es.U0
 have z:=es.v1r
 have o:=es.v2r
 have x:=es.u2r
 have d:=es.top0
 have l:0<=T/v1:=bY d (by omega)
 have m:=aO T v1
 have j:=aT T (show v1≠0 by omega)
 have C:=aP T (show 0<v1 by omega)
 refine ⟨fun q r hp1=>hp1=hp/\0<=q/\q<=4294967297/\0<=r/\r<4294967296/\q*v1+r=T/\X<(q+1)*Y,fun q _ _=>q.toNat,⟨rfl,l,by omega,j,by omega,by rw [aR];exact m,n⟩,?_⟩
 rintro q r hp1 ⟨rfl,g,t,u,s,f,c⟩
 have key:q*(v1*4294967296+v2)=(T-r)*4294967296+q*v2:=by rw [<- f];grind
 refine ⟨fun _=>⟨rfl,g,t,u,s,f,c⟩,g,t,u,s,rfl,fun i E=>hJ q g (es.exact (by omega)) c,fun e=>?_⟩
 have k:X<q*Y:=by
  rcases e with i|i
  ·exact es.big i
  ·exact es.low g (by omega)
 have p:1<=q:=by
  by_cases A:1<=q
  ·exact A
  ·have:q=0:=by omega
   subst this;omega
 have a:X<(q-1+1)*Y:=by rw [Int.sub_add_cancel];exact k
 have b:(q-1)*v1+(r+v1)=T:=by grind
 refine ⟨p,fun D=>?_,fun D=>⟨⟨rfl,by omega,by omega,by omega,by omega,b,a⟩,by show (q-1).toNat<q.toNat;omega⟩⟩
 have w:(q-1)*(v1*4294967296+v2)=(T-(r+v1))*4294967296+(q-1)*v2:=by rw [<- b];grind
 have i:(q-1)*v2<=4294967296*v2:=aD (by omega) o.1
 exact hJ (q-1) (by omega) (es.exact (by omega)) a
def Tz{hi lo:Int}{y:Nat}(hhi:0<=hi/\hi<y)(hlo:0<=lo/\lo<18446744073709551616)(hy:y<18446744073709551616)
 (hK:K (.tuple #[U ((hi*18446744073709551616+lo)/y),U ((hi*18446744073709551616+lo)%y)]) h):aW prog Gq #[U hi,U lo,U y] h K:=by
 refine B69 _ _ _ ?_
 unfold C0f
 refine D8 (fun e=>absurd e (by omega)) (fun _=>?_)
 refine B6 (fun e=>absurd e (by omega)) (fun _=>?_)
 refine D8 (fun e=>?_) (fun bc=>?_)
 ·refine B6 (fun e=>absurd e (by omega)) (fun _=>?_)
  refine B6 (fun e=>absurd e (by omega)) (fun _=>?_)
  subst e
  rw [fJ,dL] at hK
  rw [bH hlo.1,bW hlo.1,C2 (bY hlo.1 (by omega)) (dA (fF _ hlo.1) hlo.2)]
  exact hK
 refine R5 hy ⟨_,rfl,?_⟩
 have X:y≠0:=by omega
 obtain ⟨a4,be⟩:=Fb X
 have aw:O0 y<=64:=Iv (k:=64) (by omega)
 have ba:1<=O0 y:=by unfold O0;rw [iN X];omega
 obtain ⟨s,hs⟩:∃ s,s=64-O0 y:=⟨_,rfl⟩
 rw [<- hs]
 have a0:s<64:=by omega
 have j:0<(2:Int)^s:=bL (by decide)
 have C:=Z9 (s:=s) (by omega)
 have aa:0<(2:Int)^(64-s):=bL (by decide)
 have x:O0 y=64-s:=by omega
 have ag:(y:Int)<2^(64-s):=by
  rw [<- x]
  have:((y:Nat):Int)<((2^O0 y:Nat):Int):=by omega
  simpa using this
 have ah:(2:Int)^(63-s)<=y:=by
  have:((2^(O0 y-1):Nat):Int)<=((y:Nat):Int):=by omega
  rw [show O0 y-1=63-s by omega] at this
  simpa using this
 have F:(2:Int)^s*2^(63-s)=9223372036854775808:=by
  rw [<- bD,show s+(63-s)=63 by omega];decide
 have ae:C0 (s:Int)=(s:Int):=C2 (by omega) (by omega)
 have ak:C0 ((64:Int)-s)=((64-s:Nat):Int):=by rw [C2 (by omega) (by omega)];omega
 have V:(y:Int)*2^s<18446744073709551616:=by
  rw [<- C,aR];exact cO ag j
 have ax:9223372036854775808<=(y:Int)*2^s:=by
  rw [<- F,aR (y:Int)];exact aJ ah (by omega)
 have eY:C0 ((y:Int)*2^(min s 64))=(y:Int)*2^s:=by rw [aI (by omega),C2 (by omega) V]
 have a8:hi*2^s+2^s<=(y:Int)*2^s:=by
  have:=aD (show hi+1<=(y:Int) by omega) (aQ j)
  rw [Int.add_mul] at this;omega
 have N:0<=hi*2^s:=aS hhi.1 (by omega)
 have an:0<=lo/2^(64-s)/\lo/2^(64-s)<2^s:=by
  refine ⟨bY hlo.1 (by omega),bJ aa ?_⟩
  rw [C];exact hlo.2
 have eT:bor .u64 (C0 (hi*2^(min s 64))) (eE lo (2^(min (64-s) 64)))=hi*2^s+lo/2^(64-s):=by
  rw [aI (show s<=64 by omega),C2 N (by omega),B71 (by omega),A4g hhi.1 an (by omega)]
 have eL:C0 (lo*2^(min s 64))=lo*2^s%18446744073709551616:=by rw [aI (by omega),E4]
 have a2:0<=lo*2^s%18446744073709551616/\lo*2^s%18446744073709551616<18446744073709551616:=⟨aT _ (by decide),aP _ (by decide)⟩
 have hN:(hi*18446744073709551616+lo)*2^s=(hi*2^s+lo/2^(64-s))*18446744073709551616+lo*2^s%18446744073709551616:=by
  have d1:lo*2^s/18446744073709551616=lo/2^(64-s):=by
   rw [<- C,aR lo,Int.mul_ediv_mul_of_pos _ _ j]
  have d2:=aO (lo*2^s) 18446744073709551616
  rw [d1] at d2
  grind
 generalize hTT:hi*2^s+lo/2^(64-s)=T at *
 generalize hLL:lo*2^s%18446744073709551616=L at *
 generalize hYY:(y:Int)*2^s=Y at *
 have p:0<=T/\T<Y:=by omega
 unfold A5f A5h A5e A5g
 simp only [ae,ak,aC,eY,eT,eL,Xf]
 rw [Cg (by omega),Cg (by omega)]
 have e1:Est 4294967296 1 T (L/4294967296) 0 (Y/4294967296) (Y%4294967296) 0 (T*4294967296+L/4294967296) Y:=
  ⟨by decide,by decide,by omega,by omega,by omega,by omega,by omega,by omega,p.1,by omega,by omega⟩
 refine B6 (fun e=>absurd e (by omega)) (fun _=>?_)
 refine B6 (fun e=>absurd e (by omega)) (fun _=>?_)
 refine B6 (fun e=>absurd e (by omega)) (fun _=>?_)
 refine B6 (fun e=>absurd e (by omega)) (fun _=>?_)
 refine B6 (fun e=>absurd e (by omega)) (fun _=>?_)
 have Z:∀ {q w:Int},0<=q->q<=4294967296->0<=w->w<4294967296->0<=q*w/\q*w<18446744073709551616:=by
  intro q w a b c d
  refine ⟨aS a c,?_⟩
  have:=eQ b (show w<=4294967295 by omega) c (by decide)
  omega
 refine ⟨fun l hp=>∃ q,l=[U q]/\hp=h/\0<=q/\q*Y<=T*4294967296+L/4294967296/\T*4294967296+L/4294967296<(q+1)*Y,?_,?_⟩
 ·obtain ⟨Inv,mu,i0,st⟩:=B48 (hp:=h) (J:=fun q hp=>∃ i,[U q]=[U i]/\hp=h/\0<=i/\i*Y<=T*4294967296+L/4294967296/\T*4294967296+L/4294967296<(i+1)*Y) e1 (by omega) (fun q a b c=>⟨q,rfl,rfl,a,b,c⟩)
  refine ⟨fun l hp=>∃ q r,l=[U q,U r]/\Inv q r hp,fun l hp=>mu (iAt l 0) (iAt l 1) hp,⟨T/(Y/4294967296),T%(Y/4294967296),?_,i0⟩,?_⟩
  ·have dm:=aO T (Y/4294967296)
   have H:=bY p.1 (show 0<=Y/4294967296 by omega)
   have d1:T/(Y/4294967296)<=T:=fF _ p.1
   have d2:=aT T (show Y/4294967296≠0 by omega)
   rw [bH p.1,C2 (n:=T/(Y/4294967296)) H (by omega),aR (T/(Y/4294967296))]
   have d3:=aS (show 0<=Y/4294967296 by omega) H
   rw [C2 (n:=Y/4294967296*(T/(Y/4294967296))) d3 (by omega),C2 (by omega) (by omega)]
   have:T-Y/4294967296*(T/(Y/4294967296))=T%(Y/4294967296):=by omega
   rw [this]
  rintro q r m ⟨i,r',hl,hI⟩
  obtain ⟨rfl,rfl⟩:q=i/\r=r':=by simpa using hl
  obtain ⟨_,f,g,r0,r1,rfl,ok,A⟩:=st q r m hI
  have S:=Z (q:=4294967296) (w:=r) (by omega) (by omega) r0 r1
  refine ⟨fun l hp=>l=[]/\hp=m/\(q>=4294967296\/q*(Y%4294967296)>4294967296*r+L/4294967296),B6 (fun O=>⟨rfl,rfl,.inl O⟩) (fun O=>?_),?_⟩
  ·have G:=Z (q:=q) (w:=Y%4294967296) f (by omega) (by omega) (by omega)
   rw [C2 G.1 G.2,C2 S.1 S.2,C2 (n:=4294967296*r+L/4294967296) (by omega) (by omega)]
   exact B6 (fun E=>⟨rfl,rfl,.inr E⟩) (fun E=>ok (by omega) E)
  ·rintro aq ⟨_,rfl,o⟩
   obtain ⟨g1,g2,M⟩:=A o
   rw [C2 (n:=r+Y/4294967296) (by omega) (by omega),C2 (n:=q-1) (by omega) (by omega)]
   exact B6 (fun W=>g2 W) (fun W=>⟨⟨_,_,rfl,(M (by omega)).1⟩,(M (by omega)).2⟩)
 rintro g z ⟨ao,aj,rfl,am,bd,a9⟩
 obtain rfl:g=ao:=by simpa using aj
 have av:g<4294967296:=by
  by_cases B:g<4294967296
  ·exact B
  ·have:=aD (show 4294967296<=g by omega) (show 0<=Y by omega);omega
 have a3:(g+1)*Y=g*Y+Y:=by grind
 have a1:0<=g*Y:=aS am (by omega)
 have af:C0 (C0 (C0 (T*4294967296)+L/4294967296)-C0 (g*Y))=T*4294967296+L/4294967296-g*Y:=by
  simp only [E4];omega
 simp only [af]
 generalize hRR:T*4294967296+L/4294967296-g*Y=R at *
 have t:0<=R/\R<Y:=by omega
 refine B6 (fun e=>absurd e (by omega)) (fun _=>?_)
 have e2:Est 4294967296 1 R (L%4294967296) 0 (Y/4294967296) (Y%4294967296) 0 (R*4294967296+L%4294967296) Y:=
  ⟨by decide,by decide,by omega,by omega,by omega,by omega,by omega,by omega,t.1,by omega,by omega⟩
 refine ⟨fun l hp=>∃ q,l=[U q]/\hp=z/\0<=q/\q*Y<=R*4294967296+L%4294967296/\R*4294967296+L%4294967296<(q+1)*Y,?_,?_⟩
 ·obtain ⟨Inv,mu,i0,st⟩:=B48 (hp:=z) (J:=fun q hp=>∃ i,[U q]=[U i]/\hp=z/\0<=i/\i*Y<=R*4294967296+L%4294967296/\R*4294967296+L%4294967296<(i+1)*Y) e2 (by omega) (fun q a b c=>⟨q,rfl,rfl,a,b,c⟩)
  refine ⟨fun l hp=>∃ q r,l=[U r,U q]/\Inv q r hp,fun l hp=>mu (iAt l 1) (iAt l 0) hp,⟨R/(Y/4294967296),R%(Y/4294967296),?_,i0⟩,?_⟩
  ·have dm:=aO R (Y/4294967296)
   have H:=bY t.1 (show 0<=Y/4294967296 by omega)
   have d1:R/(Y/4294967296)<=R:=fF _ t.1
   have d2:=aT R (show Y/4294967296≠0 by omega)
   rw [bH t.1,C2 (n:=R/(Y/4294967296)) H (by omega),aR (R/(Y/4294967296))]
   have d3:=aS (show 0<=Y/4294967296 by omega) H
   rw [C2 (n:=Y/4294967296*(R/(Y/4294967296))) d3 (by omega),C2 (by omega) (by omega)]
   have:R-Y/4294967296*(R/(Y/4294967296))=R%(Y/4294967296):=by omega
   rw [this]
  rintro r q m ⟨i,r',hl,hI⟩
  obtain ⟨rfl,rfl⟩:r=r'/\q=i:=by simpa using hl
  obtain ⟨_,f,g,r0,r1,rfl,ok,A⟩:=st q r m hI
  have S:=Z (q:=4294967296) (w:=r) (by omega) (by omega) r0 r1
  refine ⟨fun l hp=>l=[]/\hp=m/\(q>=4294967296\/q*(Y%4294967296)>4294967296*r+L%4294967296),B6 (fun O=>⟨rfl,rfl,.inl O⟩) (fun O=>?_),?_⟩
  ·have G:=Z (q:=q) (w:=Y%4294967296) f (by omega) (by omega) (by omega)
   rw [C2 G.1 G.2,C2 S.1 S.2,C2 (n:=4294967296*r+L%4294967296) (by omega) (by omega)]
   exact B6 (fun E=>⟨rfl,rfl,.inr E⟩) (fun E=>ok (by omega) E)
  ·rintro aq ⟨_,rfl,o⟩
   obtain ⟨g1,g2,M⟩:=A o
   rw [C2 (n:=r+Y/4294967296) (by omega) (by omega),C2 (n:=q-1) (by omega) (by omega)]
   exact B6 (fun W=>g2 W) (fun W=>⟨⟨_,_,rfl,(M (by omega)).1⟩,(M (by omega)).2⟩)
 rintro f a5 ⟨al,ap,rfl,ar,a7,a6⟩
 obtain rfl:f=al:=by simpa using ap
 refine B6 (fun e=>absurd e (by omega)) (fun _=>?_)
 have ay:f<4294967296:=by
  by_cases B:f<4294967296
  ·exact B
  ·have:=aD (show 4294967296<=f by omega) (show 0<=Y by omega);omega
 have bb:(f+1)*Y=f*Y+Y:=by grind
 have au:0<=f*Y:=aS ar (by omega)
 have ac:C0 (C0 (C0 (R*4294967296)+L%4294967296)-C0 (f*Y))=R*4294967296+L%4294967296-f*Y:=by
  simp only [E4];omega
 rw [ac,C2 (n:=g*4294967296) (by omega) (by omega),C2 (n:=g*4294967296+f) (by omega) (by omega),B71 (by omega)]
 have az:(hi*18446744073709551616+lo)*2^s=(g*4294967296+f)*(y*2^s)+(R*4294967296+L%4294967296-f*Y):=by
  rw [hN,hYY]
  have:T*18446744073709551616+L=(T*4294967296+L/4294967296)*4294967296+L%4294967296:=by omega
  rw [this]
  have:T*4294967296+L/4294967296=R+g*Y:=by omega
  rw [this];grind
 have D:R*4294967296+L%4294967296-f*Y=(hi*18446744073709551616+lo-(g*4294967296+f)*y)*2^s:=by grind
 rw [D,fY _ (show (2:Int)^s≠0 by omega)]
 have ad:0<=hi*18446744073709551616+lo-(g*4294967296+f)*y:=by
  by_cases B:0<=hi*18446744073709551616+lo-(g*4294967296+f)*y
  ·exact B
  ·have:=aD (show hi*18446744073709551616+lo-(g*4294967296+f)*y <= -1 by omega) (aQ j);omega
 have ai:hi*18446744073709551616+lo-(g*4294967296+f)*y<y:=by
  by_cases B:hi*18446744073709551616+lo-(g*4294967296+f)*y<y
  ·exact B
  ·have:=aD (show (y:Int)<=hi*18446744073709551616+lo-(g*4294967296+f)*y by omega) (aQ j);omega
 have u:(hi*18446744073709551616+lo)/y=g*4294967296+f:=by
  have:hi*18446744073709551616+lo=(hi*18446744073709551616+lo-(g*4294967296+f)*y)+(g*4294967296+f)*y:=by omega
  rw [this,fN _ _ (by omega),bU ad ai,dL]
 have Q:(hi*18446744073709551616+lo)%y=hi*18446744073709551616+lo-(g*4294967296+f)*y:=by
  rw [Int.emod_def,u,aR (y:Int)]
 rw [u,Q] at hK
 exact hK
end
def N9{xs:List Int}(d:Dig b64 xs)(i:Nat):0<=xs.getD i 0/\xs.getD i 0<18446744073709551616:=d.getD (by decide) i
def En(c:Int):0<=c%18446744073709551616/\c%18446744073709551616<b64:=⟨aT _ (by decide),aP _ (by decide)⟩
section
variable {h g:bC} {K:VP} {A B:Option bI} {ac bc:Nat}
def Ed{xs:List Int}(s:SlI .u64 h A xs)(hc:xs.length<=ac)(hl:xs.length<=10000000000)(hK:∀ m,m<=xs.length->fV (xs.take m)->val b64 (xs.take m)=val b64 xs->K (.slice A m ac) h):aW prog I7 #[.slice A xs.length ac] h K:=by
 refine B84 _ _ _ ?_
 unfold C41
 refine ⟨fun l f=>∃ m:Nat,l=[I m]/\m<=xs.length/\f=h/\val b64 (xs.take m)=val b64 xs,fun l _=>(iAt l 0).toNat,⟨xs.length,rfl,aZ _,rfl,by rw [aV]⟩,?_⟩
 rintro n o ⟨m,b,g,rfl,d⟩
 obtain rfl:=sI1 b
 refine B6 (fun k=>?_) (fun k=>?_)
 ·obtain ⟨j,rfl⟩:∃ j,m=j+1:=⟨m-1,by omega⟩
  have e:B4 (((j+1:Nat):Int)-1)=(j:Int):=by rw [B7 (by omega) (by omega)];omega
  rw [e]
  have a:=O3 b64 (xs:=xs) (i:=j) (by omega)
  refine s.load rfl (by omega) (by omega) ?_
  rw [aC]
  refine D8 (fun c=>?_) (fun c=>?_)
  ·exact ⟨⟨j,rfl,by omega,rfl,by rw [c] at a;omega⟩,by simp only [iAt,aG];omega⟩
  ·refine ⟨⟨by omega,by omega⟩,?_⟩
   rw [H8,aC,bV,bV]
   refine hK (j+1) g ?_ d
   rw [Hy (by omega)];exact A3m c
 ·have:m=0:=by omega
  subst this
  refine ⟨⟨by omega,by omega⟩,?_⟩
  rw [H8,aC,bV,bV]
  exact hK 0 (by omega) Norm.nil d
def Q5{xs:List Int}(s:SlI .u64 h A xs)(hd:Dig b64 xs)(hc:xs.length<=ac)(hl:xs.length<=10000000000)(hK:∀ m,m<=xs.length->Mw h A m (val b64 xs)->K (.slice A m ac) h):aW prog I7 #[.slice A xs.length ac] h K:=by
 refine Ed s hc hl ?_
 intro m a b d
 refine hK m a ⟨xs.take m,by simp;omega,?_,hd.take m,b,d⟩
 have:=s.cut (c:=ac) (l:=0) (m:=m) (by omega) a hc
 simpa [H8] using this
def Bk{w:Int}(hw:0<=w/\w<18446744073709551616)(hK:∀ A m c h',h.le h'->m<=c->Mw h' A m w->K (.slice A m c) h'):aW prog X6 #[U w] h K:=by
 refine A4u _ ?_
 unfold A4v
 refine D8 (fun e=>?_) (fun e=>?_)
 ·subst e;exact hK none 0 0 h (B3 h) (aZ _) Mag.zero
 ·refine An Q1 rfl ?_
  intro b a
  exact ⟨_,_,_,rfl,hK _ _ _ _ (Heap.le_put _ a) (aZ _) ⟨[w],rfl,SlI.new h b [w] C1 _,Dig.one hw,by simpa [fV] using e,W4 _ _⟩⟩
def F7{x y:Int}{an bn:Nat}(ma:Mw h A an x)(mb:Mw h B bn y)(hl:an<=10000000000)(hK:K (I (Ey x y)) h):aW prog F1 #[.slice A an ac,.slice B bn bc] h K:=by
 obtain ⟨a,rfl,r,g,z,rfl⟩:=ma
 obtain ⟨b,rfl,s,f,w,rfl⟩:=mb
 refine Tc _ _ _ _ _ _ ?_
 unfold Ph
 refine I3 (fun u=>?_) (fun u=>?_)
 ·refine B4e ⟨_,rfl,?_⟩
  have:Ey (a.length:Int) (b.length:Int)=Ey (val b64 a) (val b64 b):=by
   unfold Ey
   by_cases p:a.length<b.length
   ·have:=Jo (by decide) g f w p
    rw [iP (by omega),iP this]
   ·have:=Jo (by decide) f g z (by omega)
    rw [iN (by omega),iP (by omega),iN (by omega),iP (by omega)]
  rw [this];exact hK
 ·have c:a.length=b.length:=by omega
  refine ⟨fun l t=>∃ k:Nat,l=[I ((k:Int)-1)]/\k<=a.length/\t=h/\a.drop k=b.drop k,fun l _=>(iAt l 0+1).toNat,⟨a.length,?_,aZ _,rfl,?_⟩,?_⟩
  ·rw [B7 (by omega) (by omega)]
  ·rw [fE,c,fE]
  rintro i C ⟨k,n,D,rfl,d⟩
  obtain rfl:i=(k:Int)-1:=by simpa using n
  refine B6 (fun p=>?_) (fun p=>?_)
  ·obtain ⟨j,rfl⟩:∃ j,k=j+1:=⟨k-1,by omega⟩
   have e:((j+1:Nat):Int)-1=(j:Int):=by omega
   rw [e]
   refine r.load rfl (by omega) (by omega) ?_
   refine s.load rfl (by omega) (by omega) ?_
   rw [aC]
   refine I3 (fun q=>?_) (fun q=>?_)
   ·refine r.load rfl (by omega) (by omega) ?_
    refine s.load rfl (by omega) (by omega) ?_
    rw [aC]
    refine B4b ⟨_,rfl,B3 _,?_⟩
    have:Ey (a.getD j 0) (b.getD j 0)=Ey (val b64 a) (val b64 b):=by
     unfold Ey
     by_cases m:a.getD j 0<b.getD j 0
     ·have:=Jn (by decide) g f (i:=j) (by omega) (by omega) d m
      rw [iP m,iP this]
     ·have:=Jn (by decide) f g (i:=j) (by omega) (by omega) d.symm (by omega)
      rw [iN m,iP (by omega),iN (by omega),iP (by omega)]
    rw [this];exact hK
   ·rw [B7 (by omega) (by omega)]
    refine ⟨⟨j,rfl,by omega,rfl,?_⟩,by simp only [iAt,aG];omega⟩
    rw [cH (show j<a.length by omega),cH (show j<b.length by omega),d]
    congr 1
    simpa [cU,show j<a.length by omega,show j<b.length by omega] using q
  ·have o:k=0:=by omega
   subst o
   simp at d
   subst d
   have:Ey (val b64 a) (val b64 a)=0:=by unfold Ey;rw [iN (by omega),iN (by omega)]
   rw [this] at hK;exact hK
def Ez{xs:List Int}{an:Nat}(s:SlI .u64 h A xs)(hn:an=xs.length)(hl:xs.length<=10000000000)(hK:∀ A' c' h' g',h.le g'->eV h' g' C1 1 A' xs.length c' (xs.map (bB .u64))->K (.slice A' xs.length c') h'):aW prog Ge #[.slice A an ac] h K:=by
 subst hn
 refine B4z _ _ _ ?_
 unfold B9n
 refine Br.of (fun e=>?_) (fun e=>?_)
 ·have j:A=none:=by simpa using e
  have i:xs=[]:=by
   rcases s with g|⟨a,d,_⟩
   ·simpa using g
   ·rw [j] at d;cases d
  subst i
  exact hK none 0 h h (B3 h) (by simpa using Priv.nil _ _ _ _)
 ·refine La Q1 ?_
  intro b l
  refine ⟨_,_,_,rfl,?_⟩
  have c:=Heap.le_put (h:=h) (b:=b) (.cells #[] C1) l
  refine Oy Q1 (Priv.nil _ _ _ _) (ys:=xs.map (bB .u64)) (by simp) (SlI.mono c s) (fun v m=>?_) (by omega) (by omega) ?_
  ·obtain ⟨a,_,rfl⟩:=List.mem_map.1 m;rfl
  ·intro A' c' h' g' k f
   simp only [fH,cT] at f ⊢
   exact ⟨_,_,_,rfl,hK _ _ _ _ (Heap.le_trans c k) f⟩
variable {b:Nat} {e:cC} {pre post:List dC}
def Iy{xs ys:List Int}{an bn:Nat}(w:Win .u64 h g b e A pre xs post)(hn:an=xs.length)(sy:SlI .u64 g B ys)(hm:bn=ys.length)(dx:Dig b64 xs)(dy:Dig b64 ys)(hle:ys.length<=xs.length)(hfit:val b64 xs+val b64 ys<b64^xs.length)(hl:xs.length<=10000000000)
 (hK:∀ xs' h',xs'.length=xs.length->Dig b64 xs'->val b64 xs'=val b64 xs+val b64 ys->Win .u64 h' g b e A pre xs' post->K (.tuple #[]) h'):aW prog T5 #[.slice A an ac,.slice B bn bc] h K:=by
 subst hn hm
 refine A7a _ _ _ _ _ _ ?_
 unfold A96
 refine ⟨fun l t=>∃ (k:Nat) (c:Int) (zs:List Int),l=[U c,I k]/\k<=ys.length/\zs.length=xs.length/\Dig b64 zs/\(0<=c/\c<=1)/\Win .u64 t g b e A pre zs post/\zs.drop k=xs.drop k/\val b64 (zs.take k)+c*b64^k=val b64 (xs.take k)+val b64 (ys.take k),fun l _=>ys.length-(iAt l 1).toNat,⟨0,0,xs,rfl,by omega,rfl,dx,by omega,w,rfl,by simp [val]⟩,?_⟩
 rintro c i t ⟨k,G,zs,q,J,f,o,u,m,d,x⟩
 obtain ⟨rfl,rfl⟩:c=G/\i=(k:Int):=by simpa using q
 refine B6 (fun z=>?_) (fun z=>?_)
 ·have N:=N9 dy k
  have C:=N9 o k
  have r:=E5 d
  have E:=C4 b64 xs k
  have L:=C4 b64 ys k
  refine (sy.mono m.le).load rfl (by omega) (by omega) ?_
  refine m.sl.load f.symm (by omega) (by omega) ?_
  simp only [aC]
  refine Do C N u ⟨_,_,rfl,?_⟩
  obtain ⟨a,y,_⟩:=SlV.at m.sl (i:=k) (by simp;omega)
  refine ⟨a,y,by omega,by omega,m.storeN F4 y (by omega) ?_⟩
  intro h' D
  rw [B7 (n:=(k:Int)+1) (by omega) (by omega)]
  refine ⟨⟨k+1,_,_,rfl,by omega,by simpa using f,o.set (En _),by omega,D,?_,?_⟩,by simp only [iAt,aG,aL];omega⟩
  ·rw [D3 (by omega)];exact D6 d
  ·rw [C7 (by omega),F0,aF,aI (by omega),bG,Cf,E,L,<- r]
   grind
 ·have s:k=ys.length:=by omega
  subst s
  rw [aV] at x
  refine ⟨fun l t=>∃ (k:Nat) (c:Int) (zs:List Int),l=[U c,I k]/\ys.length<=k/\k<=xs.length/\zs.length=xs.length/\Dig b64 zs/\(0<=c/\c<=1)/\Win .u64 t g b e A pre zs post/\zs.drop k=xs.drop k/\val b64 (zs.take k)+c*b64^k=val b64 (xs.take k)+val b64 ys,fun l _=>xs.length-(iAt l 1).toNat,⟨ys.length,c,zs,rfl,by omega,by omega,f,o,u,m,d,x⟩,?_⟩
  clear x d m o f u J z
  rintro c i t ⟨k,G,zs,q,O,J,f,o,u,m,d,x⟩
  obtain ⟨rfl,rfl⟩:c=G/\i=(k:Int):=by simpa using q
  have p:=F3 b64 zs (i:=k) (by omega)
  have j:=F3 b64 xs (i:=k) (by omega)
  refine I3 (fun M=>B6 (fun z=>?_) (fun z=>?_)) (fun M=>?_)
  ·have C:=N9 o k
   have r:=E5 d
   have E:=C4 b64 xs k
   refine m.sl.load f.symm (by omega) (by omega) ?_
   simp only [aC]
   refine Do C (by omega) u ⟨_,_,rfl,?_⟩
   obtain ⟨a,y,_⟩:=SlV.at m.sl (i:=k) (by simp;omega)
   refine ⟨a,y,by omega,by omega,m.storeN F4 y (by omega) ?_⟩
   intro h' D
   rw [B7 (n:=(k:Int)+1) (by omega) (by omega)]
   refine ⟨⟨k+1,_,_,rfl,by omega,by omega,by simpa using f,o.set (En _),by omega,D,?_,?_⟩,by simp only [iAt,aG,aL];omega⟩
   ·rw [D3 (by omega)];exact D6 d
   ·rw [C7 (by omega),F0,aF,aI (by omega),bG,Cf,E,<- r]
    grind
  ·exfalso
   have s:k=xs.length:=by omega
   subst s
   have H:c=1:=by omega
   subst H
   rw [aV] at x
   have:=C6 (by decide) (o.take xs.length)
   omega
  ·have F:c=0:=by omega
   subst F
   refine hK zs t f o ?_ m
   rw [p,j,d];omega
def Eh{xs ys:List Int}{an bn:Nat}(w:Win .u64 h g b e A pre xs post)(hn:an=xs.length)(sy:SlI .u64 g B ys)(hm:bn=ys.length)(dx:Dig b64 xs)(dy:Dig b64 ys)(hle:ys.length<=xs.length)(hfit:val b64 ys<=val b64 xs)(hl:xs.length<=10000000000)
 (hK:∀ xs' h',xs'.length=xs.length->Dig b64 xs'->val b64 xs'=val b64 xs-val b64 ys->Win .u64 h' g b e A pre xs' post->K (.tuple #[]) h'):aW prog U5 #[.slice A an ac,.slice B bn bc] h K:=by
 subst hn hm
 refine St _ _ _ _ _ _ ?_
 unfold Pa
 have key:∀ {z y c:Int},(0<=z/\z<18446744073709551616)->(0<=y/\y<18446744073709551616)->(0<=c/\c<=1)->(z-y-c)%18446744073709551616=z-y-c+18446744073709551616*(if z-y-c<0 then 1 else 0):=by
  intro z y c S T q;split<;>omega
 refine ⟨fun l x=>∃ (k:Nat) (c:Int) (zs:List Int),l=[U c,I k]/\k<=ys.length/\zs.length=xs.length/\Dig b64 zs/\(0<=c/\c<=1)/\Win .u64 x g b e A pre zs post/\zs.drop k=xs.drop k/\val b64 (zs.take k)=val b64 (xs.take k)-val b64 (ys.take k)+c*b64^k,fun l _=>ys.length-(iAt l 1).toNat,⟨0,0,xs,rfl,by omega,rfl,dx,by omega,w,rfl,by simp [val]⟩,?_⟩
 rintro c i x ⟨k,J,zs,s,M,f,o,q,m,d,r⟩
 obtain ⟨rfl,rfl⟩:c=J/\i=(k:Int):=by simpa using s
 refine B6 (fun E=>?_) (fun E=>?_)
 ·have N:=N9 dy k
  have C:=N9 o k
  have t:=E5 d
  have G:=C4 b64 xs k
  have O:=C4 b64 ys k
  refine (sy.mono m.le).load rfl (by omega) (by omega) ?_
  refine m.sl.load f.symm (by omega) (by omega) ?_
  simp only [aC]
  refine Fo C N q ⟨_,_,rfl,?_⟩
  obtain ⟨a,D,_⟩:=SlV.at m.sl (i:=k) (by simp;omega)
  refine ⟨a,D,by omega,by omega,m.storeN F4 D (by omega) ?_⟩
  intro h' F
  rw [B7 (n:=(k:Int)+1) (by omega) (by omega)]
  refine ⟨⟨k+1,_,_,rfl,by omega,by simpa using f,o.set (En _),by split<;>omega,F,?_,?_⟩,by simp only [iAt,aG,aL];omega⟩
  ·rw [D3 (by omega)];exact D6 d
  ·rw [C7 (by omega),F0,aF,aI (by omega),bG,G,O,<- t,r,key C N q]
   grind
 ·have u:k=ys.length:=by omega
  subst u
  rw [aV] at r
  refine ⟨fun l x=>∃ (k:Nat) (c:Int) (zs:List Int),l=[U c,I k]/\ys.length<=k/\k<=xs.length/\zs.length=xs.length/\Dig b64 zs/\(0<=c/\c<=1)/\Win .u64 x g b e A pre zs post/\zs.drop k=xs.drop k/\val b64 (zs.take k)=val b64 (xs.take k)-val b64 ys+c*b64^k,fun l _=>xs.length-(iAt l 1).toNat,⟨ys.length,c,zs,rfl,by omega,by omega,f,o,q,m,d,r⟩,?_⟩
  clear r d m o f q M E
  rintro c i x ⟨k,J,zs,s,R,M,f,o,q,m,d,r⟩
  obtain ⟨rfl,rfl⟩:c=J/\i=(k:Int):=by simpa using s
  have p:=F3 b64 zs (i:=k) (by omega)
  have j:=F3 b64 xs (i:=k) (by omega)
  refine I3 (fun Q=>B6 (fun E=>?_) (fun E=>?_)) (fun Q=>?_)
  ·have C:=N9 o k
   have t:=E5 d
   have G:=C4 b64 xs k
   refine m.sl.load f.symm (by omega) (by omega) ?_
   simp only [aC]
   refine Fo C (by omega) q ⟨_,_,rfl,?_⟩
   obtain ⟨a,D,_⟩:=SlV.at m.sl (i:=k) (by simp;omega)
   refine ⟨a,D,by omega,by omega,m.storeN F4 D (by omega) ?_⟩
   intro h' F
   rw [B7 (n:=(k:Int)+1) (by omega) (by omega)]
   refine ⟨⟨k+1,_,_,rfl,by omega,by omega,by simpa using f,o.set (En _),by split<;>omega,F,?_,?_⟩,by simp only [iAt,aG,aL];omega⟩
   ·rw [D3 (by omega)];exact D6 d
   ·rw [C7 (by omega),F0,aF,aI (by omega),bG,G,<- t,r,key C (y:=0) (by omega) q]
    grind
  ·exfalso
   have u:k=xs.length:=by omega
   subst u
   have L:c=1:=by omega
   subst L
   rw [aV] at r
   have:=L5 (by decide) (o.take xs.length)
   rw [aF,aI (by omega)] at this
   omega
  ·have H:c=0:=by omega
   subst H
   refine hK zs x f o ?_ m
   rw [p,j,d];omega
def A1w{x y:Int}{an bn:Nat}(ma:Mw h A an x)(mb:Mw h B bn y)(hab:bn<=an)(hl:an<=4000000000)(hb0:bn≠0)(hK:∀ A' m c' h',h.le h'->m<=c'->Mw h' A' m (x+y)->K (.slice A' m c') h'):
 wpH prog (Instr.makeSlice Y6 (I (B4 ((an:Int)+1))) (I (B4 ((an:Int)+1)))) (fun v hp1=>∃ (t20A:Option bI) (t20n:Nat) (t20c:Nat),v= .slice t20A t20n t20c/\∀ ty,wpH prog (fC #[Y6,Y6] ty #[.slice t20A t20n t20c,.slice A an ac]) (fun v1 hp2=>∃ (t23:Int),v1=I t23/\aW prog T5 #[.slice t20A t20n t20c,.slice B bn bc] hp2 (fun r hp3=>r= .tuple #[]/\aW prog I7 #[.slice t20A t20n t20c] hp3 (fun r1 hp4=>∃ (t28A:Option bI) (t28n:Nat) (t28c:Nat),r1= .slice t28A t28n t28c/\K (.slice t28A t28n t28c) hp4))) hp1) h:=by
 obtain ⟨a,rfl,z,n,L,rfl⟩:=ma
 obtain ⟨G,rfl,C,k,J,rfl⟩:=mb
 have u:B4 ((a.length:Int)+1)=((a.length+1:Nat):Int):=by rw [B7 (by omega) (by omega)];omega
 rw [u]
 refine J7 Q1 (by omega) (by omega) (by omega) ?_
 intro b F
 rw [aC]
 refine ⟨_,_,_,rfl,fun ty=>?_⟩
 have o:=Win.blk .u64 C1 F (aE (a.length+1) 0)
 refine Gt Q1 o (by simp) (SlI.mono o.le z) rfl (by simp) ?_
 intro H q
 refine ⟨_,rfl,?_⟩
 have c:(aE (a.length+1) (0:Int)).drop a.length=[0]:=by rw [bF];simp [cG]
 rw [c] at q
 have e:val b64 (a++[0])=val b64 a:=by rw [F0];omega
 have D:=L5 (by decide) n
 have w:=L5 (by decide) k
 have s:=C8 (B:=b64) (by decide) hab
 have i:b64^(a.length+1)=b64^a.length*18446744073709551616:=bG _ _
 have E:=D5 (B:=b64) (by decide) a.length
 refine Iy q (by simp) C rfl (n.append (Dig.one (by decide))) k (by simp;omega) ?_ (by simp;omega) ?_
 ·rw [e,aH,dD,i];omega
 intro zs M g j f l
 refine ⟨rfl,?_⟩
 have d:zs.length=a.length+1:=by rw [g];simp
 rw [<- d]
 refine Q5 l.sl j (by omega) (by omega) ?_
 intro m t p
 rw [f,e] at p
 exact ⟨_,_,_,rfl,hK _ _ _ _ l.le t p⟩
def R9{x y:Int}{an bn:Nat}(ma:Mw h A an x)(mb:Mw h B bn y)(ha:an<=ac)(hb:bn<=bc)(hl:an<=4000000000)(hl2:bn<=4000000000)(hK:∀ A' m c' h',h.le h'->m<=c'->Mw h' A' m (x+y)->K (.slice A' m c') h'):aW prog O6 #[.slice A an ac,.slice B bn bc] h K:=by
 refine A4y _ _ _ _ _ _ ?_
 unfold A4z
 refine ⟨fun l h'=>h'=h/\∃ (A1 B1:Option bI) (c d c1 c2:Nat) (i g:Int),l=[.slice A1 c c1,.slice B1 d c2]/\Mw h A1 c i/\Mw h B1 d g/\d<=c/\c<=4000000000/\c<=c1/\i+g=x+y,B6 (fun u=>?_) (fun u=>?_),?_⟩
 ·exact ⟨rfl,_,_,_,_,_,_,y,x,rfl,mb,ma,by omega,hl2,hb,fO _ _⟩
 ·exact ⟨rfl,_,_,_,_,_,_,x,y,rfl,ma,mb,by omega,hl,ha,rfl⟩
 ·rintro A1 c c1 B1 d c2 z ⟨rfl,A1',B1',f,b,j,a,i,g,k,q,p,w,n,o,e⟩
  obtain ⟨⟨rfl,rfl,rfl⟩,rfl,rfl,rfl⟩:(A1=A1'/\c=f/\c1=j)/\B1=B1'/\d=b/\c2=a:=by simpa using k
  rw [<- e] at hK
  refine D8 (fun s=>?_) (fun s=>?_)
  ·have:=(p.len_zero (by decide)).2 (by omega)
   subst this
   rw [fM] at hK
   exact hK _ _ _ _ (B3 _) o q
  ·refine Jl _ (A1w (ac:=c1) (bc:=c2) q p w n (by omega) hK) ?_
   rintro v h' ⟨A2,b,a,t,r⟩
   exact ⟨A2,b,a,t,r _⟩
def H1{x y:Int}{an bn:Nat}(ma:Mw h A an x)(mb:Mw h B bn y)(ha:an<=ac)(hl:an<=4000000000)(hxy:y<=x)(hK:∀ A' m c' h',h.le h'->m<=c'->Mw h' A' m (x-y)->K (.slice A' m c') h'):aW prog G7 #[.slice A an ac,.slice B bn bc] h K:=by
 have a:bn<=an:=mb.len_le (by decide) (dA hxy (ma.lt (by decide)))
 refine Rf _ _ _ _ _ _ ?_
 unfold Kp
 refine D8 (fun p=>?_) (fun p=>?_)
 ·have:=(mb.len_zero (by decide)).2 (by omega)
  subst this
  rw [Int.sub_zero] at hK
  exact hK _ _ _ _ (B3 _) ha ma
 ·obtain ⟨u,rfl,n,q,D,rfl⟩:=ma
  obtain ⟨w,rfl,o,l,C,rfl⟩:=mb
  refine Ez n rfl (by omega) ?_
  intro A1 c1 z s i e
  refine ⟨_,_,_,rfl,?_⟩
  obtain ⟨b,k,r⟩:=e.win (by rintro rfl;rw [gL] at a;omega)
  refine Eh r rfl (o.mono i) rfl q l a hxy (by omega) ?_
  intro zs E d f c g
  refine ⟨rfl,?_⟩
  rw [<- d]
  refine Q5 g.sl f (by have:=e.2.1;omega) (by omega) ?_
  intro m t j
  rw [c] at j
  exact ⟨_,_,_,rfl,hK _ _ _ _ (Heap.le_trans i g.le) (by have:=e.2.1;omega) j⟩
def Ix{zs xs:List Int}{an bn:Nat}{wd:Int}(w:Win .u64 h g b e A pre zs post)(hn:an=zs.length)(sx:SlI .u64 g B xs)(hm:bn=xs.length)(dz:Dig b64 zs)(dx:Dig b64 xs)(hle:zs.length=xs.length)(hw:0<=wd/\wd<18446744073709551616)(hl:xs.length<=10000000000)
 (hK:∀ zs' c h',zs'.length=zs.length->Dig b64 zs'->(0<=c/\c<18446744073709551616)->val b64 zs'+c*b64^zs.length=val b64 zs+val b64 xs*wd->Win .u64 h' g b e A pre zs' post->K (U c) h'):aW prog Bn #[.slice A an ac,.slice B bn bc,U wd] h K:=by
 subst hn hm
 refine Xr _ _ _ _ _ _ _ ?_
 unfold Wn
 refine ⟨fun l o=>∃ (k:Nat) (c:Int) (d:List Int),l=[U c,I k]/\k<=xs.length/\d.length=zs.length/\Dig b64 d/\(0<=c/\c<18446744073709551616)/\Win .u64 o g b e A pre d post/\d.drop k=zs.drop k/\val b64 (d.take k)+c*b64^k=val b64 (zs.take k)+val b64 (xs.take k)*wd,fun l _=>xs.length-(iAt l 1).toNat,⟨0,0,zs,rfl,by omega,rfl,dz,by omega,w,rfl,by simp [val]⟩,?_⟩
 rintro c i o ⟨k,G,d,q,H,f,p,t,m,j,u⟩
 obtain ⟨rfl,rfl⟩:c=G/\i=(k:Int):=by simpa using q
 refine B6 (fun E=>?_) (fun E=>?_)
 ·have y:=N9 dx k
  have z:=N9 p k
  have r:=E5 j
  have F:=C4 b64 xs k
  have D:=C4 b64 zs k
  have hm:0<=xs.getD k 0*wd/\xs.getD k 0*wd<=18446744073709551615*18446744073709551615:=⟨aS y.1 hw.1,eQ (by omega) (by omega) hw.1 (by decide)⟩
  refine (sx.mono m.le).load rfl (by omega) (by omega) ?_
  rw [aC]
  refine Nq y hw ⟨_,_,rfl,?_⟩
  generalize hmm:xs.getD k 0*wd=mm at *
  refine Do (by omega) t (by omega) ⟨_,_,rfl,?_⟩
  refine m.sl.load f.symm (by omega) (by omega) ?_
  rw [aC]
  refine Do z (by omega) (by omega) ⟨_,_,rfl,?_⟩
  obtain ⟨a,x,_⟩:=SlV.at m.sl (i:=k) (by simp;omega)
  refine ⟨a,x,by omega,by omega,m.storeN F4 x (by omega) ?_⟩
  intro h' C
  rw [B7 (n:=(k:Int)+1) (by omega) (by omega)]
  rw [C2 (n:=mm/18446744073709551616+(mm%18446744073709551616+c+0)/18446744073709551616) (by omega) (by omega)]
  rw [C2 (by omega) (by omega)]
  refine ⟨⟨k+1,_,_,rfl,by omega,by simpa using f,p.set (En _),by omega,C,?_,?_⟩,by simp only [iAt,aG,aL];omega⟩
  ·rw [D3 (by omega)];exact D6 j
  ·rw [C7 (by omega),F0,aF,aI (by omega),bG,F,D,<- r]
   have key:(d.getD k 0+(mm%18446744073709551616+c+0)%18446744073709551616+0)%18446744073709551616+18446744073709551616*(mm/18446744073709551616+(mm%18446744073709551616+c+0)/18446744073709551616+(d.getD k 0+(mm%18446744073709551616+c+0)%18446744073709551616+0)/18446744073709551616)=d.getD k 0+mm+c:=by omega
   generalize (d.getD k 0+(mm%18446744073709551616+c+0)%18446744073709551616+0)%18446744073709551616=dg at *
   generalize mm/18446744073709551616+(mm%18446744073709551616+c+0)/18446744073709551616+(d.getD k 0+(mm%18446744073709551616+c+0)%18446744073709551616+0)/18446744073709551616=cn at *
   rw [<- hmm] at key
   grind
 ·have s:k=xs.length:=by omega
  subst s
  rw [aV,<- hle,aV,<- f,aV] at u
  exact hK d c o f p t (by rw [<- f];exact u) m
def Kg{zs xs:List Int}{an bn:Nat}{wd:Int}(w:Win .u64 h g b e A pre zs post)(hn:an=zs.length)(sx:SlI .u64 g B xs)(hm:bn=xs.length)(dz:Dig b64 zs)(dx:Dig b64 xs)(hle:zs.length=xs.length)(hw:0<=wd/\wd<18446744073709551616)(hl:xs.length<=10000000000)
 (hK:∀ zs' c h',zs'.length=zs.length->Dig b64 zs'->(0<=c/\c<18446744073709551616)->val b64 zs'=val b64 zs-val b64 xs*wd+c*b64^zs.length->Win .u64 h' g b e A pre zs' post->K (U c) h'):aW prog U4 #[.slice A an ac,.slice B bn bc,U wd] h K:=by
 subst hn hm
 refine Lv _ _ _ _ _ _ _ ?_
 unfold Hf
 refine ⟨fun l o=>∃ (k:Nat) (c:Int) (d:List Int),l=[U c,I k]/\k<=xs.length/\d.length=zs.length/\Dig b64 d/\(0<=c/\c<18446744073709551616)/\Win .u64 o g b e A pre d post/\d.drop k=zs.drop k/\val b64 (d.take k)=val b64 (zs.take k)-val b64 (xs.take k)*wd+c*b64^k,fun l _=>xs.length-(iAt l 1).toNat,⟨0,0,zs,rfl,by omega,rfl,dz,by omega,w,rfl,by simp [val]⟩,?_⟩
 rintro c i o ⟨k,G,d,r,H,f,p,u,m,j,q⟩
 obtain ⟨rfl,rfl⟩:c=G/\i=(k:Int):=by simpa using r
 refine B6 (fun E=>?_) (fun E=>?_)
 ·have y:=N9 dx k
  have z:=N9 p k
  have s:=E5 j
  have F:=C4 b64 xs k
  have D:=C4 b64 zs k
  have hm:0<=xs.getD k 0*wd/\xs.getD k 0*wd<=18446744073709551615*18446744073709551615:=⟨aS y.1 hw.1,eQ (by omega) (by omega) hw.1 (by decide)⟩
  refine (sx.mono m.le).load rfl (by omega) (by omega) ?_
  rw [aC]
  refine Nq y hw ⟨_,_,rfl,?_⟩
  generalize hmm:xs.getD k 0*wd=mm at *
  refine Do (by omega) u (by omega) ⟨_,_,rfl,?_⟩
  refine m.sl.load f.symm (by omega) (by omega) ?_
  rw [aC]
  refine Fo z (by omega) (by omega) ⟨_,_,rfl,?_⟩
  obtain ⟨a,x,_⟩:=SlV.at m.sl (i:=k) (by simp;omega)
  refine ⟨a,x,by omega,by omega,m.storeN F4 x (by omega) ?_⟩
  intro h' C
  rw [B7 (n:=(k:Int)+1) (by omega) (by omega)]
  rw [C2 (n:=mm/18446744073709551616+(mm%18446744073709551616+c+0)/18446744073709551616) (by omega) (by omega)]
  rw [C2 (by split<;>omega) (by split<;>omega)]
  refine ⟨⟨k+1,_,_,rfl,by omega,by simpa using f,p.set (En _),by split<;>omega,C,?_,?_⟩,by simp only [iAt,aG,aL];omega⟩
  ·rw [D3 (by omega)];exact D6 j
  ·rw [C7 (by omega),F0,aF,aI (by omega),bG,F,D,<- s,q]
   have key:(d.getD k 0-(mm%18446744073709551616+c+0)%18446744073709551616-0)%18446744073709551616=d.getD k 0-mm-c+18446744073709551616*(mm/18446744073709551616+(mm%18446744073709551616+c+0)/18446744073709551616+(if d.getD k 0-(mm%18446744073709551616+c+0)%18446744073709551616-0<0 then 1 else 0)):=by split<;>omega
   rw [key]
   generalize mm/18446744073709551616+(mm%18446744073709551616+c+0)/18446744073709551616+(if d.getD k 0-(mm%18446744073709551616+c+0)%18446744073709551616-0<0 then 1 else 0)=cn at *
   rw [<- hmm]
   grind
 ·have t:k=xs.length:=by omega
  subst t
  rw [aV,<- hle,aV,<- f,aV] at q
  exact hK d c o f p u (by rw [<- f];exact q) m
end
def Yp{x z:Int}{s:Nat}(hs:s<=64)(_hx:0<=x/\x<18446744073709551616)(hz:0<=z/\z<(2:Int)^s):
 bor .u64 z (x*2^s%18446744073709551616)=z+x*2^s%18446744073709551616/\z+x*2^s%18446744073709551616<18446744073709551616/\x*2^s%18446744073709551616=2^s*(x%2^(64-s)):=by
 have k:=Z9 hs
 have e:0<(2:Int)^s:=bL (by decide)
 have j:0<(2:Int)^(64-s):=bL (by decide)
 have a:z<18446744073709551616:=by
  have:(2:Int)^s*1<=2^s*2^(64-s):=aJ (by omega) (by omega)
  omega
 have g:x*2^s%18446744073709551616=2^s*(x%2^(64-s)):=by
  rw [<- k,aR x,Int.mul_emod_mul_of_pos _ _ e]
 have c:=En (x*2^s)
 have d:0<=x%2^(64-s):=aT _ (by omega)
 have i:(x*2^s%18446744073709551616).toNat=2^s*(x%2^(64-s)).toNat:=by
  rw [g,Int.toNat_mul (by omega) d]
  rw [gV (by decide)];rfl
 have f:z.toNat<2^s:=by
  have:((2^s:Nat):Int)=(2:Int)^s:=by simp
  omega
 have b:bor .u64 z (x*2^s%18446744073709551616)=z+x*2^s%18446744073709551616:=by
  rw [A71 ⟨hz.1,a⟩ c,i,Nat.or_comm,A8d f,<- i]
  omega
 refine ⟨b,?_,g⟩
 rw [<- b,A71 ⟨hz.1,a⟩ c]
 have:z.toNat ||| (x*2^s%18446744073709551616).toNat<2^64:=Nat.or_lt_two_pow (by omega) (by have:=c.2;show _<_;omega)
 omega
def Ky(k:Nat):b64^k=(2:Int)^(64*k):=by
 rw [show b64=(2:Int)^64 by decide,<- Int.pow_mul]
section
variable {h g:bC} {K:VP} {A B:Option bI} {ac bc:Nat}
def U1{x:Int}{an s:Nat}(ma:Mw h A an x)(ha:an<=ac)(hl:an<=1000000000)(hs:s<=10000000000)(hK:∀ A' m c' h',h.le h'->m<=c'->Mw h' A' m (x*2^s)->K (.slice A' m c') h'):aW prog T3 #[.slice A an ac,U s] h K:=by
 have j:=ma.len_zero (by decide)
 refine A1x _ _ _ _ ?_
 unfold Ze
 refine D8 (fun V=>?_) (fun V=>D8 (fun u=>?_) (fun u=>?_))
 ·have:=j.2 (by omega)
  subst this
  rw [fJ] at hK
  exact hK _ _ _ _ (B3 _) ha ma
 ·have:s=0:=by omega
  subst this
  rw [iA,Int.mul_one] at hK
  exact hK _ _ _ _ (B3 _) ha ma
 ·obtain ⟨a,rfl,S,W,nx,rfl⟩:=ma
  obtain ⟨k0,hk0⟩:∃ k0,k0=s/64:=⟨_,rfl⟩
  obtain ⟨r,hr⟩:∃ r,r=s%64:=⟨_,rfl⟩
  have X:B4 (C0 (cM (s:Int) 64))=(k0:Int):=by
   rw [bH (by omega),C2 (by omega) (by omega),B7 (by omega) (by omega)];omega
  have L:dN (s:Int) 64=(r:Int):=by rw [bW (by omega)];omega
  have J:C0 ((64:Int)-(r:Int))=((64-r:Nat):Int):=by rw [C2 (by omega) (by omega)];omega
  simp only [X,L,J,aC]
  have R:B4 (B4 ((a.length:Int)+k0)+1)=((a.length+k0+1:Nat):Int):=by rw [B7 (n:=(a.length:Int)+k0) (by omega) (by omega),B7 (by omega) (by omega)];omega
  rw [R]
  refine J7 Q1 (by omega) (by omega) (by omega) ?_
  intro b G
  rw [aC]
  refine ⟨_,_,_,rfl,?_⟩
  have q:0<(2:Int)^r:=bL (by decide)
  have p:0<(2:Int)^(64-r):=bL (by decide)
  have f:=Z9 (s:=r) (by omega)
  refine ⟨fun l h'=>∃ (k:Nat) (zs:List Int),l=[I k]/\k<=a.length/\zs.length=a.length+k0+1/\Dig b64 zs/\h'=blk .u64 C1 h b zs/\zs.drop (k+k0+1)=aE (a.length-k) 0/\zs.getD (k+k0) 0<2^r/\val b64 (zs.take (k+k0+1))=val b64 (a.take k)*2^s,fun l _=>a.length-(iAt l 0).toNat,⟨0,_,rfl,by omega,by simp,I0 (by decide) _,rfl,?_,?_,?_⟩,?_⟩
  ·rw [bF];congr 1;omega
  ·have:(aE (a.length+k0+1) (0:Int)).getD (0+k0) 0=0:=by simp [cU,List.getElem?_replicate];split<;>rfl
   rw [this];exact q
  ·rw [bZ,Cl];simp [val]
  rintro i hp ⟨k,zs,w,hk,c,t,rfl,o,M,d⟩
  obtain rfl:=sI1 w
  have g:=V8 (k:=.u64) (e:=C1) G zs
  refine B6 (fun u=>?_) (fun u=>?_)
  ·have y:=N9 W k
   have O:=N9 t (k+k0)
   have vx:=C4 b64 a k
   have Z:=C4 b64 zs (k+k0)
   have e2:B4 ((k:Int)+k0)=((k+k0:Nat):Int):=by rw [B7 (by omega) (by omega)];omega
   have e3:B4 (((k+k0:Nat):Int)+1)=((k+k0+1:Nat):Int):=by rw [B7 (by omega) (by omega)];omega
   rw [e2,e3]
   refine (S.mono g).load rfl (by omega) (by omega) ?_
   refine (Dl .u64 C1 h b zs).load c.symm (by omega) (by omega) ?_
   simp only [aC]
   refine B6 (fun e=>absurd e (by omega)) (fun _=>?_)
   refine ⟨_,rfl,by omega,by omega,?_⟩
   obtain ⟨o1,T,o3⟩:=Yp (s:=r) (by omega) y ⟨O.1,M⟩
   rw [aI (show r<=64 by omega),E4,o1,B71 (show 64-r<=64 by omega)]
   have H:=En (a.getD k 0*2^r)
   refine Fa (zs:=zs) (i:=k+k0) F4 (by first|omega|(rw [bN];omega)) ?_
   refine B6 (fun e=>absurd e (by omega)) (fun _=>?_)
   refine ⟨_,rfl,by omega,by omega,?_⟩
   refine Fa (zs:=zs.set (k+k0) (zs.getD (k+k0) 0+a.getD k 0*2^r%18446744073709551616)) (i:=k+k0+1) F4 (by first|omega|(rw [bN];omega)) ?_
   have E:0<=a.getD k 0/2^(64-r)/\a.getD k 0/2^(64-r)<2^r:=⟨bY y.1 (by omega),bJ p (by rw [f];exact y.2)⟩
   have ad:(2:Int)^r<=9223372036854775808:=by
    have:=C8 (B:=2) (by decide) (show r<=63 by omega)
    have e:(2:Int)^63=9223372036854775808:=by decide
    omega
   rw [B7 (n:=(k:Int)+1) (by omega) (by omega)]
   refine ⟨⟨k+1,(zs.set (k+k0) (zs.getD (k+k0) 0+a.getD k 0*2^r%18446744073709551616)).set (k+k0+1) (a.getD k 0/2^(64-r)),rfl,by omega,by simpa using c,(t.set ⟨by omega,T⟩).set ⟨E.1,by show _<(18446744073709551616:Int);omega⟩,rfl,?_,?_,?_⟩,by simp only [iAt,aG];omega⟩
   ·rw [show k+1+k0+1=(k+k0+1)+1 by omega,D3 (by omega),D3 (by omega),<- dH,o,bF]
    congr 1
   ·rw [show k+1+k0=k+k0+1 by omega]
    have:((zs.set (k+k0) (zs.getD (k+k0) 0+a.getD k 0*2^r%18446744073709551616)).set (k+k0+1) (a.getD k 0/2^(64-r))).getD (k+k0+1) 0=a.getD k 0/2^(64-r):=by
     rw [cU,hO (by rw [bN];omega)];rfl
    rw [this];exact E.2
   ·rw [show k+1+k0+1=(k+k0+1)+1 by omega,C7 (by rw [bN];omega),F0,C7 (by omega),F0]
    simp only [aF,aH,dD]
    rw [aI (show k+k0<=zs.length by omega),bG,vx]
    rw [Z] at d
    have D:(2:Int)^s=b64^k0*2^r:=by
     rw [Ky,<- bD];congr 1;omega
    have z:b64^(k+k0)=b64^k*b64^k0:=bD _ _ _
    have aa:=aO (a.getD k 0) (2^(64-r))
    have key:a.getD k 0*2^r%18446744073709551616+18446744073709551616*(a.getD k 0/2^(64-r))=a.getD k 0*2^r:=by
     rw [o3,<- f,cX,<- cY]
     have:a.getD k 0%2^(64-r)+2^(64-r)*(a.getD k 0/2^(64-r))=a.getD k 0:=by omega
     rw [this,aR]
    generalize a.getD k 0*2^r%18446744073709551616=lo at *
    generalize a.getD k 0/2^(64-r)=hi at *
    rw [D] at d ⊢
    rw [z] at d ⊢
    have Q:(val b64 (a.take k)+b64^k*a.getD k 0)*(b64^k0*2^r)=val b64 (a.take k)*(b64^k0*2^r)+b64^k*b64^k0*(a.getD k 0*2^r):=by grind
    rw [Q,<- d,<- key]
    grind
  ·have C:k=a.length:=by omega
   subst C
   rw [aV,aK (by omega)] at d
   rw [<- c]
   refine Q5 (Dl _ _ _ _ _) t (aZ _) (by omega) ?_
   intro m N F
   rw [d] at F
   exact ⟨_,_,_,rfl,hK _ _ _ _ (V8 G _) N F⟩
def Gy{x:Int}{an s:Nat}(ma:Mw h A an x)(hl:an<=1000000000)(hs:s<=1000000000000)(hK:∀ A' m c' h',h.le h'->m<=c'->Mw h' A' m (x/2^s)->K (.slice A' m c') h'):aW prog Bm #[.slice A an ac,U s] h K:=by
 have q:=ma.nonneg (by decide)
 have af:=ma.lt (by decide)
 refine Xn _ _ _ _ ?_
 unfold We
 obtain ⟨k0,hk0⟩:∃ k0,k0=s/64:=⟨_,rfl⟩
 obtain ⟨r,hr⟩:∃ r,r=s%64:=⟨_,rfl⟩
 have F:C0 (cM (s:Int) 64)=(k0:Int):=by
  rw [bH (by omega),C2 (by omega) (by omega)];omega
 have H:B4 (k0:Int)=(k0:Int):=B7 (by omega) (by omega)
 have em:dN (s:Int) 64=(r:Int):=by rw [bW (by omega)];omega
 have er:C0 ((64:Int)-(r:Int))=((64-r:Nat):Int):=by rw [C2 (by omega) (by omega)];omega
 have en:C0 (an:Int)=(an:Int):=C2 (by omega) (by omega)
 simp only [F,H,em,er,en,aC]
 have o:(2:Int)^s=b64^k0*2^r:=by
  rw [Ky,<- bD];congr 1;omega
 refine B6 (fun h1=>?_) (fun h1=>?_)
 ·have:x/2^s=0:=by
   apply bU q
   rw [o]
   have u:=C8 (B:=b64) (by decide) (show an<=k0 by omega)
   have Z:b64^k0*1<=b64^k0*2^r:=aJ (by have:0<(2:Int)^r:=bL (by decide);omega) (aQ (D5 (by decide) _))
   omega
  rw [this] at hK
  exact hK _ _ _ _ (B3 _) (aZ _) Mag.zero
 ·obtain ⟨a,rfl,V,p,nx,rfl⟩:=ma
  have y:B4 ((a.length:Int)-k0)=((a.length-k0:Nat):Int):=by rw [B7 (by omega) (by omega)];omega
  rw [y]
  refine J7 Q1 (by omega) (by omega) (by omega) ?_
  intro b hb
  rw [aC]
  refine ⟨_,_,_,rfl,?_⟩
  have R:0<(2:Int)^r:=bL (by decide)
  have d:=Z9 (s:=r) (by omega)
  have w:0<(2:Int)^(64-r):=bL (by decide)
  have ah:(a.drop k0).length=a.length-k0:=aN
  have n:∀ i,(a.drop k0).getD i 0=a.getD (k0+i) 0:=fun i=>A40
  refine ⟨fun l h'=>∃ (k:Nat) (zs:List Int),l=[I k]/\k<=a.length-k0/\zs.length=a.length-k0/\Dig b64 zs/\h'=blk .u64 C1 h b zs/\2^r*val b64 (zs.take k)+(a.drop k0).getD 0 0%2^r=val b64 ((a.drop k0).take k)+b64^k*((a.drop k0).getD k 0%2^r),fun l _=>a.length-(iAt l 0).toNat,⟨0,_,rfl,by omega,by simp,I0 (by decide) _,rfl,by simp [val]⟩,?_⟩
  rintro i ad ⟨k,zs,M,hk,c,E,rfl,W⟩
  obtain rfl:=sI1 M
  have f:∀ zs,h.le (blk .u64 C1 h b zs):=fun zs=>V8 (k:=.u64) (e:=C1) hb zs
  have S:=N9 (p.drop k0) k
  refine B6 (fun h2=>?_) (fun h2=>?_)
  ·have e2:B4 ((k:Int)+k0)=((k0+k:Nat):Int):=by rw [B7 (by omega) (by omega)];omega
   have e3:B4 (((k0+k:Nat):Int)+1)=((k0+(k+1):Nat):Int):=by rw [B7 (by omega) (by omega)];omega
   rw [e2,e3]
   refine (V.mono (f zs)).load rfl (by omega) (by omega) ?_
   refine B6 (fun e=>absurd e (by omega)) (fun _=>?_)
   refine ⟨_,rfl,by omega,by omega,?_⟩
   simp only [aC]
   rw [<- n k,B71 (show r<=64 by omega)]
   have j:0<=(a.drop k0).getD k 0/2^r:=bY S.1 (by omega)
   have O:(a.drop k0).getD k 0/2^r<2^(64-r):=by
    apply bJ R
    rw [aR,d];exact S.2
   have T:(2:Int)^(64-r)<=18446744073709551616:=by
    rw [<- d]
    have:=aD (show 1<=(2:Int)^r by omega) (aQ w);omega
   refine Fa (zs:=zs) (i:=k) F4 (by first|omega|(rw [bN];omega)) ?_
   have d1:Dig b64 (zs.set k ((a.drop k0).getD k 0/2^r)):=E.set ⟨j,by show _<(18446744073709551616:Int);omega⟩
   have l1:(zs.set k ((a.drop k0).getD k 0/2^r)).length=a.length-k0:=by rw [bN];exact c
   have g1:(zs.set k ((a.drop k0).getD k 0/2^r)).getD k 0=(a.drop k0).getD k 0/2^r:=by simp [cU,show k<zs.length by omega]
   have vr:=C4 b64 (a.drop k0) k
   have g:∀ z:Int,2^r*z=(a.drop k0).getD k 0-(a.drop k0).getD k 0%2^r+18446744073709551616*((a.drop k0).getD (k+1) 0%2^r)->
    2^r*val b64 ((zs.set k z).take (k+1))+(a.drop k0).getD 0 0%2^r=val b64 ((a.drop k0).take (k+1))+b64^(k+1)*((a.drop k0).getD (k+1) 0%2^r):=by
    intro z ez
    rw [C7 (by omega),F0,aF,aI (by omega),vr,bG]
    have y:2^r*(val b64 (zs.take k)+b64^k*z)=2^r*val b64 (zs.take k)+b64^k*(2^r*z):=by grind
    rw [y,ez]
    grind
   have ag:=aO ((a.drop k0).getD k 0) (2^r)
   have C:B4 ((k:Int)+1)=((k+1:Nat):Int):=by rw [B7 (by omega) (by omega)];omega
   rw [C]
   refine B6 (fun h3=>?_) (fun h3=>?_)
   ·have ld:=(Dl .u64 C1 h b (zs.set k ((a.drop k0).getD k 0/2^r)))
    obtain ⟨aa,D,G⟩:=SlV.at ld (i:=k) (by simp;omega)
    refine ⟨aa,D,by omega,by omega,(a.drop k0).getD k 0/2^r,?_,?_⟩
    ·rw [cF,G]
     congr 1
     simp only [List.getElem_map]
     congr 1
     simp
    refine (V.mono (f _)).load rfl (by omega) (by omega) ?_
    refine B6 (fun e=>absurd e (by omega)) (fun _=>?_)
    refine ⟨_,rfl,by omega,by omega,?_⟩
    simp only [aC]
    rw [<- n (k+1)]
    have gr:=N9 (p.drop k0) (k+1)
    obtain ⟨o1,o2,o3⟩:=Yp (s:=64-r) (by omega) gr ⟨j,O⟩
    rw [aI (show 64-r<=64 by omega),E4,o1]
    refine Fa (zs:=zs.set k ((a.drop k0).getD k 0/2^r)) (i:=k) F4 (by first|omega|(rw [bN];omega)) ?_
    rw [List.set_set]
    have ae:=En ((a.drop k0).getD (k+1) 0*2^(64-r))
    refine ⟨⟨k+1,zs.set k ((a.drop k0).getD k 0/2^r+(a.drop k0).getD (k+1) 0*2^(64-r)%18446744073709551616),rfl,by omega,by simpa using c,E.set ⟨by omega,o2⟩,rfl,g _ ?_⟩,by simp only [iAt,aG];omega⟩
    rw [o3,show 64-(64-r)=r by omega,cY,<- cX,d]
    omega
   ·have Q:(a.drop k0).getD (k+1) 0=0:=by simp only [cU,cQ (show (a.drop k0).length<=k+1 by omega)];rfl
    refine ⟨⟨k+1,zs.set k ((a.drop k0).getD k 0/2^r),rfl,by omega,l1,d1,rfl,g _ ?_⟩,by simp only [iAt,aG];omega⟩
    rw [Q,gR,fL,fM];omega
  ·have J:k=a.length-k0:=by omega
   subst J
   have Q:(a.drop k0).getD (a.length-k0) 0=0:=by simp only [cU,cQ (show (a.drop k0).length<=a.length-k0 by omega)];rfl
   rw [Q,gR,fL,fM,aK (by omega),aK (by omega)] at W
   have N:=aT ((a.drop k0).getD 0 0) (show (2:Int)^r≠0 by omega)
   have t:=aP ((a.drop k0).getD 0 0) R
   have L:val b64 a/2^s=val b64 zs:=by
    have sp:=F3 b64 a (i:=k0) (by omega)
    have u:=L5 (by decide) (p.take k0)
    have Z:=C6 (by decide) (p.take k0)
    rw [aF,aI (by omega)] at u
    rw [o,<- fG (aQ (D5 (by decide) _)),sp,fT _ _ (by have:=D5 (B:=b64) (by decide) k0;omega),bU Z u,dL,<- W,fO,fT _ _ (by omega),bU N t,dL]
   rw [<- c]
   refine Q5 (Dl _ _ _ _ _) E (aZ _) (by omega) ?_
   intro m hm X
   rw [<- L] at X
   exact ⟨_,_,_,rfl,hK _ _ _ _ (V8 hb _) hm X⟩
end
def Cz(B:Int)(xs:List Int)(n:Nat):val B (xs++aE n 0)=val B xs:=by rw [G0,Cl];omega
def Np{xs:List Int}{k:Nat}(h:fV xs)(hk:k<xs.length):fV (xs.drop k):=by
 unfold fV at *
 rwa [List.getLast?_drop,iN (by omega)]
def Mw.of{h:bC}{A:Option bI}{xs:List Int}(s:SlI .u64 h A xs)(d:Dig b64 xs)(n:fV xs):Mw h A xs.length (val b64 xs):=⟨xs,rfl,s,d,n,rfl⟩
def A1q{k:dY}{h:bC}{A:Option bI}{xs:List Int}(s:SlI k h A xs){c l:Nat}(hl:l<=xs.length)(hc:xs.length<=c):SlI k h (J9 A c l 1) (xs.drop l):=by
 have:=s.cut (c:=c) (l:=l) (m:=xs.length) hl (aZ _) hc
 rwa [aK (by rw [aN];omega)] at this
def Kc{k:dY}{h:bC}{A:Option bI}{xs:List Int}(s:SlI k h A xs){c m:Nat}(hm:m<=xs.length)(hc:xs.length<=c):SlI k h A (xs.take m):=by
 have:=s.cut (c:=c) (l:=0) (m:=m) (by omega) hm hc
 simpa [H8] using this
def Bi{h:bC}{K:VP}{A:Option bI}{ac n:Nat}{v:Int}{xs:List Int}(s:SlI .u64 h A xs)(hd:Dig b64 xs)(hn:n=xs.length)(hv:val b64 xs=v)(hc:n<=ac)(hl:n<=10000000000)(hK:∀ m,m<=n->Mw h A m v->K (.slice A m ac) h):aW prog I7 #[.slice A n ac] h K:=by
 subst hn hv
 exact Q5 s hd hc hl hK
def C4l(N:Nat):Prop:=∀ {h:bC} {K:VP} {A B:Option bI} {ac bc an bn:Nat} {x y:Int},an+bn<=N->Mw h A an x->Mw h B bn y->an<=ac->bn<=bc->an<=1000000000->bn<=1000000000->
 (∀ A' m c' h',h.le h'->m<=c'->Mw h' A' m (x*y)->K (.slice A' m c') h')->aW prog D0 #[.slice A an ac,.slice B bn bc] h K
section
variable {h g:bC} {K:VP} {A B:Option bI} {ac bc:Nat}
def C36{xs ys:List Int}{b:Nat}(hb:h b=none)(sx:SlI .u64 h A xs)(dx:Dig b64 xs)(sy:SlI .u64 h B ys)(dy:Dig b64 ys)(hl:xs.length<=1000000000)(hl2:ys.length<=1000000000)
 (hK:∀ A' m c' h',h.le h'->m<=c'->Mw h' A' m (val b64 xs*val b64 ys)->K (.slice A' m c') h'):
 Y4 prog K A xs.length ac B ys.length (some ⟨b,0,none⟩) (xs.length+ys.length) (xs.length+ys.length) (blk .u64 C1 h b (aE (xs.length+ys.length) 0)):=by
 unfold Y4
 refine ⟨fun l z=>∃ (k:Nat) (zs:List Int),l=[I k]/\k<=ys.length/\zs.length=xs.length+ys.length/\Dig b64 zs/\Win .u64 z h b C1 (some ⟨b,0,none⟩) [] zs []/\zs.drop (k+xs.length)=aE (ys.length-k) 0/\val b64 (zs.take (k+xs.length))=val b64 xs*val b64 (ys.take k),fun l _=>ys.length-(iAt l 0).toNat,⟨0,_,rfl,by omega,by simp,I0 (by decide) _,Win.blk .u64 C1 hb _,?_,?_⟩,?_⟩
 ·rw [bF];congr 1;omega
 ·rw [bZ,Cl];simp [val]
 rintro i z ⟨k,zs,x,Q,o,g,w,j,u⟩
 obtain rfl:=sI1 x
 refine B6 (fun M=>?_) (fun M=>?_)
 ·have N:=N9 dy k
  have D:=C4 b64 ys k
  have H:B4 ((k:Int)+xs.length)=((k+xs.length:Nat):Int):=by rw [B7 (by omega) (by omega)];omega
  rw [H]
  refine (sy.mono w.le).load rfl (by omega) (by omega) ?_
  simp only [aC]
  refine ⟨⟨by omega,by omega⟩,⟨by omega,by omega⟩,?_⟩
  have a:((zs.drop k).take (k+xs.length-k)).length=xs.length:=by rw [aF,aN];omega
  refine Ix (w.sub (l:=k) (m:=k+xs.length) (c:=xs.length+ys.length) (by omega) (by omega) (by omega)) (by rw [a];omega) sx rfl ((g.drop k).take _) dx a N (by omega) ?_
  intro f c h' d e J s L
  rw [a] at d
  have F:=w.whole (l:=k) (m:=k+xs.length) (by omega) (by omega) (by omega) L
  refine ⟨_,rfl,_,rfl,by omega,by omega,?_⟩
  have r:(zs.take k++f++zs.drop (k+xs.length)).length=xs.length+ys.length:=by
   simp only [aH,aF,aN];omega
  refine F.storeN (i:=k+xs.length) F4 rfl (by omega) ?_
  intro O E
  rw [B7 (n:=(k:Int)+1) (by omega) (by omega)]
  have t:(zs.take k++f++zs.drop (k+xs.length)).take (k+xs.length)=zs.take k++f:=by
   apply dB
   simp only [aH,aF];omega
  have q:(zs.take k++f++zs.drop (k+xs.length)).drop (k+xs.length)=zs.drop (k+xs.length):=by
   apply eJ
   simp only [aH,aF];omega
  refine ⟨⟨k+1,_,rfl,by omega,by rw [bN];exact r,(((g.take k).append e).append (g.drop _)).set J,E,?_,?_⟩,by simp only [iAt,aG];omega⟩
  ·rw [show k+1+xs.length=(k+xs.length)+1 by omega,D3 (by omega),<- dH,q,j,bF]
   congr 1
  ·rw [show k+1+xs.length=(k+xs.length)+1 by omega,C7 (by omega),t,F0,G0,D]
   simp only [aH,aF]
   rw [aI (by omega),d,bD]
   have p:val b64 (zs.take (k+xs.length))=val b64 (zs.take k)+b64^k*val b64 ((zs.drop k).take (k+xs.length-k)):=by
    rw [show k+xs.length-k=xs.length by omega,gQ,G0,aF,aI (by omega)]
   rw [a] at s
   rw [p] at u
   grind
 ·have y:k=ys.length:=by omega
  subst y
  rw [aV,aK (by omega)] at u
  rw [<- o]
  refine Q5 w.sl g (aZ _) (by omega) ?_
  intro m G C
  rw [u] at C
  exact ⟨_,_,_,rfl,hK _ _ _ _ w.le G C⟩
def Qh{x y:Int}{an bn N:Nat}(ih:C4l N)(hN:2*bn<=N)(ma:Mw h A an x)(mb:Mw h B bn y)(ha:an<=ac)(hbc:bn<=bc)(hl:an<=1000000000)(hb0:0<bn)(hba:bn<=an)(hK:∀ A' m c' h',h.le h'->m<=c'->Mw h' A' m (x*y)->K (.slice A' m c') h'):aW prog Cq #[.slice A an ac,.slice B bn bc] h K:=by
 have X:=mb.nonneg (by decide)
 have u:=mb.lt (by decide)
 obtain ⟨a,rfl,sx,Q,nx,rfl⟩:=ma
 refine Su _ _ _ _ _ _ ?_
 unfold Pb
 have e1:B4 ((a.length:Int)+bn)=((a.length+bn:Nat):Int):=by rw [B7 (by omega) (by omega)];omega
 rw [e1]
 refine J7 Q1 (by omega) (by omega) (by omega) ?_
 intro b hb
 rw [aC]
 refine ⟨_,_,_,rfl,?_⟩
 refine ⟨fun l E=>∃ (k:Nat) (zs:List Int) (g:bC),l=[I k]/\k<=a.length+bn/\h.le g/\zs.length=a.length+bn/\Dig b64 zs/\Win .u64 E g b C1 (some ⟨b,0,none⟩) [] zs []/\val b64 zs=val b64 (a.take k)*y,fun l _=>a.length+bn-(iAt l 0).toNat,⟨0,_,h,rfl,by omega,B3 h,by simp,I0 (by decide) _,Win.blk .u64 C1 hb _,by rw [Cl];simp [val]⟩,?_⟩
 rintro i E ⟨k,zs,g,af,hk,M,S,t,w,hv⟩
 obtain rfl:=sI1 af
 refine B6 (fun h1=>?_) (fun h1=>?_)
 ·have e2:B4 ((k:Int)+bn)=((k+bn:Nat):Int):=by rw [B7 (by omega) (by omega)];omega
  rw [e2]
  obtain ⟨en,hen⟩:∃ en,en=min a.length (k+bn):=⟨_,rfl⟩
  have e3:(if (a.length:Int)<((k+bn:Nat):Int) then (a.length:Int) else ((k+bn:Nat):Int))=(en:Int):=by split<;>omega
  rw [e3]
  simp only [aC]
  refine ⟨⟨by omega,by omega⟩,⟨by omega,by omega⟩,⟨by omega,by omega⟩,?_⟩
  have Z:((a.drop k).take (en-k)).length=en-k:=by rw [aF,aN];omega
  have sp:SlI .u64 g (J9 A ac k 1) ((a.drop k).take (en-k)):=(sx.mono M).cut (c:=ac) (l:=k) (m:=en) (by omega) (by omega) ha
  have dp:Dig b64 ((a.drop k).take (en-k)):=(Q.drop k).take _
  have al:=C6 (by decide) Q
  have G:∀ m,m<=en-k->fV (((a.drop k).take (en-k)).take m)->val b64 (((a.drop k).take (en-k)).take m)=val b64 ((a.drop k).take (en-k))->
   aW prog D0 #[.slice (J9 A ac k 1) m (ac-k),.slice B bn bc] E (fun R d=>∃ (t38A:Option bI) (t38n:Nat) (t38c:Nat),R= .slice t38A t38n t38c/\Heap.le E d/\aW prog T5 #[.slice (J9 (some ⟨b,0,none⟩) (a.length+bn) k 1) (a.length+bn-k) (a.length+bn-k),.slice t38A t38n t38c] d (fun r2 s=>r2= .tuple #[]/\(∃ (k_1:Nat) (zs:List Int) (g:bC),[I ((k+bn:Nat):Int)]=[I k_1]/\k_1<=a.length+bn/\h.le g/\zs.length=a.length+bn/\Dig b64 zs/\Win .u64 s g b C1 (some ⟨b,0,none⟩) [] zs []/\val b64 zs=val b64 (a.take k_1)*y)/\a.length+bn-(iAt [I ((k+bn:Nat):Int)] 0).toNat<a.length+bn-(iAt [I k] 0).toNat)):=by
   intro m T p q
   have Mp:Mw g (J9 A ac k 1) m (val b64 ((a.drop k).take (en-k))):=⟨((a.drop k).take (en-k)).take m,by rw [aF];omega,Kc sp (c:=ac) (by omega) (by omega),dp.take m,p,q⟩
   refine w.call ?_
   refine ih (by omega) Mp (mb.mono M) (by omega) hbc (by omega) (by omega) ?_
   intro A' m' c' g2 l2 ar M2 h3 w3
   refine ⟨_,_,_,rfl,?_,?_⟩
   ·rw [w.eq,w3.eq]
    intro kk o e
    by_cases z:kk=b
    ·subst z;rw [B9] at e ⊢;exact e
    ·rw [B8 _ _ z] at e ⊢;exact l2 kk o e
   obtain ⟨f,L,H,F,W,aa⟩:=M2
   have aj:=F3 b64 zs (i:=k) (by omega)
   have aq:=C6 (by decide) (t.take k)
   have ad:a.take en=a.take k++(a.drop k).take (en-k):=by
    have:=gQ (l:=a) (i:=k) (j:=en-k)
    rwa [show k+(en-k)=en by omega] at this
   have ah:val b64 (a.take en)=val b64 (a.take k)+b64^k*val b64 ((a.drop k).take (en-k)):=by
    rw [ad,G0,aF,aI (by omega)]
   have C:val b64 zs+b64^k*val b64 f=val b64 (a.take en)*y:=by
    rw [hv,aa,ah];grind
   have am:val b64 (a.take en)*y<b64^(a.length+bn):=by
    have t1:=L5 (by decide) (Q.take en)
    have t2:=C6 (by decide) (Q.take en)
    rw [aF,aI (by omega)] at t1
    have t3:val b64 (a.take en)*y<=b64^en*y:=aD (by omega) X
    have t4:b64^en*y<b64^en*b64^bn:=cO u (D5 (by decide) en)
    rw [<- bD] at t4
    have t5:=C8 (B:=b64) (by decide) (show en+bn<=a.length+bn by omega)
    omega
   have D:val b64 (zs.drop k)+val b64 f<b64^(a.length+bn-k):=by
    have e5:b64^(a.length+bn)=b64^k*b64^(a.length+bn-k):=by rw [<- bD];congr 1;omega
    by_cases O:val b64 (zs.drop k)+val b64 f<b64^(a.length+bn-k)
    ·exact O
    ·have:=aJ (show b64^(a.length+bn-k)<=val b64 (zs.drop k)+val b64 f by omega) (aQ (D5 (B:=b64) (by decide) k))
     rw [cY] at this
     omega
   have ak:=C6 (by decide) (t.drop k)
   have ao:f.length<=a.length+bn-k:=by
    have Mps:Mw g2 A' f.length (val b64 f):=⟨f,rfl,H,F,W,rfl⟩
    exact Mps.len_le (by decide) (by omega)
   have ws:=w3.sub (l:=k) (m:=a.length+bn) (c:=a.length+bn) (by omega) (by omega) (by omega)
   have ag:(zs.drop k).take (a.length+bn-k)=zs.drop k:=aK (by rw [aN];omega)
   have J:(zs.drop k).length=a.length+bn-k:=by rw [aN];omega
   rw [ag] at ws
   refine Iy ws J.symm H L (t.drop k) F (by omega) (by rw [J];exact D) (by omega) ?_
   intro us h5 ap V ae w5
   have w6:=w3.whole (l:=k) (m:=a.length+bn) (by omega) (by omega) (by omega) w5
   refine ⟨rfl,⟨k+bn,_,g2,rfl,by omega,Heap.le_trans M l2,?_,((t.take k).append V).append (t.drop _),w6,?_⟩,by simp only [iAt,aG];omega⟩
   ·simp only [aH,aF,aN];omega
   ·rw [aY (by omega),bX,G0,aF,aI (by omega),ae]
    have:a.take (k+bn)=a.take en:=by
     rw [hen]
     by_cases O:a.length<=k+bn
     ·rw [aI O,aV,aK O]
     ·rw [fD (by omega)]
    rw [this,<- C,aj];grind
  have tr:=Ed (K:=fun r n=>∃ (t36A:Option bI) (t36n:Nat) (t36c:Nat),r= .slice t36A t36n t36c/\Heap.le E n/\aW prog D0 #[.slice t36A t36n t36c,.slice B bn bc] n (fun R d=>∃ (t38A:Option bI) (t38n:Nat) (t38c:Nat),R= .slice t38A t38n t38c/\Heap.le n d/\aW prog T5 #[.slice (J9 (some ⟨b,0,none⟩) (a.length+bn) k 1) (a.length+bn-k) (a.length+bn-k),.slice t38A t38n t38c] d (fun r2 s=>r2= .tuple #[]/\(∃ (k_1:Nat) (zs:List Int) (g:bC),[I ((k+bn:Nat):Int)]=[I k_1]/\k_1<=a.length+bn/\h.le g/\zs.length=a.length+bn/\Dig b64 zs/\Win .u64 s g b C1 (some ⟨b,0,none⟩) [] zs []/\val b64 zs=val b64 (a.take k_1)*y)/\a.length+bn-(iAt [I ((k+bn:Nat):Int)] 0).toNat<a.length+bn-(iAt [I k] 0).toNat))) (ac:=ac-k) (sp.mono w.le) (by omega) (by omega) (fun m T p q=>⟨_,_,_,rfl,B3 _,G m (by omega) p q⟩)
  rw [Z] at tr
  exact tr
 ·have ai:a.take k=a:=aK (by omega)
  rw [ai] at hv
  rw [<- S]
  refine Q5 w.sl t (aZ _) (by omega) ?_
  intro m T hM
  rw [hv] at hM
  exact ⟨_,_,_,rfl,hK _ _ _ _ (Heap.le_trans M w.le) T hM⟩
def C75{X0 X1 Y0 Y1 P:Int}(hx0:0<=X0)(hx1:0<=X1)(hy0:0<=Y0)(hy1:0<=Y1):
 X0*Y0<=(X0+X1)*(Y0+Y1)/\X1*Y1<=(X0+X1)*(Y0+Y1)-X0*Y0/\(X0+P*X1)*(Y0+P*Y1)=X0*Y0+P*((X0+X1)*(Y0+Y1)-X0*Y0-X1*Y1)+P*P*(X1*Y1):=by
 have a:=aS hx0 hy0
 have b:=aS hx0 hy1
 have c:=aS hx1 hy0
 have d:=aS hx1 hy1
 have e:(X0+X1)*(Y0+Y1)=X0*Y0+X0*Y1+X1*Y0+X1*Y1:=by grind
 refine ⟨by omega,by omega,?_⟩
 rw [e];grind
def C59:∀ N,C4l N:=by
 intro N
 induction N with
 | zero=>
  intro h K A B ac bc an bn x y hN ma mb ha O hl u C
  have h0:=ma.len_zero (by decide)
  have hx:x=0:=h0.2 (by omega)
  subst hx
  rw [fJ] at C
  refine Fe _ _ _ _ _ _ ?_
  unfold Dy
  refine ⟨fun l h'=>h'=h/\l=[.slice A an ac,.slice B bn bc],B6 (fun e=>absurd e (by omega)) (fun _=>⟨rfl,rfl⟩),?_⟩
  rintro A1 s c1 B1 D c2 hp ⟨rfl,hl⟩
  obtain ⟨⟨rfl,rfl,rfl⟩,rfl,rfl,rfl⟩:(A1=A/\s=an/\c1=ac)/\B1=B/\D=bn/\c2=bc:=by simpa using hl
  refine D8 (fun _=>C none 0 0 _ (B3 _) (aZ _) Mag.zero) (fun e=>absurd (by omega) e)
 | succ N ih=>
  intro h K A B ac bc an bn x y hN ma mb ha O hl u C
  refine Fe _ _ _ _ _ _ ?_
  unfold Dy
  refine ⟨fun l h'=>h'=h/\∃ (A1 B1:Option bI) (s D c1 c2:Nat) (x1 y1:Int),l=[.slice A1 s c1,.slice B1 D c2]/\Mw h A1 s x1/\Mw h B1 D y1/\D<=s/\s<=1000000000/\s<=c1/\D<=c2/\s+D<=N+1/\x1*y1=x*y,B6 (fun h1=>?_) (fun h1=>?_),?_⟩
  ·exact ⟨rfl,_,_,_,_,_,_,y,x,rfl,mb,ma,by omega,u,O,ha,by omega,aR _ _⟩
  ·exact ⟨rfl,_,_,_,_,_,_,x,y,rfl,ma,mb,by omega,hl,ha,O,by omega,rfl⟩
  clear ma mb ha O hl u hN
  rintro A1 s c1 B1 D c2 hp ⟨rfl,A1',B1',br,b5,bw,ba,x1,y1,ax,m1,T,hn,aq,J,Z,cq,af⟩
  obtain ⟨⟨rfl,rfl,rfl⟩,rfl,rfl,rfl⟩:(A1=A1'/\s=br/\c1=bw)/\B1=B1'/\D=b5/\c2=ba:=by simpa using ax
  rw [<- af] at C
  clear ax af
  have hz:=T.len_zero (by decide)
  refine D8 (fun h0=>?_) (fun h0=>?_)
  ·have:y1=0:=hz.2 (by omega)
   subst this
   rw [fL] at C
   exact C none 0 0 _ (B3 _) (aZ _) Mag.zero
  ·refine ⟨fun l h'=>∃ t:Bool,h'=hp/\l=[.bool t]/\(t=true->y1=1),D8 (fun h1=>?_) (fun h1=>⟨false,rfl,rfl,fun e=>by cases e⟩),?_⟩
   ·obtain ⟨f,S,sy,Q,ny,bt⟩:=T
    refine sy.load S (by omega) (by omega) ⟨_,rfl,rfl,fun e=>?_⟩
    have e1:f.getD 0 0=1:=by simpa using e
    obtain ⟨d,rfl⟩:∃ d,f=[d]:=by
     cases f with
     | nil=>simp at S;omega
     | cons d r=>
      cases r with
      | nil=>exact ⟨d,rfl⟩
      | cons _ _=>simp at S;omega
    rw [<- bt,W4];simpa using e1
   rintro tb X ⟨t',rfl,u,M⟩
   obtain rfl:tb=t':=by simpa using u
   refine Br.of (fun e=>?_) (fun _=>?_)
   ·rw [M e,Int.mul_one] at C
    exact C _ _ _ _ (B3 _) J m1
   clear M u
   have eL:B4 ((s:Int)+D)=((s+D:Nat):Int):=by rw [B7 (by omega) (by omega)];omega
   refine B6 (fun h2=>?_) (fun h2=>?_)
   ·obtain ⟨g,rfl,sx,dx,nx,rfl⟩:=m1
    obtain ⟨f,rfl,sy,Q,ny,rfl⟩:=T
    rw [eL]
    refine J7 Q1 (by omega) (by omega) (by omega) ?_
    intro b O
    rw [aC]
    exact ⟨_,_,_,rfl,C36 O sx dx sy Q aq (by omega) C⟩
   ·obtain ⟨H,hH⟩:∃ H,H=(s+1)/2:=⟨_,rfl⟩
    have eH:B4 (cM (B4 ((s:Int)+1)) 2)=(H:Int):=by
     rw [B7 (n:=(s:Int)+1) (by omega) (by omega),bH (by omega),B7 (by omega) (by omega)];omega
    have bm:B4 ((2:Int)*(H:Int))=((2*H:Nat):Int):=by rw [B7 (by omega) (by omega)];omega
    simp only [eH,eL,bm,aC]
    refine B6 (fun h3=>?_) (fun h3=>?_)
    ·refine Qh ih (by omega) m1 T J Z aq (by omega) (by omega) ?_
     intro A' m c' h' l' k' M'
     exact ⟨_,_,_,rfl,C _ _ _ _ l' k' M'⟩
    ·have b1:=m1.nonneg (by decide)
     have au:=m1.lt (by decide)
     have ao:=T.lt (by decide)
     have b3:=T.nonneg (by decide)
     obtain ⟨g,rfl,sx,dx,nx,rfl⟩:=m1
     obtain ⟨f,rfl,sy,Q,ny,rfl⟩:=T
     have bi:H<g.length:=by omega
     have bo:H<f.length:=by omega
     have ag:=C6 (by decide) (dx.take H)
     have a3:=C6 (by decide) (dx.drop H)
     have al:=C6 (by decide) (Q.take H)
     have ae:=C6 (by decide) (Q.drop H)
     have bk:=F3 b64 g (i:=H) (by omega)
     have b6:=F3 b64 f (i:=H) (by omega)
     have aw:=L5 (by decide) (dx.take H)
     have aj:=L5 (by decide) (Q.take H)
     rw [aF,aI (by omega)] at aw aj
     have w:Mw X (J9 A1 c1 H 1) (g.length-H) (val b64 (g.drop H)):=by
      have:=Mw.of (A1q sx (c:=c1) (l:=H) (by omega) J) (dx.drop H) (Np nx bi)
      rwa [aN] at this
     have z:Mw X (J9 B1 c2 H 1) (f.length-H) (val b64 (f.drop H)):=by
      have:=Mw.of (A1q sy (c:=c2) (l:=H) (by omega) Z) (Q.drop H) (Np ny bo)
      rwa [aN] at this
     obtain ⟨ka,kb,kc⟩:=C75 (P:=b64^H) ag a3 al ae
     rw [<- bk,<- b6] at kc
     generalize hX0:val b64 (g.take H)=X0 at *
     generalize hX1:val b64 (g.drop H)=X1 at *
     generalize hY0:val b64 (f.take H)=Y0 at *
     generalize hY1:val b64 (f.drop H)=Y1 at *
     rw [H8,H8,bV,bV,bV]
     refine ⟨⟨by omega,by omega⟩,⟨by omega,by omega⟩,?_⟩
     refine Bi (Kc sx (c:=c1) (m:=H) (by omega) J) (dx.take H) (by rw [aF];omega) hX0 (by omega) (by omega) ?_
     intro mx ch MX0
     refine ⟨_,_,_,rfl,B3 _,⟨by omega,by omega⟩,⟨by omega,by omega⟩,?_⟩
     refine Bi (Kc sy (c:=c2) (m:=H) (by omega) Z) (Q.take H) (by rw [aF];omega) hY0 (by omega) (by omega) ?_
     intro my cm MY0
     refine ⟨_,_,_,rfl,B3 _,?_⟩
     refine ih (by omega) MX0 MY0 (by omega) (by omega) (by omega) (by omega) ?_
     intro A3 n3 c3 g3 l3 k3 M3
     refine ⟨_,_,_,rfl,?_⟩
     refine ih (by omega) (w.mono l3) (z.mono l3) (by omega) (by omega) (by omega) (by omega) ?_
     intro A4 n4 c4 g4 l4 k4 M4
     refine ⟨_,_,_,rfl,?_⟩
     have G:=Heap.le_trans l3 l4
     refine R9 (MX0.mono G) (w.mono G) (by omega) (by omega) (by omega) (by omega) ?_
     intro A5 n5 c5 g5 l5 k5 M5
     refine ⟨_,_,_,rfl,?_⟩
     have a2:=Heap.le_trans G l5
     refine R9 (MY0.mono a2) (z.mono a2) (by omega) (by omega) (by omega) (by omega) ?_
     intro A6 n6 c6 g6 l6 k6 M6
     refine ⟨_,_,_,rfl,?_⟩
     have a6:=w.lt (by decide)
     have a8:=z.lt (by decide)
     have bq:=D5 (B:=b64) (by decide) H
     have b7:b64^(H+1)=b64^H*18446744073709551616:=bG _ _
     have cd:n5<=H+1:=by
      refine M5.len_le (by decide) ?_
      have:=C8 (B:=b64) (by decide) (show g.length-H<=H by omega)
      omega
     have b9:n6<=H+1:=by
      refine M6.len_le (by decide) ?_
      have:=C8 (B:=b64) (by decide) (show f.length-H<=H by omega)
      omega
     refine ih (by omega) (M5.mono l6) M6 k5 k6 (by omega) (by omega) ?_
     intro A7 n7 c7 g7 l7 k7 M7
     refine ⟨_,_,_,rfl,?_⟩
     have ad:=Heap.le_trans (Heap.le_trans l5 l6) l7
     have k:∀ {p q:Int} {i j:Nat},0<=p->p<b64^i->0<=q->q<b64^j->p*q<b64^(i+j):=by
      intro p q i j a b c d
      rw [bD]
      have t1:p*q<=b64^i*q:=aD (by omega) c
      have t2:b64^i*q<b64^i*b64^j:=cO d (D5 (by decide) i)
      omega
     have ce:n7<=n5+n6:=M7.len_le (by decide) (k (M5.nonneg (by decide)) (M5.lt (by decide)) (M6.nonneg (by decide)) (M6.lt (by decide)))
     refine H1 M7 (M3.mono (Heap.le_trans l4 ad)) k7 (by omega) ka ?_
     intro A8 n8 c8 g8 l8 k8 M8
     refine ⟨_,_,_,rfl,?_⟩
     have b8:n8<=n7:=M8.len_le (by decide) (by have:=M7.lt (by decide);have:=M3.nonneg (by decide);omega)
     refine H1 M8 (M4.mono (Heap.le_trans ad l8)) k8 (by omega) kb ?_
     intro A9 n9 c9 g9 l9 k9 M9
     refine ⟨_,_,_,rfl,?_⟩
     have W:=Heap.le_trans ad (Heap.le_trans l8 l9)
     have ai:X.le g9:=Heap.le_trans G W
     refine J7 Q1 (by omega) (by omega) (by omega) ?_
     intro b O
     rw [aC]
     refine ⟨_,_,_,rfl,?_⟩
     have w0:=Win.blk .u64 C1 O (aE (g.length+f.length) 0)
     have cb:n3<=H+H:=M3.len_le (by decide) (k ag aw al aj)
     have ca:n4<=(g.length-H)+(f.length-H):=M4.len_le (by decide) (k a3 a6 ae a8)
     obtain ⟨o,ay,bp,be,ci,am⟩:=M3.mono (Heap.le_trans l4 W)
     obtain ⟨hi,a4,bj,bl,cr,az⟩:=M4.mono W
     obtain ⟨L,ah,a5,a7,bf,ar⟩:=M9
     refine Gt Q1 w0 (by simp) (bp.mono w0.le) ay (by simp;omega) ?_
     intro cj aa
     refine ⟨_,rfl,⟨by omega,by omega⟩,?_⟩
     have bx:o++(aE (g.length+f.length) (0:Int)).drop o.length=o++aE (g.length+f.length-o.length) 0:=by rw [bF]
     rw [bx] at aa
     have R:=aa.sub (l:=2*H) (m:=g.length+f.length) (c:=g.length+f.length) (by omega) (by simp;omega) (by simp;omega)
     have bd:((o++aE (g.length+f.length-o.length) (0:Int)).drop (2*H)).take (g.length+f.length-2*H)=aE (g.length+f.length-2*H) 0:=by
      rw [gH,aY (by omega),cT,bF,bZ]
      congr 1;omega
     rw [bd] at R
     refine Gt Q1 R (by simp) (bj.mono R.le) a4 (by simp;omega) ?_
     intro cl av
     refine ⟨_,rfl,⟨by omega,by omega⟩,?_⟩
     rw [bF] at av
     have F:=aa.whole (l:=2*H) (m:=g.length+f.length) (by omega) (by simp;omega) (by simp;omega) av
     have bg:(o++aE (g.length+f.length-o.length) (0:Int)).take (2*H)=o++aE (2*H-o.length) 0:=by
      rw [dK,aK (by omega),bZ]
      congr 2;omega
     have a9:(o++aE (g.length+f.length-o.length) (0:Int)).drop (g.length+f.length)=[]:=by
      apply aY;simp;omega
     rw [bg,a9,bX] at F
     generalize hzs:o++aE (2*H-o.length) (0:Int)++(hi++aE (g.length+f.length-2*H-hi.length) 0)=zs at F
     have cs:zs.length=g.length+f.length:=by
      rw [<- hzs];simp;omega
     have E:Dig b64 zs:=by
      rw [<- hzs]
      exact (be.append (I0 (by decide) _)).append (bl.append (I0 (by decide) _))
     have b0:val b64 zs=X0*Y0+b64^H*b64^H*(X1*Y1):=by
      rw [<- hzs,G0,Cz,Cz,am,az]
      have:(o++aE (2*H-o.length) (0:Int)).length=H+H:=by simp;omega
      rw [this,bD]
     have ak:=F.sub (l:=H) (m:=g.length+f.length) (c:=g.length+f.length) (by omega) (by omega) (by omega)
     have bh:(zs.drop H).take (g.length+f.length-H)=zs.drop H:=aK (by rw [aN];omega)
     have a0:(zs.drop H).length=g.length+f.length-H:=by rw [aN];omega
     rw [bh] at ak
     have bz:=F3 b64 zs (i:=H) (by omega)
     have cn:=C6 (by decide) (E.take H)
     have cc:=C6 (by decide) (E.drop H)
     have ck:val b64 g*val b64 f<b64^(g.length+f.length):=k b1 au b3 ao
     have a1:val b64 zs+b64^H*val b64 L=val b64 g*val b64 f:=by rw [kc,b0,ar];grind
     have ap:val b64 (zs.drop H)+val b64 L<b64^(g.length+f.length-H):=by
      have e5:b64^(g.length+f.length)=b64^H*b64^(g.length+f.length-H):=by rw [<- bD];congr 1;omega
      by_cases hc:val b64 (zs.drop H)+val b64 L<b64^(g.length+f.length-H)
      ·exact hc
      ·have:=aJ (show b64^(g.length+f.length-H)<=val b64 (zs.drop H)+val b64 L by omega) (aQ bq)
       rw [cY] at this
       omega
     have cg:L.length<=g.length+f.length-H:=by
      have Mmi:Mw g9 A9 L.length (val b64 L):=⟨L,rfl,a5,a7,bf,rfl⟩
      exact Mmi.len_le (by decide) (by omega)
     refine Iy ak a0.symm a5 ah (E.drop H) a7 (by omega) (by rw [a0];exact ap) (by omega) ?_
     intro us co cf b2 bu bb
     refine ⟨rfl,?_⟩
     have V:=F.whole (l:=H) (m:=g.length+f.length) (by omega) (by omega) (by omega) bb
     rw [aY (show zs.length<=g.length+f.length by omega),bX] at V
     have b4:(zs.take H++us).length=g.length+f.length:=by
      simp only [aH,aF];omega
     rw [<- b4]
     refine Q5 V.sl ((E.take H).append b2) (by omega) (by omega) ?_
     intro m hm hM
     have bv:val b64 (zs.take H++us)=val b64 g*val b64 f:=by
      rw [G0,aF,aI (by omega),bu,<- a1,bz];grind
     rw [bv] at hM
     exact ⟨_,_,_,rfl,C _ _ _ _ (Heap.le_trans ai V.le) hm hM⟩
def H2{x y:Int}{an bn:Nat}(ma:Mw h A an x)(mb:Mw h B bn y)(ha:an<=ac)(hb:bn<=bc)(hl:an<=1000000000)(hl2:bn<=1000000000)(hK:∀ A' m c' h',h.le h'->m<=c'->Mw h' A' m (x*y)->K (.slice A' m c') h'):aW prog D0 #[.slice A an ac,.slice B bn bc] h K:=
 C59 _ (aZ _) ma mb ha hb hl hl2 hK
end
section
variable {h g:bC} {K:VP} {A B:Option bI} {ac bc:Nat}
def B46{hi lo y:Int}(hhi:0<=hi/\hi<y)(hlo:0<=lo/\lo<18446744073709551616)(hy:y<18446744073709551616)
 (hK:K (.tuple #[U ((hi*18446744073709551616+lo)/y),U ((hi*18446744073709551616+lo)%y)]) h):aW prog Gq #[U hi,U lo,U y] h K:=by
 obtain ⟨n,rfl⟩:∃ n:Nat,y=n:=⟨y.toNat,by omega⟩
 exact Tz hhi hlo (by omega) hK
def Vr{x:Int}{an w:Nat}(ma:Mw h A an x)(hw:0<w/\w<18446744073709551616)(hl:an<=1000000000)(hK:∀ A' m c' h',h.le h'->m<=c'->m<=an->Mw h' A' m (x/w)->K (.tuple #[.slice A' m c',U (x%w)]) h'):aW prog Gd #[.slice A an ac,U w] h K:=by
 obtain ⟨a,rfl,B,C,J,rfl⟩:=ma
 refine Xq _ _ _ _ ?_
 unfold Wl
 refine J7 Q1 (by omega) (by omega) (by omega) ?_
 intro b u
 rw [aC]
 refine ⟨_,_,_,rfl,?_⟩
 refine ⟨fun l h'=>∃ (k:Nat) (r:Int) (zs:List Int),l=[U r,I ((k:Int)-1)]/\k<=a.length/\zs.length=a.length/\Dig b64 zs/\(0<=r/\r<w)/\h'=blk .u64 C1 h b zs/\val b64 (a.drop k)=val b64 (zs.drop k)*w+r,fun l _=>(iAt l 1+1).toNat,⟨a.length,0,_,by rw [B7 (by omega) (by omega)],by omega,by simp,I0 (by decide) _,by omega,rfl,by simp [val]⟩,?_⟩
 rintro r i G ⟨k,D,zs,p,H,c,s,d,rfl,f⟩
 obtain ⟨rfl,rfl⟩:r=D/\i=(k:Int)-1:=by simpa using p
 have g:=V8 (k:=.u64) (e:=C1) u zs
 refine B6 (fun E=>?_) (fun E=>?_)
 ·obtain ⟨j,rfl⟩:∃ j,k=j+1:=⟨k-1,by omega⟩
  have e:((j+1:Nat):Int)-1=(j:Int):=by omega
  rw [e]
  have F:=N9 C j
  refine (B.mono g).load rfl (by omega) (by omega) ?_
  rw [aC]
  refine Tz d F hw.2 ⟨_,_,rfl,?_⟩
  have y:0<=r*18446744073709551616+a.getD j 0:=by omega
  have o:0<=(r*18446744073709551616+a.getD j 0)/w/\(r*18446744073709551616+a.getD j 0)/w<18446744073709551616:=by
   constructor
   ·exact bY y (by omega)
   ·apply bJ (by omega)
    have:(r+1)*18446744073709551616<=(w:Int)*18446744073709551616:=aD (by omega) (by decide)
    omega
  refine ⟨_,rfl,by omega,by omega,?_⟩
  refine Fa (zs:=zs) (i:=j) F4 (by omega) ?_
  rw [B7 (by omega) (by omega)]
  refine ⟨⟨j,_,zs.set j ((r*18446744073709551616+a.getD j 0)/w),rfl,by omega,by simpa using c,s.set o,⟨aT _ (by omega),aP _ (by omega)⟩,rfl,?_⟩,by simp only [iAt,aG,aL];omega⟩
  rw [V7 (by omega),Mq b64 (by omega),f]
  have:=aO (r*18446744073709551616+a.getD j 0) w
  simp only [val]
  grind
 ·have q:k=0:=by omega
  subst q
  rw [cK,cK] at f
  rw [<- c]
  refine Q5 (Dl _ _ _ _ _) s (aZ _) (by omega) ?_
  intro m z t
  have o:val b64 a/w=val b64 zs:=by
   rw [f,fO,fN _ _ (by omega),bU d.1 d.2,dL]
  have n:val b64 a%w=r:=by
   rw [f,fO,gM,gF d.1 d.2]
  rw [<- o] at t
  rw [<- n]
  exact ⟨_,_,_,rfl,hK _ _ _ _ (V8 u _) z (by omega) t⟩
def Nm{x:Int}{an w:Nat}(ma:Mw h A an x)(hw:0<w/\w<18446744073709551616)(hl:an<=1000000000)(hK:K (U (x%w)) h):aW prog Ao #[.slice A an ac,U w] h K:=by
 obtain ⟨a,rfl,s,n,u,rfl⟩:=ma
 refine Rg _ _ _ _ ?_
 unfold Kq
 refine ⟨fun l m=>∃ (k:Nat) (r:Int) (Q:Int),l=[U r,I ((k:Int)-1)]/\k<=a.length/\(0<=r/\r<w)/\m=h/\val b64 (a.drop k)=Q*w+r,fun l _=>(iAt l 1+1).toNat,⟨a.length,0,0,by rw [B7 (by omega) (by omega)],by omega,by omega,rfl,by simp [val]⟩,?_⟩
 rintro r i y ⟨k,o,Q,b,t,g,rfl,f⟩
 obtain ⟨rfl,rfl⟩:r=o/\i=(k:Int)-1:=by simpa using b
 refine B6 (fun q=>?_) (fun q=>?_)
 ·obtain ⟨j,rfl⟩:∃ j,k=j+1:=⟨k-1,by omega⟩
  have e:((j+1:Nat):Int)-1=(j:Int):=by omega
  rw [e]
  have p:=N9 n j
  refine s.load rfl (by omega) (by omega) ?_
  rw [aC]
  refine Tz g p hw.2 ⟨_,_,rfl,?_⟩
  rw [B7 (by omega) (by omega)]
  refine ⟨⟨j,_,b64*Q+(r*18446744073709551616+a.getD j 0)/w,rfl,by omega,⟨aT _ (by omega),aP _ (by omega)⟩,rfl,?_⟩,by simp only [iAt,aG,aL];omega⟩
  rw [Mq b64 (by omega),f]
  have:=aO (r*18446744073709551616+a.getD j 0) w
  show _+(18446744073709551616:Int)*_=((18446744073709551616:Int)*_+_)*_+_
  grind
 ·have c:k=0:=by omega
  subst c
  rw [cK] at f
  have d:val b64 a%w=r:=by
   rw [f,fO,gM,gF g.1 g.2]
  rw [d] at hK;exact hK
def A1l{us vs:List Int}{m wn dn:Nat}{X Y:Int}(su:SlI .u64 h A us)(sv:SlI .u64 h B vs)(hwn:wn=us.length)(hdn:dn=vs.length)(du:Dig b64 us)(dv:Dig b64 vs)(hu:us.length=m+3)(hv:vs.length=m+2)(hl:m<=10000000000)(h1:b64<=2*vs.getD (m+1) 0)(hX:val b64 us=X)(hY:val b64 vs=Y)(hlt:X<Y*b64)
 (hK:∀ q,0<=q->q<18446744073709551616->X<(q+1)*Y->(q-1)*Y<=X->K (U q) h):aW prog Ln #[.slice A wn ac,.slice B dn bc] h K:=by
 subst hwn hdn
 have b:=B9d (B:=b64) (by decide) du dv hu hv h1 (by rw [hX,hY];exact hlt)
 rw [hX,hY] at b
 have gu:=N9 du (m+2)
 have p:=N9 du (m+1)
 have J:=N9 dv (m+1)
 have i:=b.v1r
 have a:=b.v2r
 have Q:=b.u2r
 have S:=b.V0
 have aa:=b.U0
 refine A4w _ _ _ _ _ _ ?_
 unfold A4x
 have V:B4 ((vs.length:Int)-1)=((m+1:Nat):Int):=by rw [B7 (by omega) (by omega)];omega
 have e2:B4 ((vs.length:Int)-2)=(m:Int):=by rw [B7 (by omega) (by omega)];omega
 have e3:((vs.length:Nat):Int)=((m+2:Nat):Int):=by omega
 rw [V,e2,e3]
 refine sv.load (by omega) (by omega) (by omega) ?_
 refine sv.load (by omega) (by omega) (by omega) ?_
 refine su.load rfl (by omega) (by omega) ?_
 simp only [aC]
 refine B6 (fun H=>?_) (fun H=>?_)
 ·have G:=b.top (by
   have:vs.getD (m+1) 0*b64<=us.getD (m+2) 0*b64:=aD H (by decide)
   omega)
  exact hK 18446744073709551615 (by omega) (by omega) G.2 G.1
 ·refine su.load rfl (by omega) (by omega) ?_
  refine su.load rfl (by omega) (by omega) ?_
  simp only [aC]
  refine B46 (by omega) p J.2 ⟨_,_,rfl,B3 h,?_⟩
  generalize hT:us.getD (m+2) 0*b64+us.getD (m+1) 0=T at b
  have R:us.getD (m+2) 0*18446744073709551616+us.getD (m+1) 0=T:=hT
  have C:0<=T:=b.top0
  have E:=b.init
  have D:=aO T (vs.getD (m+1) 0)
  have L:=aT T (show vs.getD (m+1) 0≠0 by omega)
  have ad:=aP T (show 0<vs.getD (m+1) 0 by omega)
  have x:0<=T/vs.getD (m+1) 0:=bY C (by omega)
  have s:T/vs.getD (m+1) 0<18446744073709551616:=by
   apply bJ (by omega)
   have:(us.getD (m+2) 0+1)*18446744073709551616<=vs.getD (m+1) 0*18446744073709551616:=aD (by omega) (by decide)
   have:=p.2
   have:18446744073709551616*vs.getD (m+1) 0=vs.getD (m+1) 0*18446744073709551616:=aR _ _
   omega
  refine ⟨fun l Z=>∃ q r:Int,l=[U q,U r]/\Z=h/\(0<=q/\q<18446744073709551616)/\(0<=r/\r<18446744073709551616)/\q*vs.getD (m+1) 0+r=T/\X<(q+1)*Y,fun l _=>(iAt l 0).toNat,⟨_,_,rfl,rfl,⟨x,s⟩,by omega,by rw [aR];exact D,E⟩,?_⟩
  rintro q r t ⟨q',r',u,rfl,j,hr,F,k⟩
  obtain ⟨rfl,rfl⟩:q=q'/\r=r':=by simpa using u
  have hm:0<=q*vs.getD m 0/\q*vs.getD m 0<=18446744073709551615*18446744073709551615:=⟨aS j.1 a.1,eQ (by omega) (by have:=(N9 dv m).2;omega) a.1 (by decide)⟩
  have key:q*(vs.getD (m+1) 0*b64+vs.getD m 0)=(T-r)*18446744073709551616+q*vs.getD m 0:=by
   rw [<- F];show q*(vs.getD (m+1) 0*(18446744073709551616:Int)+vs.getD m 0)=_;grind
  have f:q*vs.getD m 0<=r*18446744073709551616+us.getD m 0->K (U q) t:=by
   intro M
   refine hK q j.1 j.2 k (b.up (by show q<=(18446744073709551616:Int);omega) ?_)
   rw [key];show _<=T*(18446744073709551616:Int)+_;omega
  have c:¬ (q*vs.getD m 0<=r*18446744073709551616+us.getD m 0)->Br (decide (C0 (r+vs.getD (m+1) 0)<vs.getD (m+1) 0)) (K (U (C0 (q-1))) t) ((∃ q_1 r_1:Int,[U (C0 (q-1)),U (C0 (r+vs.getD (m+1) 0))]=[U q_1,U r_1]/\t=t/\(0<=q_1/\q_1<18446744073709551616)/\(0<=r_1/\r_1<18446744073709551616)/\q_1*vs.getD (m+1) 0+r_1=T/\X<(q_1+1)*Y)/\(iAt [U (C0 (q-1)),U (C0 (r+vs.getD (m+1) 0))] 0).toNat<(iAt [U q,U r] 0).toNat):=by
   intro hf
   have w:X<q*Y:=b.low j.1 (by rw [key];show T*(18446744073709551616:Int)+_<_;omega)
   have s:1<=q:=by
    by_cases y:1<=q
    ·exact y
    ·have:q=0:=by omega
     subst this;omega
   have d:X<(q-1+1)*Y:=by rw [Int.sub_add_cancel];exact w
   have e:(q-1)*vs.getD (m+1) 0+(r+vs.getD (m+1) 0)=T:=by grind
   rw [C2 (n:=q-1) (by omega) (by omega)]
   refine B6 (fun g=>?_) (fun g=>?_)
   ·rw [E4] at g
    have hb:(q-1)*vs.getD m 0<=18446744073709551616*vs.getD m 0:=aD (by omega) a.1
    have o:(q-1)*(vs.getD (m+1) 0*b64+vs.getD m 0)=(T-(r+vs.getD (m+1) 0))*18446744073709551616+(q-1)*vs.getD m 0:=by
     rw [<- e];show (q-1)*(vs.getD (m+1) 0*(18446744073709551616:Int)+vs.getD m 0)=_;grind
    refine hK (q-1) (by omega) (by omega) d (b.up (by show q-1<=(18446744073709551616:Int);omega) ?_)
    rw [o]
    have:=a.2
    show _<=T*(18446744073709551616:Int)+_
    have:vs.getD m 0<18446744073709551616:=a.2
    omega
   ·have z:r+vs.getD (m+1) 0<18446744073709551616:=by
     by_cases y:r+vs.getD (m+1) 0<18446744073709551616
     ·exact y
     ·rw [E4] at g;have:=i.2;have:vs.getD (m+1) 0<18446744073709551616:=i.2;omega
    rw [C2 (n:=r+vs.getD (m+1) 0) (by omega) z]
    exact ⟨⟨q-1,r+vs.getD (m+1) 0,rfl,rfl,by omega,by omega,e,d⟩,by simp only [iAt,aG];omega⟩
  refine Nq j (by have:=a.2;exact ⟨a.1,this⟩) ⟨_,_,rfl,?_⟩
  have N:0<=us.getD m 0/\us.getD m 0<18446744073709551616:=N9 du m
  refine B6 (fun g=>f (by omega)) (fun g=>?_)
  refine D8 (fun O=>?_) (fun O=>c (by omega))
  refine su.load rfl (by omega) (by omega) ?_
  rw [aC]
  exact B6 (fun W=>f (by omega)) (fun W=>c (by omega))
end
section
variable {h g:bC} {K:VP} {bu bq:Nat} {pre qs:List Int} {VA:Option bI} {vs:List Int}
def C3x{n N:Nat}{ws:List Int}{q:Int}{J:LP}(hu:g bu=none)(hq:g bq=none)(hne:bu≠bq)(sv:SlI .u64 g VA vs)(dv:Dig b64 vs)(hn:n=vs.length)(dw:Dig b64 ws)(hN:N=(pre++ws).length)(hl:n<ws.length)(hbig:N<=4000000000)
 (hD:val b64 (ws.take n)+val b64 vs<2*b64^n) (hD0:b64^n<=val b64 (ws.take n)+val b64 vs) (htop:ws.getD n 0=18446744073709551615)
 (hJ:∀ ws',ws'.length=ws.length->Dig b64 ws'->ws'.drop (n+1)=ws.drop (n+1)->ws'.getD n 0=0->val b64 (ws'.take n)=val b64 (ws.take n)+val b64 vs-b64^n->J [U (C0 (q-1))] (Ak .u64 C1 g bu (pre++ws') bq qs)):
 Au prog n VA n (some ⟨bu,0,none⟩) N (pre.length:Int) q J (Ak .u64 C1 g bu (pre++ws) bq qs):=by
 unfold Au
 refine ⟨fun l F=>∃ (k:Nat) (c:Int) (zs:List Int),l=[U c,I k]/\k<=n/\zs.length=ws.length/\Dig b64 zs/\(0<=c/\c<=1)/\F=Ak .u64 C1 g bu (pre++zs) bq qs/\zs.drop k=ws.drop k/\val b64 (zs.take k)+c*b64^k=val b64 (ws.take k)+val b64 (vs.take k),fun l _=>n-(iAt l 1).toNat,⟨0,0,ws,rfl,by omega,rfl,dw,by omega,rfl,rfl,by simp [val]⟩,?_⟩
 rintro c i T ⟨k,Q,zs,A,W,b,p,G,rfl,a,L⟩
 obtain ⟨rfl,rfl⟩:c=Q/\i=(k:Int):=by simpa using A
 have r:g.le (Ak .u64 C1 g bu (pre++zs) bq qs):=Rd hu hq hne
 have C:SlI .u64 (Ak .u64 C1 g bu (pre++zs) bq qs) (some ⟨bu,0,none⟩) (pre++zs):=Wa hne
 have d:N=(pre++zs).length:=by rw [hN,aH,aH,b]
 have M:N=pre.length+zs.length:=by rw [d,aH]
 have s:B4 ((pre.length:Int)+k)=((k+pre.length:Nat):Int):=by rw [B7 (by omega) (by omega)];omega
 have u:B4 ((pre.length:Int)+n)=((n+pre.length:Nat):Int):=by rw [B7 (by omega) (by omega)];omega
 refine B6 (fun H=>?_) (fun H=>?_)
 ·have D:=N9 dv k
  have E:=N9 p k
  have f:=E5 a
  have O:=C4 b64 vs k
  have R:=C4 b64 ws k
  rw [s]
  refine (sv.mono r).load hn (by omega) (by omega) ?_
  refine C.load d (by omega) (by omega) ?_
  simp only [aC,Ga]
  refine Do E D G ⟨_,_,rfl,?_⟩
  refine ⟨_,rfl,by omega,by omega,?_⟩
  have j:=O7 (P:=prog) (t:=C1) (k:=.u64) (e:=C1) (g:=g) (bu:=bu) (bq:=bq) (us:=pre++zs) (qs:=qs) (i:=((k+pre.length:Nat):Int)) (n:=(zs.getD k 0+vs.getD k 0+c)%18446744073709551616) F4 hne (by rw [aC];omega)
   (K:=fun _ o=>(∃ (k_1:Nat) (c_1:Int) (zs_1:List Int),[U ((zs.getD k 0+vs.getD k 0+c)/18446744073709551616),I (B4 ((k:Int)+1))]=[U c_1,I k_1]/\k_1<=n/\zs_1.length=ws.length/\Dig b64 zs_1/\(0<=c_1/\c_1<=1)/\o=Ak .u64 C1 g bu (pre++zs_1) bq qs/\zs_1.drop k_1=ws.drop k_1/\val b64 (zs_1.take k_1)+c_1*b64^k_1=val b64 (ws.take k_1)+val b64 (vs.take k_1))/\n-(iAt [U ((zs.getD k 0+vs.getD k 0+c)/18446744073709551616),I (B4 ((k:Int)+1))] 1).toNat<n-(iAt [U c,I k] 1).toNat)
  rw [aC] at j
  refine j ?_
  rw [Kw,B7 (n:=(k:Int)+1) (by omega) (by omega)]
  refine ⟨⟨k+1,_,zs.set k ((zs.getD k 0+vs.getD k 0+c)%18446744073709551616),rfl,by omega,by simpa using b,p.set (En _),by omega,rfl,?_,?_⟩,by simp only [iAt,aG,aL];omega⟩
  ·rw [D3 (by omega)];exact D6 a
  ·rw [C7 (by omega),F0,aF,aI (by omega),bG,Cf,O,R,<- f]
   grind
 ·have y:k=n:=by omega
  subst y
  have f:=E5 a
  rw [u]
  refine C.load d (by omega) (by omega) ?_
  rw [aC,Ga,f,htop]
  refine ⟨_,rfl,by omega,by omega,?_⟩
  have x:vs.take k=vs:=by rw [hn,aV]
  rw [x] at L
  have w:=L5 (by decide) (p.take k)
  rw [aF,aI (by omega)] at w
  have V:=C6 (by decide) (p.take k)
  have B:c=1:=by
   by_cases z:c=0
   ·subst z;omega
   ·omega
  subst B
  have S:C0 (18446744073709551615+1)=0:=by rw [E4];omega
  rw [S]
  have j:=O7 (P:=prog) (t:=C1) (k:=.u64) (e:=C1) (g:=g) (bu:=bu) (bq:=bq) (us:=pre++zs) (qs:=qs) (i:=((k+pre.length:Nat):Int)) (n:=0) F4 hne (by rw [aC];omega) (K:=fun _ m=>J [U (C0 (q-1))] m)
  rw [aC] at j
  refine j ?_
  rw [Kw]
  refine hJ (zs.set k 0) (by simpa using b) (p.set (by decide)) (by rw [D3 (by omega)];exact D6 a) (by simp [cU,show k<zs.length by omega]) ?_
  rw [fX (by omega)]
  omega
end
def B6e{g h':bC}{e:cC}{bu bq:Nat}{A:Option bI}{us qs:List Int}(hne:bu≠bq)(w:Win .u64 h' (blk .u64 e g bq qs) bu e A [] us []):h'=Ak .u64 e g bu us bq qs:=by
 rw [Iu hne,w.eq]
 simp [blk]
def B7u{g:bC}{e:cC}{bu bq:Nat}{us qs:List Int}(hu:g bu=none)(hne:bu≠bq):Win .u64 (Ak .u64 e g bu us bq qs) (blk .u64 e g bq qs) bu e (some ⟨bu,0,none⟩) [] us []:=by
 rw [Iu hne]
 refine Win.blk .u64 e ?_ us
 unfold blk;rw [B8 _ _ hne];exact hu
def A4h{P:dG}{t:cC}{k:dY}{e:cC}{g:bC}{bu bq:Nat}{us qs:List Int}(one:P.cellsOf t=1/\(P.info? t).isSome=true)(hne:bu≠bq){n:Int}{i:Nat}(hi:i<us.length){K:Unit->bC->Prop}
 (x:K () (Ak k e g bu (us.set i n) bq qs)):wpH P (dO t (.pointer (some (eF ⟨bu,0,none⟩ (i*1)))) (.int k n)) K (Ak k e g bu us bq qs):=by
 have:=O7 (P:=P) (t:=t) (k:=k) (e:=e) (g:=g) (bu:=bu) (bq:=bq) (us:=us) (qs:=qs) (i:=(i:Int)) (n:=n) (K:=K) one hne (by simpa using hi) (by simpa using x)
 simpa using this
def A4i{P:dG}{t:cC}{k:dY}{e:cC}{g:bC}{bu bq:Nat}{us qs:List Int}(one:P.cellsOf t=1/\(P.info? t).isSome=true){n:Int}{i:Nat}(hi:i<qs.length){K:Unit->bC->Prop}
 (x:K () (Ak k e g bu us bq (qs.set i n))):wpH P (dO t (.pointer (some (eF ⟨bq,0,none⟩ (i*1)))) (.int k n)) K (Ak k e g bu us bq qs):=by
 have:=Wb (P:=P) (t:=t) (k:=k) (e:=e) (g:=g) (bu:=bu) (bq:=bq) (us:=us) (qs:=qs) (i:=(i:Int)) (n:=n) (K:=K) one (by simpa using hi) (by simpa using x)
 simpa using this
section
variable {h g:bC} {K:VP} {bu bq:Nat} {VA:Option bI} {vs us0:List Int}
set_option maxHeartbeats 1000000 in
def A60{s mm N nq vc xn:Nat}{a b Y:Int}(hu:g bu=none)(hq:g bq=none)(hne:bu≠bq)(sv:SlI .u64 g VA vs)(dv:Dig b64 vs)(hn:vs.length=mm+2)(hv1:b64<=2*vs.getD (mm+1) 0)(hs:s<64)(hY:val b64 vs=Y)(hYb:Y=b*2^s)(du:Dig b64 us0)(hN:us0.length=N)(hua:val b64 us0=a*2^s)(hxn:N=xn+1)(hnq:N=nq+(mm+2))(hnq1:1<=nq)(hbig:N<=1000000001)(htop:val b64 (us0.drop nq)<Y)
 (hK:∀ A1 m1 c1 A2 m2 c2 h',g.le h'->m1<=c1->m2<=c2->Mw h' A1 m1 (a/b)->Mw h' A2 m2 (a%b)->K (.tuple #[.slice A1 m1 c1,.slice A2 m2 c2]) h'):
 Aw prog xn (mm+2) K (s:Int) VA (mm+2) vc (some ⟨bu,0,none⟩) N N (some ⟨bq,0,none⟩) nq nq (Ak .u64 C1 g bu us0 bq (aE nq 0)):=by
 have hp:0<(2:Int)^s:=bL (by decide)
 have a4:Y<b64^(mm+2):=by rw [<- hY,<- hn];exact L5 (by decide) dv
 have a7:0<Y:=by have:=C6 (by decide) (du.drop nq);omega
 have e0:B4 ((xn:Int)-((mm+2:Nat):Int))=(nq:Int)-1:=by rw [B7 (by omega) (by omega)];omega
 unfold Aw
 refine ⟨fun l h'=>∃ (k:Nat) (us qs:List Int),l=[I ((k:Int)-1)]/\k<=nq/\us.length=N/\qs.length=nq/\Dig b64 us/\Dig b64 qs/\h'=Ak .u64 C1 g bu us bq qs/\val b64 (us.drop k)<Y/\val b64 us0=val b64 (qs.drop k)*Y*b64^k+val b64 us,fun l _=>(iAt l 0+1).toNat,⟨nq,us0,_,by rw [e0],by omega,hN,by simp,du,I0 (by decide) _,rfl,htop,by simp [val]⟩,?_⟩
 rintro j a2 ⟨k,us,qs,aq,hk,A,V,t,M,rfl,az,hv⟩
 obtain rfl:j=(k:Int)-1:=by simpa using aq
 have ae:g.le (Ak .u64 C1 g bu us bq qs):=Rd hu hq hne
 have su:SlI .u64 (Ak .u64 C1 g bu us bq qs) (some ⟨bu,0,none⟩) us:=Wa hne
 unfold Hg
 refine B6 (fun h1=>?_) (fun h1=>?_)
 ·obtain ⟨j,rfl⟩:∃ j,k=j+1:=⟨k-1,by omega⟩
  have ej:((j+1:Nat):Int)-1=(j:Int):=by omega
  rw [ej]
  have e1:B4 ((j:Int)+((mm+2:Nat):Int))=((j+(mm+2):Nat):Int):=by rw [B7 (by omega) (by omega)];omega
  have e2:B4 (((j+(mm+2):Nat):Int)+1)=((j+(mm+3):Nat):Int):=by rw [B7 (by omega) (by omega)];omega
  simp only [e1,e2,aC]
  have w:=t.drop j
  have L:(us.drop j).length=N-j:=by rw [aN,A]
  have x:val b64 ((us.drop j).drop (mm+3))=0:=by
   have:=Dq (B:=b64) (by decide) (n:=mm+2) (t.drop (j+1)) (by omega)
   rw [dH] at this ⊢
   rw [show j+(mm+3)=j+1+(mm+2) by omega];exact this
  have av:=A2o b64 us j
  have ar:val b64 (us.drop j)<Y*b64:=by
   have a8:=N9 t j
   rw [av]
   have t1:b64*(val b64 (us.drop (j+1))+1)<=b64*Y:=aJ (by omega) (by decide)
   have t2:b64*(val b64 (us.drop (j+1))+1)=b64*val b64 (us.drop (j+1))+18446744073709551616:=by show (18446744073709551616:Int)*_=_;grind
   have t3:Y*b64=b64*Y:=aR _ _
   omega
  have H:=F3 b64 (us.drop j) (i:=mm+3) (by omega)
  rw [x,fL,fM] at H
  have am:=G1 b64 (us.drop j) (mm+2)
  have hX:val b64 (us.drop j)=val b64 ((us.drop j).take (mm+2))+b64^(mm+2)*(us.drop j).getD (mm+2) 0:=by rw [H];exact am
  refine ⟨⟨by omega,by omega⟩,⟨by omega,by omega⟩,?_⟩
  have sw:SlI .u64 (Ak .u64 C1 g bu us bq qs) (J9 (some ⟨bu,0,none⟩) N j 1) ((us.drop j).take (mm+3)):=by
   have:=su.cut (c:=N) (l:=j) (m:=j+(mm+3)) (by omega) (by omega) (by omega)
   rwa [show j+(mm+3)-j=mm+3 by omega] at this
  generalize hXX:val b64 (us.drop j)=X at *
  refine A1l (m:=mm) (X:=X) (Y:=Y) sw (sv.mono ae) (by rw [aF,L];omega) hn.symm (w.take _) dv (by rw [aF,L];omega) hn (by omega) hv1 H.symm hY ar ?_
  intro q q0 q1 q2 q3
  refine ⟨_,rfl,⟨by omega,by omega⟩,⟨by omega,by omega⟩,?_⟩
  have w0:=B7u (e:=C1) (us:=us) (qs:=qs) hu hne
  have ai:SlI .u64 (blk .u64 C1 g bq qs) VA vs:=sv.mono (V8 hq qs)
  have hW:(us.drop j).take (j+(mm+2)-j)=(us.drop j).take (mm+2):=by rw [show j+(mm+2)-j=mm+2 by omega]
  have w1:=w0.sub (l:=j) (m:=j+(mm+2)) (c:=N) (by omega) (by omega) (by omega)
  rw [hW] at w1
  have F:((us.drop j).take (mm+2)).length=mm+2:=by rw [aF,L];omega
  refine Kg w1 (by rw [F];omega) ai hn.symm (w.take _) dv (by rw [F,hn]) ⟨q0,q1⟩ (by omega) ?_
  intro W c h2 p C u G w2
  rw [F] at p G
  refine ⟨_,rfl,?_⟩
  have w3:=w0.whole (l:=j) (m:=j+(mm+2)) (by omega) (by omega) (by omega) w2
  have R:=B6e hne w3
  have f:(us.take j).length=j:=by rw [aF,A];omega
  have aj:us.drop (j+(mm+2))=(us.drop j).drop (mm+2):=by rw [dH]
  rw [aU,aj] at R
  subst R
  generalize hws:us.drop j=ws at *
  have o:(W++ws.drop (mm+2)).length=ws.length:=by rw [aH,aN];omega
  have dW:Dig b64 (W++ws.drop (mm+2)):=C.append (w.drop _)
  have aa:(W++ws.drop (mm+2)).getD (mm+2) 0=ws.getD (mm+2) 0:=by
   simp only [cU]
   rw [gN (by omega),p,gD,List.getElem?_drop,dU]
  have ad:=N9 w (mm+2)
  have aw:(us.take j++(W++ws.drop (mm+2))).length=N:=by rw [aH,o,f];omega
  have ay:SlI .u64 (Ak .u64 C1 g bu (us.take j++(W++ws.drop (mm+2))) bq qs) (some ⟨bu,0,none⟩) (us.take j++(W++ws.drop (mm+2))):=Wa hne
  have ak:j+(mm+2)=(mm+2)+(us.take j).length:=by omega
  refine ay.load aw.symm (by omega) (by omega) ?_
  rw [aC,ak,Ga,aa]
  refine ⟨_,rfl,by omega,by omega,?_⟩
  refine A4h (i:=mm+2+(us.take j).length) F4 hne (by omega) ?_
  rw [Kw]
  have hP:0<b64^(mm+2):=D5 (by decide) _
  have ap:=L5 (by decide) C
  have a6:=C6 (by decide) C
  rw [p] at ap
  rw [hY] at G
  have hD:X-q*Y=val b64 W+(ws.getD (mm+2) 0-c)*b64^(mm+2):=by rw [G,hX];grind
  have O:X-q*Y<Y:=by
   have:(q+1)*Y=q*Y+Y:=by grind
   omega
  have a5: -Y<=X-q*Y:=by
   have:(q-1)*Y=q*Y-Y:=by grind
   omega
  have bb:0<=X:=by
   have t1:=C6 (by decide) (w.take (mm+2))
   have t2:=aS (aQ hP) ad.1
   omega
  have a3:ws.getD (mm+2) 0-c=0\/ws.getD (mm+2) 0-c= -1:=by
   have t2:ws.getD (mm+2) 0-c<1:=by
    by_cases u:ws.getD (mm+2) 0-c<1
    ·exact u
    ·have:=aD (show 1<=ws.getD (mm+2) 0-c by omega) (aQ hP);omega
   have t3: -2<ws.getD (mm+2) 0-c:=by
    by_cases u: -2<ws.getD (mm+2) 0-c
    ·exact u
    ·have:=aD (show ws.getD (mm+2) 0-c <= -2 by omega) (aQ hP);omega
   omega
  have y:∀ v,((W++ws.drop (mm+2)).set (mm+2) v).take (mm+2)=W:=by
   intro v
   rw [fX (by omega),dB p]
  have S:∀ v,((W++ws.drop (mm+2)).set (mm+2) v).getD (mm+2) 0=v:=by
   intro v
   rw [cU,hO (by omega)];rfl
  have T:∀ v,((W++ws.drop (mm+2)).set (mm+2) v).drop (mm+3)=ws.drop (mm+3):=by
   intro v
   rw [D3 (by omega),show mm+3=(mm+2)+1 by omega,<- dH,eJ p,dH]
  refine ⟨fun l h'=>∃ d r,l=[U r]/\h'=Ak .u64 C1 g bu (us.take j++d) bq qs/\d.length=ws.length/\Dig b64 d/\d.drop (mm+3)=ws.drop (mm+3)/\d.getD (mm+2) 0=0/\val b64 (d.take (mm+2))=X-r*Y/\0<=X-r*Y/\X-r*Y<Y/\0<=r/\r<18446744073709551616,B6 (fun h3=>?_) (fun h3=>?_),?_⟩
  ·have E:ws.getD (mm+2) 0-c= -1:=by omega
   rw [E] at hD ⊢
   have af:C0 (-1)=18446744073709551615:=by rw [E4];omega
   rw [af]
   have ax:1<=q:=by
    by_cases u:1<=q
    ·exact u
    ·have:q=0:=by omega
     subst this;omega
   have e5:(q-1)*Y=q*Y-Y:=by grind
   have bk:=C3x (g:=g) (bu:=bu) (bq:=bq) (pre:=us.take j) (qs:=qs) (VA:=VA) (vs:=vs) (n:=mm+2) (N:=N) (ws:=(W++ws.drop (mm+2)).set (mm+2) 18446744073709551615) (q:=q)
    (J:=fun l h'=>∃ d r,l=[U r]/\h'=Ak .u64 C1 g bu (us.take j++d) bq qs/\d.length=ws.length/\Dig b64 d/\d.drop (mm+3)=ws.drop (mm+3)/\d.getD (mm+2) 0=0/\val b64 (d.take (mm+2))=X-r*Y/\0<=X-r*Y/\X-r*Y<Y/\0<=r/\r<18446744073709551616)
    hu hq hne sv dv hn.symm (dW.set (by decide)) (by rw [aH,bN,o,f];omega) (by rw [bN,o];omega) (by omega) (by rw [y,hY];omega) (by rw [y,hY];omega) (S _) ?_
   ·rw [f] at bk;exact bk
   ·intro d g1 g2 g3 g4 g5
    rw [y,hY] at g5
    rw [C2 (n:=q-1) (by omega) (by omega)]
    refine ⟨d,q-1,rfl,rfl,by rw [g1,bN,o],g2,by rw [g3,T],g4,by omega,by omega,by omega,by omega,by omega⟩
  ·have D:ws.getD (mm+2) 0-c=0:=by omega
   rw [D] at hD ⊢
   have ag:C0 0=0:=by rw [E4];omega
   rw [ag]
   exact ⟨(W++ws.drop (mm+2)).set (mm+2) 0,q,rfl,rfl,by rw [bN,o],dW.set (by decide),T _,S _,by rw [y];omega,by omega,O,q0,q1⟩
  ·rintro q4 a1 ⟨d,r,ao,rfl,g1,g2,g3,g4,g5,g6,g7,g8,g9⟩
   obtain rfl:q4=r:=by simpa using ao
   refine ⟨_,rfl,by omega,by omega,?_⟩
   refine A4i (i:=j) F4 (by omega) ?_
   rw [B7 (by omega) (by omega)]
   have Q:val b64 d=X-q4*Y:=by
    have z1:=F3 b64 d (i:=mm+3) (by omega)
    rw [g3,x,G1,g4,g5] at z1
    simp at z1
    omega
   refine ⟨⟨j,us.take j++d,qs.set j q4,rfl,by omega,by rw [aH,g1,f];omega,by simpa using V,(t.take j).append g2,M.set ⟨g8,g9⟩,rfl,?_,?_⟩,by simp only [iAt,aG];omega⟩
   ·rw [eJ f,Q];exact g7
   ·have Z:=F3 b64 us (i:=j) (by omega)
    rw [hws,hXX] at Z
    rw [hv,V7 (by omega),G0,f,Q,Z,bG]
    simp only [val]
    grind
 ·have au:k=0:=by omega
  subst au
  simp at az hv
  have ba:0<b:=by
   by_cases u:0<b
   ·exact u
   ·have:=aD (show b<=0 by omega) (aQ hp);omega
  have a0:=C6 (by decide) t
  have hR:val b64 us=(a-val b64 qs*b)*2^s:=by
   rw [hua,hYb] at hv
   grind
  have al:0<=a-val b64 qs*b:=by
   by_cases u:0<=a-val b64 qs*b
   ·exact u
   ·have:=aD (show a-val b64 qs*b <= -1 by omega) (aQ hp);omega
  have an:a-val b64 qs*b<b:=by
   by_cases u:a-val b64 qs*b<b
   ·exact u
   ·have:=aD (show b<=a-val b64 qs*b by omega) (aQ hp);omega
  have z:a/b=val b64 qs:=by
   have:a=(a-val b64 qs*b)+val b64 qs*b:=by omega
   rw [this,fN _ _ (by omega),bU al an,dL]
  have ac:a%b=a-val b64 qs*b:=by
   have:=Int.emod_def a b
   rw [this,z,aR]
  rw [z,ac] at hK
  rw [<- V]
  refine Q5 B9i M (aZ _) (by omega) ?_
  intro m1 af M1
  refine ⟨_,_,_,rfl,?_⟩
  rw [<- A]
  refine Q5 su t (aZ _) (by omega) ?_
  intro m2 a9 M2
  refine ⟨_,_,_,rfl,?_⟩
  rw [C2 (by omega) (by omega)]
  refine Gy M2 (by have:=M2.len_le (by decide) (j:=mm+2) (by omega);omega) (by omega) ?_
  intro A3 m3 c3 h3 l3 k3 M3
  have ah:val b64 us/2^s=a-val b64 qs*b:=by rw [hR,fY _ (by omega)]
  rw [ah] at M3
  exact ⟨_,_,_,rfl,hK _ _ _ _ _ _ _ (Heap.le_trans ae l3) (by omega) k3 (M1.mono l3) M3⟩
end
section
variable {h g:bC} {K:VP} {A B:Option bI} {ac bc:Nat}
set_option maxHeartbeats 1000000 in
def Ev{x y:Int}{an bn:Nat}(ma:Mw h A an x)(mb:Mw h B bn y)(ha:an<=ac)(hbc:bn<=bc)(hy:y≠0)(hl:an<=1000000000)(hl2:bn<=1000000000)
 (hK:∀ A1 m1 c1 A2 m2 c2 h',h.le h'->m1<=c1->m2<=c2->Mw h' A1 m1 (x/y)->Mw h' A2 m2 (x%y)->K (.tuple #[.slice A1 m1 c1,.slice A2 m2 c2]) h'):aW prog J2 #[.slice A an ac,.slice B bn bc] h K:=by
 have S:=ma.nonneg (by decide)
 have aw:=mb.nonneg (by decide)
 have a6:=mb.len_zero (by decide)
 have q:=ma.lt (by decide)
 have a3:=mb.lt (by decide)
 refine Sw _ _ _ _ _ _ ?_
 unfold Pd
 refine F7 ma mb (by omega) ⟨_,rfl,B6 (fun z=>?_) (fun z=>D8 (fun h2=>?_) (fun h2=>?_))⟩
 ·have V:x<y:=by
   unfold Ey at z
   by_cases c:x<y
   ·exact c
   ·rw [iN c] at z
    by_cases Q:x>y
    ·rw [iP Q] at z;omega
    ·rw [iN Q] at z;omega
  rw [bU S V,gF S V] at hK
  exact hK none 0 0 _ _ _ _ (B3 h) (aZ _) ha Mag.zero ma
 ·obtain ⟨a,rfl,sy,Z,ny,rfl⟩:=mb
  have L:a.length=1:=by omega
  obtain ⟨d,rfl⟩:∃ d,a=[d]:=by
   cases a with
   | nil=>simp at L
   | cons d r=>
    cases r with
    | nil=>exact ⟨d,rfl⟩
    | cons _ _=>simp at L
  rw [W4] at hy aw hK
  have hd:=Z d (by simp)
  obtain ⟨w,rfl⟩:∃ w:Nat,d=w:=⟨d.toNat,by omega⟩
  refine sy.load rfl (by omega) (by simp) ?_
  show aW _ _ #[_,U (w:Int)] _ _
  have hw:w<18446744073709551616:=by have:=hd.2;have:(w:Int)<18446744073709551616:=this;omega
  refine Vr ma ⟨by omega,hw⟩ hl ?_
  intro A' m c' h' ar hm a4 hM
  refine ⟨_,_,_,_,rfl,?_⟩
  refine Bk ⟨aT _ (by omega),by have:=aP x (show (0:Int)<w by omega);omega⟩ ?_
  intro A2 m2 c2 h3 R k3 M3
  exact ⟨_,_,_,rfl,hK _ _ _ _ _ _ _ (Heap.le_trans ar R) hm k3 (hM.mono R) M3⟩
 ·have ah:y<=x:=by
   unfold Ey at z
   by_cases c:x<y
   ·rw [iP c] at z;omega
   ·omega
  have a7:bn<=an:=mb.len_le (by decide) (dA ah q)
  have ak:=mb
  have ad:=ma
  obtain ⟨a,rfl,sy,Z,ny,rfl⟩:=mb
  obtain ⟨mm,hmm⟩:∃ mm,a.length=mm+2:=⟨a.length-2,by omega⟩
  have gt:=N9 Z (mm+1)
  have ai:=A2t (m:=mm+1) hmm ny
  obtain ⟨J,o⟩:=Bz (B:=b64) (by decide) Z (m:=mm+1) hmm
  have e1:B4 ((a.length:Int)-1)=((mm+1:Nat):Int):=by rw [B7 (by omega) (by omega)];omega
  rw [e1]
  refine sy.load rfl (by omega) (by omega) ?_
  rw [aC]
  obtain ⟨t,ht⟩:∃ t:Nat,a.getD (mm+1) 0=t:=⟨(a.getD (mm+1) 0).toNat,by omega⟩
  rw [ht] at gt ai J o ⊢
  have p:t≠0:=by omega
  refine R5 (by omega) ⟨_,rfl,?_⟩
  obtain ⟨ay,a0⟩:=Fb p
  have az:O0 t<=64:=Iv (k:=64) (by omega)
  have a1:1<=O0 t:=by unfold O0;rw [iN p];omega
  obtain ⟨s,hs⟩:∃ s,s=64-O0 t:=⟨_,rfl⟩
  rw [<- hs]
  have M:s<64:=by omega
  have b:0<(2:Int)^s:=bL (by decide)
  have aq:=Z9 (s:=s) (by omega)
  have u:O0 t=64-s:=by omega
  have ap:(t:Int)+1<=2^(64-s):=by
   rw [<- u]
   have:((t+1:Nat):Int)<=((2^O0 t:Nat):Int):=by omega
   simpa using this
  have al:(2:Int)^(63-s)<=t:=by
   have:((2^(O0 t-1):Nat):Int)<=((t:Nat):Int):=by omega
   rw [show O0 t-1=63-s by omega] at this
   simpa using this
  have C:(2:Int)^s*2^(63-s)=9223372036854775808:=by
   rw [<- bD,show s+(63-s)=63 by omega];decide
  have ae:C0 (s:Int)=(s:Int):=C2 (by omega) (by omega)
  rw [ae]
  have g:=D5 (B:=b64) (by decide) (mm+1)
  have ax:val b64 a*2^s<b64^(mm+2):=by
   have t2:val b64 a*2^s<((t:Int)+1)*b64^(mm+1)*2^s:=bM J b
   have t3:((t:Int)+1)*b64^(mm+1)*2^s=((t:Int)+1)*2^s*b64^(mm+1):=by grind
   have t4:((t:Int)+1)*2^s*b64^(mm+1)<=18446744073709551616*b64^(mm+1):=by
    apply aD _ (aQ g)
    rw [<- aq,aR (2^s)]
    exact aD ap (aQ b)
   have t5:b64^(mm+2)=18446744073709551616*b64^(mm+1):=by rw [bG b64 (mm+1),aR]
   omega
  have a8:9223372036854775808*b64^(mm+1)<=val b64 a*2^s:=by
   have t1:(t:Int)*b64^(mm+1)*2^s<=val b64 a*2^s:=aD o (aQ b)
   have t2:9223372036854775808*b64^(mm+1)<=(t:Int)*2^s*b64^(mm+1):=by
    apply aD _ (aQ g)
    rw [<- C,aR (t:Int)]
    exact aJ al (by omega)
   have t3:(t:Int)*2^s*b64^(mm+1)=(t:Int)*b64^(mm+1)*2^s:=by grind
   omega
  refine U1 ak hbc hl2 (by omega) ?_
  intro A1 n1 c1 g1 l1 k1 M1
  refine ⟨_,_,_,rfl,?_⟩
  have ao:n1=mm+2:=by
   have q1:=M1.len_le (by decide) ax
   have q2:=M1.lt (by decide)
   by_cases c:n1=mm+2
   ·exact c
   ·have:=C8 (B:=b64) (by decide) (show n1<=mm+1 by omega)
    omega
  subst ao
  obtain ⟨X,T,sv,dv,nv,E⟩:=M1
  have am:b64<=2*X.getD (mm+1) 0:=by
   obtain ⟨q1,q2⟩:=Bz (B:=b64) (by decide) dv (m:=mm+1) T.symm
   rw [E] at q1
   have:9223372036854775808<X.getD (mm+1) 0+1:=by
    by_cases c:9223372036854775808<X.getD (mm+1) 0+1
    ·exact c
    ·have:=aD (show X.getD (mm+1) 0+1<=9223372036854775808 by omega) (aQ g);omega
   show (18446744073709551616:Int)<=_
   omega
  have eN:B4 ((an:Int)+1)=((an+1:Nat):Int):=by rw [B7 (by omega) (by omega)];omega
  rw [eN]
  refine J7 Q1 (by omega) (by omega) (by omega) ?_
  intro bu ag
  rw [aC]
  refine ⟨_,_,_,rfl,?_⟩
  have w0:=Win.blk .u64 C1 ag (aE (an+1) 0)
  refine w0.call ?_
  refine U1 (ad.mono l1) ha hl (by omega) ?_
  intro A3 n3 c3 g3 R k3 M3 h4 w4
  refine ⟨_,_,_,rfl,?_⟩
  have au:x*2^s<b64^(an+1):=by
   have t1:x*2^s<b64^an*2^s:=bM q b
   have t2:b64^an*2^s<=b64^an*18446744073709551616:=by
    apply aJ _ (aQ (D5 (by decide) an))
    have:=C8 (B:=2) (by decide) (show s<=64 by omega)
    have e:(2:Int)^64=18446744073709551616:=by decide
    omega
   rw [bG];show _<b64^an*(18446744073709551616:Int);omega
  have a2:=M3.len_le (by decide) au
  obtain ⟨us,aa,av,af,a5,H⟩:=M3
  refine Gt Q1 w4 (by simp) (av.mono w4.le) aa (by simp;omega) ?_
  intro h5 W
  refine ⟨_,rfl,?_⟩
  rw [bF] at W
  generalize hu0:us++aE (an+1-us.length) (0:Int)=us0 at W
  have G:us0.length=an+1:=by rw [<- hu0];simp;omega
  have j:Dig b64 us0:=by rw [<- hu0];exact af.append (I0 (by decide) _)
  have l:val b64 us0=x*2^s:=by rw [<- hu0,Cz];exact H
  obtain ⟨nq,hnq⟩:∃ nq,an+1=nq+(mm+2):=⟨an+1-(mm+2),by omega⟩
  have eq:B4 (B4 ((an:Int)-(a.length:Int))+1)=(nq:Int):=by
   rw [B7 (n:=(an:Int)-(a.length:Int)) (by omega) (by omega),B7 (by omega) (by omega)];omega
  rw [eq]
  refine J7 Q1 (by omega) (by omega) (by omega) ?_
  intro bq f
  rw [aC]
  refine ⟨_,_,_,rfl,?_⟩
  have aj:h5=blk .u64 C1 g3 bu us0:=by rw [W.eq];simp [blk]
  subst aj
  have F:g3 bu=none:=W.free
  have O:bu≠bq:=by
   rintro rfl
   unfold blk at f
   rw [B9] at f;cases f
  have D:g3 bq=none:=by
   have:=f
   unfold blk at this
   rwa [B8 _ _ O.symm] at this
  rw [hmm]
  refine A60 (us0:=us0) (N:=an+1) (xn:=an) F D O (sv.mono R) dv T.symm am M E rfl j G l rfl hnq (by omega) (by omega) ?_ ?_
  ·have s1:=F3 b64 us0 (i:=nq) (by omega)
   have s2:=C6 (by decide) (j.take nq)
   have s3:val b64 us0<b64^an*2^s:=by
    rw [l];exact bM q b
   have s4:b64^(mm+1)<=val b64 a:=by
    have:=aD (show 1<=(t:Int) by omega) (aQ g);omega
   have s5:b64^nq*(b64^(mm+1)*2^s)<=b64^nq*(val b64 a*2^s):=aJ (aD s4 (aQ b)) (aQ (D5 (by decide) nq))
   have s6:b64^nq*(b64^(mm+1)*2^s)=b64^an*2^s:=by
    rw [<- cX,<- bD,show nq+(mm+1)=an by omega]
   by_cases c:val b64 (us0.drop nq)<val b64 a*2^s
   ·exact c
   ·have:=aJ (show val b64 a*2^s<=val b64 (us0.drop nq) by omega) (aQ (D5 (B:=b64) (by decide) nq));omega
  ·intro A5 m5 c5 A6 m6 c6 h6 l6 k5 k6 M5 M6
   exact hK _ _ _ _ _ _ _ (Heap.le_trans l1 (Heap.le_trans R l6)) k5 k6 M5 M6
end
def A1p{x a b p:Int}(h:a+p*b=x)(h0:0<=a)(h1:a<p):x/p=b/\x%p=a:=(Int.ediv_emod_unique (by omega)).2 ⟨h,h0,h1⟩
def Xj{P:dG}{h:bC}{A:Option bI}{n m c s:Nat}{cs:List dC}(hl:cs.length=n*s)(hc:cs=[]\/∃ a,A=some a/\∀ j v,cs[j]? = some v->h.cell? (a.add j)=some v){K:Array dC->bC->Prop}(x:K cs.toArray h):
 wpH P (Builtin.firstCells s n (.slice A m c)) K h:=by
 cases A with
 | none=>
  rcases hc with rfl|⟨a,e,_⟩
  ·exact x
  ·cases e
 | some a=>
  show wpH P (loadCells a (n*s)) K h
  rcases hc with rfl|⟨b,e,hc⟩
  ·exact U2 (cs:=[]) hl.symm (fun j v e=>by simp at e) x
  ·cases e
   exact U2 hl.symm hc x
def B7p{P:dG}{t e ty:cC}{k:dY}{bytes:Nat}(s:SliceT P t e (.int k 0) 1 bytes){h g:bC}{b:Nat}{A:Option bI}{pre post:List dC}{xs:List Int}{n c m d:Nat}(w:Win k h g b e A pre xs post)(hn:n=xs.length){B:Option bI}{ys:List Int}(sy:SlI k h B ys)(hm:min m xs.length=ys.length){K:VP}
 (x:∀ h',Win k h' g b e A pre (ys++xs.drop ys.length) post->K (I ys.length) h'):wpH P (fC #[t,t] ty #[.slice A n c,.slice B m d]) K h:=by
 subst hn
 have j:ys.length<=xs.length:=by omega
 obtain ⟨i,q,y,o,p⟩:=s.parts
 unfold fC
 simp only [dE,aG,aL,C5,E9 s.und,N4 q,G2,fZ,o]
 have l:Nat.min m xs.length=ys.length:=hm
 rw [l]
 refine Xj (s:=1) (cs:=ys.map (bB k)) (by simp) sy ?_
 cases A with
 | none=>
  rcases w.at_ with f|f
  ·subst f
   have:ys=[]:=aM (by simpa using j)
   subst this
   exact x h (by simpa using w)
  ·cases f
 | some a=>
  simp only [C5]
  rcases w.at_ with f|f
  ·subst f
   have:ys=[]:=aM (by simpa using j)
   subst this
   exact x h (by simpa using w)
  ·cases f
   rw [w.eq]
   refine J8 (ys.map (bB k)) pre.length 0 (pre++xs.map (bB k)++post) (by simp;omega) (fun v r=>?_) ?_
   ·obtain ⟨u,_,rfl⟩:=List.mem_map.1 r;rfl
   ·refine x _ ⟨w.free,?_,?_⟩
    ·congr 3
     unfold N5
     rw [dU,aU pre,dB rfl,fP]
     rw [gH,aY (show pre.length<=pre.length+ys.length by omega),cG,cT]
     rw [eD (by simpa using j),<- List.map_drop,dP]
     simp only [aU]
    ·right;rfl
section
variable {h g:bC} {K:VP} {A B:Option bI} {ac bc:Nat}
def B97(a n:Nat):(if (a:Int)<(n:Int) then (a:Int) else (n:Int))=((min n a:Nat):Int):=by split<;>omega
def Mo{xs:List Int}(d:Dig b64 xs)(n:Nat):val b64 xs/b64^n=val b64 (xs.drop (min n xs.length))/\val b64 xs%b64^n=val b64 (xs.take (min n xs.length)):=by
 by_cases b:n<=xs.length
 ·rw [aI b]
  have e:=F3 b64 xs b
  have c:=C6 (by decide) (d.take n)
  have a:=L5 (by decide) (d.take n)
  rw [aF,aI b] at a
  exact A1p e.symm c a
 ·rw [fD (by omega),fE,aV]
  have c:=C6 (by decide) d
  have a:=L5 (by decide) d
  have f:=C8 (B:=b64) (by decide) (show xs.length<=n by omega)
  exact A1p (by simp [val]) c (by omega)
def Z1{x:Int}{an n:Nat}(ma:Mw h A an x)(ha:an<=ac)(hK:∀ A' m c',m<=c'->m<=an->Mw h A' m (x/b64^n)->K (.slice A' m c') h):aW prog T4 #[.slice A an ac,I n] h K:=by
 obtain ⟨a,rfl,e,b,d,rfl⟩:=ma
 refine A1y _ _ _ _ ?_
 unfold Zf
 rw [B97,aC]
 refine ⟨⟨by omega,by omega⟩,hK _ _ _ (by omega) (by omega) ?_⟩
 rw [(Mo b n).1,<- aN]
 refine Mw.of (A1q e (by omega) ha) (b.drop _) ?_
 by_cases c:min n a.length<a.length
 ·exact Np d c
 ·rw [aY (by omega)];exact Norm.nil
def Fz{x:Int}{an n:Nat}(ma:Mw h A an x)(ha:an<=ac)(hl:an<=10000000000)(hK:∀ A' m c',m<=c'->m<=n->m<=an->Mw h A' m (x%b64^n)->K (.slice A' m c') h):aW prog Cr #[.slice A an ac,I n] h K:=by
 obtain ⟨b,rfl,c,a,e,rfl⟩:=ma
 refine A4q _ _ _ _ ?_
 unfold A4r
 rw [B97,aC,H8,bV,bV]
 refine ⟨⟨by omega,by omega⟩,Bi (Kc c (m:=min n b.length) (by omega) ha) (a.take _) (by rw [aF];omega) (Mo a n).2.symm (by omega) (by omega) ?_⟩
 intro m d M
 exact ⟨_,_,_,rfl,hK _ _ _ (by omega) (by omega) (by omega) M⟩
def Id{x y:Int}{an bn n:Nat}(ma:Mw h A an x)(mb:Mw h B bn y)(hbn:bn<=n)(hl:n+an<=5000000000)(hK:∀ A' m c' h',h.le h'->m<=c'->Mw h' A' m (x*b64^n+y)->K (.slice A' m c') h'):aW prog Lm #[.slice A an ac,.slice B bn bc,I n] h K:=by
 obtain ⟨a,rfl,t,w,F,rfl⟩:=ma
 obtain ⟨d,rfl,u,o,E,rfl⟩:=mb
 refine B85 _ _ _ _ _ _ _ ?_
 unfold C42
 have s:B4 ((n:Int)+a.length)=((n+a.length:Nat):Int):=by rw [B7 (by omega) (by omega)];omega
 rw [s]
 refine J7 Q1 (by omega) (by omega) (by omega) ?_
 intro b C
 rw [aC]
 refine ⟨_,_,_,rfl,?_⟩
 have j:=Win.blk .u64 C1 C (aE (n+a.length) 0)
 refine Gt Q1 j (by simp) (u.mono j.le) rfl (by simp;omega) ?_
 intro D f
 refine ⟨_,rfl,⟨by omega,by omega⟩,?_⟩
 rw [bF] at f
 generalize hz:d++aE (n+a.length-d.length) (0:Int)=zs at f
 have p:zs.length=n+a.length:=by rw [<- hz];simp;omega
 have q:=f.sub (l:=n) (m:=n+a.length) (c:=n+a.length) (by omega) (by omega) (by omega)
 rw [aC]
 refine Gt Q1 q (by rw [aF,aN];omega) (t.mono f.le) rfl (by rw [aF,aN];omega) ?_
 intro G k
 rw [aY (by rw [aF,aN];omega),bX] at k
 have g:=f.whole (l:=n) (m:=n+a.length) (by omega) (by omega) (by omega) k
 rw [aY (show zs.length<=n+a.length by omega),bX] at g
 have i:zs.take n=d++aE (n-d.length) 0:=by
  rw [<- hz,dK,aK (by omega),bZ]
  congr 2;omega
 rw [i] at g
 refine ⟨_,rfl,Bi g.sl ((o.append (I0 (by decide) _)).append w) (by simp;omega) rfl (by omega) (by omega) ?_⟩
 intro m r M
 refine ⟨_,_,_,rfl,hK _ _ _ _ g.le r ?_⟩
 rw [G0,Cz] at M
 have e:(d++aE (n-d.length) (0:Int)).length=n:=by simp;omega
 rw [e] at M
 have z:val b64 a*b64^n+val b64 d=val b64 d+b64^n*val b64 a:=by rw [aR];omega
 rw [z];exact M
def C1u{x y:Int}(hx:0<=x/\x<18446744073709551616)(hy:0<=y/\y<18446744073709551616)(hK:K (.tuple #[U (x*y/18446744073709551616),U (x*y%18446744073709551616)]) h):aW prog B3v #[U x,U y] h K:=by
 refine C2q _ _ ?_
 unfold C74
 exact Nq hx hy ⟨_,_,rfl,hK⟩
def A67{v:Int}{n:Nat}(s:SlI .u64 h A [v])(hn:0<n)(hl:n<=1000000000)(hK:∀ A' h',h.le h'->SlI .u64 h' A' (aE n v)->K (.slice A' n n) h'):aW prog Vk #[.slice A 1 ac,I n] h K:=by
 refine B0s _ _ _ _ ?_
 unfold B4x
 refine B6 (fun e=>by omega) (fun _=>?_)
 rw [C2 (n:=((1:Nat):Int)) (by omega) (by omega),C2 (n:=(n:Int)) (by omega) (by omega)]
 refine C1u (by omega) (by omega) ⟨_,_,rfl,?_⟩
 have x:((1:Nat):Int)*(n:Int)/18446744073709551616=0:=by omega
 have z:((1:Nat):Int)*(n:Int)%18446744073709551616=n:=by omega
 rw [x,z]
 refine B6 (fun e=>by omega) (fun _=>?_)
 refine B6 (fun e=>by omega) (fun _=>?_)
 rw [B7 (n:=(n:Int)) (by omega) (by omega)]
 refine J7 Q1 (by omega) (by omega) (by omega) ?_
 intro b D
 rw [aC]
 refine ⟨_,_,_,rfl,?_⟩
 have o:=Win.blk .u64 C1 D (aE n 0)
 refine Gt Q1 o (by simp) (s.mono o.le) rfl (by simp;omega) ?_
 intro e p
 refine ⟨_,rfl,?_⟩
 rw [bF] at p
 refine ⟨fun l d=>∃ k:Nat,l=[I k]/\0<k/\k<=n/\Win .u64 d h b C1 (some ⟨b,0,none⟩) [] (aE k v++aE (n-k) 0) [],fun l _=>n-(iAt l 0).toNat,⟨1,rfl,by omega,hn,p⟩,?_⟩
 rintro i d ⟨k,f,C,a,w⟩
 obtain rfl:=sI1 f
 refine B6 (fun E=>?_) (fun E=>?_)
 ·have t:(aE k v++aE (n-k) (0:Int)).length=n:=by simp;omega
  refine ⟨⟨by omega,by omega⟩,⟨by omega,by omega⟩,?_⟩
  simp only [aC,H8,bV]
  have j:=w.sub (l:=k) (m:=n) (c:=n) (by omega) (by omega) (by omega)
  have y:((aE k v++aE (n-k) (0:Int)).drop k).take (n-k)=aE (n-k) 0:=by
   rw [eJ (by simp),aK (by simp)]
  rw [y] at j
  have B:SlI .u64 d (some ⟨b,0,none⟩) (aE (min k (n-k)) v):=by
   have:=Kc w.sl (c:=n) (m:=min k (n-k)) (by omega) (by omega)
   rwa [cJ (by simp;omega),bZ,aI (by omega)] at this
  refine B7p Q1 j (by simp) B (by simp) ?_
  intro F q
  rw [cP] at q ⊢
  have g:=w.whole (l:=k) (m:=n) (by omega) (by omega) (by simp;omega) q
  have r:B4 ((k:Int)+(min k (n-k):Nat))=((k+min k (n-k):Nat):Int):=by rw [B7 (by omega) (by omega)];omega
  refine ⟨_,rfl,?_⟩
  rw [r]
  refine ⟨⟨_,rfl,by omega,by omega,?_⟩,?_⟩
  ·have u:(aE k v++aE (n-k) (0:Int)).take k++(aE (min k (n-k)) v++(aE (n-k) (0:Int)).drop (min k (n-k)))++(aE k v++aE (n-k) (0:Int)).drop n=aE (k+min k (n-k)) v++aE (n-(k+min k (n-k))) 0:=by
    rw [dB (by simp),aY (show (aE k v++aE (n-k) (0:Int)).length<=n by omega),bX,bF,<- aU,dX]
    congr 2;omega
   rw [u] at g
   exact g
  ·simp only [iAt,aG];omega
 ·have a:k=n:=by omega
  subst a
  have:=w.sl
  rw [gD,List.replicate_zero,bX] at this
  exact hK _ _ w.le this
end
def Mw.high{h:bC}{A:Option bI}{an ac k:Nat}{x:Int}(ma:Mw h A an x)(ha:an<=ac)(hk:k<=an):Mw h (J9 A ac k 1) (an-k) (x/b64^k):=by
 obtain ⟨c,rfl,f,b,d,rfl⟩:=ma
 have e:=(Mo b k).1
 rw [aI hk] at e
 rw [e,<- aN]
 refine Mw.of (A1q f hk ha) (b.drop _) ?_
 by_cases a:k<c.length
 ·exact Np d a
 ·rw [aY (by omega)];exact Norm.nil
def B6k{x P X2 yh top:Int}(hP:0<P)(h1:x<P*P*(X2+1))(h2:P*top<=x)(hlt:X2<yh):top<P*yh:=by
 by_cases a:top<P*yh
 ·exact a
 ·have c:P*(P*yh)<=P*top:=aJ (by omega) (by omega)
  have b:P*P*(X2+1)<=P*P*yh:=aJ (by omega) (aS (by omega) (by omega))
  rw [cX P P yh] at b
  omega
def B6l{x P X2 yh top:Int}(hP:0<P)(h1:P*P*X2<=x)(h2:x<P*(top+1))(hge:yh<=X2):P*yh<=top:=by
 by_cases a:P*yh<=top
 ·exact a
 ·have c:P*(top+1)<=P*(P*yh):=aJ (by omega) (by omega)
  have b:P*P*yh<=P*P*X2:=aJ (by omega) (aS (by omega) (by omega))
  rw [cX P P yh] at b
  omega
def C09(N:Nat):Prop:=∀ {h:bC} {K:VP} {A B:Option bI} {ac bc an bn:Nat} {x y:Int},bn<=N->Mw h A an x->Mw h B bn y->an<=ac->bn<=bc->an<=1000000000->bn<=200000000->0<bn->9223372036854775808*b64^(bn-1)<=y->x<b64^bn*y->
 (∀ A1 m1 c1 A2 m2 c2 h',h.le h'->m1<=c1->m2<=c2->Mw h' A1 m1 (x/y)->Mw h' A2 m2 (x%y)->K (.tuple #[.slice A1 m1 c1,.slice A2 m2 c2]) h')->aW prog U7 #[.slice A an ac,.slice B bn bc] h K
section
variable {h g:bC} {K:VP} {A B:Option bI} {ac bc:Nat}
def Dk{x y:Int}:Ey x y<0↔x<y:=by
 unfold Ey
 by_cases a:x<y
 ·rw [iP a];simp [a]
 ·rw [iN a]
  by_cases b:x>y
  ·rw [iP b];simp [a]
  ·rw [iN b];simp [a]
set_option maxHeartbeats 1000000 in
def A5t{x y q0 R0 pr:Int}{m bn nq cq np cp nr cr:Nat}{Aq Ap Ar:Option bI}(hx0:0<=x)(mb:Mw h B bn y)(hb:bn<=bc)(hl2:bn<=200000000)(hbm:bn=2*m)(mq:Mw h Aq nq q0)(hq:nq<=cq)(mp:Mw h Ap np pr)(hp2:pr<b64^bn)
 (mr:Mw h Ar nr R0) (hr:nr<=cr) (hq0:q0<b64^m) (hR:R0-pr=x-q0*y) (hy:x-q0*y<y)
 (hK:∀ A1 m1 c1 A2 m2 c2 h',h.le h'->m1<=c1->m2<=c2->Mw h' A1 m1 (x/y)->Mw h' A2 m2 (x%y)->K (.tuple #[.slice A1 m1 c1,.slice A2 m2 c2]) h'):
 At prog B bn bc K Aq nq cq Ap np cp Ar nr cr h:=by
 have u:=mb.lt (by decide)
 have E:=mb.nonneg (by decide)
 have w:=mp.nonneg (by decide)
 unfold At
 refine ⟨fun l c=>∃ (Aq Ar:Option bI) (nq cq nr cr:Nat) (q R:Int),l=[.slice Aq nq cq,.slice Ar nr cr]/\h.le c/\Mw c Aq nq q/\nq<=cq/\Mw c Ar nr R/\nr<=cr/\q<b64^m/\R-pr=x-q*y/\x-q*y<y,fun l c=>match l with|[.slice A n _,_]=>B37 b64 c A n|_=>0,⟨_,_,_,_,_,_,_,_,rfl,B3 h,mq,hq,mr,hr,hq0,hR,hy⟩,?_⟩
 rintro A1 G c1 A2 z c2 c ⟨Aq,Ar,nq,cq,nr,cr,q,R,s,d,mq,hq,mr,hr,hq0,hR,hy⟩
 simp only [bO,cV,and_true] at s
 obtain ⟨⟨rfl,rfl,rfl⟩,rfl,rfl,rfl⟩:=s
 have J:z<=bn+1:=mr.len_le (by decide) (by
  rw [bG]
  show R<b64^bn*18446744073709551616
  omega)
 have L:G<=m:=mq.len_le (by decide) hq0
 refine F7 mr (mp.mono d) (by omega) ⟨_,rfl,?_⟩
 refine B6 (fun i=>?_) (fun i=>?_)
 ·rw [Dk] at i
  have N:=mq.nonneg (by decide)
  have k:1<=q:=by
   by_cases F:1<=q
   ·exact F
   ·obtain rfl:q=0:=by omega
    omega
  refine R9 mr (mb.mono d) hr hb (by omega) (by omega) ?_
  intro A3 D t g e f M3
  refine ⟨_,_,_,rfl,An Q1 rfl ?_⟩
  intro b j
  refine ⟨_,_,_,rfl,?_⟩
  have o:=Heap.le_put (.cells #[U 1] C1) j
  have M1:Mw (g.put b (.cells #[U 1] C1)) (some ⟨b,0,none⟩) 1 1:=⟨[1],rfl,SlI.new g b [1] C1 _,Dig.one (by decide),by simp [fV],W4 _ _⟩
  refine H1 ((mq.mono e).mono o) M1 hq (by omega) k ?_
  intro A5 O S Q r H M5
  refine ⟨_,_,_,rfl,⟨_,_,_,_,_,_,_,_,rfl,Heap.le_trans d (Heap.le_trans e (Heap.le_trans o r)),M5,H,(M3.mono o).mono r,f,by omega,?_,?_⟩,?_⟩
  ·rw [Int.sub_mul];omega
  ·rw [Int.sub_mul];omega
  ·simp only [Am M5,Am mq];omega
 ·rw [Dk] at i
  refine H1 mr (mp.mono d) hr (by omega) (by omega) ?_
  intro A3 D t g e f M3
  obtain ⟨M,C⟩:=A1p (x:=x) (a:=R-pr) (b:=q) (p:=y) (by rw [hR,aR y];omega) (by omega) (by omega)
  refine ⟨_,_,_,rfl,hK _ _ _ _ _ _ _ (Heap.le_trans d e) hq f ?_ ?_⟩
  ·rw [M];exact mq.mono e
  ·rw [C];exact M3
set_option maxHeartbeats 1000000 in
def Uh{N:Nat}(ih:C09 N){x y:Int}{an bn m:Nat}(hm:0<m)(hN:m<=N)(hbm:bn=2*m)(ma:Mw h A an x)(mb:Mw h B bn y)(ha:an<=ac)(hb:bn<=bc)(hl:an<=1000000000)(hl2:bn<=200000000)(htop:9223372036854775808*b64^(bn-1)<=y)(hxy:x<b64^m*y)
 (hK:∀ A1 m1 c1 A2 m2 c2 h',h.le h'->m1<=c1->m2<=c2->Mw h' A1 m1 (x/y)->Mw h' A2 m2 (x%y)->K (.tuple #[.slice A1 m1 c1,.slice A2 m2 c2]) h'):aW prog U6 #[.slice A an ac,.slice B bn bc] h K:=by
 have ak:=ma.nonneg (by decide)
 have a3:=mb.nonneg (by decide)
 have a1:=mb.lt (by decide)
 have n:=D5 (B:=b64) (by decide) m
 have ad:b64^bn=b64^m*b64^m:=by rw [<- bD];congr 1;omega
 have p:b64^(2*m)=b64^m*b64^m:=by rw [<- bD];congr 1;omega
 have am:b64^(bn-1)=b64^m*b64^(m-1):=by rw [<- bD];congr 1;omega
 have a:=mb.high (k:=m) hb (by omega)
 rw [show bn-m=m by omega] at a
 have d:=a.nonneg (by decide)
 have ap:=a.lt (by decide)
 have dy:b64^m*(y/b64^m)+y%b64^m=y:=aO _ _
 have Z:=aT y (b:=b64^m) (by omega)
 have ax:=aP y n
 have dx:b64^m*(x/b64^m)+x%b64^m=x:=aO _ _
 have av:=aT x (b:=b64^m) (by omega)
 have ar:=aP x n
 have a4:=D5 (B:=b64) (by decide) (m-1)
 have ae:9223372036854775808*b64^(m-1)<=y/b64^m:=by
  by_cases hc:9223372036854775808*b64^(m-1)<=y/b64^m
  ·exact hc
  ·have o:b64^m*(y/b64^m+1)<=b64^m*(9223372036854775808*b64^(m-1)):=aJ (by omega) (by omega)
   have L:b64^m*(9223372036854775808*b64^(m-1))=9223372036854775808*(b64^m*b64^(m-1)):=by grind
   rw [am] at htop
   rw [cY] at o
   omega
 obtain ⟨ys,ah,sy,f,al,rfl⟩:=mb
 have mb:Mw h B bn (val b64 ys):=⟨ys,ah,sy,f,al,rfl⟩
 generalize hyv:val b64 ys=y at *
 refine Sv _ _ _ _ _ _ ?_
 unfold Pc
 have eh:B4 (cM ((bn:Nat):Int) 2)=(m:Int):=by rw [bH (by omega),B7 (by omega) (by omega)];omega
 have af:B4 (2*(m:Int))=((2*m:Nat):Int):=by rw [B7 (by omega) (by omega)];omega
 simp only [eh,af,aC,bV,H8]
 rw [show bn-m=m by omega]
 refine ⟨⟨by omega,by omega⟩,⟨by omega,by omega⟩,Bi (Kc sy (m:=m) (c:=bc) (by omega) (by omega)) (f.take m) (by rw [aF];omega) rfl (by omega) (by omega) ?_⟩
 intro yn ay Myl
 have w:=(Mo f m).2
 rw [aI (by omega),hyv] at w
 rw [<- w] at Myl
 refine ⟨_,_,_,rfl,B3 h,Z1 ma ha ?_⟩
 intro A1 n1 c1 k1 a7 M1
 refine ⟨_,_,_,rfl,?_⟩
 have u:=M1.nonneg (by decide)
 refine ⟨fun l O=>∃ (Aq Ar:Option bI) (J cq M X:Nat) (q r:Int),l=[.slice Aq J cq,.slice Ar M X]/\h.le O/\Mw O Aq J q/\J<=cq/\Mw O Ar M r/\M<=X/\q<b64^m/\x/b64^m=q*(y/b64^m)+r/\x-q*y<y,?_,?_⟩
 ·refine Z1 ma ha ?_
  intro A2 n2 c2 k2 a2 M2
  refine ⟨_,_,_,rfl,F7 M2 a (by omega) ⟨_,rfl,?_⟩⟩
  have ai:b64^(2*m)*(x/b64^(2*m))+x%b64^(2*m)=x:=aO _ _
  have T:=aT x (b:=b64^(2*m)) (by have:=D5 (B:=b64) (by decide) (2*m);omega)
  have S:=aP x (D5 (B:=b64) (by decide) (2*m))
  generalize x/b64^(2*m)=X2 at *
  rw [p] at ai T S
  refine B6 (fun R=>?_) (fun R=>?_)
  ·rw [Dk] at R
   have ht:=B6k (x:=x) (top:=x/b64^m) n (by rw [cY];omega) (by omega) R
   refine ih hN M1 a k1 (by omega) (by omega) (by omega) hm ae ht ?_
   intro A3 n3 c3 A4 n4 c4 h3 i k3 k4 M3 M4
   have F:0<y/b64^m:=by omega
   have d1:=aO (x/b64^m) (y/b64^m)
   have d2:=aP (x/b64^m) F
   have d0:=M3.nonneg (by decide)
   refine ⟨_,_,_,_,_,_,rfl,_,_,_,_,_,_,_,_,rfl,i,M3,k3,M4,k4,bJ F ht,by rw [aR];omega,?_⟩
   generalize (x/b64^m)/(y/b64^m)=q at *
   generalize (x/b64^m)%(y/b64^m)=r at *
   generalize x/b64^m=top at *
   generalize y/b64^m=yh at *
   generalize y%b64^m=yl at *
   generalize x%b64^m=xl at *
   generalize b64^m=P at *
   have o:P*(r+1)<=P*yh:=aJ (by omega) (by omega)
   have L:x-q*y=P*r+xl-q*yl:=by rw [<- dx,<- dy,<- d1];grind
   have t3:=aS d0 Z
   rw [cY] at o
   omega
  ·rw [Dk] at R
   have ht:=B6l (x:=x) (top:=x/b64^m) (yh:=y/b64^m) (X2:=X2) n (by omega) (by rw [cY];omega) (by omega)
   refine An Q1 rfl ?_
   intro b ao
   refine ⟨_,_,_,rfl,?_⟩
   have l4:=Heap.le_put (.cells #[U 18446744073709551615] C1) ao
   refine A67 (v:=18446744073709551615) (SlI.new h b [18446744073709551615] C1 _) hm (by omega) ?_
   intro A5 h5 G s5
   refine ⟨_,_,_,rfl,?_⟩
   have D:=Heap.le_trans l4 G
   refine Id (a.mono D) (Mag.zero (k:=.u64) (B:=b64)) (by omega) (by omega) ?_
   intro A6 n6 c6 h6 l6 k6 M6
   refine ⟨_,_,_,rfl,?_⟩
   have g:=Heap.le_trans D l6
   refine H1 (M1.mono g) M6 k1 (by omega) (by rw [aR];omega) ?_
   intro A7 n7 c7 h7 t k7 M7
   have aw:n7<=an:=M7.len_le (by decide) (by
    have:=ma.lt (by decide)
    have o:=aS d (aQ n)
    have L:1*(x/b64^m)<=b64^m*(x/b64^m):=aD (by omega) u
    omega)
   refine ⟨_,_,_,rfl,?_⟩
   refine R9 M7 ((a.mono g).mono t) k7 (by omega) (by omega) (by omega) ?_
   intro A8 n8 c8 h8 l8 k8 M8
   have E:∀ j:Nat,val b64 (aE j 18446744073709551615)=b64^j-1:=by
    intro j
    induction j with
    | zero=>rfl
    | succ j ihj=>
     rw [List.replicate_succ,val,ihj,bG]
     show (18446744073709551615:Int)+18446744073709551616*(b64^j-1)=b64^j*18446744073709551616-1
     omega
   have M5:Mw h5 A5 m (b64^m-1):=by
    refine ⟨aE m 18446744073709551615,by simp,s5,?_,?_,E m⟩
    ·intro z hz
     have:=List.eq_of_mem_replicate hz
     subst this;decide
    ·obtain ⟨j,rfl⟩:∃ j,m=j+1:=⟨m-1,by omega⟩
     unfold fV
     rw [List.replicate_succ']
     simp
   refine ⟨_,_,_,rfl,_,_,_,_,_,_,_,_,rfl,Heap.le_trans g (Heap.le_trans t l8),((M5.mono l6).mono t).mono l8,aZ _,M8,k8,by omega,?_,?_⟩
   ·grind
   ·have:(b64^m-1)*y=b64^m*y-y:=by grind
    omega
 ·rintro Aq' V a0 Ar' ag a5 O ⟨Aq,Ar,J,cq,M,X,q,r,C,lh,Q,hq,mr,hr,e,aa,W⟩
  simp only [bO,cV,and_true] at C
  obtain ⟨⟨rfl,rfl,rfl⟩,rfl,rfl,rfl⟩:=C
  have s:=Q.nonneg (by decide)
  have au:=mr.nonneg (by decide)
  have a6:V<=m:=Q.len_le (by decide) e
  have az:ag<=an:=mr.len_le (by decide) (by
   have:=ma.lt (by decide)
   have o:=aS s d
   have L:1*(x/b64^m)<=b64^m*(x/b64^m):=aD (by omega) u
   omega)
  refine H2 Q (Myl.mono lh) hq (by omega) (by omega) (by omega) ?_
  intro A3 n3 c3 h3 i k3 M3
  refine ⟨_,_,_,rfl,Fz (ma.mono (Heap.le_trans lh i)) ha (by omega) ?_⟩
  intro A4 n4 c4 k4 aj aq M4
  refine ⟨_,_,_,rfl,Id (mr.mono i) M4 aj (by omega) ?_⟩
  intro A5 n5 c5 h5 G k5 M5
  have H:=Heap.le_trans lh (Heap.le_trans i G)
  refine ⟨_,_,_,rfl,A5t (q0:=q) (m:=m) ak (mb.mono H) hb hl2 hbm ((Q.mono i).mono G) hq (M3.mono G) ?_ M5 k5 e ?_ W ?_⟩
  ·rw [ad]
   have o:q*(y%b64^m)<=q*b64^m:=aJ (by omega) s
   have L:q*b64^m<b64^m*b64^m:=bM e n
   omega
  ·generalize x/b64^m=top at *
   generalize y/b64^m=yh at *
   generalize y%b64^m=yl at *
   generalize x%b64^m=xl at *
   generalize b64^m=P at *
   rw [<- dx,<- dy,aa];grind
  ·intro A6 n6 c6 A7 n7 c7 h7 t k6 k7 M6 M7
   exact hK _ _ _ _ _ _ _ (Heap.le_trans H t) k6 k7 M6 M7
end
set_option maxHeartbeats 1000000 in
def C3h:∀ N,C09 N:=by
 intro N
 induction N with
 | zero=>intro h K A B H O L d x y Q _ _ _ _ _ _ F;omega
 | succ N ih=>
  intro h K A B H O L d x y hN k g E q hl j ad f i R
  have ae:=k.nonneg (by decide)
  have af:=g.nonneg (by decide)
  have e:0<y:=by
   have:=D5 (B:=b64) (by decide) (d-1);omega
  refine Sy _ _ _ _ _ _ ?_
  unfold Pe
  have c:aW prog J2 #[.slice A L H,.slice B d O] h (fun r hp=>∃ (t22aA:Option bI) (t22an:Nat) (t22ac:Nat) (t22bA:Option bI) (t22bn:Nat) (t22bc:Nat),r= .tuple #[.slice t22aA t22an t22ac,.slice t22bA t22bn t22bc]/\K (.tuple #[.slice t22aA t22an t22ac,.slice t22bA t22bn t22bc]) hp):=by
   refine Ev k g E q (by omega) hl (by omega) ?_
   intro A1 m1 c1 A2 m2 c2 h' l u M M1 M2
   exact ⟨_,_,_,_,_,_,rfl,R _ _ _ _ _ _ _ l u M M1 M2⟩
  refine B6 (fun Q=>c) (fun Q=>?_)
  refine I3 (fun F=>c) (fun F=>?_)
  rw [bW (by omega)] at F
  obtain ⟨m,hbm⟩:∃ m,d=2*m:=⟨d/2,by omega⟩
  have eh:B4 (cM ((d:Nat):Int) 2)=(m:Int):=by rw [bH (by omega),B7 (by omega) (by omega)];omega
  simp only [eh]
  have T:=D5 (B:=b64) (by decide) m
  have o:b64^d=b64^m*b64^m:=by rw [<- bD];congr 1;omega
  have dx:b64^m*(x/b64^m)+x%b64^m=x:=aO _ _
  have aa:=aT x (b:=b64^m) (by omega)
  have X:=aP x T
  rw [o] at i
  refine Z1 k E ?_
  intro A1 n1 c1 u ah M1
  refine ⟨_,_,_,rfl,?_⟩
  have S:x/b64^m<b64^m*y:=by
   by_cases hc:x/b64^m<b64^m*y
   ·exact hc
   ·have C:b64^m*(b64^m*y)<=b64^m*(x/b64^m):=aJ (by omega) (by omega)
    rw [cX] at i
    omega
  refine Uh ih (by omega) (by omega) hbm M1 g u q (by omega) j f S ?_
  intro A2 n2 c2 A3 n3 c3 h3 s M k3 M2 M3
  refine ⟨_,_,_,_,_,_,rfl,Fz (k.mono s) E (by omega) ?_⟩
  intro A4 n4 c4 k4 w V M4
  have d1:=aO (x/b64^m) y
  have d2:=aP (x/b64^m) e
  have d3:=aT (x/b64^m) (b:=y) (by omega)
  have t:x/b64^m/y<b64^m:=bJ e S
  have Z:n3<=d:=M3.len_le (by decide) (by have:=g.lt (by decide);omega)
  have ai:n2<=m:=M2.len_le (by decide) t
  refine ⟨_,_,_,rfl,Id M3 M4 w (by omega) ?_⟩
  intro A5 n5 c5 h5 z k5 M5
  refine ⟨_,_,_,rfl,?_⟩
  have G:(x/b64^m)%y*b64^m+x%b64^m<b64^m*y:=by
   have C:b64^m*((x/b64^m)%y+1)<=b64^m*y:=aJ (by omega) (by omega)
   rw [cY,aR] at C
   omega
  have ag:n5<=d+m:=M5.len_le (by decide) (by
   have C:b64^m*y<b64^m*b64^d:=cO (g.lt (by decide)) T
   rw [Nat.add_comm,bD];omega)
  refine Uh ih (by omega) (by omega) hbm M5 (g.mono (Heap.le_trans s z)) k5 q (by omega) j f G ?_
  intro A6 n6 c6 A7 n7 c7 h7 J k6 k7 M6 M7
  have n:n6<=m:=M6.len_le (by decide) (bJ e G)
  refine ⟨_,_,_,_,_,_,rfl,Id ((M2.mono z).mono J) M6 n (by omega) ?_⟩
  intro A8 n8 c8 h8 W k8 M8
  refine ⟨_,_,_,rfl,?_⟩
  have e1:=aO ((x/b64^m)%y*b64^m+x%b64^m) y
  have e2:=aP ((x/b64^m)%y*b64^m+x%b64^m) e
  have e3:=aT ((x/b64^m)%y*b64^m+x%b64^m) (b:=y) (by omega)
  have M7':=M7.mono W
  have D:=Heap.le_trans s (Heap.le_trans z (Heap.le_trans J W))
  generalize ((x/b64^m)%y*b64^m+x%b64^m)/y=q2 at *
  obtain ⟨f1,f2⟩:=A1p (x:=x) (a:=((x/b64^m)%y*b64^m+x%b64^m)%y) (b:=x/b64^m/y*b64^m+q2) (p:=y) (by
   generalize ((x/b64^m)%y*b64^m+x%b64^m)%y=r2 at *
   generalize x/b64^m/y=q1 at *
   generalize x/b64^m%y=r1 at *
   generalize x/b64^m=top at *
   generalize x%b64^m=xl at *
   generalize b64^m=P at *
   grind) e3 e2
  refine R _ _ _ _ _ _ _ D k8 k7 ?_ ?_
  ·rw [f1];exact M8
  ·rw [f2];exact M7'
def Yq{ys:List Int}{k t s:Nat}(dy:Dig b64 ys)(hk:ys.length=k+1)(ht:ys.getD k 0=(t:Int))(ht0:t≠0)(hs:s=64-O0 t):s<64/\val b64 ys*2^s<b64^(k+1)/\9223372036854775808*b64^k<=val b64 ys*2^s:=by
 have u:=N9 dy k
 obtain ⟨f,a⟩:=Bz (B:=b64) (by decide) dy (m:=k) hk
 rw [ht] at u f a
 obtain ⟨p,n⟩:=Fb ht0
 have q:O0 t<=64:=Iv (k:=64) (by omega)
 have o:1<=O0 t:=by unfold O0;rw [iN ht0];omega
 have e:s<64:=by omega
 have b:0<(2:Int)^s:=bL (by decide)
 have l:=Z9 (s:=s) (by omega)
 have c:O0 t=64-s:=by omega
 have j:(t:Int)+1<=2^(64-s):=by
  rw [<- c]
  have:((t+1:Nat):Int)<=((2^O0 t:Nat):Int):=by omega
  simpa using this
 have i:(2:Int)^(63-s)<=t:=by
  have:((2^(O0 t-1):Nat):Int)<=((t:Nat):Int):=by omega
  rw [show O0 t-1=63-s by omega] at this
  simpa using this
 have d:(2:Int)^s*2^(63-s)=9223372036854775808:=by
  rw [<- bD,show s+(63-s)=63 by omega];decide
 have g:=D5 (B:=b64) (by decide) k
 refine ⟨e,?_,?_⟩
 ·have w:val b64 ys*2^s<((t:Int)+1)*b64^k*2^s:=bM f b
  have r:((t:Int)+1)*b64^k*2^s=((t:Int)+1)*2^s*b64^k:=by grind
  have z:((t:Int)+1)*2^s*b64^k<=18446744073709551616*b64^k:=by
   apply aD _ (aQ g)
   rw [<- l,aR (2^s)]
   exact aD j (aQ b)
  have y:b64^(k+1)=18446744073709551616*b64^k:=by rw [bG b64 k,aR]
  omega
 ·have x:(t:Int)*b64^k*2^s<=val b64 ys*2^s:=aD a (aQ b)
  have w:9223372036854775808*b64^k<=(t:Int)*2^s*b64^k:=by
   apply aD _ (aQ g)
   rw [<- d,aR (t:Int)]
   exact aJ i (by omega)
  have r:(t:Int)*2^s*b64^k=(t:Int)*b64^k*2^s:=by grind
  omega
section
variable {h g:bC} {K:VP} {A B:Option bI} {ac bc:Nat}
set_option maxHeartbeats 1000000 in
def A72{D V a b:Int}{S sh dn dc vc bn bq:Nat}{pieces t46:Int}{DA VA:Option bI}(hS:B4 ((B4 (cM (B4 ((B4 (((bn:Nat):Int)+pieces))-(1:Int))) pieces))*pieces)=(S:Int))
 (hsh:C0 (B4 ((B4 ((64:Int)*(B4 ((S:Int)-((bn:Nat):Int)))))+t46))=(sh:Int)) (hS0:0<S) (hS2:S<=200000000) (hsh2:sh<=100000000000) (hb:h bq=none) (hD:Mw h DA dn D) (hdc:dn<=dc) (hdn:0<dn) (hdl:dn<=2000000000) (hV:Mw h VA S V) (hvc:S<=vc) (hVt:9223372036854775808*b64^(S-1)<=V)
 (hDa:D=a*2^sh) (hVb:V=b*2^sh)
 (hK:∀ A1 m1 c1 A2 m2 c2 h',h.le h'->m1<=c1->m2<=c2->Mw h' A1 m1 (a/b)->Mw h' A2 m2 (a%b)->K (.tuple #[.slice A1 m1 c1,.slice A2 m2 c2]) h'):
 Ay prog bn K pieces t46 VA S vc DA dn dc (some ⟨bq,0,none⟩) (dn+S) (dn+S) (blk .u64 C1 h bq (aE (dn+S) 0)):=by
 have H:=hD.nonneg (by decide)
 have ah:=hD.lt (by decide)
 have C:=hV.lt (by decide)
 have o:0<V:=by have:=D5 (B:=b64) (by decide) (S-1);omega
 have R:0<(2:Int)^sh:=bL (by decide)
 have hQ:=D5 (B:=b64) (by decide) S
 unfold Ay
 simp only [hS,hsh]
 obtain ⟨nb,hnb⟩:∃ nb,nb=(dn-1)/S:=⟨_,rfl⟩
 have ai:nb*S<=dn-1:=by rw [hnb];exact Nat.div_mul_le_self _ _
 have ak:dn-1<nb*S+S:=by
  have M:=eI (dn-1) S
  have h2:=eO (dn-1) hS0
  rw [<- hnb,fI] at M
  omega
 have e1:B4 (B4 (cM (B4 ((dn:Int)-1)) (S:Int))*(S:Int))=((nb+1:Nat):Int)*S-S:=by
  rw [B7 (n:=(dn:Int)-1) (by omega) (by omega),show (dn:Int)-1=((dn-1:Nat):Int) by omega,<- cL,<- hnb]
  have:nb<=dn-1:=by rw [hnb];exact eG _ _
  have T:(nb:Int)*(S:Int)=((nb*S:Nat):Int):=by simp
  rw [B7 (n:=(nb:Int)) (by omega) (by omega),T,B7 (by omega) (by omega),fQ,Int.add_mul,T]
  omega
 refine ⟨fun l R=>∃ (j n c:Nat) (A:Option bI) (d:List Int) (r:Int) (g:bC),l=[.slice A n c,I ((j:Int)*S-S)]/\h.le g/\j*S+d.length=dn+S/\Dig b64 d/\Win .u64 R g bq C1 (some ⟨bq,0,none⟩) [] (aE (j*S) 0++d) []/\Mw g A n r/\n<=c/\r=(D/b64^(j*S))%V/\val b64 d=(D/b64^(j*S))/V,fun l _=>(iAt l 1+S).toNat,⟨nb+1,0,0,none,aE (dn-1+1-nb*S) 0,0,h,by rw [e1],B3 h,?_,I0 (by decide) _,?_,Mag.zero,aZ _,?_,?_⟩,?_⟩
 ·rw [cP,fA,eZ];omega
 ·rw [dX,show (nb+1)*S+(dn-1+1-nb*S)=dn+S by rw [fA,eZ];omega]
  exact Win.blk .u64 C1 hb _
 ·have:=C8 (B:=b64) (by decide) (show dn<=(nb+1)*S by rw [fA,eZ];omega)
  rw [bU H (by omega),gR]
 ·have:=C8 (B:=b64) (by decide) (show dn<=(nb+1)*S by rw [fA,eZ];omega)
  rw [bU H (by omega),Int.zero_ediv,Cl]
 rintro A1 n1 c1 st ar ⟨j,n,c,A',d,r,g,L,lg,s,z,w,Mr,a0,t,k⟩
 simp only [bO,cV,cR,and_true,true_and] at L
 obtain ⟨⟨rfl,rfl,rfl⟩,rfl⟩:=L
 refine B6 (fun M=>?_) (fun M=>?_)
 ·obtain ⟨i,rfl⟩:∃ i,j=i+1:=⟨j-1,by
   rcases j with _|j
   ·simp at M;omega
   ·rfl⟩
  obtain ⟨e,he⟩:∃ e,e=i*S:=⟨_,rfl⟩
  have y:(i+1)*S=e+S:=by rw [he,fA,eZ]
  have X:((i+1:Nat):Int)*(S:Int)-(S:Int)=(e:Int):=by rw [<- cD,y];omega
  rw [y] at s w t k
  rw [X]
  have am:=D5 (B:=b64) (by decide) e
  refine w.call (Z1 (hD.mono lg) hdc ?_)
  intro A2 n2 c2 k2 aw M2 h2 w2
  refine ⟨_,_,_,rfl,w2.call (Fz M2 k2 (by omega) ?_)⟩
  intro A3 n3 c3 k3 af aj M3 T w3
  have an:=Mr.nonneg (by decide)
  have al:r<V:=by rw [t];exact aP _ o
  have av:n1<=S:=Mr.len_le (by decide) (by omega)
  refine ⟨_,_,_,rfl,w3.call (Id Mr M3 af (by omega) ?_)⟩
  intro A4 n4 c4 g4 l4 k4 M4 h4 w4
  have ad:D/b64^(e+S)=D/b64^e/b64^S:=by rw [bD,fG (by omega)]
  rw [ad] at t k
  have dm:=aO (D/b64^e) (b64^S)
  have au:=aT (D/b64^e) (b:=b64^S) (by omega)
  have ap:=aP (D/b64^e) hQ
  generalize hD1:D/b64^e=D1 at *
  have q:r*b64^S+D1%b64^S<b64^S*V:=by
   have t1:b64^S*(r+1)<=b64^S*V:=aJ (by omega) (by omega)
   rw [cY,aR] at t1
   omega
  have ao:n4<=S+S:=M4.len_le (by decide) (by
   have t1:b64^S*V<b64^S*b64^S:=cO C hQ
   rw [bD];omega)
  have F:=Heap.le_trans lg l4
  refine ⟨_,_,_,rfl,w4.call (C3h S (aZ _) M4 (hV.mono F) k4 hvc (by omega) hS2 hS0 hVt q ?_)⟩
  intro A5 n5 c5 A6 n6 c6 g6 l6 k5 k6 M5 M6 h6 O
  have az:n5<=S:=M5.len_le (by decide) (bJ o q)
  refine ⟨_,_,_,_,_,_,rfl,⟨by omega,by omega⟩,?_⟩
  rw [aC]
  have aa:aE (e+S) (0:Int)++d=aE e 0++(aE S 0++d):=by rw [<- aU,dX]
  rw [aa] at O
  have ax:(aE e (0:Int)++(aE S 0++d)).length=dn+S:=by simp only [aH,cP];omega
  have w7:=O.sub (l:=e) (m:=dn+S) (c:=dn+S) (by omega) (by omega) (by omega)
  have e7:((aE e (0:Int)++(aE S 0++d)).drop e).take (dn+S-e)=aE S 0++d:=by
   rw [eJ (by simp),aK (by simp only [aH,cP];omega)]
  rw [e7] at w7
  obtain ⟨u,G,Z,ag,ay,E⟩:=M5
  refine Gt Q1 w7 (by simp only [aH,cP];omega) (Z.mono O.le) G (by simp only [aH,cP];omega) ?_
  intro h8 w8
  rw [eD (by simp;omega),bF,<- aU u] at w8
  have f:(u++aE (S-u.length) (0:Int)).length=S:=by simp;omega
  have w9:=O.whole (l:=e) (m:=dn+S) (by omega) (by omega) (by rw [aH,f];omega) w8
  rw [dB (by simp),aY (show (aE e (0:Int)++(aE S 0++d)).length<=dn+S by omega),bX] at w9
  have e8:B4 ((e:Int)-(S:Int))=((i:Nat):Int)*S-S:=by
   rw [B7 (by omega) (by omega),he,cD]
  have aq:=aO (r*b64^S+D1%b64^S) V
  have N:=aT (r*b64^S+D1%b64^S) (b:=V) (by omega)
  have J:=aP (r*b64^S+D1%b64^S) o
  have ac:=aO (D1/b64^S) V
  rw [<- t,<- k] at ac
  obtain ⟨f1,f2⟩:=A1p (x:=D1) (a:=(r*b64^S+D1%b64^S)%V) (b:=val b64 u+b64^S*val b64 d) (p:=V) (by
   rw [E]
   generalize (r*b64^S+D1%b64^S)%V=r2 at *
   generalize hq2:(r*b64^S+D1%b64^S)/V=q2 at *
   generalize D1%b64^S=bl at *
   generalize D1/b64^S=D2 at *
   generalize b64^S=Q at *
   generalize val b64 d=W at *
   grind) N J
  refine ⟨_,rfl,?_⟩
  rw [e8]
  refine ⟨⟨i,_,_,_,(u++aE (S-u.length) 0)++d,_,g6,rfl,Heap.le_trans F l6,?_,?_,?_,M6,k6,?_,?_⟩,?_⟩
  ·rw [aH,f];omega
  ·exact (ag.append (I0 (by decide) _)).append z
  ·rw [<- he];exact w9
  ·rw [<- he,hD1,f2]
  ·rw [<- he,hD1,f1,G0,f,Cz]
  ·simp only [iAt,aL,aG]
   rw [<- cD,<- he]
   omega
 ·obtain rfl:j=0:=by
   rcases j with _|j
   ·rfl
   ·rw [<- cD,fA,eZ] at M
    omega
  rw [gW,List.replicate_zero,cT] at w
  rw [gW,iA,Int.ediv_one] at t k
  rw [gW,fH] at s
  have ae:0<b:=by
   by_cases hc:0<b
   ·exact hc
   ·have:=aD (show b<=0 by omega) (aQ R);omega
  obtain ⟨f1,f2⟩:=A1p (x:=D) (a:=(a%b)*2^sh) (b:=a/b) (p:=V) (by
   have:=aO a b
   rw [hDa,hVb]
   conv=>rhs;rw [<- this]
   grind) (aS (aT _ (by omega)) (by omega)) (by rw [hVb];exact bM (aP _ ae) R)
  refine Bi w.sl z s.symm k (by omega) (by omega) ?_
  intro m2 k2 M2
  refine ⟨_,_,_,rfl,?_⟩
  refine Gy (Mr.mono w.le) (by have:=Mr.len_le (j:=S) (by decide) (by have:=aP D o;omega);omega) (by omega) ?_
  intro A3 n3 c3 T l3 k3 M3
  rw [t,f2,fY _ (by omega)] at M3
  rw [f1] at M2
  exact ⟨_,_,_,rfl,hK _ _ _ _ _ _ _ (Heap.le_trans lg (Heap.le_trans w.le l3)) k2 k3 (M2.mono l3) M3⟩
set_option maxHeartbeats 1000000 in
def Rb{x y:Int}{an bn:Nat}(ma:Mw h A an x)(mb:Mw h B bn y)(ha:an<=ac)(hbc:bn<=bc)(hl:an<=800000000)(hl2:bn<=100000000)(ha0:0<an)(hb0:0<bn)
 (hK:∀ A1 m1 c1 A2 m2 c2 h',h.le h'->m1<=c1->m2<=c2->Mw h' A1 m1 (x/y)->Mw h' A2 m2 (x%y)->K (.tuple #[.slice A1 m1 c1,.slice A2 m2 c2]) h'):aW prog Cs #[.slice A an ac,.slice B bn bc] h K:=by
 have af:=ma.nonneg (by decide)
 have ae:=ma.len_zero (by decide)
 have m:=ma.lt (by decide)
 refine Ta _ _ _ _ _ _ ?_
 unfold Pf Jb
 refine ⟨fun l X=>X=h/\∃ p:Nat,l=[I p]/\0<p/\p<=bn,fun l _=>bn-(iAt l 0).toNat,⟨rfl,1,rfl,by omega,by omega⟩,?_⟩
 rintro u X ⟨rfl,p,M,i,ai⟩
 obtain rfl:=sI1 M
 have e1:B4 (cM (B4 (B4 ((bn:Int)+(p:Int))-1)) (p:Int))=(((bn+p-1)/p:Nat):Int):=by
  rw [B7 (n:=(bn:Int)+p) (by omega) (by omega),B7 (n:=(bn:Int)+p-1) (by omega) (by omega),show (bn:Int)+p-1=((bn+p-1:Nat):Int) by omega,<- cL]
  have:(bn+p-1)/p<=bn+p-1:=eG _ _
  generalize (bn+p-1)/p=q at *
  rw [B7 (by omega) (by omega)]
 refine B6 (fun f=>by omega) (fun _=>?_)
 obtain ⟨S,hS⟩:∃ S,S=(bn+p-1)/p*p:=⟨_,rfl⟩
 have ad:bn<=S/\S<=bn+p-1:=by
  have f:=eI (bn+p-1) p
  have R:=eO (bn+p-1) i
  rw [fI,<- hS] at f
  omega
 have e2:B4 ((B4 (cM (B4 (B4 ((bn:Int)+(p:Int))-1)) (p:Int)))*(p:Int))=(S:Int):=by
  rw [e1,<- cD,<- hS,B7 (by omega) (by omega)]
 refine B6 (fun f=>?_) (fun f=>?_)
 ·rw [e1] at f
  have R:80<=(bn+p-1)/p:=by omega
  rw [Nat.le_div_iff_mul_le i] at R
  have L:B4 ((p:Int)*2)=((p*2:Nat):Int):=by rw [B7 (by omega) (by omega)];omega
  rw [L]
  exact ⟨⟨rfl,_,rfl,by omega,by omega⟩,by simp only [iAt,aG];omega⟩
 ·refine B6 (fun f=>by omega) (fun _=>?_)
  obtain ⟨k,hk⟩:∃ k,bn=k+1:=⟨bn-1,by omega⟩
  have O:=mb
  obtain ⟨a,F,sy,T,ny,rfl⟩:=mb
  have d:a.length=k+1:=by omega
  have gt:=N9 T k
  have E:=A2t d ny
  have L:B4 ((bn:Int)-1)=(k:Int):=by rw [B7 (by omega) (by omega)];omega
  rw [L]
  subst F
  refine sy.load rfl (by omega) (by omega) ?_
  rw [aC]
  obtain ⟨t,ht⟩:∃ t:Nat,a.getD k 0=t:=⟨(a.getD k 0).toNat,by omega⟩
  rw [ht] at gt E ⊢
  refine R5 (by omega) ⟨_,rfl,?_⟩
  obtain ⟨s,hs⟩:∃ s,s=64-O0 t:=⟨_,rfl⟩
  rw [<- hs]
  obtain ⟨aa,H,Q⟩:=Yq T d ht (by omega) hs
  simp only [e2]
  obtain ⟨sh,hsh⟩:∃ sh,sh=64*(S-a.length)+s:=⟨_,rfl⟩
  have W:C0 (B4 (B4 (64*B4 ((S:Int)-(a.length:Int)))+(s:Int)))=(sh:Int):=by
   rw [B7 (n:=(S:Int)-(a.length:Int)) (by omega) (by omega),B7 (n:=64*((S:Int)-(a.length:Int))) (by omega) (by omega),B7 (by omega) (by omega),C2 (by omega) (by omega)]
   omega
  simp only [W]
  have c:(2:Int)^sh=2^s*b64^(S-a.length):=by rw [hsh,bD,Ky,aR]
  have g:=D5 (B:=b64) (by decide) (S-a.length)
  have ah:0<(2:Int)^s:=bL (by decide)
  have r:0<(2:Int)^sh:=bL (by decide)
  have aj:val b64 a*2^sh=val b64 a*2^s*b64^(S-a.length):=by rw [c,cX]
  have C:val b64 a*2^sh<b64^S:=by
   have w:val b64 a*2^s*b64^(S-a.length)<b64^(k+1)*b64^(S-a.length):=bM H g
   rw [<- bD,show k+1+(S-a.length)=S by omega] at w
   omega
  have J:9223372036854775808*b64^(S-1)<=val b64 a*2^sh:=by
   have w:9223372036854775808*b64^k*b64^(S-a.length)<=val b64 a*2^s*b64^(S-a.length):=aD Q (aQ g)
   rw [cX,<- bD,show k+(S-a.length)=S-1 by omega] at w
   omega
  refine U1 O hbc (by omega) (by omega) ?_
  intro A1 b c1 f l1 k1 M1
  refine ⟨_,_,_,rfl,?_⟩
  have N:b=S:=by
   have q1:=M1.len_le (by decide) C
   have q2:=M1.lt (by decide)
   by_cases hc:b=S
   ·exact hc
   ·have:=C8 (B:=b64) (by decide) (show b<=S-1 by omega)
    have:=D5 (B:=b64) (by decide) (S-1)
    omega
  subst N
  refine U1 (ma.mono l1) ha (by omega) (by omega) ?_
  intro A2 j c2 R Z k2 M2
  refine ⟨_,_,_,rfl,?_⟩
  have ag:j<=an+(1+(b-a.length)):=M2.len_le (by decide) (by
   have w:x*2^sh<b64^an*2^sh:=bM m r
   have t2:(2:Int)^sh<=b64^(1+(b-a.length)):=by
    rw [c,bD]
    apply aD _ (aQ g)
    have:=C8 (B:=2) (by decide) (show s<=64 by omega)
    have e:(2:Int)^64=18446744073709551616:=by decide
    show (2:Int)^s<=b64^1
    rw [bG,iA]
    show (2:Int)^s<=1*18446744073709551616
    omega
   have t3:b64^an*2^sh<=b64^an*b64^(1+(b-a.length)):=aJ t2 (aQ (D5 (by decide) an))
   rw [bD b64 an]
   omega)
  have o:0<j:=by
   rcases Nat.eq_zero_or_pos j with G|G
   ·have:=(M2.len_zero (by decide)).2 G
    rcases Int.mul_eq_zero.1 this with h3|h3<;>omega
   ·exact G
  have e5:B4 ((j:Int)+(b:Int))=((j+b:Nat):Int):=by rw [B7 (by omega) (by omega)];omega
  rw [e5]
  refine J7 Q1 (by omega) (by omega) (by omega) ?_
  intro bq z
  rw [aC]
  refine ⟨_,_,_,rfl,?_⟩
  refine B6 (fun f=>by omega) (fun _=>?_)
  refine A72 (D:=x*2^sh) (V:=val b64 a*2^sh) (sh:=sh) (S:=b) e2 W (by omega) (by omega) (by omega) z M2 k2 o (by omega) (M1.mono Z) k1 J rfl rfl ?_
  intro A3 n3 c3 A4 n4 c4 h4 l4 k3 k4 M3 M4
  exact hK _ _ _ _ _ _ _ (Heap.le_trans l1 (Heap.le_trans Z l4)) k3 k4 M3 M4
def S7{x y:Int}{an bn:Nat}(ma:Mw h A an x)(mb:Mw h B bn y)(ha:an<=ac)(hbc:bn<=bc)(hy:y≠0)(hl:an<=800000000)(hl2:bn<=100000000)
 (hK:∀ A1 m1 c1 A2 m2 c2 h',h.le h'->m1<=c1->m2<=c2->Mw h' A1 m1 (x/y)->Mw h' A2 m2 (x%y)->K (.tuple #[.slice A1 m1 c1,.slice A2 m2 c2]) h'):aW prog P6 #[.slice A an ac,.slice B bn bc] h K:=by
 refine Wk _ _ _ _ _ _ ?_
 unfold Sh
 have a:aW prog J2 #[.slice A an ac,.slice B bn bc] h (fun r d=>∃ (t22aA:Option bI) (t22an:Nat) (t22ac:Nat) (t22bA:Option bI) (t22bn:Nat) (t22bc:Nat),r= .tuple #[.slice t22aA t22an t22ac,.slice t22bA t22bn t22bc]/\K (.tuple #[.slice t22aA t22an t22ac,.slice t22bA t22bn t22bc]) d):=by
  refine Ev ma mb ha hbc hy (by omega) (by omega) ?_
  intro A1 m1 c1 A2 m2 c2 h' l c b M1 M2
  exact ⟨_,_,_,_,_,_,rfl,hK _ _ _ _ _ _ _ l c b M1 M2⟩
 refine B6 (fun f=>B6 (fun e=>?_) (fun _=>a)) (fun _=>a)
 rw [B7 (by omega) (by omega)] at e
 refine Rb ma mb ha hbc hl hl2 (by omega) (by omega) ?_
 intro A1 m1 c1 A2 m2 c2 h' l c b M1 M2
 exact ⟨_,_,_,_,_,_,rfl,hK _ _ _ _ _ _ _ l c b M1 M2⟩
end
def TZ(x k:Nat):Prop:=∃ m,x=2^k*(2*m+1)
def TZ.ex:∀ {x:Nat},x≠0->∃ k,TZ x k:=by
 intro x
 induction x using Nat.strongRecOn with
 | _ x ih=>
  intro h
  rcases Nat.mod_two_eq_zero_or_one x with b|b
  ·obtain ⟨k,m,a⟩:=ih (x/2) (by omega) (by omega)
   refine ⟨k+1,m,?_⟩
   rw [dT,fI (2^k),fB,<- a];omega
  ·exact ⟨0,x/2,by omega⟩
def TZ.lt{x k n:Nat}(h:TZ x k)(hx:x<2^n):k<n:=by
 obtain ⟨m,rfl⟩:=h
 have b:2^k*1<=2^k*(2*m+1):=fW _ (by omega)
 exact (gP (a:=2) (by decide)).1 (by omega)
def B2y{a u v:Nat}:(2^a*u) ||| (2^a*v)=2^a*(u ||| v):=by
 apply Nat.eq_of_testBit_eq
 intro i
 simp only [Nat.testBit_or,gS,Bool.and_or_distrib_left]
def B94{u v:Nat}(h:u%2=1\/v%2=1):(u ||| v)%2=1:=by simpa using h
def TZ.or'{x y a b:Nat}(hx:TZ x a)(hy:TZ y b)(hab:a<=b):TZ (x ||| y) a/\TZ (y ||| x) a:=by
 obtain ⟨m,rfl⟩:=hx
 obtain ⟨n,rfl⟩:=hy
 obtain ⟨d,rfl⟩:∃ d,b=a+d:=⟨b-a,by omega⟩
 rw [eC,fB,B2y,B2y]
 have c:=B94 (u:=2*m+1) (v:=2^d*(2*n+1)) (.inl (by omega))
 have e:=B94 (u:=2^d*(2*n+1)) (v:=2*m+1) (.inr (by omega))
 exact ⟨⟨_/2,by rw [<- eI (_ ||| _) 2,c]⟩,⟨_/2,by rw [<- eI (_ ||| _) 2,e]⟩⟩
def TZ.or{x y a b:Nat}(hx:TZ x a)(hy:TZ y b):TZ (x ||| y) (min a b):=by
 by_cases h:a<=b
 ·rw [aI h];exact (hx.or' hy h).1
 ·rw [fD (by omega)];exact (hy.or' hx (by omega)).2
def TZ.bit{x k:Nat}(h:TZ x k)(hx:x<2^64):x &&& (2^64-x)=2^k:=by
 obtain ⟨m,rfl⟩:=h
 have g:0<2^k:=cW (by decide)
 have e:2^k*(2*m+1)=2^k*(2*m)+(2^k-1)+1:=by rw [gJ,cF];omega
 apply Nat.eq_of_testBit_eq
 intro i
 rw [Nat.testBit_and]
 have c:(2^64-2^k*(2*m+1)).testBit i=(decide (i<64) && !(2^k*(2*m)+(2^k-1)).testBit i):=by
  rw [e];exact Nat.testBit_two_pow_sub_succ (by omega) i
 rw [c,Nat.testBit_two_pow_mul_add _ (by omega),gS,Nat.testBit_two_pow]
 by_cases b:i<k
 ·simp [b,show ¬ i>=k by omega,show ¬ k=i by omega]
 ·by_cases f:i=k
  ·subst f
   have a:i<64:=TZ.lt ⟨m,rfl⟩ hx
   simp [a,Nat.testBit_zero]
  ·obtain ⟨d,hd⟩:∃ d,i-k=d+1:=⟨i-k-1,by omega⟩
   rw [iN b,hd,Nat.testBit_succ,Nat.testBit_succ,show (2*m+1)/2=m by omega,show 2*m/2=m by omega]
   simp only [show ¬ k=i by omega,decide_false]
   cases m.testBit d<;>simp
def A03{o k:Nat}(h:o%2=1):Nat.Coprime (2^k) o:=Nat.Coprime.pow_left k (by unfold Nat.Coprime;rw [Nat.gcd_rec,h];rfl)
def C1a{x y a b m:Nat}(hx:x=2^a*(2*m+1))(hy:TZ y b):eA x y=2^(min a b)*eA (2*m+1) y:=by
 obtain ⟨n,rfl⟩:=hy
 subst hx
 have c:eA (2*m+1) (2^b*(2*n+1))=eA (2*m+1) (2*n+1):=dJ (2*n+1) (A03 (by omega))
 rw [c]
 by_cases h:a<=b
 ·obtain ⟨d,rfl⟩:∃ d,b=a+d:=⟨b-a,by omega⟩
  rw [aI h,eC,fB,Nat.gcd_mul_left,dJ _ (A03 (by omega))]
 ·obtain ⟨d,rfl⟩:∃ d,a=b+d:=⟨a-b,by omega⟩
  rw [fD (by omega),eC,fB,Nat.gcd_mul_left,Nat.Coprime.gcd_mul_left_cancel _ (A03 (by omega))]
def A2p(k:Nat):Nat:=(2^k*285870213051353865%18446744073709551616)/2^58
def Gtz(h:bC):Prop:=∀ k,k<64->h.cell? (eF ⟨0,0,none⟩ (A2p k*1))=some (Y k)
def Gtz.mono{h h':bC}(g:Gtz h)(l:h.le h'):Gtz h':=fun k a=>B5 l (g k a)
section
variable {h g:bC} {K:VP} {A B:Option bI} {ac bc:Nat}
def Kv{x k:Nat}(gl:Gtz h)(tz:TZ x k)(hx:x<18446744073709551616)(hK:K (I k) h):aW prog L8 #[U x] h K:=by
 have b:=tz.lt (n:=64) hx
 have a:x≠0:=by
  obtain ⟨m,rfl⟩:=tz
  have:0<2^k:=cW (by decide)
  have:=Nat.mul_pos this (show 0<2*m+1 by omega)
  omega
 refine Mh _ ?_
 unfold Hi
 refine D8 (fun e=>by omega) (fun _=>?_)
 have f:C0 (0-(x:Int))=((2^64-x:Nat):Int):=by
  rw [E4];omega
 have d:Re .u64 (x:Int) ((2^64-x:Nat):Int)=((2^k:Nat):Int):=by
  rw [B4k (by omega) (by omega),aC,aC,tz.bit hx]
 have c:eE (C0 (((2^k:Nat):Int)*285870213051353865)) (2^(min ((58:Int)).toNat 64))=((A2p k:Nat):Int):=by
  show eE _ (2^(min 58 64))=_
  rw [B71 (by decide),E4]
  unfold A2p
  rw [dZ,gI,cD]
  rfl
 rw [f,d,c,aC]
 have g:A2p k<64:=by
  unfold A2p
  have:(2^k*285870213051353865)%18446744073709551616<18446744073709551616:=eO _ (by decide)
  exact Nat.div_lt_of_lt_mul (by omega)
 refine ⟨⟨by omega,by omega⟩,_,gl k b,?_⟩
 rw [B7 (by omega) (by omega)]
 exact hK
def A41{x y:Nat}(gl:Gtz h)(hx:x<18446744073709551616)(hy:y<18446744073709551616)(hK:K (U (eA x y:Nat)) h):aW prog Ql #[U x,U y] h K:=by
 refine A79 _ _ ?_
 unfold A95
 refine D8 (fun e=>?_) (fun e=>?_)
 ·obtain rfl:x=0:=by omega
  rw [A71 (by omega) (by omega)]
  simpa using hK
 refine D8 (fun L=>?_) (fun L=>?_)
 ·obtain rfl:y=0:=by omega
  rw [A71 (by omega) (by omega)]
  simpa using hK
 obtain ⟨a,i⟩:=TZ.ex (x:=x) (by omega)
 obtain ⟨b,p⟩:=TZ.ex (x:=y) (by omega)
 have R:=i.lt (n:=64) hx
 have S:=p.lt (n:=64) hy
 rw [A71 (by omega) (by omega),aC,aC]
 have k:x ||| y<18446744073709551616:=Nat.or_lt_two_pow (n:=64) hx hy
 refine Kv gl (i.or p) k ⟨_,rfl,?_⟩
 refine Kv gl i hx ⟨_,rfl,?_⟩
 refine B6 (fun j=>by omega) (fun _=>?_)
 obtain ⟨m,o⟩:=i
 have D:=C1a o p
 have H:eE (x:Int) (2^(min ((a:Int)).toNat 64))=((2*m+1:Nat):Int):=by
  rw [aC,B71 (by omega),show ((2:Int)^a)=((2^a:Nat):Int) by simp,<- dZ,o,gU _ (cW (by decide))]
 rw [H]
 have w:2*m+1<=x:=by
  rw [o];exact gX _ (cW (by decide))
 refine ⟨fun l F=>F=h/\∃ u v:Nat,l=[U u,U v]/\u%2=1/\u<18446744073709551616/\v<18446744073709551616/\eA u v=eA (2*m+1) y,fun l _=>(iAt l 0+iAt l 1).toNat,⟨rfl,2*m+1,y,rfl,by omega,by omega,hy,rfl⟩,?_⟩
 rintro Q N C ⟨rfl,u,v,t,G,A,g,d⟩
 simp only [bO,cR,and_true,true_and] at t
 obtain ⟨rfl,rfl⟩:=t
 refine I3 (fun j=>?_) (fun j=>?_)
 ·obtain ⟨c,r⟩:=TZ.ex (x:=v) (by omega)
  have O:=r.lt (n:=64) g
  refine Kv gl r g ⟨_,rfl,?_⟩
  refine B6 (fun j=>by omega) (fun _=>?_)
  obtain ⟨n,s⟩:=r
  have J:eE (v:Int) (2^(min ((c:Int)).toNat 64))=((2*n+1:Nat):Int):=by
   rw [aC,B71 (by omega),show ((2:Int)^c)=((2^c:Nat):Int) by simp,<- dZ,s,gU _ (cW (by decide))]
  have z:2*n+1<=v:=by
   rw [s];exact gX _ (cW (by decide))
  have f:eA u (2*n+1)=eA u v:=by
   rw [s,dJ _ (A03 G)]
  rw [J]
  refine B6 (fun M=>?_) (fun M=>?_)
  ·have q:C0 ((u:Int)-((2*n+1:Nat):Int))=((u-(2*n+1):Nat):Int):=by rw [C2 (by omega) (by omega)];omega
   rw [q]
   refine ⟨⟨rfl,_,_,rfl,by omega,by omega,by omega,?_⟩,?_⟩
   ·rw [gY (by omega),gZ,f,d]
   ·simp only [iAt,aG,aL];omega
  ·have q:C0 (((2*n+1:Nat):Int)-(u:Int))=((2*n+1-u:Nat):Int):=by rw [C2 (by omega) (by omega)];omega
   rw [q]
   refine ⟨⟨rfl,_,_,rfl,by omega,by omega,by omega,?_⟩,?_⟩
   ·rw [gY (by omega),f,d]
   ·simp only [iAt,aG,aL];omega
 ·refine B6 (fun j=>by omega) (fun _=>?_)
  obtain rfl:v=0:=by omega
  rw [Nat.gcd_zero_right] at d
  rw [aC,aI (show min a b<=64 by omega)]
  have E:(u:Int)*2^(min a b)=((eA x y:Nat):Int):=by
   rw [D,<- d,cD,aR];simp
  have B:eA x y<=x:=Nat.le_of_dvd (by omega) (Nat.gcd_dvd_left x y)
  rw [E,C2 (by omega) (by omega)]
  exact hK
end
def B1w{xs:List Int}(d:Dig b64 xs){k s:Nat}(hl:xs.length<=k+2)(hs:s<=64):val b64 xs/(b64^k*2^(64-s))=xs.getD (k+1) 0*2^s+xs.getD k 0/2^(64-s):=by
 have c:=C4 b64 xs (k+1)
 have j:=C4 b64 xs k
 rw [aK (show xs.length<=k+1+1 by omega)] at c
 have f:=D5 (B:=b64) (by decide) k
 have i:0<(2:Int)^(64-s):=bL (by decide)
 have b:=Z9 (s:=s) hs
 have e:=C6 (by decide) (d.take k)
 have l:=L5 (by decide) (d.take k)
 have m:=C8 (B:=b64) (by decide) (show (xs.take k).length<=k by rw [aF];omega)
 rw [<- fG (aQ f)]
 have g:val b64 xs/b64^k=xs.getD k 0+18446744073709551616*xs.getD (k+1) 0:=by
  refine (A1p (a:=val b64 (xs.take k)) ?_ e (by omega)).1
  rw [c,j,bG]
  show _=val b64 (xs.take k)+_+b64^k*18446744073709551616*_
  grind
 rw [g,<- b,aR (2^s),cX,fT _ _ (by omega),aR (2^s)]
 omega
section
variable {h g:bC} {K:VP} {A B:Option bI} {ac bc:Nat}
def C2a(a b u0 u1 v0 v1:Int)(odd:Bool):Prop:=(0<=u0/\u0<18446744073709551616)/\(0<=u1/\u1<18446744073709551616)/\(0<=v0/\v0<18446744073709551616)/\(0<=v1/\v1<18446744073709551616)/\(v0≠0->Leh a b u0 v0 u1 v1 (Lc a b u0 v0 odd) (Lb a b u1 v1 odd))
def B70{a b F S W t20 t26 t33:Int}(hF:F=bor .u64 (C0 (t26*2^(min (C0 t20).toNat 64))) (eE t33 (2^(min (C0 ((64:Int)-(C0 t20))).toNat 64))))(hW:0<W)(hFa:F=a/W)(hSb:S=b/W)(hb0:0<=b)(hba:b<=a)(hF64:F<18446744073709551616)
 (hK:∀ u0 u1 v0 v1 odd,C2a a b u0 u1 v0 v1 odd->K (.agg #[U u0,U u1,U v0,U v1,.bool odd]) h):Ja prog K t20 t26 t33 S h:=by
 have da:=aO a W
 have db:=aO b W
 have w:=aT a (b:=W) (by omega)
 have r:=aP a hW
 have u:=aT b (b:=W) (by omega)
 have t:=aP b hW
 have x:0<=S:=by rw [hSb];exact bY hb0 (by omega)
 have s:S<=F:=by rw [hSb,hFa];exact Int.ediv_le_ediv hW hba
 unfold Ja
 rw [<- hF]
 refine ⟨fun l z=>z=h/\∃ (first c g d u0 u1 v0 v1:Int) (odd:Bool),l=[U first,U c,U g,U d,U u0,U u1,U v0,U v1,.bool odd]/\LS F S first c u0 v0 u1 v1 g d odd/\C2a a b u0 u1 v0 v1 odd/\g<=F/\d<=(if F=0 then 1 else F),fun l _=>(iAt l 1).toNat,⟨rfl,_,_,_,_,_,_,_,_,_,rfl,LS.init x s,⟨by omega,by omega,by omega,by omega,fun e=>absurd rfl e⟩,by omega,by split<;>omega⟩,?_⟩
 rintro first c g d u0 u1 v0 v1 odd z ⟨rfl,q,j,M,X,H,J,L,C,A,B,o,p,E,T⟩
 simp only [bO,cR,Value.bool.injEq,and_true,true_and] at B
 obtain ⟨rfl,rfl,rfl,rfl,rfl,rfl,rfl,rfl,rfl⟩:=B
 have y:=o.v2pos
 have i:=o.ord
 have O:=o.hF
 refine B6 (fun h1=>?_) (fun _=>hK _ _ _ _ _ p)
 have m:1<=c:=by omega
 have G:=o.bound2 m
 have D:first<=F:=by
  have Z:1*first<=d*first:=aD (by omega) (by omega)
  have t2:=aS (show 0<=v1 by omega) i.1
  omega
 rw [C2 (n:=first-c) (by omega) (by omega),C2 (n:=v1+d) (by omega) (by omega)]
 refine B6 (fun h2=>?_) (fun _=>hK _ _ _ _ _ p)
 refine B6 (fun e=>by omega) (fun _=>?_)
 refine B6 (fun e=>by omega) (fun _=>?_)
 rw [bW (by omega),bH (by omega)]
 have f:=o.step (by omega) (by omega)
 have N:=f.bound m
 have k:0<=first/c:=bY (by omega) (by omega)
 have V:first/c<=first:=fF _ (by omega)
 have R:=aS k (show 0<=g by omega)
 have Q:=aS k (show 0<=d by omega)
 rw [C2 (n:=first/c) (by omega) (by omega),C2 (n:=first/c*g) (by omega) (by omega),C2 (n:=first/c*d) (by omega) (by omega),C2 (n:=u1+first/c*g) (by omega) (by omega),C2 (n:=v1+first/c*d) (by omega) (by omega)]
 refine ⟨⟨rfl,_,_,_,_,_,_,_,_,_,rfl,f,⟨⟨by omega,p.2.1.2⟩,⟨by omega,by omega⟩,⟨by omega,p.2.2.2.1.2⟩,⟨by omega,by omega⟩,fun e=>f.leh e hW (al:=a%W) (bl:=b%W) ?_ ?_ ⟨w,r⟩ ⟨u,t⟩⟩,by omega,by split<;>omega⟩,?_⟩
 ·rw [hFa,aR];omega
 ·rw [hSb,aR];omega
 ·have:=aP first (show 0<c by omega)
  have:=aT first (show c≠0 by omega)
  simp only [iAt,aL,aG];omega
set_option maxHeartbeats 1000000 in
def A0b{a b:Int}{an bn:Nat}(ma:Mw h A an a)(mb:Mw h B bn b)(hba:b<=a)(hb2:2<=bn)(hl:an<=1000000000)
 (hK:∀ u0 u1 v0 v1 odd,C2a a b u0 u1 v0 v1 odd->K (.agg #[U u0,U u1,U v0,U v1,.bool odd]) h):aW prog Ll #[.slice A an ac,.slice B bn bc] h K:=by
 have L:=mb.nonneg (by decide)
 have ae:bn<=an:=mb.len_le (by decide) (dA hba (ma.lt (by decide)))
 obtain ⟨k,rfl⟩:∃ k,an=k+2:=⟨an-2,by omega⟩
 obtain ⟨o,i,S,G,nx,rfl⟩:=ma
 obtain ⟨f,r,T,J,ny,rfl⟩:=mb
 refine A4o _ _ _ _ _ _ ?_
 unfold A4p
 have e1:B4 (((k+2:Nat):Int)-1)=((k+1:Nat):Int):=by rw [B7 (by omega) (by omega)];omega
 have e2:B4 (((k+2:Nat):Int)-2)=(k:Int):=by rw [B7 (by omega) (by omega)];omega
 simp only [e1,e2]
 have gt:=N9 G (k+1)
 have M:=N9 G k
 have Q:=A2t (m:=k+1) i.symm nx
 obtain ⟨t,ht⟩:∃ t:Nat,o.getD (k+1) 0=t:=⟨(o.getD (k+1) 0).toNat,by omega⟩
 rw [i]
 refine S.load rfl (by omega) (by omega) ?_
 rw [aC,ht]
 rw [ht] at gt Q
 refine R5 (by omega) ⟨_,rfl,?_⟩
 obtain ⟨s,hs⟩:∃ s,s=64-O0 t:=⟨_,rfl⟩
 rw [<- hs]
 obtain ⟨Z,q,af⟩:=Yq G i.symm ht (by omega) hs
 refine S.load rfl (by omega) (by omega) ?_
 simp only [aC,ht]
 have g:C0 (s:Int)=s:=C2 (by omega) (by omega)
 have c:C0 (64-(s:Int))=((64-s:Nat):Int):=by rw [C2 (by omega) (by omega)];omega
 refine B6 (fun e=>by rw [g] at e;omega) (fun _=>?_)
 refine S.load rfl (by omega) (by omega) ?_
 simp only [aC]
 refine B6 (fun e=>by rw [g,c] at e;omega) (fun _=>?_)
 have N:0<(2:Int)^s:=bL (by decide)
 have x:0<(2:Int)^(64-s):=bL (by decide)
 have y:=Z9 (s:=s) (by omega)
 have W:=D5 (B:=b64) (by decide) k
 have H:0<b64^k*2^(64-s):=Int.mul_pos W x
 have j:=B1w G (k:=k) (s:=s) (by omega) (by omega)
 have d:=B1w J (k:=k) (s:=s) (by omega) (by omega)
 have p:val b64 o/(b64^k*2^(64-s))<18446744073709551616:=by
  apply bJ H
  have D:18446744073709551616*(b64^k*2^(64-s))*2^s=18446744073709551616*b64^k*(2^s*2^(64-s)):=by grind
  rw [y] at D
  have V:b64^(k+1+1)=18446744073709551616*b64^k*18446744073709551616:=by
   rw [bG,bG]
   show b64^k*18446744073709551616*18446744073709551616=_
   grind
  rw [V,<- D] at q
  exact Int.lt_of_mul_lt_mul_right q (by omega)
 have ad:val b64 f/(b64^k*2^(64-s))<=val b64 o/(b64^k*2^(64-s)):=Int.ediv_le_ediv H hba
 have q1:∀ z:Int,0<=z/\z<18446744073709551616->0<=z/2^(64-s)/\z/2^(64-s)<2^s:=fun z C=>
  ⟨bY C.1 (by omega),bJ x (by rw [y];exact C.2)⟩
 have w:∀ u z:Int,0<=u->0<=z/\z<18446744073709551616->u*2^s+z/2^(64-s)<18446744073709551616->bor .u64 (C0 (u*2^(min (C0 (s:Int)).toNat 64))) (eE z (2^(min (C0 (64-C0 (s:Int))).toNat 64)))=u*2^s+z/2^(64-s):=by
  intro u z X C O
  have:=q1 z C
  have:=aS X (aQ N)
  rw [g,c,aC,aC,B71 (by omega),aI (show s<=64 by omega),C2 (by omega) (by omega),A4g X (by omega) O]
 have gy:=N9 J (k+1)
 have R:=N9 J k
 rw [ht] at j
 refine ⟨fun l hp=>hp=h/\l=[U (val b64 f/(b64^k*2^(64-s)))],?_,?_⟩
 ·refine D8 (fun e=>?_) (fun e=>?_)
  ·rw [r]
   refine T.load rfl (by omega) (by omega) ?_
   simp only [aC]
   refine B6 (fun e=>by rw [g] at e;omega) (fun _=>?_)
   refine T.load rfl (by omega) (by omega) ?_
   simp only [aC]
   refine B6 (fun e=>by rw [g,c] at e;omega) (fun _=>?_)
   rw [w _ _ gy.1 R (by omega),d]
   first|exact ⟨rfl,rfl⟩|exact ⟨trivial,rfl⟩
  ·refine D8 (fun e=>?_) (fun e=>?_)
   ·rw [r]
    refine T.load rfl (by omega) (by omega) ?_
    simp only [aC]
    refine B6 (fun e=>by rw [g,c] at e;omega) (fun _=>?_)
    have:f.getD (k+1) 0=0:=by simp [cU,cQ (show f.length<=k+1 by omega)]
    rw [this,fJ,dL] at d
    rw [g,c,aC,B71 (by omega),d]
    first|exact ⟨rfl,rfl⟩|exact ⟨trivial,rfl⟩
   ·have D:f.getD (k+1) 0=0:=by simp [cU,cQ (show f.length<=k+1 by omega)]
    have V:f.getD k 0=0:=by simp [cU,cQ (show f.length<=k by omega)]
    rw [D,V,fJ,dL,Int.zero_ediv] at d
    rw [d]
    exact ⟨rfl,rfl⟩
 ·rintro E aa ⟨rfl,n⟩
  simp only [bO,cR,and_true,true_and] at n
  subst n
  exact B70 (F:=val b64 o/(b64^k*2^(64-s))) (by rw [w _ _ (by omega) M (by omega),j]) H rfl rfl L hba p hK
end
def Win.swap{k k':dY}{h g1 g:bC}{ba bb:Nat}{e e':cC}{A B:Option bI}{pa qa pb qb:List dC}{us bs:List Int}(wa:Win k h g1 ba e A pa us qa)(wb:Win k' g1 g bb e' B pb bs qb):∃ g2,Win k' h g2 bb e' B pb bs qb/\Win k g2 g ba e A pa us qa:=by
 have a:ba≠bb:=by
  rintro rfl
  have:=wa.free
  rw [wb.eq,B9] at this
  cases this
 have b:g ba=none:=by
  have:=wa.free
  rwa [wb.eq,B8 _ _ a] at this
 refine ⟨g.put ba (.cells (pa++us.map (bB k)++qa).toArray e),⟨?_,?_,wb.at_⟩,⟨b,rfl,wa.at_⟩⟩
 ·rw [B8 _ _ a.symm];exact wb.free
 ·rw [wa.eq,wb.eq];exact Heap.put_comm _ _ _ a.symm
def A07{z y c:Int}(hz:0<=z/\z<18446744073709551616)(hy:0<=y/\y<18446744073709551616)(hc:0<=c/\c<=1):(z-y-c)%18446744073709551616=z-y-c+18446744073709551616*(if z-y-c<0 then 1 else 0):=by
 split<;>omega
def A3s(z:Int):z%18446744073709551616=z-18446744073709551616*(z/18446744073709551616):=by omega
def Nu{x y c:Int}(hx:0<=x/\x<18446744073709551616)(hy:0<=y/\y<18446744073709551616)(hc:0<=c/\c<18446744073709551616):0<=(x*y+c)/18446744073709551616/\(x*y+c)/18446744073709551616<18446744073709551616:=by
 have b:=aS hx.1 hy.1
 have a:x*y<=18446744073709551615*y:=aD (by omega) hy.1
 omega
def pin{v w B m:Int}(h:v=w+B*m)(hv:0<=v/\v<B)(hw:0<=w/\w<B):v=w:=by
 have a:0<B:=by omega
 by_cases c:m <= -1
 ·have:=aJ c (aQ a);omega
 ·by_cases b:1<=m
  ·have:=aJ b (aQ a);omega
  ·obtain rfl:m=0:=by omega
   omega
section
variable {h g g1:bC} {K:VP} {A B:Option bI} {ac bc an bn ba bb:Nat} {e:cC} {qa qb:List dC}
set_option maxHeartbeats 1000000 in
def B0k{us bs:List Int}{u0 u1 v0 v1:Int}{odd:Bool}(wa:Win .u64 h g1 ba e A [] us qa)(wb:Win .u64 g1 g bb e B [] bs qb)(ha:an=us.length)(hb:bn=bs.length)(hab:us.length=bs.length)(da:Dig b64 us)(db:Dig b64 bs)(hl:us.length<=1000000000)(hu0:0<=u0/\u0<18446744073709551616)(hu1:0<=u1/\u1<18446744073709551616)(hv0:0<=v0/\v0<18446744073709551616)(hv1:0<=v1/\v1<18446744073709551616)
 (hX0:0<=Lc (val b64 us) (val b64 bs) u0 v0 odd/\Lc (val b64 us) (val b64 bs) u0 v0 odd<b64^us.length) (hX1:0<=Lb (val b64 us) (val b64 bs) u1 v1 odd/\Lb (val b64 us) (val b64 bs) u1 v1 odd<b64^us.length)
 (hK:∀ us' bs' h' g1',us'.length=us.length->bs'.length=us.length->Dig b64 us'->Dig b64 bs'->val b64 us'=Lc (val b64 us) (val b64 bs) u0 v0 odd->val b64 bs'=Lb (val b64 us) (val b64 bs) u1 v1 odd->Win .u64 h' g1' ba e A [] us' qa->Win .u64 g1' g bb e B [] bs' qb->K (.tuple #[]) h'):
 aW prog A14 #[.agg #[U u0,U u1,U v0,U v1,.bool odd],.slice A an ac,.slice B bn bc] h K:=by
 subst ha hb
 refine B50 _ _ _ _ _ _ _ _ _ _ _ ?_
 unfold B9o
 refine ⟨fun l hp=>∃ (k:Nat) (c b f d Q S:Int) (n u:List Int) (g1:bC),l=[U c,U b,U f,U d,U Q,U S,I k]/\k<=us.length/\n.length=us.length/\u.length=us.length/\Dig b64 n/\Dig b64 u/\(0<=c/\c<18446744073709551616)/\(0<=b/\b<18446744073709551616)/\(0<=f/\f<18446744073709551616)/\(0<=d/\d<18446744073709551616)/\(0<=Q/\Q<=1)/\(0<=S/\S<=1)/\Win .u64 hp g1 ba e A [] n qa/\Win .u64 g1 g bb e B [] u qb/\n.drop k=us.drop k/\u.drop k=bs.drop k/\
  val b64 (n.take k)=Lc (val b64 (us.take k)) (val b64 (bs.take k)) u0 v0 odd+b64^k*((if odd then b-c else c-b)+Q)/\val b64 (u.take k)=Lb (val b64 (us.take k)) (val b64 (bs.take k)) u1 v1 odd+b64^k*((if odd then d-f else f-d)+S),fun l _=>us.length-(iAt l 6).toNat,⟨0,0,0,0,0,0,0,us,bs,g1,rfl,by omega,rfl,hab.symm,da,db,by omega,by omega,by omega,by omega,by omega,by omega,wa,wb,rfl,rfl,by simp [val,Lc],by simp [val,Lb]⟩,?_⟩
 rintro c b f d Q S i hp ⟨k,ag,aj,ae,ai,ad,af,n,u,g1,V,hk,a,z,O,M,hP,hQ,hR,hT,C,w,N,T,F,G,o,m⟩
 simp only [bO,cR,and_true,true_and] at V
 obtain ⟨rfl,rfl,rfl,rfl,rfl,rfl,rfl⟩:=V
 refine B6 (fun h1=>?_) (fun h1=>?_)
 ·have gx:=N9 O k
  have gy:=N9 M k
  have s:=E5 F
  have j:=E5 G
  have vx:=C4 b64 us k
  have X:=C4 b64 bs k
  obtain ⟨g2,aa,ah⟩:=N.swap T
  refine N.sl.load a.symm (by omega) (by omega) ?_
  refine aa.sl.load (by omega) (by omega) (by omega) ?_
  simp only [aC]
  obtain ⟨aA,hA,_⟩:=SlV.at N.sl (i:=k) (by simp;omega)
  obtain ⟨aB,Z,_⟩:=SlV.at T.sl (i:=k) (by simp;omega)
  generalize hx0:n.getD k 0=x at *
  generalize hy0:u.getD k 0=y at *
  refine S3 gx hu0 hP ⟨_,_,rfl,?_⟩
  refine S3 gy hv0 hQ ⟨_,_,rfl,?_⟩
  refine S3 gy hv1 hR ⟨_,_,rfl,?_⟩
  refine S3 gx hu1 hT ⟨_,_,rfl,?_⟩
  have bP:=Nu gx hu0 hP
  have bQ:=Nu gy hv0 hQ
  have bR:=Nu gy hv1 hR
  have bT:=Nu gx hu1 hT
  have mP:=En (x*u0+c)
  have mQ:=En (y*v0+b)
  have W:=En (y*v1+f)
  have mT:=En (x*u1+d)
  have kP:=A3s (x*u0+c)
  have kQ:=A3s (y*v0+b)
  have kR:=A3s (y*v1+f)
  have kT:=A3s (x*u1+d)
  have ek:B4 ((k:Int)+1)=((k+1:Nat):Int):=by rw [B7 (by omega) (by omega)];omega
  rw [ek]
  generalize (x*u0+c)/18446744073709551616=cP2 at *
  generalize (y*v0+b)/18446744073709551616=cQ2 at *
  generalize (y*v1+f)/18446744073709551616=cR2 at *
  generalize (x*u1+d)/18446744073709551616=cT2 at *
  generalize (x*u0+c)%18446744073709551616=p at *
  generalize (y*v0+b)%18446744073709551616=q at *
  generalize (y*v1+f)%18446744073709551616=r at *
  generalize (x*u1+d)%18446744073709551616=t at *
  have D:b64^(k+1)=b64^k*18446744073709551616:=bG _ _
  cases odd with
  | true=>
   refine Br.of (fun _=>?_) (fun e=>by cases e)
   refine Fo mP mQ C ⟨_,_,rfl,aA,hA,by omega,by omega,N.storeN F4 hA (by omega) ?_⟩
   intro h2 w2
   refine Fo W mT w ⟨_,_,rfl,aB,Z,by omega,by omega,?_⟩
   obtain ⟨g3,E,H⟩:=w2.swap T
   refine E.storeN F4 Z (by omega) ?_
   intro h4 w4
   obtain ⟨g5,J,L⟩:=w4.swap H
   refine ⟨⟨k+1,_,_,_,_,_,_,_,_,g5,rfl,by omega,by simpa using a,by simpa using z,O.set (En _),M.set (En _),bP,bQ,bR,bT,by split<;>omega,by split<;>omega,J,L,?_,?_,?_,?_⟩,by simp only [iAt,aG,aL];omega⟩
   ·rw [D3 (by omega)];exact D6 F
   ·rw [D3 (by omega)];exact D6 G
   ·rw [C7 (by omega),F0,aF,aI (by omega),D,vx,X,<- s,<- j,o,A07 mP mQ C]
    simp only [Lc,if_true]
    grind
   ·rw [C7 (by omega),F0,aF,aI (by omega),D,vx,X,<- s,<- j,m,A07 W mT w]
    simp only [Lb,if_true]
    grind
  | false=>
   refine Br.of (fun e=>by cases e) (fun _=>?_)
   refine Fo mQ mP C ⟨_,_,rfl,aA,hA,by omega,by omega,N.storeN F4 hA (by omega) ?_⟩
   intro h2 w2
   refine Fo mT W w ⟨_,_,rfl,aB,Z,by omega,by omega,?_⟩
   obtain ⟨g3,E,H⟩:=w2.swap T
   refine E.storeN F4 Z (by omega) ?_
   intro h4 w4
   obtain ⟨g5,J,L⟩:=w4.swap H
   refine ⟨⟨k+1,_,_,_,_,_,_,_,_,g5,rfl,by omega,by simpa using a,by simpa using z,O.set (En _),M.set (En _),bP,bQ,bR,bT,by split<;>omega,by split<;>omega,J,L,?_,?_,?_,?_⟩,by simp only [iAt,aG,aL];omega⟩
   ·rw [D3 (by omega)];exact D6 F
   ·rw [D3 (by omega)];exact D6 G
   ·rw [C7 (by omega),F0,aF,aI (by omega),D,vx,X,<- s,<- j,o,A07 mQ mP C]
    simp only [Lc,eU,if_false]
    grind
   ·rw [C7 (by omega),F0,aF,aI (by omega),D,vx,X,<- s,<- j,m,A07 mT W w]
    simp only [Lb,eU,if_false]
    grind
 ·obtain rfl:k=us.length:=by omega
  rw [aK (show n.length<=us.length by omega),aV,aK (show bs.length<=us.length by omega)] at o
  rw [aK (show u.length<=us.length by omega),aV,aK (show bs.length<=us.length by omega)] at m
  have bx:=L5 (by decide) O
  have R:=L5 (by decide) M
  rw [a] at bx
  rw [z] at R
  exact hK n u hp g1 a z O M (pin o ⟨C6 (by decide) O,bx⟩ hX0) (pin m ⟨C6 (by decide) M,R⟩ hX1) N T
end
def Win.priv{k:dY}{h g:bC}{b m c:Nat}{e:cC}{A:Option bI}{xs:List Int}{post:List dC}(w:Win k h g b e A [] xs post)(hx:xs≠[])(hc:c=xs.length+post.length)(hm:m<=xs.length):eV h g e 1 A m c ((xs.take m).map (bB k)):=by
 refine ⟨by simp;omega,by omega,.inr ⟨b,xs.map (bB k)++post,?_,w.free,?_,by simp;omega,?_⟩⟩
 ·rcases w.at_ with a|a
  ·exact absurd a hx
  ·simpa using a
 ·have:=w.eq
  rwa [cT] at this
 ·rw [cF,cJ (by simp;omega),List.map_take]
def Fg{k:dY}{h g:bC}{n c:Nat}{e:cC}{A:Option bI}{xs:List Int}(p:eV h g e 1 A n c (xs.map (bB k)))(hx:xs≠[]):∃ b post,Win k h g b e A [] xs post/\c=xs.length+post.length:=by
 obtain ⟨i,o,d⟩:=p
 rw [fP] at i
 rcases d with ⟨m,rfl⟩|⟨b,a,f,j,rfl,q,l⟩
 ·exact absurd (aM (by omega)) hx
 ·refine ⟨b,a.drop (n*1),⟨j,?_,.inr f⟩,?_⟩
  ·rw [cT,<- l,cI]
  ·rw [aN];omega
def Priv.swap{h g1 g:bC}{e e':cC}{s s' n c m d:Nat}{A B:Option bI}{xs ys:List dC}(pa:eV h g1 e s A n c xs)(pb:eV g1 g e' s' B m d ys):∃ g2,eV h g2 e' s' B m d ys/\eV g2 g e s A n c xs:=by
 obtain ⟨j,l,D⟩:=pa
 obtain ⟨k,o,u⟩:=pb
 rcases D with ⟨C,rfl⟩|⟨i,b,r,a,rfl,w⟩
 ·exact ⟨g,⟨k,o,u⟩,⟨j,l,.inl ⟨C,rfl⟩⟩⟩
 ·rcases u with ⟨y,rfl⟩|⟨t,p,x,q,rfl,z⟩
  ·exact ⟨_,⟨k,o,.inl ⟨y,rfl⟩⟩,⟨j,l,.inr ⟨i,b,r,a,rfl,w⟩⟩⟩
  ·have f:i≠t:=by
    rintro rfl
    rw [B9] at a;cases a
   rw [B8 _ _ f] at a
   refine ⟨g.put i (.cells b.toArray e),⟨k,o,.inr ⟨t,p,x,?_,Heap.put_comm _ _ _ f.symm,z⟩⟩,⟨j,l,.inr ⟨i,b,r,a,rfl,w⟩⟩⟩
   rw [B8 _ _ f.symm];exact q
abbrev Pw(h g:bC)(A:Option bI)(n c:Nat)(us:List Int):Prop:=eV h g C1 1 A n c (us.map (bB .u64))
def GI(h:bC)(G:Nat)(hp:bC)(A:Option bI)(n c:Nat)(B:Option bI)(m d:Nat):Prop:=∃ (us vs:List Int) (g1 g:bC),h.le g/\Pw hp g1 A n c us/\Pw g1 g B m d vs/\Dig b64 us/\Dig b64 vs/\fV us/\fV vs/\n=us.length/\m=vs.length/\val b64 vs<=val b64 us/\gE (val b64 us) (val b64 vs)=G/\us.length<=100000000
def B3h{a b:Int}(ha:0<=a)(hb:0<=b):gE b (a%b)=gE a b:=by
 obtain ⟨x,rfl⟩:=dS ha
 obtain ⟨y,rfl⟩:=dS hb
 rw [<- gI,dR,dR,gZ x,gZ y,<- Nat.gcd_rec]
section
variable {h g:bC} {K:VP} {A B:Option bI} {ac bc:Nat}
set_option maxHeartbeats 1000000 in
def B7d{G an bn:Nat}{hp:bC}(gl:Gtz h)(gi:GI h G hp A an ac B bn bc)(hK:∀ A' m c' h',h.le h'->m<=c'->Mw h' A' m (G:Int)->K (.slice A' m c') h'):Lw prog K A an ac B bn bc hp:=by
 unfold Lw
 refine ⟨fun l hp=>∃ (A B:Option bI) (n c m d:Nat),l=[.slice A n c,.slice B m d]/\GI h G hp A n c B m d,fun l hp=>match l with|[_,.slice B n _]=>B37 b64 hp B n|_=>0,⟨_,_,_,_,_,_,rfl,gi⟩,?_⟩
 rintro A1 T c1 B1 m1 d1 hp ⟨A,B,n,c,m,d,hl,p,o,g1,g,lg,D,W,du,Z,nu,nv,hn,V,O,a,bl⟩
 simp only [bO,cV,and_true] at hl
 obtain ⟨⟨rfl,rfl,rfl⟩,rfl,rfl,rfl⟩:=hl
 have Ma:Mw hp A1 T (val b64 p):=⟨p,hn,D.slV,du,nu,rfl⟩
 have Mb:Mw hp B1 m1 (val b64 o):=⟨o,V,SlV.mono D.le W.slV,Z,nv,rfl⟩
 have ag:=D.2.1
 have a3:=W.2.1
 have C:=C6 (by decide) du
 have a2:=C6 (by decide) Z
 have az:m1<=T:=Mb.len_le (by decide) (dA O (Ma.lt (by decide)))
 have N:h.le hp:=Heap.le_trans lg (Heap.le_trans W.le D.le)
 have a7:=Mb.len_zero (by decide)
 refine B6 (fun h1=>?_) (fun h1=>?_)
 ·refine A0b Ma Mb O (by omega) (by omega) ?_
  intro u0 u1 v0 v1 bk st
  refine ⟨_,_,_,_,_,rfl,D8 (fun e=>?_) (fun e=>?_)⟩
  ·refine S7 Ma Mb ag a3 (by omega) (by omega) (by omega) ?_
   intro A2 m2 c2 A3 m3 c3 h6 l6 q k3 M2 M3
   refine ⟨_,_,_,_,_,_,rfl,?_⟩
   have bu:m3<=m1:=M3.len_le (by decide) (by have:=aP (val b64 p) (show 0<val b64 o by omega);have:=Mb.lt (by decide);omega)
   obtain ⟨ws,be,av,E,ar,a8⟩:=M3
   refine Ez av be (by omega) ?_
   intro A4 c4 h7 g7 l7 p7
   obtain ⟨g2,L,H⟩:=D.swap W
   obtain ⟨g8,l8,a5⟩:=L.after (Heap.le_trans l6 l7)
   obtain ⟨g9,a6,a9⟩:=Priv.swap p7 a5
   have bp:=aP (val b64 p) (show 0<val b64 o by omega)
   have Mn:Mw h7 A4 ws.length (val b64 ws):=⟨ws,rfl,p7.slV,E,ar,rfl⟩
   refine ⟨_,_,_,rfl,⟨_,_,_,_,_,_,rfl,o,ws,g9,g8,Heap.le_trans lg (Heap.le_trans H.le l8),a6,a9,Z,E,nv,ar,V,rfl,by omega,?_,by omega⟩,?_⟩
   ·rw [a8,B3h C a2];exact a
   ·simp only [Am Mn,Am Mb]
    have:=C6 (by decide) E
    omega
  ·obtain ⟨ad,am,ap,ai,lh⟩:=st
   have lh:=lh e
   unfold Sg
   obtain ⟨g2,L,H⟩:=D.swap W
   refine ⟨fun l hp=>∃ (B:Option bI) (m d j:Nat) (g1 g:bC),l=[.slice B m d]/\h.le g/\Pw hp g1 B m d (o++aE j 0)/\Pw g1 g A1 T c1 p/\m=o.length+j/\m<=T,fun l _=>match l with|[.slice _ m _]=>T-m|_=>0,⟨B1,m1,d1,0,g2,g,rfl,lg,by simpa using L,H,by omega,az⟩,?_⟩
   rintro B2 m2 d2 bj ⟨B',m',d',j,g3,g4,ao,ae,aj,aa,bo,bi⟩
   simp only [bO,cV,and_true] at ao
   obtain ⟨rfl,rfl,rfl⟩:=ao
   refine B6 (fun h2=>?_) (fun h2=>?_)
   ·refine Ds Q1 aj rfl rfl (by omega) (by omega) ?_
    intro A5 c5 h5 g5 l5 p5
    obtain ⟨g6,l6,aw⟩:=aa.after l5
    refine ⟨⟨A5,m2+1,c5,j+1,g5,g6,rfl,Heap.le_trans ae l6,?_,aw,by omega,by omega⟩,by simp only;omega⟩
    have p6:=p5
    rw [<- List.map_singleton (f:=bB .u64),<- dP,aU,<- List.replicate_succ'] at p6
    exact p6
   ·obtain ⟨g5,a0,a1⟩:=aj.swap aa
    have u:(o++aE j (0:Int)).length=p.length:=by simp;omega
    have i:p≠[]:=by rintro rfl;simp at hn;omega
    have aq:o++aE j (0:Int)≠[]:=by intro h0;rw [h0] at u;simp at u;exact i (aM u.symm)
    obtain ⟨ba,qa,wa,bm⟩:=Fg a0 i
    obtain ⟨bb,qb,wb,bq⟩:=Fg a1 aq
    have bf:=lh.gcd
    have bh:=lh.ord
    have bd:=lh.le
    have bg:val b64 o<b64^p.length:=by rw [<- hn];exact dA O (Ma.lt (by decide))
    refine B0k wa wb hn (by omega) u.symm du (Z.append (I0 (by decide) _)) (by omega) ad am ap ai (by rw [Cz];omega) (by rw [Cz];omega) ?_
    intro x k h6 g6 y z ax al S s M ak
    rw [Cz] at S s
    have Q:x≠[]:=by rintro rfl;simp at y;exact i (aM y.symm)
    have J:k≠[]:=by rintro rfl;simp at z;exact i (aM z.symm)
    refine ⟨rfl,?_⟩
    rw [show T=x.length by omega]
    refine Ed M.sl (by omega) (by omega) ?_
    intro k1 a4 au X
    refine ⟨_,_,_,rfl,?_⟩
    rw [show m2=k.length by omega]
    refine Ed (SlV.mono M.le ak.sl) (by omega) (by omega) ?_
    intro q ay ah F
    have pA:=M.priv (m:=k1) (c:=c1) Q (by omega) a4
    have pB:=ak.priv (m:=q) (c:=d2) J (by omega) ay
    have e1:(x.take k1).length=k1:=by rw [aF];omega
    have e2:(k.take q).length=q:=by rw [aF];omega
    have Mn:Mw h6 B2 q (val b64 (k.take q)):=⟨k.take q,e2.symm,SlV.mono pA.le pB.slV,al.take _,ah,rfl⟩
    refine ⟨_,_,_,rfl,⟨_,_,_,_,_,_,rfl,x.take k1,k.take q,_,_,ae,pA,pB,ax.take _,al.take _,au,ah,e1.symm,e2.symm,?_,?_,by omega⟩,?_⟩
    ·rw [X,F,S,s];omega
    ·rw [X,F,S,s,bf];exact a
    ·simp only [Am Mn,Am Mb]
     rw [F,s];omega
 ·refine D8 (fun h2=>?_) (fun h2=>?_)
  ·have h0:val b64 o=0:=a7.2 (by omega)
   rw [h0,Int.gcd_zero_right] at a
   refine hK _ _ _ _ N ag ?_
   rw [<- a,Int.natAbs_of_nonneg C];exact Ma
  ·have bt:m1=1:=by omega
   obtain ⟨w,rfl⟩:∃ w,o=[w]:=by
    rcases o with _|⟨w,_|⟨w',r⟩⟩
    ·simp at V;omega
    ·exact ⟨w,rfl⟩
    ·simp at V;omega
   have hw:=Z w (by simp)
   rw [W4] at *
   obtain ⟨t,rfl⟩:∃ t:Nat,w=(t:Int):=dS hw.1
   have br:(t:Int)<18446744073709551616:=hw.2
   have af:0<t:=by omega
   have sb:SlI .u64 hp B1 [(t:Int)]:=SlV.mono D.le W.slV
   refine sb.load V (by omega) (by omega) ?_
   refine sb.load V (by omega) (by omega) ?_
   show aW _ _ #[_,U ((t:Nat):Int)] _ _
   refine Nm Ma ⟨af,by omega⟩ (by omega) ⟨_,rfl,B3 _,?_⟩
   have r0:=aT (val b64 p) (b:=(t:Int)) (by omega)
   have r1:=aP (val b64 p) (show (0:Int)<(t:Int) by omega)
   have R:=B3h C (show (0:Int)<=(t:Int) by omega)
   obtain ⟨r,hr⟩:=dS r0
   rw [hr] at r1 R ⊢
   show aW _ _ #[U ((t:Nat):Int),_] _ _
   refine A41 (gl.mono N) (by omega) (by omega) ⟨_,rfl,B3 _,?_⟩
   rw [dR] at R
   have bd:eA t r<=t:=Nat.le_of_dvd af (Nat.gcd_dvd_left t r)
   refine Bk (by omega) ?_
   intro A2 m2 c2 h2 l2 q M2
   rw [R,a] at M2
   exact ⟨_,_,_,rfl,l2,hK _ _ _ _ (Heap.le_trans N l2) q M2⟩
def Oa{x y:Int}{an bn:Nat}(gl:Gtz h)(ma:Mw h A an x)(mb:Mw h B bn y)(ha:an<=ac)(hb:bn<=bc)(hl:an<=100000000)(hl2:bn<=100000000)(hK:∀ A' m c' h',h.le h'->m<=c'->Mw h' A' m (gE x y:Int)->K (.slice A' m c') h'):aW prog Gc #[.slice A an ac,.slice B bn bc] h K:=by
 refine A4s _ _ _ _ _ _ ?_
 unfold A4t
 refine ⟨fun l p=>p=h/\∃ (A B:Option bI) (n c m d:Nat) (f a:Int),l=[.slice A n c,.slice B m d]/\Mw h A n f/\Mw h B m a/\a<=f/\n<=c/\m<=d/\n<=100000000/\m<=100000000/\gE f a=gE x y,?_,?_⟩
 ·refine F7 ma mb (by omega) ⟨_,rfl,B6 (fun b=>?_) (fun b=>?_)⟩
  ·rw [Dk] at b
   exact ⟨rfl,_,_,_,_,_,_,_,_,rfl,mb,ma,by omega,hb,ha,hl2,hl,Int.gcd_comm _ _⟩
  ·rw [Dk] at b
   exact ⟨rfl,_,_,_,_,_,_,_,_,rfl,ma,mb,by omega,ha,hb,hl,hl2,rfl⟩
 ·rintro A1 Z c1 B1 m1 d1 p ⟨rfl,A2,B2,n,c,m,d,f,a,e,M1,M2,g,s,X,l1,V,j⟩
  simp only [bO,cV,and_true] at e
  obtain ⟨⟨rfl,rfl,rfl⟩,rfl,rfl,rfl⟩:=e
  have i:=M1.nonneg (by decide)
  refine D8 (fun b=>?_) (fun b=>?_)
  ·have:a=0:=(M2.len_zero (by decide)).2 (by omega)
   subst this
   rw [Int.gcd_zero_right] at j
   refine hK _ _ _ _ (B3 _) s ?_
   rw [<- j,Int.natAbs_of_nonneg i];exact M1
  ·obtain ⟨t,o,C,w,E,rfl⟩:=M1
   obtain ⟨J,k,L,u,nv,rfl⟩:=M2
   refine Ez C o (by omega) ?_
   intro A3 Q R g3 r q
   refine ⟨_,_,_,rfl,?_⟩
   refine Ez (SlV.mono (Heap.le_trans r q.le) L) k (by omega) ?_
   intro A4 W T S N H
   refine ⟨_,_,_,rfl,?_⟩
   obtain ⟨M,z,G⟩:=q.after N
   obtain ⟨F,D,O⟩:=Priv.swap H G
   exact B7d gl ⟨t,J,F,M,Heap.le_trans r z,D,O,w,u,E,nv,rfl,rfl,g,j,by omega⟩ hK
end
structure ZI (h:bC) (s:Bool) (A:Option bI) (n c:Nat) (z:Int):Prop where
 cap:n<=c
 mag:Mw h A n (z.natAbs:Int)
 sgn:s=decide (z<0)
def ZI.mono{h h':bC}{s:Bool}{A:Option bI}{n c:Nat}{z:Int}(i:ZI h s A n c z)(l:h.le h'):ZI h' s A n c z:=⟨i.cap,i.mag.mono l,i.sgn⟩
def ZI.zero{h:bC}{A:Option bI}:ZI h false A 0 0 0:=⟨aZ _,Mag.zero,rfl⟩
def ZI.len{h:bC}{s:Bool}{A:Option bI}{n c m:Nat}{z:Int}(i:ZI h s A n c z)(hz:ZB m z)(hm:m<=6400000000):n<=100000000:=by
 obtain ⟨k,hk⟩:∃ k,k=100000000:=⟨_,rfl⟩
 rw [<- hk]
 refine i.mag.len_le (by decide) ?_
 rw [Ky]
 have a:(z.natAbs:Int)<2^m:=by
  have:((z.natAbs:Nat):Int)<((2^m:Nat):Int):=Int.ofNat_lt.2 hz
  simpa using this
 have b:=C8 (B:=2) (by decide) (show m<=64*k by omega)
 exact Int.lt_of_lt_of_le a b
def ZI.zeroIff{h:bC}{s:Bool}{A:Option bI}{n c:Nat}{z:Int}(i:ZI h s A n c z):z=0↔n=0:=by
 have:=i.mag.len_zero (by decide)
 omega
section
variable {h g:bC} {K:VP} {A B:Option bI} {s s':Bool} {an ac bn bc m:Nat} {x y:Int}
def O4{v:Nat}{n c:Nat}{neg:Bool}(M:Mw h A n (v:Int))(hc:n<=c)(hK:∀ s,ZI h s A n c (if neg then -(v:Int) else v)->K (.agg #[.bool s,.slice A n c]) h):aW prog Q7 #[.bool neg,.slice A n c] h K:=by
 have a:=M.len_zero (by decide)
 refine B0r _ _ _ _ ?_
 unfold B4w
 cases neg with
 | true=>
  refine Br.of (fun _=>hK _ ⟨hc,?_,?_⟩) (fun e=>by cases e)
  ·simpa using M
  ·simp only [if_true,decide_eq_decide];omega
 | false=>
  refine Br.of (fun e=>by cases e) (fun _=>hK _ ⟨hc,?_,?_⟩)
  ·simpa using M
  ·simp
def T8(i:ZI h s A an ac x)(hK:∀ s',ZI h s' A an ac (-x)->K (.agg #[.bool s',.slice A an ac]) h):aW prog Ih #[.agg #[.bool s,.slice A an ac]] h K:=by
 refine C1y _ _ _ _ ?_
 unfold C6c
 refine O4 (neg:= !s) i.mag i.cap ?_
 intro c b
 have e:(if (!s)=true then -(x.natAbs:Int) else x.natAbs)= -x:=by
  have:=i.sgn
  by_cases a:x<0
  ·simp only [a,decide_true] at this;subst this;simp;omega
  ·simp only [a,decide_false] at this;subst this;simp;omega
 rw [e] at b
 exact ⟨_,_,_,_,rfl,hK _ b⟩
def Hq(i:ZI h s A an ac x)(j:ZI h s' B bn bc y)(hx:ZB m x)(hy:ZB m y)(hm:m<=6400000000)(hK:∀ s1 A' n' c' h',h.le h'->ZI h' s1 A' n' c' (x+y)->K (.agg #[.bool s1,.slice A' n' c']) h'):aW prog Vj #[.agg #[.bool s,.slice A an ac],.agg #[.bool s',.slice B bn bc]] h K:=by
 have p:=i.len hx hm
 have q:=j.len hy hm
 have f:=i.sgn
 have a:=j.sgn
 refine C22 _ _ _ _ _ _ _ _ ?_
 unfold C6g
 refine Br.of (fun e=>?_) (fun e=>?_)
 ·have e:s=s':=by simpa using e
  subst e
  refine R9 i.mag j.mag i.cap j.cap (by omega) (by omega) ?_
  intro A1 o c1 b c g M1
  refine ⟨_,_,_,rfl,c,?_⟩
  rw [<- fQ] at M1
  refine O4 (neg:=s) M1 g ?_
  intro s1 d
  refine ⟨_,_,_,_,rfl,B3 _,hK _ _ _ _ _ c ?_⟩
  have k:(if s=true then -((x.natAbs+y.natAbs:Nat):Int) else ((x.natAbs+y.natAbs:Nat):Int))=x+y:=by
   cases s with
   | true=>have b:=of_decide_eq_true f.symm;have l:=of_decide_eq_true a.symm;simp;omega
   | false=>have b:=of_decide_eq_false f.symm;have l:=of_decide_eq_false a.symm;simp;omega
  rw [k] at d
  exact d
 ·have e:s≠s':=by simpa using e
  refine F7 i.mag j.mag (by omega) ⟨_,rfl,B6 (fun b=>?_) (fun b=>?_)⟩
  ·have n:¬ (x.natAbs:Int)<y.natAbs:=by rw [<- Dk];omega
   refine H1 i.mag j.mag i.cap (by omega) (by omega) ?_
   intro A1 o c1 b c g M1
   refine ⟨_,_,_,rfl,c,?_⟩
   rw [show (x.natAbs:Int)-y.natAbs=((x.natAbs-y.natAbs:Nat):Int) by omega] at M1
   refine O4 (neg:=s) M1 g ?_
   intro s1 d
   refine ⟨_,_,_,_,rfl,B3 _,hK _ _ _ _ _ c ?_⟩
   have k:(if s=true then -((x.natAbs-y.natAbs:Nat):Int) else ((x.natAbs-y.natAbs:Nat):Int))=x+y:=by
    cases s with
    | true=>cases s' with
     | true=>exact absurd rfl e
     | false=>have b:=of_decide_eq_true f.symm;have l:=of_decide_eq_false a.symm;rw [iP rfl];omega
    | false=>cases s' with
     | true=>have b:=of_decide_eq_false f.symm;have l:=of_decide_eq_true a.symm;rw [iN (by simp)];omega
     | false=>exact absurd rfl e
   rw [k] at d
   exact d
  ·have n:(x.natAbs:Int)<y.natAbs:=by rw [<- Dk];omega
   refine H1 j.mag i.mag j.cap (by omega) (by omega) ?_
   intro A1 o c1 b c g M1
   refine ⟨_,_,_,rfl,c,?_⟩
   rw [show (y.natAbs:Int)-x.natAbs=((y.natAbs-x.natAbs:Nat):Int) by omega] at M1
   refine O4 (neg:=s') M1 g ?_
   intro s1 d
   refine ⟨_,_,_,_,rfl,B3 _,hK _ _ _ _ _ c ?_⟩
   have k:(if s'=true then -((y.natAbs-x.natAbs:Nat):Int) else ((y.natAbs-x.natAbs:Nat):Int))=x+y:=by
    cases s with
    | true=>cases s' with
     | true=>exact absurd rfl e
     | false=>have b:=of_decide_eq_true f.symm;have l:=of_decide_eq_false a.symm;rw [iN (by simp)];omega
    | false=>cases s' with
     | true=>have b:=of_decide_eq_false f.symm;have l:=of_decide_eq_true a.symm;rw [iP rfl];omega
     | false=>exact absurd rfl e
   rw [k] at d
   exact d
def B1d(i:ZI h s A an ac x)(j:ZI h s' B bn bc y)(hx:ZB m x)(hy:ZB m y)(hm:m<=6400000000)(hK:∀ s1 A' n' c' h',h.le h'->ZI h' s1 A' n' c' (x-y)->K (.agg #[.bool s1,.slice A' n' c']) h'):aW prog B3o #[.agg #[.bool s,.slice A an ac],.agg #[.bool s',.slice B bn bc]] h K:=by
 refine C1w _ _ _ _ _ _ _ _ ?_
 unfold C6a
 refine T8 j ?_
 intro s1 b
 refine ⟨_,_,_,_,rfl,B3 _,Hq i b hx hy.neg hm ?_⟩
 intro e A2 d c2 f a c
 exact ⟨_,_,_,_,rfl,a,hK _ _ _ _ _ a (by rw [Int.sub_eq_add_neg];exact c)⟩
def L4(i:ZI h s A an ac x)(j:ZI h s' B bn bc y)(hx:ZB m x)(hy:ZB m y)(hm:m<=6400000000)(hK:∀ s1 A' n' c' h',h.le h'->ZI h' s1 A' n' c' (x*y)->K (.agg #[.bool s1,.slice A' n' c']) h'):aW prog Bh #[.agg #[.bool s,.slice A an ac],.agg #[.bool s',.slice B bn bc]] h K:=by
 have k:=i.len hx hm
 have l:=j.len hy hm
 have b:=i.sgn
 have a:=j.sgn
 refine C1z _ _ _ _ _ _ _ _ ?_
 unfold C6d
 refine H2 i.mag j.mag i.cap j.cap (by omega) (by omega) ?_
 intro A1 g c1 n c e M1
 refine ⟨_,_,_,rfl,c,?_⟩
 rw [<- cD] at M1
 refine O4 (neg:= !(s==s')) M1 e ?_
 intro s1 d
 refine ⟨_,_,_,_,rfl,B3 _,hK _ _ _ _ _ c ?_⟩
 have f:(if (!(s==s'))=true then -((x.natAbs*y.natAbs:Nat):Int) else ((x.natAbs*y.natAbs:Nat):Int))=x*y:=by
  rw [cD]
  cases s with
  | true=>cases s' with
   | true=>rw [show (x.natAbs:Int)= -x by have:=of_decide_eq_true b.symm;omega,show (y.natAbs:Int)= -y by have:=of_decide_eq_true a.symm;omega];show -x * -y=x*y;exact Int.neg_mul_neg x y
   | false=>rw [show (x.natAbs:Int)= -x by have:=of_decide_eq_true b.symm;omega,show (y.natAbs:Int)=y by have:=of_decide_eq_false a.symm;omega];show -(-x*y)=x*y;rw [Int.neg_mul,Int.neg_neg]
  | false=>cases s' with
   | true=>rw [show (x.natAbs:Int)=x by have:=of_decide_eq_false b.symm;omega,show (y.natAbs:Int)= -y by have:=of_decide_eq_true a.symm;omega];show -(x * -y)=x*y;rw [Int.mul_neg,Int.neg_neg]
   | false=>rw [show (x.natAbs:Int)=x by have:=of_decide_eq_false b.symm;omega,show (y.natAbs:Int)=y by have:=of_decide_eq_false a.symm;omega];rfl
 rw [f] at d
 exact d
def Cj(gl:Gtz h)(i:ZI h s A an ac x)(j:ZI h s' B bn bc y)(hx:ZB m x)(hy:ZB m y)(hm:m<=6400000000)(hK:∀ A' n' c' h',h.le h'->ZI h' false A' n' c' (gE x y:Int)->K (.agg #[.bool false,.slice A' n' c']) h'):aW prog Od #[.agg #[.bool s,.slice A an ac],.agg #[.bool s',.slice B bn bc]] h K:=by
 have c:=i.len hx hm
 have d:=j.len hy hm
 refine C21 _ _ _ _ _ _ _ _ ?_
 unfold C6f
 refine Oa gl i.mag j.mag i.cap j.cap c d ?_
 intro A1 e c1 f b a M1
 refine ⟨_,_,_,rfl,hK _ _ _ _ b ⟨a,?_,?_⟩⟩
 ·rw [dR] at M1
  rw [cN]
  exact M1
 ·simp
def Eb(i:ZI h s A an ac x)(hK:K (I (Int.sign x)) h):aW prog Lj #[.agg #[.bool s,.slice A an ac]] h K:=by
 have c:=i.zeroIff
 have b:=i.sgn
 refine B82 _ _ _ _ ?_
 unfold C40
 refine D8 (fun e=>?_) (fun e=>?_)
 ·obtain rfl:x=0:=by omega
  simpa using hK
 ·refine Br.of (fun a=>?_) (fun a=>?_)
  ·subst a
   have:=of_decide_eq_true b.symm
   rw [eP this] at hK;exact hK
  ·subst a
   have:=of_decide_eq_false b.symm
   rw [fK (by omega)] at hK;exact hK
def Mj(i:ZI h s A an ac x)(j:ZI h s' B bn bc y)(hx:ZB m x)(hy:ZB m y)(hm:m<=6400000000)(hK:K (I (Ey x y)) h):aW prog Jw #[.agg #[.bool s,.slice A an ac],.agg #[.bool s',.slice B bn bc]] h K:=by
 have f:=i.len hx hm
 have g:=j.len hy hm
 have d:=i.sgn
 have a:=j.sgn
 refine A78 _ _ _ _ _ _ _ _ ?_
 unfold A94
 have c1:x<0->y<0->Ey (y.natAbs:Int) x.natAbs=Ey x y:=fun c b=>by unfold Ey;split<;>split<;>first|rfl|omega|(split<;>split<;>first|rfl|omega)|(split<;>first|rfl|omega)
 have c2:¬ x<0->¬ y<0->Ey (x.natAbs:Int) y.natAbs=Ey x y:=fun c b=>by rw [show (x.natAbs:Int)=x by omega,show (y.natAbs:Int)=y by omega]
 cases s with
 | true=>
  have c:=of_decide_eq_true d.symm
  refine Br.of (fun _=>?_) (fun e=>by cases e)
  cases s' with
  | true=>
   have b:=of_decide_eq_true a.symm
   refine Br.of (fun _=>?_) (fun e=>by cases e)
   exact F7 j.mag i.mag (by omega) ⟨_,rfl,by rw [c1 c b];exact hK⟩
  | false=>
   have b:=of_decide_eq_false a.symm
   refine Br.of (fun e=>by cases e) (fun _=>Br.of (fun _=>?_) (fun e=>by cases e))
   have:Ey x y= -1:=by unfold Ey;rw [iP (by omega)]
   rw [this] at hK;exact hK
 | false=>
  have c:=of_decide_eq_false d.symm
  refine Br.of (fun e=>by cases e) (fun _=>Br.of (fun e=>by cases e) (fun _=>?_))
  cases s' with
  | true=>
   have b:=of_decide_eq_true a.symm
   refine Br.of (fun _=>?_) (fun e=>by cases e)
   have:Ey x y=1:=by unfold Ey;rw [iN (by omega),iP (by omega)]
   rw [this] at hK;exact hK
  | false=>
   have b:=of_decide_eq_false a.symm
   refine Br.of (fun e=>by cases e) (fun _=>?_)
   exact F7 i.mag j.mag (by omega) ⟨_,rfl,by rw [c2 c b];exact hK⟩
end
section
variable {h g:bC} {K:VP} {A B:Option bI} {s s':Bool} {an ac bn bc m:Nat} {x y:Int}
def Ab(hs:s=decide (x<0)):(s=true/\x= -(x.natAbs:Int))\/(s=false/\x=(x.natAbs:Int)):=by
 by_cases h:x<0
 ·left;exact ⟨by rw [hs];simpa using h,by omega⟩
 ·right;exact ⟨by rw [hs];simpa using h,by omega⟩
def B6n(a b:Nat):(a:Int).tdiv b=((a/b:Nat):Int)/\(-(a:Int)).tdiv (-(b:Int))=((a/b:Nat):Int)/\(-(a:Int)).tdiv b= -((a/b:Nat):Int)/\(a:Int).tdiv (-(b:Int))= -((a/b:Nat):Int):=by
 refine ⟨(cL a b).symm,?_,?_,?_⟩
 ·rw [Int.neg_tdiv,Int.tdiv_neg,Int.neg_neg,cL]
 ·rw [Int.neg_tdiv,cL]
 ·rw [Int.tdiv_neg,cL]
def A7y(a b:Nat):(a:Int).tmod b=((a%b:Nat):Int)/\(-(a:Int)).tmod (-(b:Int))= -((a%b:Nat):Int)/\(-(a:Int)).tmod b= -((a%b:Nat):Int)/\(a:Int).tmod (-(b:Int))=((a%b:Nat):Int):=by
 refine ⟨(dI a b).symm,?_,?_,?_⟩
 ·rw [Int.neg_tmod,Int.tmod_neg,dI]
 ·rw [Int.neg_tmod,dI]
 ·rw [Int.tmod_neg,dI]
def Rm(i:ZI h s A an ac x)(j:ZI h s' B bn bc y)(hx:ZB m x)(hy:ZB m y)(hm:m<=6400000000)(hy0:y≠0)(hK:∀ s1 A1 n1 c1 s2 A2 n2 c2 h',h.le h'->ZI h' s1 A1 n1 c1 (x.tdiv y)->ZI h' s2 A2 n2 c2 (x.tmod y)->K (.tuple #[.agg #[.bool s1,.slice A1 n1 c1],.agg #[.bool s2,.slice A2 n2 c2]]) h'):aW prog Oc #[.agg #[.bool s,.slice A an ac],.agg #[.bool s',.slice B bn bc]] h K:=by
 have p:=i.len hx hm
 have o:=j.len hy hm
 have r:=j.zeroIff
 have a:=Ab i.sgn
 have d:=Ab j.sgn
 refine B0o _ _ _ _ _ _ _ _ ?_
 unfold B4q
 refine D8 (fun e=>by omega) (fun _=>?_)
 refine S7 i.mag j.mag i.cap j.cap (by omega) (by omega) (by omega) ?_
 intro A1 n c1 A2 l c2 q g f k M1 M2
 refine ⟨_,_,_,_,_,_,rfl,?_⟩
 rw [<- dZ] at M1
 rw [<- gI] at M2
 refine O4 (neg:= !(s==s')) M1 f ?_
 intro s1 b
 refine ⟨_,_,_,_,rfl,B3 _,?_⟩
 refine O4 (neg:=s) M2 k ?_
 intro s2 c
 refine ⟨_,_,_,_,rfl,B3 _,hK _ _ _ _ _ _ _ _ _ g ?_ ?_⟩
 ·have e:(if (!(s==s'))=true then -((x.natAbs/y.natAbs:Nat):Int) else ((x.natAbs/y.natAbs:Nat):Int))=x.tdiv y:=by
   have t:=B6n x.natAbs y.natAbs
   rcases a with ⟨rfl,hx'⟩|⟨rfl,hx'⟩<;>rcases d with ⟨rfl,hy'⟩|⟨rfl,hy'⟩<;>rw [<- hx',<- hy'] at t
   ·exact t.2.1.symm
   ·exact t.2.2.1.symm
   ·exact t.2.2.2.symm
   ·exact t.1.symm
  rw [e] at b;exact b
 ·have e:(if s=true then -((x.natAbs%y.natAbs:Nat):Int) else ((x.natAbs%y.natAbs:Nat):Int))=x.tmod y:=by
   have t:=A7y x.natAbs y.natAbs
   rcases a with ⟨rfl,hx'⟩|⟨rfl,hx'⟩<;>rcases d with ⟨rfl,hy'⟩|⟨rfl,hy'⟩<;>rw [<- hx',<- hy'] at t
   ·exact t.2.1.symm
   ·exact t.2.2.1.symm
   ·exact t.2.2.2.symm
   ·exact t.1.symm
  rw [e] at c;exact c
def F9(i:ZI h s A an ac x)(hK:K (.bool (decide (x=0))) h):aW prog E8 #[.agg #[.bool s,.slice A an ac]] h K:=by
 have b:=i.zeroIff
 refine B0p _ _ _ _ ?_
 unfold B4r
 have:((an:Int)==0)=decide (x=0):=by
  by_cases a:x=0
  ·simp [a,b.1 a]
  ·have:¬ an=0:=fun e=>a (b.2 e)
   simp [a,this]
 rw [this];exact hK
def Q4(i:ZI h s A an ac x)(hK:K (.bool (decide (x=1))) h):aW prog Z5 #[.agg #[.bool s,.slice A an ac]] h K:=by
 have g:=Ab i.sgn
 have k:=i.zeroIff
 have M:=i.mag
 refine B4s _ _ _ _ ?_
 unfold B9j
 rcases g with ⟨rfl,f⟩|⟨rfl,f⟩
 ·refine Br.of (fun e=>by cases e) (fun _=>?_)
  rw [show decide (x=1)=false by simp;omega] at hK;exact hK
 ·refine Br.of (fun _=>?_) (fun e=>by cases e)
  obtain ⟨d,a,l,m,o,b⟩:=M
  refine D8 (fun e=>?_) (fun e=>?_)
  ·obtain ⟨w,rfl⟩:∃ w,d=[w]:=by
    rcases d with _|⟨w,_|⟨n,r⟩⟩
    ·simp at a;omega
    ·exact ⟨w,rfl⟩
    ·simp at a;omega
   refine l.load a (by omega) (by omega) ?_
   rw [W4] at b
   show K (.bool (w==1)) h
   have:(w==1)=decide (x=1):=by
    by_cases c:x=1
    ·have:w=1:=by omega
     simp [c,this]
    ·have:¬ w=1:=by omega
     simp [c,this]
   rw [this];exact hK
  ·have:¬ x=1:=by
    rintro rfl
    have c:=i.mag.len_le (j:=1) (by decide) (by decide)
    have p:¬ an=0:=fun e=>by have:=k.2 e;omega
    omega
   rw [show decide (x=1)=false by simp [this]] at hK;exact hK
def Q3(i:ZI h s A an ac x)(j:ZI h s' B bn bc y)(hx:ZB m x)(hy:ZB m y)(hm:m<=6400000000)(hy0:y≠0)(hK:∀ s1 A1 n1 c1 h',h.le h'->ZI h' s1 A1 n1 c1 (x.tdiv y)->K (.agg #[.bool s1,.slice A1 n1 c1]) h'):aW prog Ep #[.agg #[.bool s,.slice A an ac],.agg #[.bool s',.slice B bn bc]] h K:=by
 refine C1x _ _ _ _ _ _ _ _ ?_
 unfold C6b
 refine Q4 j ⟨_,rfl,B6 (fun e=>?_) (fun e=>?_)⟩
 ·subst e
  exact hK _ _ _ _ _ (B3 _) (by rw [Int.tdiv_one];exact i)
 ·refine Rm i j hx hy hm hy0 ?_
  intro s1 A1 n1 c1 d A2 c c2 g a b f
  exact ⟨_,_,_,_,_,_,_,_,rfl,hK _ _ _ _ _ a b⟩
def A5k(i:ZI h s A an ac x)(j:ZI h s' B bn bc y)(hx:ZB m x)(hm:m<=6400000000)(hK:K (.bool (decide (x=y))) h):aW prog A0z #[.agg #[.bool s,.slice A an ac],.agg #[.bool s',.slice B bn bc]] h K:=by
 have k:=i.len hx hm
 have f:=Ab i.sgn
 have g:=Ab j.sgn
 have b:=i.sgn
 have c:=j.sgn
 refine B4u _ _ _ _ _ _ _ _ ?_
 unfold B9l
 refine Br.of (fun e=>?_) (fun e=>?_)
 ·have e:s=s':=by simpa using e
  refine F7 i.mag j.mag (by omega) ⟨_,rfl,?_⟩
  have:(Ey (x.natAbs:Int) y.natAbs==0)=decide (x=y):=by
   by_cases d:x=y
   ·subst d;unfold Ey;simp
   ·have l:¬ x.natAbs=y.natAbs:=by
     rcases f with ⟨rfl,hx'⟩|⟨rfl,hx'⟩<;>rcases g with ⟨a,hy'⟩|⟨a,hy'⟩<;>(rw [<- e] at a)<;>first|omega|(cases a)
    unfold Ey
    by_cases a:(x.natAbs:Int)<y.natAbs
    ·rw [iP a];simp [d]
    ·rw [iN a,iP (by omega)];simp [d]
  rw [this];exact hK
 ·have e:s≠s':=by simpa using e
  have:¬ x=y:=by rintro rfl;exact e (b.trans c.symm)
  rw [show decide (x=y)=false by simp [this]] at hK;exact hK
def Ec{n:Int}(h1: -9223372036854775808<=n)(h2:n<=9223372036854775807)(hK:∀ s1 A1 n1 c1 h',h.le h'->ZI h' s1 A1 n1 c1 n->K (.agg #[.bool s1,.slice A1 n1 c1]) h'):aW prog Rx #[I n] h K:=by
 refine C23 _ ?_
 unfold C6h
 refine B6 (fun a=>?_) (fun a=>?_)
 ·have e:C0 (0-C0 n)=(n.natAbs:Int):=by rw [E4,E4];omega
  rw [e]
  refine Bk (by omega) ?_
  intro A1 d c1 h1 b c M1
  exact ⟨_,_,_,rfl,hK _ _ _ _ _ b ⟨c,M1,by simpa using a⟩⟩
 ·have e:C0 n=(n.natAbs:Int):=by rw [E4];omega
  rw [e]
  refine Bk (by omega) ?_
  intro A1 d c1 h1 b c M1
  exact ⟨_,_,_,rfl,hK _ _ _ _ _ b ⟨c,M1,by simpa using a⟩⟩
end
def A9p{P:dG}{t d e:cC}(ht:P.underlying t=some .string)(hd:P.underlying d=some (.slice e))(he:P.underlying e=some (.int .u8)){h:bC}{l:List UInt8}{K:VP}
 (x:∀ A c h',h.le h'->l.length<=c->SlV h' A (yv l)->K (.slice A l.length c) h'):wpH P (convert t d (.string (bs l))) K h:=by
 unfold convert
 simp only [C5,E9 ht,E9 hd,E9 he]
 unfold Conv.stringToBytes
 simp only [C5]
 refine Jm rfl (fun n=>?_)
 have f:(bs l).size=l.length:=by simp [bs,eS]
 have a:l.length<=(Question.appendCap (bs l).size 0 e).cut n:=by
  rw [f];simp only [Question.cut];omega
 generalize (Question.appendCap (bs l).size 0 e).cut n=cap at *
 rw [R4]
 intro b r
 generalize hcs:((bs l).data.map (fun b=>bB .u8 b.toNat)++fR (cap-(bs l).size) (bB .u8 0))=cs
 have j:h.le (h.put b (.cells cs e (cs.size,cs.size+1))):=Heap.le_put _ r
 have m:(h.put b (.cells cs e)).freeze { block:=b,off:=cs.size } 1=h.put b (.cells cs e (cs.size,cs.size+1)):=by
  unfold Heap.freeze
  rw [iN (by decide)]
  funext k
  by_cases g:k=b
  ·subst g
   simp only [if_true,B9,gK]
   rfl
  ·rw [iN g,B8 _ _ g,B8 _ _ g]
 refine ⟨cs,e,_,B9 _ _ _,?_⟩
 refine ⟨⟨_,B9 _ _ _⟩,?_⟩
 show K (.slice (some ⟨b,0,none⟩) (bs l).size cap) ((h.put b (.cells cs e)).freeze { block:=b,off:=cs.size } 1)
 rw [m,f]
 refine x _ _ _ j a (.inr ⟨_,rfl,?_⟩)
 intro i v o
 have p:i<l.length:=by
  have:=(List.getElem?_eq_some_iff.1 o).1
  simpa [yv] using this
 have q:eF ⟨b,0,none⟩ i=⟨b,i,none⟩:=by rw [E6,fH]
 rw [q,E7,<- hcs,Array.getElem?_append_left (by simp [bs];exact p)]
 rw [<- o]
 simp [yv,bs]
def A6n{x y:Int}(hy:0<y):(x.tmod y<0->x/y=x.tdiv y-1)/\(0<=x.tmod y->x/y=x.tdiv y):=by
 have b:=Int.mul_tdiv_add_tmod x y
 have c: -y<x.tmod y/\x.tmod y<y:=by
  have d:=eO x.natAbs (show 0<y.natAbs by omega)
  have t:=A7y x.natAbs y.natAbs
  rw [show ((y.natAbs:Nat):Int)=y by omega] at t
  by_cases e:x<0
  ·rw [show -((x.natAbs:Nat):Int)=x by omega] at t
   have:=t.2.2.1
   omega
  ·rw [show ((x.natAbs:Nat):Int)=x by omega] at t
   have:=t.1
   omega
 refine ⟨fun h=>?_,fun h=>?_⟩
 ·refine (A1p (a:=x.tmod y+y) ?_ (by omega) (by omega)).1
  rw [Int.mul_sub];omega
 ·exact (A1p (a:=x.tmod y) (by omega) h (by omega)).1
def ZB.tdiv{m:Nat}{x y:Int}(h:ZB m x):ZB m (x.tdiv y):=by
 unfold ZB at *
 rw [Int.natAbs_tdiv]
 exact Nat.lt_of_le_of_lt (eG _ _) h
section
variable {h g:bC} {K:VP} {A B:Option bI} {s s':Bool} {an ac bn bc m:Nat} {x y:Int}
def Xe(i:ZI h s A an ac x)(j:ZI h s' B bn bc y)(hx:ZB m x)(hy:ZB m y)(hm:m+1<=6400000000)(hy0:0<y)(hK:∀ s1 A1 n1 c1 h',h.le h'->ZI h' s1 A1 n1 c1 (x/y)->K (.agg #[.bool s1,.slice A1 n1 c1]) h'):aW prog Lk #[.agg #[.bool s,.slice A an ac],.agg #[.bool s',.slice B bn bc]] h K:=by
 have g:=A6n (x:=x) hy0
 refine A4m _ _ _ _ _ _ _ _ ?_
 unfold A4n
 refine Rm i j hx hy (by omega) (by omega) ?_
 intro s1 A1 n1 c1 F A2 w c2 H d c o
 refine ⟨_,_,_,_,_,_,_,_,rfl,?_⟩
 refine Eb o ⟨_,rfl,B3 _,?_⟩
 refine Eb (j.mono d) ⟨_,rfl,B3 _,?_⟩
 rw [fK hy0,Int.mul_one]
 have t: -1<=Int.sign (x.tmod y)/\Int.sign (x.tmod y)<=1:=by
  rcases Int.lt_trichotomy (x.tmod y) 0 with h|h|h
  ·rw [eP h];omega
  ·rw [h];decide
  ·rw [fK h];omega
 rw [B7 (by omega) (by omega)]
 refine B6 (fun e=>?_) (fun e=>?_)
 ·have b:x.tmod y<0:=Int.sign_neg_iff.1 e
  refine Ec (by omega) (by omega) ?_
  intro G A3 z q r f n
  refine ⟨_,_,_,_,rfl,f,?_⟩
  refine B1d (m:=m+1) (c.mono f) n (hx.tdiv.mono (by omega)) ?_ hm ?_
  ·unfold ZB
   have:1<=2^m:=Nat.one_le_two_pow
   rw [dT];simp;omega
  ·intro D A4 E C u k l
   rw [<- g.1 b] at l
   exact ⟨_,_,_,_,rfl,k,hK _ _ _ _ _ (Heap.le_trans d (Heap.le_trans f k)) l⟩
 ·have a:0<=x.tmod y:=by
   by_cases p:x.tmod y<0
   ·exact absurd (by rw [eP p];decide) e
   ·omega
  rw [<- g.2 a] at c
  exact hK _ _ _ _ _ d c
end
def B05{ws:List Int}{k:Nat}(d:Dig b64 ws)(hl:ws.length=k+1)(h:b64^k<=val b64 ws):fV ws:=by
 unfold fV
 intro e
 rw [List.getLast?_eq_getElem?,hl,Nat.add_sub_cancel] at e
 have:=(Bz (B:=b64) (by decide) d hl).1
 have a:ws.getD k 0=0:=by simp [cU,e]
 rw [a] at this
 omega
section
variable {h g:bC} {K:VP} {A B:Option bI} {ac bc:Nat}
def B7s{Invv:LP}{muv:LN}{d1:ByteArray}{n c:Nat}{chunk base:Int}{us:List Int}{hp hp2:bC}(p:Pw hp2 g A n c us)(hn:n=us.length)(du:Dig b64 us)(nu:fV us)(hl:n<=100000000)(hch:0<=chunk/\chunk<18446744073709551616)(hba:1<=base/\base<18446744073709551616)
 (hK:∀ A' n' c' us' h' g',g.le g'->Pw h' g' A' n' c' us'->n'=us'.length->n'<=n+1->Dig b64 us'->fV us'->val b64 us'=chunk+base*val b64 us->Invv [.string ((d1).extract ((B4 ((dN (B4 (((eS d1:Nat):Int)-(1:Int))) (19:Int))+(1:Int))).toNat) ((d1).size)),.slice A' n' c'] h'/\muv [.string ((d1).extract ((B4 ((dN (B4 (((eS d1:Nat):Int)-(1:Int))) (19:Int))+(1:Int))).toNat) ((d1).size)),.slice A' n' c'] h'<muv [.string d1,.slice A n c] hp):
 V9 prog Invv muv d1 A n c chunk base hp hp2:=by
 have C:=C6 (by decide) du
 unfold V9
 refine ⟨fun l s=>∃ (k:Nat) (j:Int) (d:List Int),l=[U j,I k]/\k<=n/\(0<=j/\j<18446744073709551616)/\d.length=us.length/\Dig b64 d/\Pw s g A n c d/\d.drop k=us.drop k/\val b64 (d.take k)+b64^k*j=chunk+base*val b64 (us.take k),fun l _=>n-(iAt l 1).toNat,⟨0,chunk,us,rfl,by omega,hch,rfl,du,p,rfl,by simp [val]⟩,?_⟩
 rintro j i s ⟨k,E,d,F,hk,o,e,z,pw,t,B⟩
 obtain ⟨rfl,rfl⟩:j=E/\i=(k:Int):=by simpa using F
 refine B6 (fun h1=>?_) (fun h1=>?_)
 ·have J:=N9 z k
  have G:=E5 t
  have R:=C4 b64 us k
  have y:d≠[]:=by rintro rfl;simp at e;omega
  obtain ⟨b,Q,w,Z⟩:=Fg pw y
  refine w.sl.load (by omega) (by omega) (by omega) ?_
  simp only [aC]
  generalize hx:d.getD k 0=x at *
  refine S3 J (by omega) o ⟨_,_,rfl,?_⟩
  obtain ⟨a,O,_⟩:=SlV.at w.sl (i:=k) (by simp;omega)
  refine ⟨a,O,by omega,by omega,w.storeN F4 O (by omega) ?_⟩
  intro h4 V
  have W:=Nu J (show 0<=base/\base<18446744073709551616 by omega) o
  have kP:=A3s (x*base+j)
  have S:B4 ((k:Int)+1)=((k+1:Nat):Int):=by rw [B7 (by omega) (by omega)];omega
  rw [S]
  have N:=V.priv (m:=n) (c:=c) (by intro e0;have:=congrArg List.length e0;rw [bN,gL] at this;exact y (aM this)) (by simpa using Z) (by simp;omega)
  rw [aK (by simp;omega)] at N
  refine ⟨⟨k+1,_,_,rfl,by omega,W,by simpa using e,z.set (En _),N,?_,?_⟩,by simp only [iAt,aG,aL];omega⟩
  ·rw [D3 (by omega)];exact D6 t
  ·rw [C7 (by omega),F0,aF,aI (by omega),bG,R,<- G,kP]
   show _+b64^k*_+b64^k*18446744073709551616*_=_
   generalize (x*base+j)/18446744073709551616=q at *
   grind
 ·obtain rfl:k=n:=by omega
  rw [aK (show d.length<=k by omega),aK (show us.length<=k by omega)] at B
  refine I3 (fun H=>?_) (fun H=>?_)
  ·refine Ds Q1 pw rfl rfl (by omega) (by omega) ?_
   intro A5 c5 X g5 T L
   rw [<- List.map_singleton (f:=bB .u64),<- dP] at L
   refine hK A5 (k+1) c5 (d++[j]) X g5 T L (by simp;omega) (by omega) (z.append (Dig.one o)) ?_ ?_
   ·unfold fV;simpa using H
   ·rw [F0,<- B,e,<- hn]
  ·subst H
   rw [fL,fM] at B
   refine hK A k c d s g (B3 _) pw (by omega) (by omega) z ?_ B
   rcases us with _|⟨u,r⟩
   ·have:d=[]:=aM (by simpa using e)
    rw [this];exact Norm.nil
   ·refine B05 (k:=r.length) z (by simpa using e) ?_
    have M:Mw hp2 A k (val b64 (u::r)):=⟨_,hn,p.slV,du,nu,rfl⟩
    have D:=M.ge (by decide) (by simp at hn;omega)
    rw [show k-1=r.length by simp at hn;omega] at D
    have:1*val b64 (u::r)<=base*val b64 (u::r):=aD hba.1 C
    omega
end
section
variable {h g:bC} {K:VP} {A B:Option bI} {ac bc:Nat}
def B8x{k:Nat}(h:k<=19):10^k<=10000000000000000000:=eM (bK (by decide) h) (by decide)
def B0j{Invv:LP}{muv:LN}{d1:ByteArray}{n c tn:Nat}{T:Option bI}{l:List UInt8}{hp hp1:bC}(sv:SlV hp1 T (yv l))(ht:tn=l.length)(hd:∀ c∈l,G9 c)(h19:l.length<=19)
 (hK:(0<=B4 ((dN (B4 (((eS d1:Nat):Int)-(1:Int))) (19:Int))+(1:Int))/\B4 ((dN (B4 (((eS d1:Nat):Int)-(1:Int))) (19:Int))+(1:Int))<=(((d1).size:Nat):Int))/\V9 prog Invv muv d1 A n c (J4 l:Int) ((10^l.length:Nat):Int) hp hp1):
 Dx prog Invv muv d1 A n c T tn hp1 hp:=by
 subst ht
 unfold Dx
 refine ⟨fun s hp=>hp=hp1/\∃ k:Nat,s=[U (J4 (l.take k)),U ((10^k:Nat):Int),I k]/\k<=l.length,fun s _=>l.length-(iAt s 2).toNat,⟨rfl,0,by simp [J4],by omega⟩,?_⟩
 rintro z y i m ⟨rfl,k,d,x⟩
 simp only [bO,cR,and_true,true_and] at d
 obtain ⟨rfl,rfl,rfl⟩:=d
 refine B6 (fun p=>?_) (fun p=>?_)
 ·have b:k<l.length:=by omega
  obtain ⟨a,o,e⟩:=SlV.at sv (i:=k) (by rw [Hr];omega)
  have g:=hd l[k] (gG b)
  have j:=Gr (l:=l.take k) (fun c e=>hd c (fU e))
  rw [aF,aI (by omega)] at j
  have q:=B8x (k:=k+1) (by omega)
  have f:10^(k+1)=10^k*10:=dT _ _
  refine ⟨a,o,by omega,by omega,((l[k].toNat:Nat):Int),?_,?_⟩
  ·rw [aC,cF,e];simp [yv]
  ·unfold G9 at g
   have u:C0 (wu8 (((l[k].toNat:Nat):Int)-48))=((l[k].toNat-48:Nat):Int):=by
    rw [Yc (by omega) (by omega),C2 (by omega) (by omega)];omega
   have t:C0 (C0 (10*((J4 (l.take k):Nat):Int))+C0 (wu8 (((l[k].toNat:Nat):Int)-48)))=((J4 (l.take (k+1)):Nat):Int):=by
    rw [u,C2 (n:=10*((J4 (l.take k):Nat):Int)) (by omega) (by omega),C2 (by omega) (by omega),dV b,Ip];omega
   have r:C0 (((10^k:Nat):Int)*10)=((10^(k+1):Nat):Int):=by rw [C2 (by omega) (by omega),f];simp
   have w:B4 ((k:Int)+1)=((k+1:Nat):Int):=by rw [B7 (by omega) (by omega)];omega
   rw [t,r,w]
   exact ⟨⟨rfl,k+1,rfl,by omega⟩,by simp only [iAt,aG,aL];omega⟩
 ·obtain rfl:k=l.length:=by omega
  rw [aV]
  exact hK
def Sr{l:List UInt8}(hd:∀ c∈l,G9 c)(hl:l.length<=100000000)(hK:∀ A n c h',h.le h'->n<=c->Mw h' A n (J4 l:Int)->K (.slice A n c) h'):aW prog M0 #[.string (bs l)] h K:=by
 refine Wi _ ?_
 unfold Se Kr
 refine ⟨fun s D=>∃ (f a:List UInt8) (e:List Int) (A:Option bI) (n c:Nat) (g:bC),s=[.string (bs a),.slice A n c]/\l=f++a/\h.le g/\Pw D g A n c e/\n=e.length/\Dig b64 e/\fV e/\val b64 e=(J4 f:Int)/\n<=f.length,fun s _=>match s with|[.string d,_]=>d.size|_=>0,⟨[],l,[],none,0,0,h,rfl,rfl,B3 h,Priv.nil _ _ _ _,rfl,Dig.nil,Norm.nil,rfl,by omega⟩,?_⟩
 rintro d1 A1 n1 c1 D ⟨f,a,e,A2,n2,c2,g,C,b,z,p,J,B,F,H,V⟩
 simp only [bO,cV,Value.string.injEq,and_true] at C
 obtain ⟨rfl,rfl,rfl,rfl⟩:=C
 have E:l.length=f.length+a.length:=by rw [b,aH]
 rw [H9]
 refine B6 (fun S=>?_) (fun S=>?_)
 ·obtain ⟨sz,hsz⟩:∃ sz,sz=(a.length-1)%19+1:=⟨_,rfl⟩
  have o:B4 (dN (B4 ((a.length:Int)-1)) 19+1)=(sz:Int):=by
   rw [B7 (n:=(a.length:Int)-1) (by omega) (by omega),bW (by omega),B7 (by omega) (by omega)];omega
  rw [o,aC,L3]
  refine ⟨⟨by omega,by omega⟩,A9p T1 Eg.und Cm ?_⟩
  intro T tc h2 Q X G
  refine ⟨_,_,_,rfl,?_⟩
  have R:(a.drop 0).take (sz-0)=a.take sz:=by simp
  rw [R] at G ⊢
  have x:(a.take sz).length=sz:=by rw [aF];omega
  obtain ⟨g2,m,W⟩:=p.after Q
  refine B0j G rfl (fun c r=>hd c (by rw [b];exact List.mem_append_right _ (fU r))) (by omega) ?_
  rw [H9,o]
  refine ⟨⟨by omega,by omega⟩,?_⟩
  have q:=Gr (l:=a.take sz) (fun c r=>hd c (by rw [b];exact List.mem_append_right _ (fU r)))
  rw [x] at q ⊢
  have ht:=B8x (k:=sz) (by omega)
  have L:0<10^sz:=cW (by decide)
  refine B7s W J B F (by omega) (by omega) (by omega) ?_
  intro A' O Z w h' M i N y aa u t j
  rw [H9,o,aC,L3,aK (by rw [aN];omega)]
  refine ⟨⟨f++a.take sz,a.drop sz,w,A',O,Z,M,rfl,by rw [aU,cI];exact b,Heap.le_trans z (Heap.le_trans m i),N,y,u,t,?_,by rw [aH,x];omega⟩,?_⟩
  ·rw [j,H,Gs,x,fQ,cD,aR];omega
  ·simp only [H9,aN];omega
 ·have:a=[]:=aM (by omega)
  subst this
  rw [bX] at b
  subst b
  exact hK _ _ _ _ (Heap.le_trans z p.le) p.2.1 ⟨e,J,p.slV,B,F,H⟩
end
def zb(l:List UInt8):List Int:=l.map fun c=>(c.toNat:Int)
def Ho(l:List UInt8):(zb l).length=l.length:=by simp [zb]
def A2j(a b:List UInt8):zb (a++b)=zb a++zb b:=by simp [zb]
def C2v(l:List UInt8):(zb l).map (bB .u8)=yv l:=by simp [zb,yv]
def A9v:∀ v,v<100->J1[2*v+1]? = some (dch (v%10))/\J1[2*v]? = some (dch (v/10)):=by decide +kernel
def A2u(a:Nat):dN (a:Int) 100=((a%100:Nat):Int):=(dI a 100).symm
def tm4(a:Nat):dN (a:Int) 10000=((a%10000:Nat):Int):=(dI a 10000).symm
def tm8(a:Nat):dN (a:Int) 100000000=((a%100000000:Nat):Int):=(dI a 100000000).symm
def A5w(a:Nat):cM (a:Int) 100=((a/100:Nat):Int):=(cL a 100).symm
def td4(a:Nat):cM (a:Int) 10000=((a/10000:Nat):Int):=(cL a 10000).symm
def td8(a:Nat):cM (a:Int) 100000000=((a/100000000:Nat):Int):=(cL a 100000000).symm
def Hj{a:Nat}(h:a<4294967296):F6 (a:Int)=a:=O1 (by omega) (by omega)
def Nr(a:Nat):(a:Int)*2=((2*a:Nat):Int):=by omega
def A77(a:Nat):(a:Int)+1=((a+1:Nat):Int):=by omega
def FBI(g:bC)(b:Nat)(e:cC)(A:Option bI)(pre post:List dC)(N u0 nd u:Nat)(hp:bC):Prop:=
 ∃ (ys:List Int) (t:List UInt8),Win .u8 hp g b e A pre (ys++zb t) post/\ys.length=nd/\nd+t.length=N/\pad N u0=pad nd u++t/\u<10^nd
section
variable {P:dG} {h g:bC} {K:VP} {A:Option bI} {b:Nat} {e:cC} {pre post:List dC}
def Kz(one:P.cellsOf 5=1/\(P.info? 5).isSome=true){N u0 j u:Nat}(f:FBI g b e A pre post N u0 (j+2) u h){E1 E0 I1 I2:Int}(h1:E1=((2*(u%100)+1:Nat):Int))(h0:E0=((2*(u%100):Nat):Int))(hI1:I1=((j+1:Nat):Int))(hI2:I2=(j:Int)){C:bC->Prop}(hC:∀ h',FBI g b e A pre post N u0 j (u/100) h'->C h'):
 ∃ (t:UInt8),(0<=E1/\J1[E1.toNat]? = some t)/\∃ (t0:UInt8),(0<=E0/\J1[E0.toNat]? = some t0)/\∃ a1,A=some a1/\0<=I1/\I1<((N:Nat):Int)/\wpH P (dO 5 (.pointer (some (eF a1 (I1.toNat*1)))) (Y ((t.toNat:Nat):Int))) (fun _ hp1=>∃ a2,A=some a2/\0<=I2/\I2<((N:Nat):Int)/\wpH P (dO 5 (.pointer (some (eF a2 (I2.toNat*1)))) (Y ((t0.toNat:Nat):Int))) (fun _ hp2=>C hp2) hp1) h:=by
 subst h1 h0 hI1 hI2
 obtain ⟨c,t,w,B,z,y,i⟩:=f
 obtain ⟨m,x⟩:=A9v (u%100) (by omega)
 have o:∃ a,A=some a:=by
  rcases w.at_ with h0|h0
  ·have:=congrArg List.length h0
   rw [aH,gL] at this;omega
  ·exact ⟨_,h0⟩
 obtain ⟨a,d⟩:=o
 have s:(c++zb t).length=N:=by rw [aH,Ho];omega
 refine ⟨_,⟨by omega,by rw [aC];exact m⟩,_,⟨by omega,by rw [aC];exact x⟩,a,d,by omega,by omega,?_⟩
 rw [aC]
 refine w.storeN one d (by omega) ?_
 intro D l
 refine ⟨a,d,by omega,by omega,?_⟩
 rw [aC]
 refine l.storeN one d (by rw [bN];omega) ?_
 intro n k
 refine hC n ⟨c.take j,[dch (u/10%10),dch (u%10)]++t,?_,by rw [aF];omega,by simp;omega,?_,?_⟩
 ·have r:((c++zb t).set (j+1) ((dch (u%100%10)).toNat:Int)).set j ((dch (u%100/10)).toNat:Int)=c.take j++zb ([dch (u/10%10),dch (u%10)]++t):=by
   have q:c=c.take j++[c[j]'(by omega),c[j+1]'(by omega)]:=by
    conv=>lhs;rw [<- cI j c]
    congr 1
    rw [cH (by omega),cH (by omega),aY (by omega)]
   have p:(c.take j).length=j:=by rw [aF];omega
   rw [q,show u%100%10=u%10 by omega,show u%100/10=u/10%10 by omega]
   generalize c[j]'_=y0
   generalize c[j+1]'_=y1
   rw [cJ (by omega),aK (show (c.take j).length<=j by omega)]
   generalize c.take j=zs at *
   rw [aU,fS _ _ (by omega),fS _ _ (by omega),p,A2j]
   simp [zb]
  rw [r] at k;exact k
 ·rw [y,C12];simp
 ·rw [eC] at i
  exact Nat.div_lt_of_lt_mul (by rw [fI];exact i)
end
section
variable {h g:bC} {K:VP} {A:Option bI} {b:Nat} {e:cC} {pre post:List dC}
def Ms:prog.cellsOf 5=1/\(prog.info? 5).isSome=true:=A9u
def C3j{N u0 nd x:Nat}(hN:N<=24)(f:FBI g b e A pre post N u0 nd x h)(hn:nd<2)(hK:∀ h',Win .u8 h' g b e A pre (zb (pad N u0)) post->K (.tuple #[]) h'):Bc prog A N K nd x h:=by
 obtain ⟨j,t,w,i,hN,n,m⟩:=f
 unfold Bc
 refine B6 (fun q=>?_) (fun q=>?_)
 ·obtain rfl:nd=1:=by omega
  obtain ⟨y,rfl⟩:∃ y,j=[y]:=by
   rcases j with _|⟨y,_|⟨z,r⟩⟩
   ·simp at i
   ·exact ⟨y,rfl⟩
   ·simp at i
  have o:∃ a,A=some a:=by
   rcases w.at_ with c|c
   ·simp at c
   ·exact ⟨_,c⟩
  obtain ⟨a,l⟩:=o
  refine ⟨a,l,by omega,by omega,?_⟩
  rw [show ((0:Int)).toNat=0 from rfl]
  refine w.storeN Ms l (by simp) ?_
  intro s k
  refine hK s ?_
  have d:x<10:=by simpa using m
  have ev:wu8 (F6 (48+(x:Int)))=((dch x).toNat:Int):=by
   rw [O1 (by omega) (by omega),Yc (by omega) (by omega),Ew d];omega
  rw [ev] at k
  have p:pad 1 x=[dch x]:=by
   rw [Tj,B2v _ (by omega),show x%10=x by omega];rfl
  rw [n,p,A2j]
  simpa [zb] using k
 ·obtain rfl:nd=0:=by omega
  have:j=[]:=aM i
  subst this
  have d:x=0:=by simpa using m
  refine hK h ?_
  rw [n,B2v _ d]
  simpa using w
def C3i{N u0 nd x:Nat}(hN:N<=24)(f:FBI g b e A pre post N u0 nd x h)(hn:nd<4)(hK:∀ h',Win .u8 h' g b e A pre (zb (pad N u0)) post->K (.tuple #[]) h'):Be prog A N K nd x h:=by
 unfold Be
 have s:x<10000:=by
  obtain ⟨_,_,_,_,_,_,o⟩:=f
  exact cZ o (eM (bK (by decide) (show nd<=4 by omega)) (by decide))
 refine ⟨fun l d=>∃ nd x:Nat,l=[I nd,U32 x]/\FBI g b e A pre post N u0 nd x d/\nd<2,B6 (fun q=>?_) (fun q=>?_),?_⟩
 ·obtain ⟨j,rfl⟩:∃ j,nd=j+2:=⟨nd-2,by omega⟩
  refine Kz Ms f ?_ ?_ (by rw [B7 (by omega) (by omega)];omega) (by rw [B7 (by omega) (by omega)];omega) ?_
  ·simp (disch:=omega) only [A2u,Hj,Nr,A77]
  ·simp (disch:=omega) only [A2u,Hj,Nr]
  ·intro t m
   refine ⟨j,x/100,?_,m,by omega⟩
   rw [B7 (by omega) (by omega),A5w,Hj (by omega)]
   simp only [bO,cR,and_true,true_and];omega
 ·exact ⟨nd,x,rfl,f,by omega⟩
 ·rintro c n d ⟨k,i,r,p,a⟩
  obtain ⟨rfl,rfl⟩:c=(k:Int)/\n=(i:Int):=by simpa using r
  exact C3j hN p a hK
def X5{u an ac:Nat}{xs:List Int}(w:Win .u8 h g b e A pre xs post)(hn:an=xs.length)(hN:an<=24)(hu:u<10^an)(hu2:u<18446744073709551616)(hK:∀ h',Win .u8 h' g b e A pre (zb (pad an u)) post->K (.tuple #[]) h'):aW prog Q8 #[.slice A an ac,U (u:Int)] h K:=by
 refine Te _ _ _ _ ?_
 unfold Pl
 refine ⟨fun l d=>∃ a v:Nat,l=[U v,I a]/\FBI g b e A pre post an u a v d/\v<=u,fun l _=>(iAt l 1).toNat,⟨an,u,rfl,⟨xs,[],by simpa [zb] using w,hn.symm,by simp,by simp,hu⟩,aZ _⟩,?_⟩
 rintro y o d ⟨a,v,E,f,N⟩
 obtain ⟨rfl,rfl⟩:y=(v:Int)/\o=(a:Int):=by simpa using E
 have D:a<=an:=by obtain ⟨_,_,_,_,hN,_,_⟩:=f;omega
 refine B6 (fun G=>?_) (fun G=>?_)
 ·obtain ⟨j,rfl⟩:∃ j,a=j+8:=⟨a-8,by omega⟩
  refine Kz (j:=j+6) Ms f ?_ ?_ (by rw [B7 (by omega) (by omega)];omega) (by rw [B7 (by omega) (by omega)];omega) ?_
  ·simp (disch:=omega) only [tm8,tm4,A2u,Hj,Nr,A77];omega
  ·simp (disch:=omega) only [tm8,tm4,A2u,Hj,Nr];omega
  intro p B
  refine Kz (j:=j+4) Ms B ?_ ?_ (by rw [B7 (by omega) (by omega)];omega) (by rw [B7 (by omega) (by omega)];omega) ?_
  ·simp (disch:=omega) only [tm8,tm4,A5w,Hj,Nr,A77];omega
  ·simp (disch:=omega) only [tm8,tm4,A5w,Hj,Nr];omega
  intro q c
  refine Kz (j:=j+2) Ms c ?_ ?_ (by rw [B7 (by omega) (by omega)];omega) (by rw [B7 (by omega) (by omega)];omega) ?_
  ·simp (disch:=omega) only [tm8,A2u,td4,Hj,Nr,A77];omega
  ·simp (disch:=omega) only [tm8,A2u,td4,Hj,Nr];omega
  intro t i
  refine Kz (j:=j) Ms i ?_ ?_ (by rw [B7 (by omega) (by omega)];omega) (by rw [B7 (by omega) (by omega)];omega) ?_
  ·simp (disch:=omega) only [tm8,A5w,td4,Hj,Nr,A77];omega
  ·simp (disch:=omega) only [tm8,A5w,td4,Hj,Nr];omega
  intro M L
  have C:B4 (((j+8:Nat):Int)-8)=(j:Int):=by rw [B7 (by omega) (by omega)];omega
  have F:C0 (cM (v:Int) 100000000)=((v/100/100/100/100:Nat):Int):=by
   rw [td8,C2 (by omega) (by omega)];omega
  rw [C,F]
  exact ⟨⟨j,_,rfl,L,by omega⟩,by simp only [iAt,aG,aL];omega⟩
 ·have J:v<100000000:=by
   obtain ⟨_,_,_,_,_,_,hu⟩:=f
   exact cZ hu (eM (bK (by decide) (show a<=8 by omega)) (by decide))
  refine ⟨fun l d=>∃ a x:Nat,l=[I a,U32 x]/\FBI g b e A pre post an u a x d/\a<4,B6 (fun p=>?_) (fun p=>?_),?_⟩
  ·obtain ⟨j,rfl⟩:∃ j,a=j+4:=⟨a-4,by omega⟩
   refine Kz (j:=j+2) Ms f ?_ ?_ (by rw [B7 (by omega) (by omega)];omega) (by rw [B7 (by omega) (by omega)];omega) ?_
   ·simp (disch:=omega) only [tm4,A2u,Hj,Nr,A77];omega
   ·simp (disch:=omega) only [tm4,A2u,Hj,Nr];omega
   intro q c
   refine Kz (j:=j) Ms c ?_ ?_ (by rw [B7 (by omega) (by omega)];omega) (by rw [B7 (by omega) (by omega)];omega) ?_
   ·simp (disch:=omega) only [tm4,A5w,Hj,Nr,A77];omega
   ·simp (disch:=omega) only [tm4,A5w,Hj,Nr];omega
   intro t i
   refine ⟨j,v/100/100,?_,i,by omega⟩
   rw [B7 (by omega) (by omega),Hj (by omega),td4,Hj (by omega)]
   simp only [bO,cR,and_true,true_and];omega
  ·exact ⟨a,v,by rw [Hj (by omega)],f,by omega⟩
  ·rintro n s r ⟨z,H,m,c,k⟩
   obtain ⟨rfl,rfl⟩:n=(z:Int)/\s=(H:Int):=by simpa using m
   exact C3i hN c k hK
end
def Vh{P:dG}{h:bC}{l:List UInt8}{m:Nat}{ys:List dC}(hy:ys=yv l)(hm:m=l.length){K:Array dC->bC->Prop}(x:K ys.toArray h):wpH P (Builtin.firstCells 1 m (.string (bs l))) K h:=by
 subst hm hy
 show K _ h
 have e:((bs l).extract 0 l.length).data.map (fun b=>bB .u8 b.toNat)=(yv l).toArray:=by
  rw [L3]
  apply Array.toList_inj.1
  simp [bs,yv]
 rw [e];exact x
def Wc{P:dG}{t e e' ty:cC}{z:dC}{bytes:Nat}(st:SliceT P t e z 1 bytes){h g:bC}{A:Option bI}{n c:Nat}{xs:List dC}(p:eV h g e' 1 A n c xs)
 {B:Option bI} {m d:Nat} {ys:List dC} (hy:ys.length=m) (hc:SlV h B ys) (h1:∀ v∈ys,A8e v=true) (hb:(2*(n+m)+192)*bytes<=281474976710656) (hm:n+m<=9223372036854775807) {K:VP}
 (x1:n+m<=c->∀ h',eV h' g e' 1 A (n+m) c (xs++ys)->K (.slice A (n+m) c) h') (x2:c<n+m->∀ A' c' h' g',g.le g'->eV h' g' e 1 A' (n+m) c' (xs++ys)->K (.slice A' (n+m) c') h'):
 wpH P (dQ #[t,t] ty #[.slice A n c,.slice B m d]) K h:=by
 obtain ⟨i,D,X,O,s⟩:=st.parts
 have J:=st.pos
 have r:=p.1
 rw [cF] at r
 unfold dQ
 simp only [dE,aG,aL,C5,E9 st.und,N4 D,G2,eU,if_false,fZ,O,Bool.not_false,if_true]
 by_cases f:n+m<=c
 ·simp only [f,if_true,C5]
  refine L6 (by omega) hc ?_
  rcases p.2.2 with ⟨R,W⟩|⟨b,k,hA,V,hh,o,G⟩
  ·have T:n=0:=by omega
   have H:m=0:=by omega
   subst T;subst W
   have F:ys=[]:=aM (by omega)
   have L:xs=[]:=aM (by omega)
   have w:K (.slice A (0+m) c) h:=x1 f h ⟨by rw [F,L,H];rfl,by omega,.inl ⟨R,rfl⟩⟩
   subst F
   cases A with
   | none=>exact w
   | some a=>exact w
  ·subst hA
   simp only [C5,E6,fH]
   rw [hh]
   rw [cF] at o G ⊢
   refine J8 ys.toArray.toList n 0 k ?_ (fun v hv=>h1 v (by simpa using hv)) ?_
   ·simp only
    omega
   ·simp only [G2,dU]
    refine x1 f _ ⟨by rw [aH];omega,f,.inr ⟨b,_,rfl,V,rfl,?_,?_⟩⟩
    ·simp only [N5,aH,aF,aN,o,hy];omega
    ·have C:(k.take n).length=n:=by rw [aF,o];omega
     unfold N5
     have Z:(k.take n).take (n+m)=k.take n:=aK (by rw [C];omega)
     have t2:ys.take m=ys:=aK (by omega)
     rw [cF,aU,dK,C,cG,dK,Z,t2,hy,gD,List.take_zero,bX,G]
 ·have E:c<n+m:=by omega
  simp only [f,if_false,C5,I5 D,s]
  have Q:=Qg E
  have aa:Builtin.nextslicecap (n+m) c*bytes<=281474976710656:=eM (Nat.mul_le_mul_right _ Q) hb
  rw [iN (by rintro ⟨h',_⟩;simp only [IntKind.max,IntKind.signed,IntKind.bits] at h';simp at h';omega)]
  simp only [C5,I5 D,s]
  rw [iN (by simp only [show (2^48:Nat)=281474976710656 from rfl];omega)]
  simp only [G2,C5]
  refine Jm rfl fun tt=>?_
  simp only [Fi,I5 D]
  have y:xs=[]\/∃ a,A=some a/\∀ j v,xs[j]? = some v->h.cell? (a.add j)=some v:=p.slV
  refine L6 p.1 y ?_
  refine L6 (by omega) hc ?_
  simp only [R3 D X,R4]
  intro b l
  have x:∃ q,(Question.appendCap (n+m) c e).cut tt=q/\n+m<=q:=⟨_,rfl,by simp only [Question.cut];omega⟩
  obtain ⟨q,S,N⟩:=x
  rw [S]
  have u:=p.le
  refine x2 E _ q _ h u ⟨by rw [aH];omega,N,.inr ⟨b,xs++ys++(dF z.cells (q-(n+m))).toList,rfl,l,?_,?_,?_⟩⟩
  ·congr 1;simp
  ·have M:(dF z.cells (q-(n+m))).toList.length=q-(n+m):=by simp [dF,st.cells]
   rw [aH,aH,r,hy,M];omega
  ·rw [cF,cJ (by rw [aH];omega),aK (by rw [aH];omega)]
def B0l{P:dG}{t e e' ty t2:cC}{z:dC}{bytes:Nat}(st:SliceT P t e z 1 bytes)(hu:P.underlying t2=some .string){h g:bC}{A:Option bI}{n c:Nat}{xs:List dC}(p:eV h g e' 1 A n c xs)
 {m:Nat} {l:List UInt8} {ys:List dC} (hly:ys=yv l) (hm0:m=l.length) (hy:ys.length=m) (h1:∀ v∈ys,A8e v=true) (hb:(2*(n+m)+192)*bytes<=281474976710656) (hm:n+m<=9223372036854775807) {K:VP}
 (x1:n+m<=c->∀ h',eV h' g e' 1 A (n+m) c (xs++ys)->K (.slice A (n+m) c) h') (x2:c<n+m->∀ A' c' h' g',g.le g'->eV h' g' e 1 A' (n+m) c' (xs++ys)->K (.slice A' (n+m) c') h'):
 wpH P (dQ #[t,t2] ty #[.slice A n c,.string (bs l)]) K h:=by
 obtain ⟨i,C,V,M,s⟩:=st.parts
 have G:=st.pos
 have r:=p.1
 rw [cF] at r
 unfold dQ
 simp only [dE,aG,aL,C5,E9 st.und,E9 hu,N4 C,G2,eU,if_false,fZ,M,Bool.not_false,if_true,H9,<- hm0]
 by_cases d:n+m<=c
 ·simp only [d,if_true,C5]
  refine Vh hly hm0 ?_
  rcases p.2.2 with ⟨O,T⟩|⟨b,f,Z,S,hh,o,F⟩
  ·have R:n=0:=by omega
   have hm0:m=0:=by omega
   subst R;subst T
   have E:ys=[]:=aM (by omega)
   have H:xs=[]:=aM (by omega)
   have w:K (.slice A (0+m) c) h:=x1 d h ⟨by rw [E,H,hm0];rfl,by omega,.inl ⟨O,rfl⟩⟩
   subst E
   cases A with
   | none=>exact w
   | some a=>exact w
  ·subst Z
   simp only [C5,E6,fH]
   rw [hh]
   rw [cF] at o F ⊢
   refine J8 ys.toArray.toList n 0 f ?_ (fun v hv=>h1 v (by simpa using hv)) ?_
   ·simp only
    omega
   ·simp only [G2,dU]
    refine x1 d _ ⟨by rw [aH];omega,d,.inr ⟨b,_,rfl,S,rfl,?_,?_⟩⟩
    ·simp only [N5,aH,aF,aN,o,hy];omega
    ·have B:(f.take n).length=n:=by rw [aF,o];omega
     unfold N5
     have W:(f.take n).take (n+m)=f.take n:=aK (by rw [B];omega)
     have t2:ys.take m=ys:=aK (by omega)
     rw [cF,aU,dK,B,cG,dK,W,t2,hy,gD,List.take_zero,bX,F]
 ·have D:c<n+m:=by omega
  simp only [d,if_false,C5,I5 C,s]
  have N:=Qg D
  have X:Builtin.nextslicecap (n+m) c*bytes<=281474976710656:=eM (Nat.mul_le_mul_right _ N) hb
  rw [iN (by rintro ⟨h',_⟩;simp only [IntKind.max,IntKind.signed,IntKind.bits] at h';simp at h';omega)]
  simp only [C5,I5 C,s]
  rw [iN (by simp only [show (2^48:Nat)=281474976710656 from rfl];omega)]
  simp only [G2,C5]
  refine Jm rfl fun tt=>?_
  simp only [Fi,I5 C]
  have y:xs=[]\/∃ a,A=some a/\∀ j v,xs[j]? = some v->h.cell? (a.add j)=some v:=p.slV
  refine L6 p.1 y ?_
  refine Vh hly hm0 ?_
  simp only [R3 C V,R4]
  intro b k
  have x:∃ q,(Question.appendCap (n+m) c e).cut tt=q/\n+m<=q:=⟨_,rfl,by simp only [Question.cut];omega⟩
  obtain ⟨q,Q,L⟩:=x
  rw [Q]
  have u:=p.le
  refine x2 D _ q _ h u ⟨by rw [aH];omega,L,.inr ⟨b,xs++ys++(dF z.cells (q-(n+m))).toList,rfl,k,?_,?_,?_⟩⟩
  ·congr 1;simp
  ·have J:(dF z.cells (q-(n+m))).toList.length=q-(n+m):=by simp [dF,st.cells]
   rw [aH,aH,r,hy,J];omega
  ·rw [cF,cJ (by rw [aH];omega),aK (by rw [aH];omega)]
def A0n(l:List UInt8):∀ v∈yv l,A8e v=true:=by
 intro v a
 simp only [yv,List.mem_map] at a
 obtain ⟨c,_,rfl⟩:=a
 rfl
def Dn{P:dG}{t:cC}{z v:dC}(hz:(P.info? t).map (fun i=>i.zero)=some (some z)){K:VP}{h:bC}(x:∀ b,h b=none->K (.pointer (some ⟨b,0,none⟩)) (h.put b (.cells z.cells t))):wpH P (Instr.alloc t true v) K h:=by
 cases hi:P.info? t with
 | none=>rw [hi] at hz;cases hz
 | some i=>
  rw [hi] at hz
  simp only [gK,gC] at hz
  unfold Instr.alloc
  simp only [C5,R3 hi hz]
  unfold newVar
  simp only [R4,G2]
  exact x
def A93:(prog.info? Ue).map (fun i=>i.zero)=some (some (.agg (fR 24 (.int .u8 0)))):=by kernel_rfl
def Gp(h:bC):Prop:=∀ k,k<20->h.cell? (eF ⟨3,0,none⟩ (k*1))=some (U ((10^k:Nat):Int))
def Gp.mono{h h':bC}(g:Gp h)(l:h.le h'):Gp h':=fun k a=>B5 l (g k a)
section
variable {h g:bC} {K:VP}
def Yg{i:Nat}(hi:i<100)(hK:K (.string (bs (N8 i))) h):aW prog To #[I i] h K:=by
 refine B5e _ ?_
 unfold B9w
 have key:∀ i:Nat,i<100->(i<10->A0q.extract i (i+1)=bs (N8 i))/\(¬ i<10->J1.extract (2*i) (2*i+2)=bs (N8 i)):=by
  intro i hi
  have g:N8 i=if i<10 then [dch i] else [dch (i/10),dch (i%10)]:=by
   split
   ·by_cases a:i=0
    ·subst a;rfl
    ·rw [Z8 a,T6 a,show i/10=0 by omega,I8,show i%10=i by omega];rfl
   ·rw [Z8 (by omega),T6 (by omega),T6 (by omega),show i/10/10=0 by omega,I8,show i/10%10=i/10 by omega];rfl
  rw [g]
  revert i
  decide +kernel
 obtain ⟨d,c⟩:=key i hi
 refine B6 (fun f=>?_) (fun f=>?_)
 ·have b:B4 ((i:Int)+1)=((i+1:Nat):Int):=by rw [B7 (by omega) (by omega)];omega
  rw [b,aC,aC,d (by omega)]
  exact ⟨⟨by omega,by show _<=((36:Nat):Int);omega⟩,⟨by omega,by omega⟩,hK⟩
 ·have b:B4 ((i:Int)*2)=((2*i:Nat):Int):=by rw [B7 (by omega) (by omega)];omega
  have e:B4 (((2*i:Nat):Int)+2)=((2*i+2:Nat):Int):=by rw [B7 (by omega) (by omega)];omega
  rw [b,e,aC,aC,c (by omega)]
  exact ⟨⟨by omega,by show _<=((200:Nat):Int);omega⟩,⟨by omega,by omega⟩,hK⟩
def Dt{d:Nat}(gp:Gp h)(h0:d≠0)(hd:d<18446744073709551616)(hK:K (I ((dd d).length:Int)) h):aW prog Ah #[U (d:Int)] h K:=by
 refine A22 _ ?_
 unfold Zi
 have e:O0 d<=64:=Iv hd
 obtain ⟨_,_,c⟩:=B96 (O0 d) (by omega)
 refine A8h hd ⟨_,rfl,A23 _ ?_⟩
 unfold Zj
 have b:eE (B4 ((O0 d:Int)*78913)) (2^(min ((18:Int)).toNat 64))=((ndg (O0 d):Nat):Int):=by
  rw [show (2:Int)^(min ((18:Int)).toNat 64)=262144 by decide,eR _ (by decide),B7 (by omega) (by omega)]
  unfold ndg;omega
 rw [b]
 refine ⟨_,rfl,⟨by omega,by omega⟩,_,by rw [aC];exact gp _ (by omega),B5f _ ?_⟩
 unfold B9x
 rw [C3e h0 hd] at hK
 refine B6 (fun a=>⟨_,rfl,?_⟩) (fun a=>⟨_,rfl,?_⟩)
 ·rw [iP (by omega)] at hK
  rw [B7 (by omega) (by omega)]
  exact hK
 ·rw [iN (by omega)] at hK
  rw [B7 (by omega) (by omega)]
  exact hK
def Cx{e':cC}{A:Option bI}{n c i:Nat}{l:List UInt8}(gp:Gp h)(p:eV h g e' 1 A n c (yv l))(hi:i<18446744073709551616)(hn:n<=1000000000000)
 (hK:∀ A' c' e2 h' g',g.le g'->eV h' g' e2 1 A' (n+(N8 i).length) c' (yv (l++N8 i))->(n+(N8 i).length<=c->A'=A/\c'=c/\e2=e')->(e'=F8->e2=F8)->K (.slice A' (n+(N8 i).length:Nat) c') h'):aW prog V4 #[.slice A n c,U (i:Int),I 10] h K:=by
 refine Xv _ _ _ _ _ ?_
 unfold Wu
 refine D8 (fun _=>?_) (fun e=>absurd rfl e)
 have w:(N8 i).length<=20:=(Ov (by decide)).2 (by show i<10^20;omega)
 refine B6 (fun J=>?_) (fun J=>?_)
 ·rw [B7 (by omega) (by omega)]
  refine Yg (by omega) ⟨_,rfl,?_⟩
  refine B0l Eg T1 p (l:=N8 i) rfl rfl (Hr _) (A0n _) (by omega) (by omega) ?_ ?_
  ·intro z h' a
   rw [<- T9] at a
   exact ⟨_,_,_,rfl,hK _ _ _ _ _ (B3 _) a (fun _=>⟨rfl,rfl,rfl⟩) id⟩
  ·intro z A' c' h' g' r a
   rw [<- T9] at a
   exact ⟨_,_,_,rfl,hK _ _ _ _ _ r a (fun e=>by omega) (fun _=>rfl)⟩
 ·refine Dn A93 ?_
  intro b f
  have G:(Value.agg (fR 24 (.int .u8 0))).cells=((aE 24 (0:Int)).map (bB .u8)).toArray:=by rfl
  rw [G]
  have B:Win .u8 (h.put b (.cells ((aE 24 (0:Int)).map (bB .u8)).toArray Ue)) h b Ue (some ⟨b,0,none⟩) [] (aE 24 (0:Int)) []:=⟨f,by simp,.inr rfl⟩
  generalize (h.put b (.cells ((aE 24 (0:Int)).map (bB .u8)).toArray Ue))=h1' at *
  refine ⟨_,rfl,Dt (gp.mono B.le) (by omega) hi ⟨_,rfl,?_⟩⟩
  have t:N8 i=dd i:=Z8 (by omega)
  rw [t] at w hK
  refine ⟨⟨by omega,by omega⟩,?_⟩
  rw [aC,bV]
  have C:=B.sub (l:=0) (m:=(dd i).length) (c:=24) (by omega) (by simp;omega) (by simp)
  have y:((aE 24 (0:Int)).drop 0).take ((dd i).length-0)=aE (dd i).length 0:=by
   rw [cK,bZ,bV,aI (by omega)]
  rw [y] at C
  have x:i<10^(dd i).length:=Q9.1 (aZ _)
  refine X5 C (by simp) (by omega) x hi ?_
  intro E s
  refine ⟨rfl,⟨by omega,by omega⟩,?_⟩
  have j:pad (dd i).length i=dd i:=by simp [pad]
  rw [j] at s
  have F:SlV E (J9 (some ⟨b,0,none⟩) 24 0 1) (yv (dd i)):=by
   have:=s.sl
   unfold SlI at this
   rw [C2v] at this
   exact this
  have q:=s.eq
  obtain ⟨o,ho⟩:∃ o,E=h.put b o:=⟨_,q⟩
  subst ho
  have L:=p.put f o
  have d:g.le (g.put b o):=by
   intro k H D
   have u:k≠b:=by
    rintro rfl
    rw [p.le k H D] at f;cases f
   rw [B8 _ _ u];exact D
  refine Wc Eg L (Hr _) F (A0n _) (by omega) (by omega) ?_ ?_
  ·intro z h' a
   rw [<- T9] at a
   exact ⟨_,_,_,rfl,hK _ _ _ _ _ d a (fun _=>⟨rfl,rfl,rfl⟩) id⟩
  ·intro z A' c' h' g' r a
   rw [<- T9] at a
   exact ⟨_,_,_,rfl,hK _ _ _ _ _ (Heap.le_trans d r) a (fun e=>by omega) (fun _=>rfl)⟩
end
structure Ext (g:bC) (e':cC) (A:Option bI) (n c:Nat) (l t:List UInt8) (A':Option bI) (n' c':Nat) (e2:cC) (g' h':bC):Prop where
 le:g.le g'
 priv:eV h' g' e2 1 A' n' c' (yv (l++t))
 len:n'=n+t.length
 fit:n+t.length<=c->A'=A/\c'=c/\e2=e'
 tag:e'=F8->e2=F8
def Ext.trans{g g1 g2 h1 h2:bC}{e' e1 e2:cC}{A A1 A2:Option bI}{n c n1 c1 n2 c2:Nat}{l t s:List UInt8}(x:Ext g e' A n c l t A1 n1 c1 e1 g1 h1)(y:Ext g1 e1 A1 n1 c1 (l++t) s A2 n2 c2 e2 g2 h2):Ext g e' A n c l (t++s) A2 n2 c2 e2 g2 h2:=by
 refine ⟨Heap.le_trans x.le y.le,?_,?_,?_,fun e=>y.tag (x.tag e)⟩
 ·have:=y.priv;rwa [aU] at this
 ·rw [y.len,x.len,aH];omega
 ·intro a
  rw [aH] at a
  obtain ⟨rfl,rfl,rfl⟩:=x.fit (by omega)
  have b:=x.len
  exact y.fit (by omega)
section
variable {h g:bC} {K:VP} {A:Option bI} {n c:Nat} {e':cC} {l:List UInt8}
def Hc{i:Nat}(gp:Gp h)(p:eV h g e' 1 A n c (yv l))(hi:i<18446744073709551616)(hn:n<=1000000000000)
 (hK:∀ A' n' c' e2 g' h',Ext g e' A n c l (N8 i) A' n' c' e2 g' h'->K (.slice A' n' c') h'):aW prog Gm #[.slice A n c,U (i:Int),I 10] h K:=by
 refine Yb _ _ _ _ _ ?_
 unfold Xc
 refine Cx gp p hi hn ?_
 intro A' c' e2 h' g' b a e d
 exact ⟨_,_,_,rfl,hK _ _ _ _ _ _ ⟨b,a,rfl,e,d⟩⟩
def Fx{ch:UInt8}{v:Int}(hv:v=(ch.toNat:Int))(p:eV h g e' 1 A n c (yv l))(hn:n<=1000000000000){KK:Option bI->Nat->Nat->bC->Prop}
 (x:∀ A' n' c' e2 g' h',Ext g e' A n c l [ch] A' n' c' e2 g' h'->KK A' n' c' h'):
 wpH prog (Instr.buildSlice Hv 1 #[(0,Y v)]) (fun v1 hp1=>∃ (A1:Option bI) (n1 c1:Nat),v1= .slice A1 n1 c1/\wpH prog (dQ #[Hv,Hv] Hv #[.slice A n c,.slice A1 n1 c1]) (fun v2 hp2=>∃ (A2:Option bI) (n2 c2:Nat),v2= .slice A2 n2 c2/\KK A2 n2 c2 hp2) hp1) h:=by
 subst hv
 refine An Eg rfl ?_
 intro b a
 refine ⟨_,_,_,rfl,?_⟩
 have w:=p.put a (.cells #[Y (ch.toNat:Int)] F8)
 have f:g.le (g.put b (.cells #[Y (ch.toNat:Int)] F8)):=by
  intro k r o
  have i:k≠b:=by
   rintro rfl
   rw [p.le k r o] at a;cases a
  rw [B8 _ _ i];exact o
 have t:SlV (h.put b (.cells #[Y (ch.toNat:Int)] F8)) (some ⟨b,0,none⟩) (yv [ch]):=by
  refine .inr ⟨_,rfl,fun j u q=>?_⟩
  rw [E6,E7]
  match j with
  | 0=>simpa [yv] using q
  | j+1=>simp [yv] at q
 refine Wc Eg w (m:=1) (ys:=yv [ch]) rfl t (A0n _) (by omega) (by omega) ?_ ?_
 ·intro y h' d
  rw [<- T9] at d
  exact ⟨_,_,_,rfl,x _ _ _ _ _ _ ⟨f,d,rfl,fun _=>⟨rfl,rfl,rfl⟩,id⟩⟩
 ·intro y A' c' h' g' s d
  rw [<- T9] at d
  exact ⟨_,_,_,rfl,x _ _ _ _ _ _ ⟨Heap.le_trans f s,d,rfl,fun e=>by simp at e;omega,fun _=>rfl⟩⟩
def Th{i:Int}(h:i<0):Hl i=[45]++N8 i.natAbs:=by unfold Hl;rw [iP h];rfl
def Jp{i:Int}(h:¬ i<0):Hl i=N8 i.natAbs:=by unfold Hl;rw [iN h]
def Ko{i:Int}(gp:Gp g)(p:eV h g e' 1 A n c (yv l))(h1: -9223372036854775808<=i)(h2:i<9223372036854775808)(hn:n<=100000000000)
 (hK:∀ A' n' c' e2 g' h',Ext g e' A n c l (Hl i) A' n' c' e2 g' h'->K (.slice A' n' c') h'):aW prog Dj #[.slice A n c,I i,I 10] h K:=by
 refine A2h _ _ _ _ _ ?_
 unfold Zz
 refine A27 _ _ _ _ _ ?_
 unfold Zn
 refine B6 (fun k=>?_) (fun k=>?_)
 ·rw [Th k] at hK
  refine Fx (ch:=45) rfl p (by omega) ?_
  intro A1 r c1 s t o a
  have e:C0 (0-C0 i)=((i.natAbs:Nat):Int):=by rw [E4,E4];omega
  rw [e]
  refine Cx (gp.mono (Heap.le_trans a.le a.priv.le)) a.priv (by omega) (by have:=a.len;simp at this;omega) ?_
  intro A2 c2 e2 j q b d f m
  exact ⟨_,_,_,rfl,_,_,_,rfl,hK _ _ _ _ _ _ (a.trans ⟨b,d,rfl,f,m⟩)⟩
 ·rw [Jp k] at hK
  have e:C0 i=((i.natAbs:Nat):Int):=by rw [E4];omega
  rw [e]
  refine Cx (gp.mono p.le) p (by omega) (by omega) ?_
  intro A2 c2 e2 j q b d f m
  exact ⟨_,_,_,rfl,_,_,_,rfl,hK _ _ _ _ _ _ ⟨b,d,rfl,f,m⟩⟩
def A2l{b:Nat}{e:cC}{B:Option bI}{pre post:List dC}{s:List UInt8}(w:Win .u8 h g b e B pre (zb s) post):SlV h B (yv s):=by
 have:=w.sl
 unfold SlI at this
 rw [C2v] at this
 exact this
def Kj{i:Int}(gp:Gp h)(h1: -9223372036854775808<=i)(h2:i<9223372036854775808)(hK:K (.string (bs (Hl i))) h):aW prog Di #[I i,I 10] h K:=by
 refine FCall.pure (A2f _ _ ?_)
 unfold Zx
 refine A25 _ _ ?_
 unfold Zl
 refine D8 (fun _=>?_) (fun e=>absurd rfl e)
 refine ⟨fun L j=>L=[.bool (decide (0<=i/\i<100))]/\j=h,B6 (fun g=>⟨by simp [g],rfl⟩) (fun g=>⟨by simp [g],rfl⟩),?_⟩
 rintro s j ⟨G,rfl⟩
 obtain rfl:s=decide (0<=i/\i<100):=by simpa using G
 refine B6 (fun g=>?_) (fun g=>?_)
 ·obtain ⟨k,rfl⟩:∃ k:Nat,i=k:=⟨i.toNat,by omega⟩
  refine Yg (by omega) ⟨_,rfl,⟨_,rfl,B3 _,?_⟩⟩
  rw [Jp (by omega)] at hK
  exact hK
 ·refine Dn A93 ?_
  intro b H
  have C:(Value.agg (fR 24 (.int .u8 0))).cells=((aE 24 (0:Int)).map (bB .u8)).toArray:=by rfl
  rw [C]
  have q:Win .u8 (j.put b (.cells ((aE 24 (0:Int)).map (bB .u8)).toArray Ue)) j b Ue (some ⟨b,0,none⟩) [] (aE 24 (0:Int)) []:=⟨H,by simp,.inr rfl⟩
  generalize (j.put b (.cells ((aE 24 (0:Int)).map (bB .u8)).toArray Ue))=hp1 at *
  refine ⟨_,rfl,?_⟩
  obtain ⟨u,hu⟩:∃ u:Nat,u=i.natAbs:=⟨_,rfl⟩
  have a:u≠0:=by omega
  have B:N8 u=dd u:=Z8 a
  have E:(dd u).length<=20:=Q9.2 (by show u<10^20;omega)
  have A:B4 (1+(((dd u).length:Nat):Int))=((1+(dd u).length:Nat):Int):=by rw [B7 (by omega) (by omega)];omega
  have x:=q.sub (l:=1) (m:=1+(dd u).length) (c:=24) (by omega) (by simp;omega) (by simp)
  have w:((aE 24 (0:Int)).drop 1).take (1+(dd u).length-1)=aE (dd u).length 0:=by
   rw [bF,bZ,aI (by omega)];congr 1;omega
  rw [w] at x
  have o:u<10^(dd u).length:=Q9.1 (aZ _)
  have f:pad (dd u).length u=dd u:=by simp [pad]
  have p:1+(dd u).length-1=(dd u).length:=by omega
  refine B6 (fun n=>?_) (fun n=>?_)
  ·rw [Th n,<- hu,B] at hK
   have e:C0 (0-C0 i)=(u:Int):=by rw [E4,E4];omega
   rw [e]
   refine Dt (gp.mono q.le) a (by omega) ⟨_,rfl,?_⟩
   rw [A,aC]
   refine ⟨⟨by omega,by omega⟩,⟨by omega,by omega⟩,?_⟩
   rw [show ((1:Int)).toNat=1 from rfl,p]
   refine X5 x (by simp) (by omega) o (by omega) ?_
   intro r d
   rw [f] at d
   refine ⟨rfl,B6 (fun _=>?_) (fun t=>absurd n t)⟩
   have J:=q.whole (l:=1) (m:=1+(dd u).length) (by omega) (by simp;omega) (by rw [Ho];omega) d
   refine ⟨⟨by omega,by omega⟩,?_⟩
   rw [show ((0:Int)).toNat=0 from rfl]
   refine J.storeN Ms rfl (by simp) ?_
   intro F y
   refine ⟨⟨by omega,by omega⟩,?_⟩
   have z:=y.sub (l:=0) (m:=1+(dd u).length) (c:=24) (by omega) (by simp [Ho];omega) (by simp [Ho];omega)
   have D:((((aE 24 (0:Int)).take 1++zb (dd u)++(aE 24 (0:Int)).drop (1+(dd u).length)).set 0 45).drop 0).take (1+(dd u).length-0)=zb ([45]++dd u):=by
    rw [cK,bZ,show min 1 24=1 from rfl,show aE 1 (0:Int)=[0] from rfl,aU,List.singleton_append,List.set_cons_zero,bV,Nat.add_comm 1,List.take_succ_cons,dB (Ho _)]
    rfl
   rw [D] at z
   refine Jq Eg.und Cm T1 (A2l z) (by simp;omega) ⟨_,rfl,_,rfl,?_,hK⟩
   exact y.le
  ·rw [Jp n,<- hu,B] at hK
   have e:C0 i=(u:Int):=by rw [E4];omega
   rw [e]
   refine Dt (gp.mono q.le) a (by omega) ⟨_,rfl,?_⟩
   rw [A,aC]
   refine ⟨⟨by omega,by omega⟩,⟨by omega,by omega⟩,?_⟩
   rw [show ((1:Int)).toNat=1 from rfl,p]
   refine X5 x (by simp) (by omega) o (by omega) ?_
   intro r d
   rw [f] at d
   refine ⟨rfl,B6 (fun t=>absurd t n) (fun _=>?_)⟩
   refine ⟨⟨by omega,by omega⟩,⟨by omega,by omega⟩,?_⟩
   exact Jq Eg.und Cm T1 (A2l d) rfl ⟨_,rfl,_,rfl,d.le,hK⟩
def Xm{s q:List UInt8}(hK:K (.tuple #[.string (bs (if q <+: s then s.drop q.length else s)),.bool (decide (q <+: s))]) h):aW prog Io #[.string (bs s),.string (bs q)] h K:=by
 refine A2g _ _ ?_
 unfold Zy
 refine A26 _ _ ?_
 unfold Zm
 have b:aW prog Ik #[.string (bs s),.string (bs q)] h (fun r b=>r= .bool (decide (q <+: s))/\b=h):=by
  refine A24 _ _ ?_
  unfold Zk
  simp only [H9]
  refine B6 (fun a=>?_) (fun a=>?_)
  ·refine ⟨⟨by omega,by omega⟩,?_,trivial⟩
   rw [aC,L3,Kn]
   congr 1
   rw [decide_eq_decide,cK,bV,List.prefix_iff_eq_take]
   exact eq_comm
  ·refine ⟨?_,trivial⟩
   congr 1
   symm
   rw [decide_eq_false_iff_not]
   intro d
   have:=d.length_le
   omega
 refine b.mono ?_
 rintro r c ⟨rfl,rfl⟩
 refine ⟨_,rfl,O9 (B6 (fun a=>?_) (fun a=>?_))⟩
 ·rw [iP a,decide_eq_true a] at hK
  have:=a.length_le
  simp only [H9]
  refine ⟨⟨by omega,by omega⟩,_,_,rfl,?_⟩
  rw [aC,L3,aK (by rw [aN];omega)]
  exact hK
 ·rw [iN a,decide_eq_false a] at hK
  exact ⟨_,_,rfl,hK⟩
end
abbrev cB:Int:=10000000000000000000
section
variable {h g:bC} {K:VP} {A B:Option bI} {ac bc:Nat}
def C3y{Invv:LP}{muv:LN}{WA CA:Option bI}{wn wc cn cc:Nat}{us:List Int}{hp1 g1:bC}(p:Pw hp1 g1 WA wn wc us)(hne:us≠[])(hwn:wn=us.length)(du:Dig b64 us)(hl:wn<=100000000)
 (hK:∀ (ws:List Int) (m:Nat) (r:Int) (hp2:bC),Pw hp2 g1 WA m wc (ws.take m)->m=(ws.take m).length->m<=wn->fV (ws.take m)->Dig b64 (ws.take m)->val b64 us=val b64 (ws.take m)*cB+r->(0<=r/\r<cB)->
  wpH prog (Instr.buildSlice Y6 1 #[(0,U r)]) (fun v hp6=>∃ (t44A:Option bI) (t44n:Nat) (t44c:Nat),v= .slice t44A t44n t44c/\wpH prog (dQ #[Y6,Y6] Y6 #[.slice CA cn cc,.slice t44A t44n t44c]) (fun v1 hp7=>∃ (t45A:Option bI) (t45n:Nat) (t45c:Nat),v1= .slice t45A t45n t45c/\Invv [.slice WA m wc,.slice t45A t45n t45c] hp7/\muv [.slice WA m wc,.slice t45A t45n t45c] hp7<muv [.slice WA wn wc,.slice CA cn cc] hp1) hp6) hp2):
 Cy prog Invv muv WA wn wc CA cn cc hp1:=by
 obtain ⟨b,l,J,S⟩:=Fg p hne
 unfold Cy
 refine ⟨fun s F=>∃ (k:Nat) (r:Int) (ws:List Int),s=[U r,I ((k:Int)-1)]/\k<=wn/\(0<=r/\r<cB)/\ws.length=us.length/\Dig b64 ws/\Win .u64 F g1 b C1 WA [] ws l/\ws.take k=us.take k/\val b64 (us.drop k)=val b64 (ws.drop k)*cB+r,fun s _=>(iAt s 1+1).toNat,⟨wn,0,us,by rw [B7 (by omega) (by omega)],by omega,by decide,rfl,du,J,rfl,by rw [aY (by omega)];simp [val]⟩,?_⟩
 rintro c i hp2 ⟨k,r,ws,D,T,z,g,u,w,f,t⟩
 obtain ⟨rfl,rfl⟩:c=r/\i=(k:Int)-1:=by simpa using D
 refine B6 (fun M=>?_) (fun M=>?_)
 ·obtain ⟨j,rfl⟩:∃ j,k=j+1:=⟨k-1,by omega⟩
  have e:((j+1:Nat):Int)-1=(j:Int):=by omega
  rw [e]
  have N:=N9 u j
  refine w.sl.load (by omega) (by omega) (by omega) ?_
  rw [aC]
  refine Tz (y:=10000000000000000000) z N (by decide) ⟨_,_,rfl,?_⟩
  have G:us.getD j 0=ws.getD j 0:=by
   have n:(ws.take (j+1)).getD j 0=(us.take (j+1)).getD j 0:=by rw [f]
   simpa [cU,List.getElem?_take] using n.symm
  generalize hx:ws.getD j 0=x at *
  have L:0<=c/\c<10000000000000000000:=z
  have Q:0<=c*18446744073709551616+x:=by omega
  have H:0<=(c*18446744073709551616+x)/10000000000000000000/\(c*18446744073709551616+x)/10000000000000000000<18446744073709551616:=by omega
  obtain ⟨a,B,_⟩:=SlV.at w.sl (i:=j) (by simp;omega)
  refine ⟨a,B,by omega,by omega,w.storeN F4 B (by omega) ?_⟩
  intro R E
  rw [B7 (by omega) (by omega)]
  refine ⟨⟨j,_,_,rfl,by omega,by show _/\_<(10000000000000000000:Int);omega,by simpa using g,u.set H,E,?_,?_⟩,by simp only [iAt,aG,aL];omega⟩
  ·rw [fX (by omega)]
   have n:=congrArg (List.take j) f
   rw [List.take_take,List.take_take,aI (by omega)] at n
   exact n
  ·rw [V7 (by omega),Mq b64 (by omega),t,G]
   have:=aO (c*18446744073709551616+x) 10000000000000000000
   simp only [val]
   generalize (c*18446744073709551616+x)/10000000000000000000=q at *
   generalize (c*18446744073709551616+x)%10000000000000000000=s at *
   grind
 ·obtain rfl:k=0:=by omega
  rw [cK,cK] at t
  rw [show wn=ws.length by omega] at hK ⊢
  refine Ed w.sl (by omega) (by omega) ?_
  intro m A C o
  refine ⟨_,_,_,rfl,?_⟩
  have d:ws≠[]:=by intro O;apply hne;exact aM (by rw [<- g,O];rfl)
  exact hK ws m c hp2 (w.priv d (by omega) A) (by rw [aF];omega) A C (u.take m) (by rw [o];exact t) z
end
