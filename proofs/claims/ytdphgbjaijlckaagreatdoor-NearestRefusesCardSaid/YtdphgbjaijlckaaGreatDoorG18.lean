/- A part. -/
import Derived.Test.YtdphgbjaijlckaaGreatDoorG16
import Derived.Test.YtdphgbjaijlckaaGreatDoorG17
import Derived.Test.YtdphgbjaijlckaaGreatDoorG10
open Go.Proofs.Tryz
set_option linter.all false
open _root_.Go.Addr renaming add->eO
open _root_.Go.Builtin renaming copy_->dL
open _root_.Go.Extern.MathBitsCarry renaming m64->aQ,pair->fD
open _root_.Go.Instr renaming storeAt->dK
open Int renaming toNat_natCast->aC,mul_le_mul_of_nonneg_right->aD,mul_le_mul_of_nonneg_left->aG,emod_lt_of_pos->aK,mul_ediv_add_emod->aL,le_of_lt->aM,mul_nonneg->aO,emod_nonneg->aP,pow_add->aS,mul_comm->aU,tdiv_eq_ediv_of_nonneg->aX,ediv_lt_of_lt_mul->aY,pow_succ->bB,mul_lt_mul_of_pos_right->bC,ediv_eq_zero_of_lt->bF,pow_pos->bI,ediv_nonneg->bJ,mul_lt_mul_of_pos_left->bM,lt_of_le_of_lt->bZ,natCast_mul->cG,tdiv->cI,zero_add->cK,eq_ofNat_of_zero_le->cP,mul_assoc->cW,mul_add->cZ,tmod_eq_emod_of_nonneg->dC,natAbs_natCast->dD,mul_le_mul->dE,fdiv->dF,gcd_natCast_natCast->dN,ediv_le_self->dO,ediv_ediv_of_nonneg->dP,zero_mul->dR,add_mul_ediv_right->dS,add_mul_ediv_left->dZ,mul_ediv_cancel->eE,mul_zero->eI,emod_eq_of_lt->eJ,add_zero->eK,add_comm->eM,gcd->fA,add_mul_emod_self_right->fB,zero_emod->fH,pow_zero->fR
open List renaming replicate->aE,getElem?_cons_zero->aF,getElem?_cons_succ->aH,length_take->aJ,take_of_length_le->aN,length_append->aR,drop_of_length_le->aT,eq_nil_of_length_eq_zero->aZ,drop_replicate->bH,take_length->bO,length_replicate->bV,append_nil->bW,append_assoc->bX,length_drop->bY,nil_append->cD,take_append_drop->cH,drop_eq_getElem_cons->cL,take_replicate->cN,drop_drop->cR,replicate_append_replicate->cT,drop_append_of_le_length->cY,take_left'->dA,drop_zero->dB,getElem?_eq_getElem->dJ,length_set->dV,length_singleton->dX,getElem?_eq_none->dY,take_succ_eq_append_getElem->eG,getD->eQ,drop_append->eR,map_append->eU,length_map->eV,drop_left'->eZ,take_add->fG
open List.cons renaming injEq->cF
open Nat renaming min_eq_left->aI,le_refl->aV,pow_le_pow_right->bD,lt_of_lt_of_le->bN,sub_zero->bU,pow_le_pow_left->cM,lt_of_le_of_lt->cO,gcd->cV,pow_pos->cX,one_mul->dG,add_mul->dH,mul_assoc->dI,pow_succ->dQ,div_le_self->dT,div_add_mod->dU,pow_add->eC,mul_le_mul_left->eD,add_zero->eF,min_eq_right->eP,mod_lt->fC,pow_lt_pow_iff_right->fF,mul_div_cancel_left->fI,add_sub_cancel_left->fJ,zero_mul->fL,mul_comm->fM,le_mul_of_pos_left->fN,gcd_sub_self_right->fO,gcd_comm->fP,div_div_eq_div_mul->fQ
open Nat.Coprime renaming gcd_mul_left_cancel_right->cJ
open _root_.Go.Value renaming int->bK
open _root_.Go.Value.int renaming injEq->eS
open _root_.Go.Value.slice renaming injEq->cQ
open _root_.Go renaming Addr->bL,TypeId->cC,IntKind->cU,Program->dM,Value->eA
open _root_.Go.Proofs.YtdphgbjaijlckaaGreatDoor renaming FCall->aW,Heap->bG,Priv->fE,Norm->fK
namespace Go.Proofs.YtdphgbjaijlckaaGreatDoor
set_option maxRecDepth 20000
open Go
def X4:prog.underlying 5=some (.int .u8):=by kernel_rfl
def P0:prog.underlying 9=some .string:=by kernel_rfl
def pv:List Nat->Nat
 | []=>0
 | d::r=>d+1000000000*pv r
def A8e(ps:List Nat)(d:Nat):pv (ps++[d])=pv ps+10^(9*ps.length)*d:=by
 induction ps with
 | nil=>simp [pv]
 | cons p ps ih=>
  simp only [List.cons_append,pv,ih,List.length_cons]
  grind
def Zs(ps:List Nat)(k:Nat):pv (ps.drop k)<=pv ps:=by
 induction ps generalizing k with
 | nil=>simp
 | cons p ps ih=>
  cases k with
  | zero=>simp
  | succ k=>have:=ih k;simp only [List.drop_succ_cons,pv];omega
def A8f{ps:List Nat}{k:Nat}(h:k<ps.length):pv (ps.drop k)=ps[k]+1000000000*pv (ps.drop (k+1)):=by
 rw [cL h];rfl
def pw(e:Nat):Nat:=if e=0 then 0 else 10^(e-1)
def Qi(e:Nat):pw (e+1)=10^e:=by simp [pw]
def A26(e:Nat):pw (e+1)/10=pw e:=by
 rw [Qi]
 cases e with
 | zero=>simp [pw]
 | succ e=>rw [Qi,dQ,Nat.mul_div_cancel _ dc]
def A90(V d:Nat)(hd:d<10):dd (10*V+d)=if V≠0\/d≠0 then dd V++[dch d] else dd V:=by
 by_cases h:10*V+d=0
 ·grind
 ·rw [iP o,T2 h,show (10*V+d)/10=V from o,show (10*V+d)%10=d from o]
def A0a(n:Nat):(dd n).length=0↔n=0:=by
 constructor
 ·intro h
  by_cases a:n=0
  ·exact a
  ·exact absurd (aZ h) (A5u a)
 ·rintro rfl;rw [H9];rfl
section
variable {h h':bG} {K:VP} {A B:Option bL} {n c n' c':Nat} {s s':Bool} {x y z:Int} {m:Nat} {p q:Rat} {a b w:QV}
def Ju{D:Nat}(i:NI h s A n c z)(hz:ZB m z)(hm:m<=575000000000000)(hD:z.natAbs<10^D)(hD2:D<=140737488355232)(hK:K (.string (bs (K7 z.natAbs))) h):aW prog 74 #[.agg #[.bool s,.slice A n c]] h K:=by
 have h0:=i.zero_iff
 have aa:=i.len hz hm
 refine FCall.pure ((fnk func74 [(5,[3,4],[],[.slice none 0 0,.slice none 0 0]),(11,[7,8],[],[.slice none 0 0,I 0]),(14,[7,9],[],[.slice none 0 0,U32 0])] (cs:=[(15,[7],[],[.slice none 0 0]),(18,[56],[],[.bool false])]) (own:=[1])) ?_)
 refine D5 (fun e=>?_) (fun e=>?_)
 ·have:z=0:=h0.1 o
  subst this
  exact ⟨B4 h,hK⟩
 ·generalize hZ:z.natAbs=Z at *
  have a9:Z<2^m:=by rw [<- hZ];exact hz
  rw [Z1 (show Z≠0 from o)] at hK
  have t:=i.mag
  rw [hZ] at t
  refine ⟨fun l q=>∃ (b:List Nat) (X:Nat) (A B:Option bL) (c x mc:Nat) (g:bG),l=[.slice A b.length c,.slice B x mc]/\h.le g/\fE q g 173 1 A b.length c (b.map fun (d:Nat)=>U32 (d:Int))/\Mg g B x X/\x<=18000000000000/\(∀ d∈b,d<1000000000)/\Z=pv b+10^(9*b.length)*X/\29*b.length<=m+29,fun l q=>match l with|[_,.slice B n _]=>A2p b32 q B n|_=>0,⟨[],Z,none,A,0,n,c,h,rfl,B4 h,Priv.nil _ _ _ _,t,aa,by simp,by simp [pv],by simp⟩,?_⟩
  rintro A1 n1 c1 B1 x mc q ⟨b,X,A1',B1',av,ah,an,g,hl,y,P1,M1,q1,al,w,a0⟩
  obtain ⟨⟨rfl,rfl,rfl⟩,rfl,rfl,rfl⟩:(A1=A1'/\n1=b.length/\c1=av)/\B1=B1'/\x=ah/\mc=an:=gz0
  have a6:=M1.len_zero dc
  refine B6 (fun h1=>?_) (fun h1=>?_)
  ·have az:29*b.length<m:=by
    have h2:2^(29*b.length)<=10^(9*b.length):=by
     rw [Nat.pow_mul,Nat.pow_mul]
     exact cM dc _
    have h3:10^(9*b.length)*1<=10^(9*b.length)*X:=eD _ o
    exact (fF (a:=2) dc).1 o
   refine P1.call ?_
   refine Gs M1 dc q1 ?_
   intro A2 m2 c2 h2 l2 k2 k3 M2 h3 P3
   refine ⟨_,_,_,_,rfl,?_⟩
   refine Ab Ii P3 rfl rfl o o ?_
   intro A4 c4 O Q l4 P4
   have M4:Mg Q A2 m2 ((X/1000000000:Nat):Int):=M2.mono l4
   refine ⟨⟨b++[X%1000000000],X/1000000000,A4,A2,c4,m2,c2,Q,by simp,B0 y (B0 l2 l4),gz0,M4,o,?_,?_,?_⟩,?_⟩
   ·grind
   ·rw [A8e,aR,dX,Nat.mul_add,eC,w,Nat.add_assoc,dI,<- Nat.mul_add,show 10^(9*1)=1000000000 from dc,Nat.mod_add_div]
   ·grind
   ·show A2p b32 O A2 m2<A2p b32 q B1 x
    rw [T5 (M4.mono P4.le),T5 (M1.mono P1.le)]
    omega
  ·have hX:X=0:=o
   subst hX
   rw [Nat.mul_zero,eF] at w
   have ap:SlV q A1 (b.map fun (d:Nat)=>U32 (d:Int)):=P1.slV
   have ay:∀ V,V<=Z->(dd V).length<=D:=by
    intro V hV
    exact N5.2 (cO hV hD)
   have e1:B9 ((b.length:Int)-1)=(b.length:Int)-1:=B7 o o
   rw [e1]
   refine ⟨fun l O=>∃ (k:Nat) (A:Option bL) (n c:Nat) (g:bG),l=[.slice A n c,I ((k:Int)-1)]/\k<=b.length/\q.le g/\n=(dd (pv (b.drop k))).length/\fE O g 5 1 A n c (yv (dd (pv (b.drop k)))),fun l _=>(iAt l 1+1).toNat,⟨b.length,none,0,0,q,rfl,aV _,B4 q,by simp [pv,H9],by simpa [pv,H9,yv] using Priv.nil _ _ _ _⟩,?_⟩
   rintro A2 n2 c2 i2 O ⟨k,A2',ae,ai,Q,a4,hk,lg,G,P2⟩
   obtain ⟨⟨rfl,rfl,rfl⟩,rfl⟩:(A2=A2'/\n2=ae/\c2=ai)/\i2=(k:Int)-1:=gz0
   refine B6 (fun h2=>?_) (fun h2=>?_)
   ·obtain ⟨j,rfl⟩:∃ j,k=j+1:=⟨k-1,o⟩
    have ej:((j+1:Nat):Int)-1=(j:Int):=o
    rw [ej]
    have hj:j<b.length:=o
    have a3:=A8f hj
    have aq:b[j]<1000000000:=al _ (List.getElem_mem hj)
    have a1:=Zs b j
    refine ⟨fun l N=>∃ (e:Nat) (A:Option bL) (n c:Nat) (g:bG),l=[.slice A n c,U32 (pw e:Int)]/\e<=9/\q.le g/\n=(dd (pv (b.drop (j+1))*10^(9-e)+b[j]/10^e)).length/\fE N g 5 1 A n c (yv (dd (pv (b.drop (j+1))*10^(9-e)+b[j]/10^e))),fun l _=>(iAt l 1).toNat,⟨9,A2,n2,c2,Q,rfl,o,lg,?_,?_⟩,?_⟩
    ·grind
    ·grind
    rintro A5 n5 c5 d N ⟨e,A5',am,ak,g5,a8,he,u,C,P5⟩
    obtain ⟨⟨rfl,rfl,rfl⟩,rfl⟩:(A5=A5'/\n5=am/\c5=ak)/\d=(pw e:Int):=gz0
    generalize hV:pv (b.drop (j+1))*10^(9-e)+b[j]/10^e=V at *
    refine B6 (fun H=>?_) (fun H=>?_)
    ·obtain ⟨f,rfl⟩:∃ f,e=f+1:=by
      cases e with
      | zero=>simp [pw] at H
      | succ f=>grind
     have ao:pw (f+1)=10^f:=Qi f
     have af:0<10^f:=cX dc
     have a2:10^f<=100000000:=by
      have:10^f<=10^8:=bD dc o
      omega
     have a7:pv (b.drop (j+1))*10^(9-f)+b[j]/10^f=10*V+b[j]/10^f%10:=by
      rw [<- hV,show 9-f=(9-(f+1))+1 from o,dQ,dQ,<- fQ,Nat.mul_add]
      grind
     have L:10*V+b[j]/10^f%10<=Z:=by
      have F:10^(9-f)*10^f=1000000000:=by rw [<- eC,show 9-f+f=9 from o]
      have t2:10^(9-f)<=1000000000:=by rw [<- F];exact Nat.le_mul_of_pos_right _ af
      have t3:pv (b.drop (j+1))*10^(9-f)<=pv (b.drop (j+1))*1000000000:=eD _ t2
      have t4:=dT b[j] (10^f)
      omega
     have ec:wu8 (G8 ((48:Int)+Int.tmod (G8 (cI (b[j]:Int) ((pw (f+1):Nat):Int))) 10))=((48+b[j]/10^f%10:Nat):Int):=by
      rw [ao]
      have F:cI (b[j]:Int) ((10^f:Nat):Int)=((b[j]/10^f:Nat):Int):=by rfl
      rw [F]
      have t2:b[j]/10^f<1000000000:=cO (dT _ _) aq
      generalize b[j]/10^f=D at t2 ⊢
      rw [L4 (n:=(D:Int)) o o]
      have t3:Int.tmod (D:Int) 10=((D%10:Nat):Int):=by
       rfl
      rw [t3,L4 o o,Of o o];omega
     have r:b[j]/10^f%10<10:=fC _ dc
     have E:SlV N A1 (b.map fun (d:Nat)=>U32 (d:Int)):=ap.mono (B0 u P5.le)
     refine ⟨fun l H=>∃ (A:Option bL) (n c:Nat) (g:bG),l=[.slice A n c]/\q.le g/\n=(dd (10*V+b[j]/10^f%10)).length/\fE H g 5 1 A n c (yv (dd (10*V+b[j]/10^f%10))),?_,?_⟩
     ·obtain ⟨ad,ac,aj⟩:=SlV.at E (i:=j) gz0
      refine ⟨ad,ac,o,o,(b[j]:Int),by simp_all,?_⟩
      refine B6 (fun e0=>absurd e0 o) (fun _=>?_)
      rw [ec]
      have p:=A90 V (b[j]/10^f%10) r
      have aw:=A0a V
      refine ⟨fun l R=>l=[.bool (decide (V≠0\/b[j]/10^f%10≠0))]/\R=N,B6 (fun R=>⟨?_,rfl⟩) (fun R=>⟨?_,rfl⟩),?_⟩
      ·grind
      ·have e2:∀ D:Nat,(((48+D:Nat):Int) != 48)=decide (V≠0\/D≠0):=by
        grind
       rw [e2]
      rintro tb R ⟨a5,rfl⟩
      obtain rfl:tb=decide (V≠0\/b[j]/10^f%10≠0):=gz0
      refine B6 (fun h8=>?_) (fun h8=>?_)
      ·rw [iP h8] at p
       have T:=ay _ L
       rw [p,aR,dX] at T
       refine Ab Ao P5 rfl rfl o o ?_
       intro A9 M h9 g9 l9 P9
       refine ⟨A9,n5+1,M,g9,rfl,B0 u l9,gz0,?_⟩
       rw [p,Q0]
       have:yv [dch (b[j]/10^f%10)]=[Y ((48+b[j]/10^f%10:Nat):Int)]:=by
        simp only [yv,List.map_cons,List.map_nil,Be r]
       grind
      grind
     ·rintro A9 n9 M h9 ⟨A9',ax,W,g9,ba,ar,bb,P9⟩
      obtain ⟨rfl,rfl,rfl⟩:A9=A9'/\n9=ax/\M=W:=gz0
      have ed:G8 (cI ((pw (f+1):Nat):Int) 10)=((pw f:Nat):Int):=by
       have F:cI ((pw (f+1):Nat):Int) 10=((pw (f+1)/10:Nat):Int):=by rfl
       rw [F,A26,L4 o (by have:=A26 f;omega)]
      rw [ed]
      refine ⟨⟨f,A9,n9,M,g9,rfl,o,ar,gz0,gz0⟩,?_⟩
      simp only [iAt,aF,aH,aC]
      have:=A26 f
      omega
    ·have S:e=0:=by
      cases e with
      | zero=>rfl
      | succ f=>rw [Qi] at H;grind
     subst S
     have au:V=pv (b.drop j):=o
     rw [au] at P5 C
     rw [B7 o o]
     exact ⟨⟨j,A5,n5,c5,g5,rfl,o,u,C,P5⟩,by simp only [iAt,aF,aH];omega⟩
   ·have ag:k=0:=o
    subst ag
    rw [dB,<- w] at P2 G
    refine Ek Ao.und X4 P0 P2.slV G ?_
    exact ⟨_,rfl,B0 y (B0 P1.le (B0 lg P2.le)),hK⟩
end
def Pf(a:Array UInt8):({ data:=a }:ByteArray)=bs a.toList:=by simp [bs]
def X8{l:List UInt8}(h:∀ c∈l,F7 c):I0 l<2^(4*l.length):=by
 have a:=Ae h
 have b:10^l.length<=16^l.length:=cM dc _
 have d:16^l.length=2^(4*l.length):=by rw [Nat.pow_mul]
 omega
def A6v{h:bG}{A:Option bL}{n m:Nat}{X:Nat}(M:Mg h A n X)(hx:X<2^m)(hm:m<=575000000000000):n<=18000000000000:=by
 have:=A2u (j:=32) dc M (m:=m) gz0
 omega
section
variable {h h':bG} {K:VP} {A B:Option bL} {n c n' c':Nat} {s s':Bool} {x y z:Int} {m:Nat} {p q:Rat} {a b w:QV} {l:List UInt8}
def Dr(hl:l.length<=140737488351232)(hK:∀ s A n c ok h',h.le h'->(ok=true->(∀ c∈l,F7 c)/\l≠[]/\NI h' s A n c (I0 l))->(ok=false->¬ ((∀ c∈l,F7 c)/\l≠[]))->K (.tuple #[.agg #[.bool s,.slice A n c],.bool ok]) h'):aW prog 142 #[.string (bs l)] h K:=by
 refine (fnk func142 [(3,[4,5],[(2,2)],[.slice none 0 0,I 0,.bool false,.slice none 0 0]),(6,[5,6,7,8],[(2,2)],[I 0,U32 0,U32 0,I 0,.bool false,.slice none 0 0])] (cs:=[(12,[5,6,7],[(2,2)],[I 0,U32 0,U32 0,.bool false,.slice none 0 0])]) (own:=[2])) ?_
 simp only [G1]
 refine ⟨fun L u=>∃ (i:Nat) (A:Option bL) (n c:Nat),L=[.slice A n c,I i,.bool false,.slice none 0 0]/\i<=l.length/\h.le u/\(∀ c∈l.take i,F7 c)/\Mg u A n (I0 (l.take i))/\n<=c,fun L _=>l.length-(iAt L 1).toNat,⟨0,none,0,0,rfl,o,B4 h,by simp,Mag.zero,aV _⟩,?_⟩
 rintro A1 n1 c1 i1 T A2 n2 c2 u ⟨i,A1',ad,O,hL,hi,ac,r,M,hc⟩
 obtain ⟨⟨rfl,rfl,rfl⟩,rfl,rfl,rfl,rfl,rfl⟩:(A1=A1'/\n1=ad/\c1=O)/\i1=(i:Int)/\T=false/\A2=none/\n2=0/\c2=0:=gz0
 refine B6 (fun h1=>?_) (fun h1=>?_)
 ·refine ⟨fun L Q=>∃ (k:Nat),L=[I ((i+k:Nat):Int),U32 (I0 ((l.drop i).take k):Nat),U32 ((10^k:Nat):Int),.bool false,.slice none 0 0]/\0<k/\k<=9/\i+k<=l.length/\Q=u/\(∀ c∈(l.drop i).take k,F7 c),?_,?_⟩
  ·refine ⟨fun L Q=>∃ (k:Nat),L=[I ((i+k:Nat):Int),U32 (I0 ((l.drop i).take k):Nat),U32 ((10^k:Nat):Int),I k,.bool false,.slice none 0 0]/\k<=9/\i+k<=l.length/\Q=u/\(∀ c∈(l.drop i).take k,F7 c),fun L _=>9-(iAt L 3).toNat,⟨0,by rfl,o,o,rfl,by simp⟩,?_⟩
   rintro G v f k2 x A3 N V E ⟨k,ae,S,t,rfl,g⟩
   obtain ⟨rfl,rfl,rfl,rfl,rfl,rfl,rfl,rfl⟩:G=((i+k:Nat):Int)/\v=((I0 ((l.drop i).take k):Nat):Int)/\f=((10^k:Nat):Int)/\k2=(k:Int)/\x=false/\A3=none/\N=0/\V=0:=gz0
   refine B6 (fun h2=>B6 (fun h3=>?_) (fun h3=>?_)) (fun h2=>?_)
   ·have D:i+k<l.length:=o
    have a:(bs l)[((i+k:Nat):Int).toNat]? = some l[i+k]:=by rw [aC,Nd,dJ D]
    have d:¬ F7 l[i+k]->∀ s A n c,K (.tuple #[.agg #[.bool s,.slice A n c],.bool false]) E:=by
     grind
    refine ⟨l[i+k],⟨o,a⟩,B6 (fun y=>?_) (fun y=>?_)⟩
    ·exact d (fun B=>by unfold F7 at B;omega) _ _ _ _
    ·refine ⟨l[i+k],⟨o,a⟩,B6 (fun h5=>?_) (fun h5=>?_)⟩
     ·exact d (fun B=>by unfold F7 at B;omega) _ _ _ _
     ·have ag:F7 l[i+k]:=by unfold F7;omega
      refine ⟨l[i+k],⟨o,a⟩,?_⟩
      have j:(l.drop i).take (k+1)=(l.drop i).take k++[l[i+k]]:=by
       rw [eG gz0];simp
      have R:I0 ((l.drop i).take k)<10^k:=by
       have:=Ae g
       grind
      have W:10^k<=100000000:=by
       have:10^k<=10^8:=bD dc o
       omega
      have e1:B9 (((i+k:Nat):Int)+1)=((i+(k+1):Nat):Int):=by rw [B7 o o];omega
      have e2:B9 ((k:Int)+1)=((k+1:Nat):Int):=by rw [B7 o o];omega
      have e3:G8 (((10^k:Nat):Int)*10)=((10^(k+1):Nat):Int):=by rw [dQ,L4 o o];omega
      have e4:G8 (G8 (((I0 ((l.drop i).take k):Nat):Int)*10)+G8 (wu8 ((l[i+k].toNat:Int)-48)))=((I0 ((l.drop i).take (k+1)):Nat):Int):=by
       rw [j,Dt,Of o o,L4 (n:=(l[i+k].toNat:Int)-48) o o,L4 (n:=((I0 ((l.drop i).take k):Nat):Int)*10) o o,L4 o o];omega
      rw [e1,e2,e3,e4]
      refine ⟨⟨k+1,rfl,o,o,rfl,?_⟩,by simp only [iAt,aF,aH];omega⟩
      grind
   ·grind
   grind
  ·rintro G v f w A3 N V p ⟨k,ae,af,S,t,rfl,g⟩
   obtain ⟨rfl,rfl,rfl,rfl,rfl,rfl,rfl⟩:G=((i+k:Nat):Int)/\v=((I0 ((l.drop i).take k):Nat):Int)/\f=((10^k:Nat):Int)/\w=false/\A3=none/\N=0/\V=0:=gz0
   have R:I0 ((l.drop i).take k)<10^k:=by
    have:=Ae g
    grind
   have W:0<10^k/\10^k<=1000000000:=by
    have:10^k<=10^9:=bD dc o
    omega
   have aa:((l.drop i).take k).length=k:=gz0
   have j:l.take (i+k)=l.take i++(l.drop i).take k:=fG
   have q:∀ c∈l.take (i+k),F7 c:=by
    grind
   have ah:I0 (l.take (i+k))=I0 (l.take i)*10^k+I0 ((l.drop i).take k):=by rw [j,Ch,aa]
   have F:I0 (l.take i)<2^(4*l.length):=bN (X8 r) (bD dc gz0)
   have ai:I0 (l.take (i+k))<2^(4*l.length):=bN (X8 q) (bD dc gz0)
   have X:=A6v M F o
   refine T6 Ii rfl ?_
   intro z C
   refine ⟨_,_,_,rfl,?_⟩
   have lf:=Heap.le_put (h:=p) (b:=z) (.cells #[U32 ((10^k:Nat):Int)] 173) C
   have Mf:Mg (p.put z (.cells #[U32 ((10^k:Nat):Int)] 173)) (some ⟨z,0,none⟩) 1 ((10^k:Nat):Int):=
    ⟨[((10^k:Nat):Int)],rfl,SlI.new p z [((10^k:Nat):Int)] 173 _,Dig.one ⟨o,gz0⟩,by simp only [fK,List.getLast?_singleton,ne_eq,Option.some.injEq];omega,Q9 _ _⟩
   refine Lr (M.mono lf) Mf X o ?_
   intro A4 m4 c4 y l4 k4 M4
   refine ⟨_,_,_,rfl,?_⟩
   refine T6 Ii rfl ?_
   intro bv H
   refine ⟨_,_,_,rfl,?_⟩
   have lv:=Heap.le_put (h:=y) (b:=bv) (.cells #[U32 ((I0 ((l.drop i).take k):Nat):Int)] 173) H
   refine S2 (xs:=[((I0 ((l.drop i).take k):Nat):Int)]) (SlI.new y bv _ 173 _) (Dig.one ⟨o,gz0⟩) (aV _) (by simp) ?_
   intro m5 k5 M5
   refine ⟨_,_,_,rfl,?_⟩
   rw [Q9] at M5
   have e4:((I0 (l.take i):Nat):Int)*((10^k:Nat):Int)=((I0 (l.take i)*10^k:Nat):Int):=by rw [cG]
   rw [e4] at M4
   refine Nj (M4.mono lv) M5 (A6v M4 (m:=4*l.length) o o) gz0 ?_
   intro A6 m6 c6 h6 l6 k6 M6
   have e6:((I0 (l.take i)*10^k:Nat):Int)+((I0 ((l.drop i).take k):Nat):Int)=((I0 (l.take (i+k)):Nat):Int):=o
   rw [e6] at M6
   exact ⟨_,_,_,rfl,⟨i+k,A6,m6,c6,rfl,t,B0 ac (B0 lf (B0 l4 (B0 lv l6))),q,M6,k6⟩,by simp only [iAt,aF,aH];omega⟩
 ·refine J8 M hc ?_
  intro s1 i1
  refine ⟨_,_,_,_,rfl,?_⟩
  have e:(!((bs l).toList==({ data:=#[] }:ByteArray).toList))=decide (l≠[]):=by
   rw [Pf,Fg];simp
  grind
def X9{n m:Nat}(h:n<2^m):(K7 n).length<=m+1:=by
 rw [Hr o]
 have:2^m<=10^(m+1):=Nat.le_trans (cM dc m) (bD dc o)
 omega
def Oh{D:Nat}(i:NQ h w q)(hq:Sz m q)(hm:m<=575000000000000)(hD:q.num.natAbs<10^D/\q.den<10^D)(hD2:D<=140737488355232)(hK:K (.string (bs (H1 q))) h):aW prog 21 #[w.v] h K:=by
 have r:=i.num.sg
 have d:=i.den_zero
 refine (fnk func21 (cs:=[(4,[3],[],[.string ⟨#[]⟩])]) (own:=[1])) ?_
 have j:=X9 hq.num
 have k:=X9 (n:=q.den) (m:=m) (by have:=hq.den;assumption)
 refine Ju i.num hq.num hm hD.1 hD2 ⟨_,rfl,?_⟩
 refine ⟨fun l c=>l=[.string (bs (Ej q.num))]/\c=h,Br.of (fun e=>?_) (fun e=>?_),?_⟩
 ·refine ⟨?_,?_,rfl⟩
  ·rw [Pf,G1,G1];grind
  ·rw [Pf,Hu];unfold Ej;grind
 ·exact ⟨by unfold Ej;grind,rfl⟩
 rintro t p ⟨g,rfl⟩
 obtain rfl:t=bs (Ej q.num):=gz0
 have s:(Ej q.num).length<=m+2:=by
  unfold Ej;grind
 refine B6 (fun e=>?_) (fun e=>?_)
 ·have b:¬ q.den=1:=fun f=>by omega
  have a:=i.den
  rw [iN b] at a
  refine Ju a hq.den hm hD.2 hD2 ⟨_,rfl,?_,?_,?_⟩
  ·rw [Pf,G1,G1,dD];grind
  ·rw [Pf,Hu,G1,G1,dD];grind
  ·rw [Pf,Hu,Hu,dD]
   unfold H1 at hK
   grind
 ·unfold H1 at hK
  grind
def A19(i:NQ h w q)(hq:Sz m q)(hm:m<=140000000000000)(hK:K (.string (bs (H1 q))) h):aW prog 21 #[w.v] h K:=
 Oh (D:=m) i hq o ⟨bN hq.num (cM dc _),bN (by have:=hq.den;assumption) (cM dc _)⟩ o hK
def A7i{t a r a' r':List UInt8}(h1:t=a++r)(h2:∀ c∈a,c≠47)(h3:r=[]\/r.head? = some 47)(g1:t=a'++r')(g2:∀ c∈a',c≠47)(g3:r'=[]\/r'.head? = some 47):a=a'/\r=r':=by
 induction a generalizing t a' with
 | nil=>
  cases a' with
  | nil=>grind
  | cons c a'=>
   grind
 | cons c a ih=>
  cases a' with
  | nil=>
   grind
  | cons c' a'=>
   grind
def A14(q:Rat):H1 q=(if q.num<0 then [45] else [])++(K7 q.num.natAbs++(if q.den=1 then [] else 47::K7 q.den)):=by
 unfold H1 Ej;grind
def A3i(n:Nat):∀ c∈K7 n,c≠47:=fun c a=>(Yr (Ht n c a)).2
def Mi{neg:Bool}{q:Rat}(h:neg=decide (q.num<0)):Rat.divInt (if neg=true then -((q.num.natAbs:Nat):Int) else ((q.num.natAbs:Nat):Int)) q.den=q:=by
 have:(if neg=true then -((q.num.natAbs:Nat):Int) else ((q.num.natAbs:Nat):Int))=q.num:=by
  grind
 simp_all
def A1x(hl:l.length<=140737488351232)(hK1:∀ q,l=H1 q->∀ w h',h.le h'->NQ h' w q->K (.tuple #[w.v,.bool true]) h')(hK0:¬ IsNum l->∀ (w:QV) h',h.le h'->K (.tuple #[w.v,.bool false]) h'):aW prog 75 #[.string (bs l)] h K:=by
 refine (fnk func75 [(7,[6,7],[],[I 0,I 0])] (cs:=[(3,[5],[],[.bool false]),(5,[4],[],[.string ⟨#[]⟩]),(11,[6],[],[I 0])]) (os:=[(20,[0,1,3,2,4,5,6])]) (own:=[2,8,10,11])) ?_
 simp only [G1]
 refine ⟨fun L h'=>L=[.bool (l.head? == some 45)]/\h'=h,B6 (fun B=>?_) (fun B=>?_),?_⟩
 ·cases l with
  | nil=>grind
  | cons c r=>
   refine ⟨c,⟨o,by rfl⟩,?_,rfl⟩
   have:((c.toNat:Int)==45)=((c::r).head? == some 45):=by
    rw [Bool.eq_iff_iff,beq_iff_eq,beq_iff_eq,List.head?_cons,Option.some.injEq]
    constructor
    ·intro e;apply UInt8.toNat_inj.1;grind
    simp_all
   rw [this]
 ·simp_all
 rintro neg hp ⟨hL,rfl⟩
 obtain rfl:neg=(l.head? == some 45):=gz0
 refine ⟨fun L h'=>L=[.string (bs (if (l.head? == some 45) then l.drop 1 else l))]/\h'=hp,Br.of (fun e=>?_) (fun e=>?_),?_⟩
 ·have ag:1<=l.length:=by
   grind
  refine ⟨⟨o,o⟩,?_,rfl⟩
  rw [iP e,K0,aN gz0];rfl
 ·grind
 rintro t0 F ⟨al,rfl⟩
 generalize ht:(if (l.head? == some 45) then l.drop 1 else l)=t at *
 obtain rfl:t0=bs t:=gz0
 have ap:t.length<=l.length:=gz0
 have aa:l=(if (l.head? == some 45) then [45] else [])++t:=by
  rw [<- ht]
  cases l with
  | nil=>simp
  | cons c r=>
   grind
 have s:∀ q,l=H1 q->(l.head? == some 45)=decide (q.num<0)/\t=K7 q.num.natAbs++(if q.den=1 then [] else 47::K7 q.den):=by
  intro q e
  have f:=Dl q
  rw [<- e] at f
  have hh:=f.head
  refine ⟨hh.symm,?_⟩
  have E:=aa
  rw [<- hh,e,A14 q] at E
  grind
 refine ⟨fun L h'=>∃ b:Nat,L=[I b]/\h'=F/\b<=t.length/\(∀ c∈t.take b,c≠47)/\(t.drop b=[]\/(t.drop b).head? = some 47),?_,?_⟩
 ·simp only [G1]
  refine ⟨fun L h'=>∃ i:Nat,L=[I t.length,I i]/\h'=F/\i<=t.length/\(∀ c∈t.take i,c≠47),fun L _=>t.length-(iAt L 1).toNat,⟨0,rfl,rfl,o,by simp⟩,?_⟩
  rintro X i1 an ⟨i,am,rfl,hi,y⟩
  obtain ⟨rfl,rfl⟩:X=(t.length:Int)/\i1=(i:Int):=gz0
  refine B6 (fun B=>?_) (fun B=>?_)
  ·have z:i<t.length:=o
   refine ⟨t[i],⟨o,by rw [aC,Nd,dJ z]⟩,D5 (fun O=>?_) (fun O=>?_)⟩
   ·refine ⟨i,rfl,rfl,hi,y,.inr ?_⟩
    rw [List.head?_drop,dJ z]
    congr 1
    apply UInt8.toNat_inj.1
    grind
   ·rw [B7 o o]
    refine ⟨⟨i+1,rfl,rfl,o,?_⟩,by simp only [iAt,aF,aH];omega⟩
    rw [eG z]
    intro c W
    rcases List.mem_append.1 W with T|T
    ·grind
    ·rw [List.mem_singleton.1 T]
     intro e;rw [e] at O;grind
  grind
 rintro af R ⟨b,aj,rfl,ao,y,g⟩
 obtain rfl:af=(b:Int):=gz0
 simp only [G1,K0,aC,dB,bU]
 refine ⟨⟨o,o⟩,?_⟩
 have m:t=t.take b++t.drop b:=(cH b t).symm
 have d:∀ q,l=H1 q->t.take b=K7 q.num.natAbs/\t.drop b=(if q.den=1 then [] else 47::K7 q.den):=by
  intro q e
  refine A7i m y g (s q e).2 (A3i _) ?_
  split
  ·left;rfl
  grind
 refine Dr gz0 ?_
 intro s1 A1 n1 c1 ak B M k1 k0
 refine ⟨_,_,_,_,_,rfl,Br.not (Br.of (fun e=>?_) (fun e=>?_))⟩
 ·obtain ⟨dg,ae,iN⟩:=k1 e
  have ac:ZB (4*l.length) (I0 (t.take b):Int):=by
   exact bN (X8 dg) (bD dc gz0)
  have im:=iN.mag
  refine J8 im iN.cap ?_
  intro s2 i2
  refine ⟨_,_,_,_,rfl,?_⟩
  have j:ZB (4*l.length) (if (l.head? == some 45)=true then -((I0 (t.take b):Nat):Int) else ((I0 (t.take b):Nat):Int)):=by
   split
   ·exact ac.neg
   omega
  have p:∀ Q:List UInt8,(∀ c∈Q,F7 c)->Q.length<=l.length->I0 Q<10^l.length:=fun Q B O=>bN (Ae B) (bD dc O)
  have C:∀ (A:Rat) (w:QV) (u:bG),R.le u->NQ u w A->Sz (4*l.length+1) A->(A.num.natAbs<10^l.length/\A.den<10^l.length)->(∀ q,l=H1 q->q=A)->
   aW prog 21 #[w.v] u (fun r5 D=>∃ (t79:ByteArray),r5= .string t79/\Heap.le u D/\K (.tuple #[w.v,.bool (ByteArray.toList t79==ByteArray.toList (bs l))]) D):=by
   intro A w u l5 iq S ad aq
   refine Oh iq S o ad o ⟨_,rfl,B4 _,?_⟩
   rw [Fg]
   by_cases W:H1 A=l
   ·grind
   ·rw [decide_eq_false W]
    refine hK0 ?_ w u l5
    rintro ⟨q,e⟩
    grind
  refine B6 (fun E=>?_) (fun E=>?_)
  ·have e3:B9 ((b:Int)+1)=((b+1:Nat):Int):=by rw [B7 o o];omega
   rw [e3]
   refine ⟨⟨o,o⟩,?_⟩
   rw [aC,aN (show (t.drop (b+1)).length<=t.length-(b+1) from gz0)]
   have hb:t.drop b=47::t.drop (b+1):=by
    rcases g with h0|h0
    ·grind
    ·rw [List.head?_drop] at h0
     have H:b<t.length:=o
     rw [cL H]
     grind
   refine Dr gz0 ?_
   intro s3 A3 n3 c3 ai T N j1 j0
   have n:∀ q,l=H1 q->q.den≠1/\t.drop (b+1)=K7 q.den:=by
    intro q e
    by_cases hd:q.den=1
    ·grind
    grind
   refine ⟨_,_,_,_,_,rfl,Br.not (Br.of (fun e4=>?_) (fun e4=>?_))⟩
   ·obtain ⟨G,ah,iD⟩:=j1 e4
    refine Sr iD ⟨_,rfl,D5 (fun e5=>?_) (fun e5=>?_)⟩
    ·refine hK0 ?_ ⟨false,none,0,0,false,none,0,0⟩ _ (B0 M N)
     rintro ⟨q,e⟩
     have h6:=(n q e).2
     have h7:((I0 (t.drop (b+1)):Nat):Int)=0:=Int.sign_eq_zero_iff_zero.1 e5
     rw [h6,S9] at h7
     exact q.den_nz o
    ·have k:((I0 (t.drop (b+1)):Nat):Int)≠0:=fun e6=>e5 (by rw [e6];rfl)
     have x:ZB (4*l.length) (I0 (t.drop (b+1)):Int):=by
      exact bN (X8 G) (bD dc gz0)
     refine Ho (i2.mono N) iD k j x o ?_
     intro w u l5 iq
     refine ⟨_,_,_,_,_,_,_,_,rfl,?_⟩
     refine C _ w u (B0 M (B0 N l5)) iq ((Ib k j x).mono o) ?_ ?_
     ·have q1:=Hq (a:=if (l.head? == some 45)=true then -((I0 (t.take b):Nat):Int) else ((I0 (t.take b):Nat):Int)) k
      have q2:(if (l.head? == some 45)=true then -((I0 (t.take b):Nat):Int) else ((I0 (t.take b):Nat):Int)).natAbs=I0 (t.take b):=by split<;>omega
      rw [q2,dD] at q1
      exact ⟨cO q1.1 (p _ dg gz0),cO q1.2 (p _ G gz0)⟩
     intro q e
     rw [(d q e).1,(n q e).2,S9,S9]
     exact (Mi (s q e).1).symm
   ·refine hK0 ?_ ⟨false,none,0,0,false,none,0,0⟩ _ (B0 M N)
    rintro ⟨q,e⟩
    exact j0 e4 (by rw [(n q e).2];exact ⟨Ht _,My _⟩)
  ·refine C _ ⟨s2,A1,n1,c1,false,none,0,0⟩ B M (NQ.whole i2) (Sz.int (j.mono o) o) ?_ ?_
   ·have V:1<=l.length:=by have:=List.length_pos_iff.2 ae;grind
    refine ⟨?_,?_⟩
    ·rw [Rat.num_intCast]
     refine cO (Nat.le_of_eq ?_) (p _ dg gz0)
     split<;>omega
    ·rw [Rat.den_intCast];exact bN dc (bD dc V)
   intro q e
   have hd:q.den=1:=by
    grind
   rw [(d q e).1,S9]
   have:=Mi (s q e).1
   rw [hd] at this
   rw [<- Es]
   exact this.symm
 ·refine hK0 ?_ ⟨false,none,0,0,false,none,0,0⟩ _ M
  rintro ⟨q,E⟩
  exact k0 e (by rw [(d q E).1];exact ⟨Ht _,My _⟩)
end
def ndg(x:Nat):Nat:=x*78913/262144
def A6t:∀ x,x<65->2^x<=10^(ndg x+1)/\(ndg x=0\/10^(ndg x-1)<=2^(x-1))/\ndg x<=19:=dc
def Uk{n k:Nat}(h1:10^k<=n)(h2:n<10^(k+1)):(dd n).length=k+1:=by
 have a:=(N5 (n:=n) (k:=k+1)).2 h2
 have b:¬ (dd n).length<=k:=fun e=>by have:=N5.1 e;omega
 omega
def B1i{d:Nat}(h0:d≠0)(h:d<2^64):(dd d).length=ndg (L8 d)+(if 10^ndg (L8 d)<=d then 1 else 0):=by
 have g:=Dx h
 obtain ⟨c,f⟩:=Bi h0
 obtain ⟨e,a,i⟩:=A6t (L8 d) o
 split
 ·rename_i b
  exact Uk b o
 ·rename_i b
  rcases a with a|a
  ·grind
  ·obtain ⟨k,hk⟩:∃ k,ndg (L8 d)=k+1:=by
    by_cases j:ndg (L8 d)=0
    ·grind
    ·exact ⟨ndg (L8 d)-1,o⟩
   rw [hk] at b a ⊢
   rw [Nat.add_sub_cancel] at a
   exact Uk o o
def A8h(w n:Nat):pad (w+2) n=pad w (n/100)++[dch (n/10%10),dch (n%10)]:=by
 rw [Kl,Kl,fQ];simp
def A2d(n:Nat)(h:n=0):pad 0 n=[]:=by subst h;simp [pad,H9]
abbrev b64:Int:=18446744073709551616
abbrev Mw(h:bG)(A:Option bL)(len:Nat)(n:Int):Prop:=Mag .u64 b64 h A len n
structure Win (k:cU) (h g:bG) (b:Nat) (e:cC) (A:Option bL) (pre:List eA) (xs:List Int) (post:List eA):Prop where
 free:g b=none
 eq:h=g.put b (.cells (pre++xs.map (bK k)++post).toArray e)
 at_:xs=[]\/A=some ⟨b,pre.length,none⟩
section
variable {k:cU} {h g:bG} {b:Nat} {e:cC} {A:Option bL} {pre post:List eA} {xs:List Int}
def Win.le(w:Win k h g b e A pre xs post):g.le h:=by rw [w.eq];exact Heap.le_put _ w.free
def Win.sl(w:Win k h g b e A pre xs post):SlI k h A xs:=by
 rcases w.at_ with rfl|a
 ·exact SlI.nil
 ·right
  refine ⟨_,a,fun i v c=>?_⟩
  rw [w.eq,D8,E4]
  grind
def Win.store{P:dM}{t:cC}(one:P.cellsOf t=1/\(P.info? t).isSome=true)(w:Win k h g b e A pre xs post){a:bL}(ha:A=some a){i v:Int}(h0:0<=i)(h1:i<xs.length){K:Unit->bG->Prop}
 (x:∀ h',Win k h' g b e A pre (xs.set i.toNat v) post->K () h'):wpH P (dK t (.pointer (some (eO a (i.toNat*1)))) (.int k v)) K h:=by
 have c:A=some ⟨b,pre.length,none⟩:=by
  rcases w.at_ with rfl|c
  ·grind
  ·exact c
 rw [ha] at c
 cases c
 rw [w.eq,D8,Nat.mul_one]
 refine At one.1 one.2 rfl rfl gz0 ?_
 refine x _ ⟨w.free,?_,.inr ha⟩
 simp_all
def Win.storeN{P:dM}{t:cC}(one:P.cellsOf t=1/\(P.info? t).isSome=true)(w:Win k h g b e A pre xs post){a:bL}(ha:A=some a){i:Nat}{v:Int}(h1:i<xs.length){K:Unit->bG->Prop}
 (x:∀ h',Win k h' g b e A pre (xs.set i v) post->K () h'):wpH P (dK t (.pointer (some (eO a (i*1)))) (.int k v)) K h:=by
 have:=w.store one ha (i:=(i:Int)) (v:=v) (K:=K) o o (by assumption)
 assumption
def Win.call{P:dM}{f:FuncId}{args:Array eA}(w:Win k h g b e A pre xs post){K:VP}(x:aW P f args g (fun r h0=>∀ h',Win k h' h0 b e A pre xs post->K r h')):aW P f args h K:=by
 rw [w.eq]
 exact FCall.frame w.free x fun r h0 a c=>c _ ⟨a,rfl,w.at_⟩
def Win.blk(k:cU)(e:cC){g:bG}{b:Nat}(hb:g b=none)(zs:List Int):Win k (Go.Proofs.YtdphgbjaijlckaaGreatDoor.blk k e g b zs) g b e (some ⟨b,0,none⟩) [] zs []:=
 ⟨hb,by simp [Go.Proofs.YtdphgbjaijlckaaGreatDoor.blk],.inr rfl⟩
def Win.sub(w:Win k h g b e A pre xs post){l m c:Nat}(hl:l<=m)(hm:m<=xs.length)(hc:xs.length<=c):
 Win k h g b e (P7 A c l 1) (pre++(xs.take l).map (bK k)) ((xs.drop l).take (m-l)) ((xs.drop m).map (bK k)++post):=by
 refine ⟨w.free,?_,?_⟩
 ·rw [w.eq]
  congr 3
  have:xs=xs.take l++((xs.drop l).take (m-l)++xs.drop m):=by
   have d:xs.drop m=(xs.drop l).drop (m-l):=by simp_all
   rw [d,cH,cH]
  grind
 ·by_cases f:m-l=0
  ·grind
  ·right
   rcases w.at_ with rfl|a
   ·grind
   ·unfold P7
    rw [iN o,a]
    simp only [Option.map_some,D8,Nat.mul_one,aR,eV,aJ]
    grind
def Win.whole{h' g':bG}(w:Win k h g b e A pre xs post){l m:Nat}(hl:l<=m)(hm:m<=xs.length){B:Option bL}{ys:List Int}(hy:ys.length=m-l)(v:Win k h' g' b e B (pre++(xs.take l).map (bK k)) ys ((xs.drop m).map (bK k)++post)):
 Win k h' g' b e A pre (xs.take l++ys++xs.drop m) post:=by
 refine ⟨v.free,?_,?_⟩
 ·rw [v.eq]
  grind
 ·rcases w.at_ with rfl|a
  ·grind
  grind
def Priv.win{n c:Nat}(p:fE h g e 1 A n c (xs.map (bK k)))(hx:xs≠[]):∃ b post,Win k h g b e A [] xs post:=by
 obtain ⟨q,l,f⟩:=p
 rcases f with ⟨r,rfl⟩|⟨b,a,j,i,rfl,m,d⟩
 ·simp_all
 ·refine ⟨b,a.drop (n*1),i,?_,.inr j⟩
  rw [cD,<- d,cH]
end
def Bh{P:dM}{t:cC}(one:P.cellsOf t=1/\(P.info? t).isSome=true){k:cU}{n:Int}{i:Nat}{g:bG}{b:Nat}{e:cC}{zs:List Int}(hi:i<zs.length){K:Unit->bG->Prop}
 (x:K () (blk k e g b (zs.set i n))):wpH P (dK t (.pointer (some (eO ⟨b,0,none⟩ (i*1)))) (.int k n)) K (blk k e g b zs):=by
 have:=N6 (P:=P) (t:=t) one (k:=k) (n:=n) (i:=(i:Int)) (g:=g) (b:=b) (e:=e) (zs:=zs) (K:=K) o (by assumption)
 assumption
def Ci{P:dM}{t e e' ty:cC}{k:cU}{bytes:Nat}(s:SliceT P t e' (.int k 0) 1 bytes){h g:bG}{b:Nat}{A:Option bL}{pre post:List eA}{xs:List Int}{n c m d:Nat}(w:Win k h g b e A pre xs post)(hn:n=xs.length){B:Option bL}{ys:List Int}(sy:SlI k h B ys)(hm:m=ys.length)(hle:ys.length<=xs.length){K:VP}
 (x:∀ h',Win k h' g b e A pre (ys++xs.drop ys.length) post->K (I ys.length) h'):wpH P (dL #[t,t] ty #[.slice A n c,.slice B m d]) K h:=by
 subst hn hm
 obtain ⟨i,r,y,l,p⟩:=s.parts
 unfold dL
 simp only [List.getElem?_toArray,aF,aH,C4,E5 s.und,J6 r,I3,Builtin.lenOf,l]
 have f:Nat.min ys.length xs.length=ys.length:=aI hle
 rw [f]
 refine J5 (s:=1) (cs:=ys.map (bK k)) (by simp) sy ?_
 cases A with
 | none=>
  rcases w.at_ with j|j
  ·have:ys=[]:=aZ gz0
   subst this
   exact x h (by assumption)
  ·cases j
 | some a=>
  simp only [C4]
  rcases w.at_ with j|j
  ·have:ys=[]:=aZ gz0
   subst this
   exact x h (by assumption)
  ·cases j
   rw [w.eq]
   refine I6 (ys.map (bK k)) pre.length 0 (pre++xs.map (bK k)++post) gz0 (fun v q=>?_) ?_
   ·obtain ⟨u,_,rfl⟩:=List.mem_map.1 q;rfl
   ·refine x _ ⟨w.free,?_,?_⟩
    ·congr 3
     unfold J7
     rw [eF,bX pre,dA rfl,eV]
     rw [eR,aT (show pre.length<=pre.length+ys.length from o),fJ,cD]
     rw [cY gz0,<- List.map_drop,eU]
     grind
    grind
def Xs{P:dM}{nm:String}{x y c:Int}(hc:0<=c/\c<=1){f:Nat × Nat × Nat->eA}:Ir P (Extern.MathBitsCarry.three nm #[U x,U y,U c] >>= fun p=>pure (f p))=some (f (x.toNat,y.toNat,c.toNat)):=by
 obtain rfl|rfl:c=0\/c=1:=o
 ·rfl
 ·rfl
def A2v:aQ=18446744073709551616:=dc
def Z8{h:bG}{K:VP}{x y c:Int}(hx:0<=x/\x<18446744073709551616)(hy:0<=y/\y<18446744073709551616)(hc:0<=c/\c<=1)(hK:K (.tuple #[U ((x+y+c)%18446744073709551616),U ((x+y+c)/18446744073709551616)]) h):ECall prog 274 #[U x,U y,U c] h K:=by
 refine A6z A0l (Xs (P:=prog) hc (f:=fun p=>fD ((p.1+p.2.1+p.2.2)%aQ) ((p.1+p.2.1+p.2.2)/aQ))) ?_
 have b:((x.toNat+y.toNat+c.toNat)%aQ:Nat)=(((x+y+c)%18446744073709551616:Int)):=by
  rw [A2v]
  omega
 have a:((x.toNat+y.toNat+c.toNat)/aQ:Nat)=(((x+y+c)/18446744073709551616:Int)):=by
  rw [A2v]
  omega
 show K (.tuple #[U ((x.toNat+y.toNat+c.toNat)%aQ:Nat),U ((x.toNat+y.toNat+c.toNat)/aQ:Nat)]) h
 grind
def Bu{h:bG}{K:VP}{x y c:Int}(hx:0<=x/\x<18446744073709551616)(hy:0<=y/\y<18446744073709551616)(hc:0<=c/\c<=1)(hK:K (.tuple #[U ((x-y-c)%18446744073709551616),U (if x-y-c<0 then 1 else 0)]) h):ECall prog 262 #[U x,U y,U c] h K:=by
 refine A6z A0k (Xs (P:=prog) hc (f:=fun p=>fD ((p.1+aQ-p.2.1-p.2.2)%aQ) (if p.1<p.2.1+p.2.2 then 1 else 0))) ?_
 have a:((x.toNat+aQ-y.toNat-c.toNat)%aQ:Nat)=(((x-y-c)%18446744073709551616:Int)):=by
  rw [A2v]
  omega
 show K (.tuple #[U ((x.toNat+aQ-y.toNat-c.toNat)%aQ:Nat),U ((if x.toNat<y.toNat+c.toNat then 1 else 0:Nat):Nat)]) h
 grind
def Bf(x y:Int):Int:=if x<y then -1 else if x>y then 1 else 0
def A2n{h:bG}{K:VP}{x:Int}(hK:K (.bool false) h):aW prog 272 #[I x] h K:=by
 refine (fnk func272) ?_
 grind
def A2m{h:bG}{K:VP}{x:Int}(hK:K (.bool false) h):aW prog 273 #[U x] h K:=by
 refine (fnk func273) ?_
 grind
def A2o{h:bG}{K:VP}{x:Int}(hK:K (.bool false) h):aW prog 195 #[I x] h K:=by
 refine (fnk func195) ?_
 have:(x != x)=false:=by simp
 rw [this];exact hK
def A3p{h:bG}{K:VP}{x y:Int}(hK:K (I (Bf x y)) h):aW prog 244 #[I x,I y] h K:=by
 refine (fnk func244) ?_
 refine A2n ⟨_,rfl,A2n ⟨_,rfl,?_⟩⟩
 unfold Bf at hK
 refine B6 (fun a=>?_) (fun a=>B6 (fun b=>?_) (fun b=>?_))
 ·grind
 ·grind
 grind
def A3m{h:bG}{K:VP}{x y:Int}(hK:K (I (Bf x y)) h):aW prog 245 #[U x,U y] h K:=by
 refine (fnk func245) ?_
 refine A2m ⟨_,rfl,A2m ⟨_,rfl,?_⟩⟩
 unfold Bf at hK
 refine B6 (fun a=>?_) (fun a=>B6 (fun b=>?_) (fun b=>?_))
 ·grind
 ·grind
 grind
def A3q{h:bG}{K:VP}{x y:Int}(hK:K (I (Bf x y)) h):aW prog 134 #[I x,I y] h K:=by
 refine (fnk func134) ?_
 refine A2o ⟨_,rfl,A2o ⟨_,rfl,?_⟩⟩
 unfold Bf at hK
 refine B6 (fun a=>?_) (fun a=>B6 (fun b=>?_) (fun b=>?_))
 ·rw [iP a] at hK;exact hK
 ·rw [iN a,iP b] at hK;exact hK
 ·rw [iN a,iN b] at hK;exact hK
def Hc{h:bG}{K:VP}{x y:Int}(hx:0<=x/\x<18446744073709551616)(hy:0<=y/\y<18446744073709551616)(hK:K (.tuple #[U (x*y/18446744073709551616),U (x*y%18446744073709551616)]) h):aW prog 214 #[U x,U y] h K:=by
 refine (fnk func214) ?_
 rw [W5 hx,W5 hy]
 simp only [Nu]
 obtain ⟨e,d,b,c,a⟩:=Wp hx hy (x1:=x/4294967296) (x0:=x%4294967296) (y1:=y/4294967296) (y0:=y%4294967296) o o o o
 generalize x/4294967296*(y/4294967296)=p11 at *
 generalize x/4294967296*(y%4294967296)=p10 at *
 generalize x%4294967296*(y/4294967296)=p01 at *
 generalize x%4294967296*(y%4294967296)=p00 at *
 rw [C1 (n:=p00) o o,C1 (n:=p10) o o,C1 (n:=p01) o o,C1 (n:=p11) o o]
 rw [C1 (n:=p10+p00/4294967296) o o,W5 o]
 rw [C1 (n:=(p10+p00/4294967296)%4294967296+p01) o o]
 rw [C1 (n:=p11+(p10+p00/4294967296)/4294967296) o o,C1 o o,D9]
 have:p11+(p10+p00/4294967296)/4294967296+((p10+p00/4294967296)%4294967296+p01)/4294967296=x*y/18446744073709551616:=by
  omega
 grind
def O5{h:bG}{K:VP}{x y c:Int}(hx:0<=x/\x<18446744073709551616)(hy:0<=y/\y<18446744073709551616)(hc:0<=c/\c<18446744073709551616)(hK:K (.tuple #[U ((x*y+c)%18446744073709551616),U ((x*y+c)/18446744073709551616)]) h):aW prog 261 #[U x,U y,U c] h K:=by
 have a:0<=x*y/\x*y<=18446744073709551615*18446744073709551615:=⟨aO hx.1 hy.1,dE o o hy.1 dc⟩
 refine (fnk func261) ?_
 refine Hc hx hy ⟨_,_,rfl,?_⟩
 refine Z8 o hc o ⟨_,_,rfl,?_⟩
 rw [C1 o o]
 grind
def A95(a:Array UInt8):({ data:=a }:ByteArray)=bs a.toList:=by simp [bs]
def A2w:List UInt8:=[0,1,2,2,3,3,3,3,4,4,4,4,4,4,4,4,5,5,5,5,5,5,5,5,5,5,5,5,5,5,5,5]++aE 32 6++aE 64 7++aE 128 8
def A02:∀ i,i<256->(A2w[i]?).map UInt8.toNat=some (L8 i):=dc
def Ri{x s:Nat}(h:2^s<=x):L8 x=s+L8 (x/2^s):=by
 have b:0<2^s:=cX dc
 have a:x/2^s≠0:=by
  simp_all
 have:=Pg (l:=x%2^s) (t:=x/2^s) (j:=s) (fC _ b) a
 rw [Nat.mod_add_div] at this
 exact this
def Yp{h:bG}{K:VP}{x:Nat}(hx:x<18446744073709551616)(hK:K (I (L8 x)) h):aW prog 266 #[U x] h K:=by
 refine A48 _ ?_
 have p:∀ (y s:Nat),s<=64->dF (y:Int) (2^(min ((s:Int)).toNat 64))=((y/2^s:Nat):Int):=by
  grind
 refine ⟨fun l a=>∃ (y n:Nat),l=[U y,I n]/\a=h/\y<4294967296/\L8 x=n+L8 y/\n<=32,B6 (fun d=>?_) (fun d=>?_),?_⟩
 ·refine ⟨x/2^32,32,?_,rfl,o,Ri o,o⟩
  grind
 ·exact ⟨x,0,rfl,rfl,o,o,o⟩
 rintro f b a ⟨y,n,m,rfl,j,e,q⟩
 obtain ⟨rfl,rfl⟩:f=(y:Int)/\b=(n:Int):=gz0
 refine ⟨fun l i=>∃ (y n:Nat),l=[U y,I n]/\i=a/\y<65536/\L8 x=n+L8 y/\n<=48,B6 (fun d=>?_) (fun d=>?_),?_⟩
 ·refine ⟨y/2^16,n+16,?_,rfl,o,by rw [e,Ri (x:=y) (s:=16) o];omega,o⟩
  rw [show (16:Int)=((16:Nat):Int) from rfl,p y 16 o,B7 o o];rfl
 ·grind
 rintro f b a ⟨y,n,m,rfl,j,e,q⟩
 obtain ⟨rfl,rfl⟩:f=(y:Int)/\b=(n:Int):=gz0
 refine ⟨fun l i=>∃ (y n:Nat),l=[U y,I n]/\i=a/\y<256/\L8 x=n+L8 y/\n<=56,B6 (fun d=>?_) (fun d=>?_),?_⟩
 ·refine ⟨y/2^8,n+8,?_,rfl,o,by rw [e,Ri (x:=y) (s:=8) o];omega,o⟩
  rw [show (8:Int)=((8:Nat):Int) from rfl,p y 8 o,B7 o o];rfl
 ·grind
 rintro f b a ⟨y,n,m,rfl,j,e,q⟩
 obtain ⟨rfl,rfl⟩:f=(y:Int)/\b=(n:Int):=gz0
 rw [Of o o,aC]
 have t:=A02 y j
 cases hc:A2w[y]? with
 | none=>grind
 | some c=>
  have g:c.toNat=L8 y:=gz0
  refine ⟨c,⟨o,?_⟩,?_⟩
  ·try unfold Yo
   rw [A95,Nd];exact hc
  ·have r:L8 y<=8:=Dx (k:=8) o
   rw [g,B7 (n:=((L8 y:Nat):Int)) o o,B7 o o,<- Int.natCast_add,<- e]
   exact hK
def N9{h:bG}{K:VP}{x:Nat}(hx:x<18446744073709551616)(hK:K (I ((64-L8 x:Nat):Int)) h):aW prog 258 #[U x] h K:=by
 refine (fnk func258) ?_
 refine Yp hx ⟨_,rfl,?_⟩
 have a:L8 x<=64:=Dx (k:=64) o
 rw [B7 o o]
 have:(64:Int)-((L8 x:Nat):Int)=((64-L8 x:Nat):Int):=o
 rw [this];exact hK
def Uo{a b:Int}{s:Nat}(ha:0<=a)(hb:0<=b/\b<2^s)(hab:a*2^s+b<18446744073709551616):bor .u64 (a*2^s) b=a*2^s+b:=by
 have d:0<=a*2^s:=aO ha o
 rw [Xc o o]
 have e:(a*2^s).toNat=2^s*a.toNat:=by
  grind
 have c:b.toNat<2^s:=by
  grind
 rw [e,Yl c,<- e];omega
def S5{s:Nat}(hs:s<=64):(2:Int)^s*2^(64-s)=18446744073709551616:=by
 rw [<- aS,show s+(64-s)=64 from o];decide
def A51{x:Int}{s:Nat}(hs:s<=64):dF x (2^(min s 64))=x/2^s:=by
 grind
def Est.exact{B top u2 v1 v2 U V:Int}(e:Est B 1 top u2 0 v1 v2 0 U V){q:Int}(h:q*(v1*B+v2)<=top*B+u2):q*V<=U:=by
 have a:=e.hU
 have b:=e.hV
 grind
section
variable {h:bG} {K:VP}
def A3j{T u2 v1 v2 X Y:Int}{hp:bG}{J:Int->bG->Prop}(es:Est 4294967296 1 T u2 0 v1 v2 0 X Y)(_hT:T<18446744073709551616)
 (hJ:∀ q,0<=q->q*Y<=X->X<(q+1)*Y->J q hp):
 ∃ (Inv:Int->Int->bG->Prop) (mu:Int->Int->bG->Nat),Inv (T/v1) (T%v1) hp/\
  ∀ q r hp1,Inv q r hp1->(q>=4294967296->Inv q r hp1)/\0<=q/\q<=4294967297/\0<=r/\r<4294967296/\hp1=hp/\
   (q<4294967296->¬ (q*v2>4294967296*r+u2)->J q hp1)/\
   ((q>=4294967296\/q*v2>4294967296*r+u2)->1<=q/\(r+v1>=4294967296->J (q-1) hp1)/\(r+v1<4294967296->Inv (q-1) (r+v1) hp1/\mu (q-1) (r+v1) hp1<mu q r hp1)):=by
 obtain ⟨D,E⟩:=es.first
 have m:=es.init
 have B:=es.v1r
 have n:=es.v2r
 have x:=es.u2r
 have c:=es.top0
 have l:0<=T/v1:=bJ c o
 have y:=aL T v1
 have k:=aP T (show v1≠0 from o)
 have z:=aK T (show 0<v1 from o)
 refine ⟨fun q r hp1=>hp1=hp/\0<=q/\q<=4294967297/\0<=r/\r<4294967296/\q*v1+r=T/\X<(q+1)*Y,fun q _ _=>q.toNat,⟨rfl,l,o,k,o,gz0,m⟩,?_⟩
 rintro q r hp1 ⟨rfl,f,s,t,p,j,b⟩
 have key:q*(v1*4294967296+v2)=(T-r)*4294967296+q*v2:=gz0
 refine ⟨fun _=>⟨rfl,f,s,t,p,j,b⟩,f,s,t,p,rfl,fun g C=>hJ q f (es.exact o) b,fun e=>?_⟩
 have w:X<q*Y:=by
  rcases e with g|g
  ·exact es.big g
  ·exact es.low f o
 have i:1<=q:=by
  grind
 have a:X<(q-1+1)*Y:=gz0
 have d:(q-1)*v1+(r+v1)=T:=gz0
 refine ⟨i,fun A=>?_,fun A=>⟨⟨rfl,o,o,o,o,d,a⟩,gz0⟩⟩
 have u:(q-1)*(v1*4294967296+v2)=(T-(r+v1))*4294967296+(q-1)*v2:=gz0
 have g:(q-1)*v2<=4294967296*v2:=aD o n.1
 exact hJ (q-1) o (es.exact o) a
def Kp{hi lo:Int}{y:Nat}(hhi:0<=hi/\hi<y)(hlo:0<=lo/\lo<18446744073709551616)(hy:y<18446744073709551616)
 (hK:K (.tuple #[U ((hi*18446744073709551616+lo)/y),U ((hi*18446744073709551616+lo)%y)]) h):aW prog 264 #[U hi,U lo,U y] h K:=by
 refine A49 _ _ _ ?_
 unfold A77
 refine D5 (fun e=>absurd e o) (fun _=>?_)
 refine B6 (fun e=>absurd e o) (fun _=>?_)
 refine D5 (fun e=>?_) (fun a2=>?_)
 ·refine B6 (fun e=>absurd e o) (fun _=>?_)
  refine B6 (fun e=>absurd e o) (fun _=>?_)
  subst e
  rw [dR,cK] at hK
  rw [aX hlo.1,dC hlo.1,C1 (bJ hlo.1 o) (bZ (dO _ hlo.1) hlo.2)]
  exact hK
 refine N9 hy ⟨_,rfl,?_⟩
 have am:y≠0:=o
 obtain ⟨bf,bb⟩:=Bi am
 have az:L8 y<=64:=Dx (k:=64) o
 have ba:1<=L8 y:=gz0
 obtain ⟨s,hs⟩:∃ s,s=64-L8 y:=⟨_,rfl⟩
 rw [<- hs]
 have a0:s<64:=o
 have j:0<(2:Int)^s:=bI dc
 have M:=S5 (s:=s) o
 have ai:0<(2:Int)^(64-s):=bI dc
 have ah:L8 y=64-s:=o
 have ap:(y:Int)<2^(64-s):=by
  grind
 have ac:(2:Int)^(63-s)<=y:=by
  grind
 have D:(2:Int)^s*2^(63-s)=9223372036854775808:=by
  rw [<- aS,show s+(63-s)=63 from o];decide
 have ag:C3 (s:Int)=(s:Int):=C1 o o
 have aa:C3 ((64:Int)-s)=((64-s:Nat):Int):=by rw [C1 o o];omega
 have E:(y:Int)*2^s<18446744073709551616:=by
  rw [<- M,aU];exact bM ap j
 have ay:9223372036854775808<=(y:Int)*2^s:=by
  rw [<- D,aU (y:Int)];exact aG ac o
 have eY:C3 ((y:Int)*2^(min s 64))=(y:Int)*2^s:=by rw [aI o,C1 o E]
 have a8:hi*2^s+2^s<=(y:Int)*2^s:=by
  have:=aD (show hi+1<=(y:Int) from o) (aM j)
  grind
 have Q:0<=hi*2^s:=aO hhi.1 o
 have X:0<=lo/2^(64-s)/\lo/2^(64-s)<2^s:=by
  refine ⟨bJ hlo.1 o,aY ai ?_⟩
  omega
 have eT:bor .u64 (C3 (hi*2^(min s 64))) (dF lo (2^(min (64-s) 64)))=hi*2^s+lo/2^(64-s):=by
  rw [aI (show s<=64 from o),C1 Q o,A51 o,Uo hhi.1 X o]
 have eL:C3 (lo*2^(min s 64))=lo*2^s%18446744073709551616:=by rw [aI o,D9]
 have a9:0<=lo*2^s%18446744073709551616/\lo*2^s%18446744073709551616<18446744073709551616:=⟨aP _ dc,aK _ dc⟩
 have hN:(hi*18446744073709551616+lo)*2^s=(hi*2^s+lo/2^(64-s))*18446744073709551616+lo*2^s%18446744073709551616:=by
  have d1:lo*2^s/18446744073709551616=lo/2^(64-s):=by
   rw [<- M,aU lo,Int.mul_ediv_mul_of_pos _ _ j]
  grind
 generalize hTT:hi*2^s+lo/2^(64-s)=T at *
 generalize hLL:lo*2^s%18446744073709551616=L at *
 generalize hYY:(y:Int)*2^s=Y at *
 have t:0<=T/\T<Y:=o
 unfold Va Vc Uz Vb
 simp only [ag,aa,aC,eY,eT,eL,Nu]
 rw [W5 o,W5 o]
 have e1:Est 4294967296 1 T (L/4294967296) 0 (Y/4294967296) (Y%4294967296) 0 (T*4294967296+L/4294967296) Y:=
  ⟨dc,dc,o,o,o,o,o,o,t.1,o,o⟩
 refine B6 (fun e=>absurd e o) (fun _=>?_)
 refine B6 (fun e=>absurd e o) (fun _=>?_)
 refine B6 (fun e=>absurd e o) (fun _=>?_)
 refine B6 (fun e=>absurd e o) (fun _=>?_)
 refine B6 (fun e=>absurd e o) (fun _=>?_)
 have W:∀ {q w:Int},0<=q->q<=4294967296->0<=w->w<4294967296->0<=q*w/\q*w<18446744073709551616:=by
  intro q w a b c d
  refine ⟨aO a c,?_⟩
  have:=dE b (show w<=4294967295 from o) c dc
  omega
 refine ⟨fun l hp=>∃ q,l=[U q]/\hp=h/\0<=q/\q*Y<=T*4294967296+L/4294967296/\T*4294967296+L/4294967296<(q+1)*Y,?_,?_⟩
 ·obtain ⟨Inv,mu,i0,st⟩:=A3j (hp:=h) (J:=fun q hp=>∃ i,[U q]=[U i]/\hp=h/\0<=i/\i*Y<=T*4294967296+L/4294967296/\T*4294967296+L/4294967296<(i+1)*Y) e1 o (fun q a b c=>⟨q,rfl,rfl,a,b,c⟩)
  refine ⟨fun l hp=>∃ q r,l=[U q,U r]/\Inv q r hp,fun l hp=>mu (iAt l 0) (iAt l 1) hp,⟨T/(Y/4294967296),T%(Y/4294967296),?_,i0⟩,?_⟩
  ·have dm:=aL T (Y/4294967296)
   have F:=bJ t.1 (show 0<=Y/4294967296 from o)
   have d1:T/(Y/4294967296)<=T:=dO _ t.1
   have d2:=aP T (show Y/4294967296≠0 from o)
   rw [aX t.1,C1 (n:=T/(Y/4294967296)) F o,aU (T/(Y/4294967296))]
   have d3:=aO (show 0<=Y/4294967296 from o) F
   rw [C1 (n:=Y/4294967296*(T/(Y/4294967296))) d3 o,C1 o o]
   have:T-Y/4294967296*(T/(Y/4294967296))=T%(Y/4294967296):=o
   rw [this]
  rintro q r p ⟨i,r',hl,hI⟩
  obtain ⟨rfl,rfl⟩:q=i/\r=r':=by simpa using hl
  obtain ⟨_,f,g,r0,r1,rfl,ok,C⟩:=st q r p hI
  have H:=W (q:=4294967296) (w:=r) o o r0 r1
  refine ⟨fun l hp=>l=[]/\hp=p/\(q>=4294967296\/q*(Y%4294967296)>4294967296*r+L/4294967296),B6 (fun O=>⟨rfl,rfl,.inl O⟩) (fun O=>?_),?_⟩
  ·have N:=W (q:=q) (w:=Y%4294967296) f o o o
   rw [C1 N.1 N.2,C1 H.1 H.2,C1 (n:=4294967296*r+L/4294967296) o o]
   exact B6 (fun B=>⟨rfl,rfl,.inr B⟩) (fun B=>ok o B)
  ·rintro ak ⟨_,rfl,m⟩
   obtain ⟨g1,g2,V⟩:=C m
   rw [C1 (n:=r+Y/4294967296) o o,C1 (n:=q-1) o o]
   exact B6 (fun G=>g2 G) (fun G=>⟨⟨_,_,rfl,(V o).1⟩,(V o).2⟩)
 rintro g x ⟨ae,a7,rfl,aq,a5,be⟩
 obtain rfl:g=ae:=gz0
 have ax:g<4294967296:=by
  by_cases z:g<4294967296
  ·exact z
  ·have:=aD (show 4294967296<=g from o) (show 0<=Y from o);omega
 have bg:(g+1)*Y=g*Y+Y:=gz0
 have a1:0<=g*Y:=aO aq o
 have af:C3 (C3 (C3 (T*4294967296)+L/4294967296)-C3 (g*Y))=T*4294967296+L/4294967296-g*Y:=by
  simp only [D9];omega
 simp only [af]
 generalize hRR:T*4294967296+L/4294967296-g*Y=R at *
 have u:0<=R/\R<Y:=o
 refine B6 (fun e=>absurd e o) (fun _=>?_)
 have e2:Est 4294967296 1 R (L%4294967296) 0 (Y/4294967296) (Y%4294967296) 0 (R*4294967296+L%4294967296) Y:=
  ⟨dc,dc,o,o,o,o,o,o,u.1,o,o⟩
 refine ⟨fun l hp=>∃ q,l=[U q]/\hp=x/\0<=q/\q*Y<=R*4294967296+L%4294967296/\R*4294967296+L%4294967296<(q+1)*Y,?_,?_⟩
 ·obtain ⟨Inv,mu,i0,st⟩:=A3j (hp:=x) (J:=fun q hp=>∃ i,[U q]=[U i]/\hp=x/\0<=i/\i*Y<=R*4294967296+L%4294967296/\R*4294967296+L%4294967296<(i+1)*Y) e2 o (fun q a b c=>⟨q,rfl,rfl,a,b,c⟩)
  refine ⟨fun l hp=>∃ q r,l=[U r,U q]/\Inv q r hp,fun l hp=>mu (iAt l 1) (iAt l 0) hp,⟨R/(Y/4294967296),R%(Y/4294967296),?_,i0⟩,?_⟩
  ·have dm:=aL R (Y/4294967296)
   have F:=bJ u.1 (show 0<=Y/4294967296 from o)
   have d1:R/(Y/4294967296)<=R:=dO _ u.1
   have d2:=aP R (show Y/4294967296≠0 from o)
   rw [aX u.1,C1 (n:=R/(Y/4294967296)) F o,aU (R/(Y/4294967296))]
   have d3:=aO (show 0<=Y/4294967296 from o) F
   rw [C1 (n:=Y/4294967296*(R/(Y/4294967296))) d3 o,C1 o o]
   have:R-Y/4294967296*(R/(Y/4294967296))=R%(Y/4294967296):=o
   rw [this]
  rintro r q p ⟨i,r',hl,hI⟩
  obtain ⟨rfl,rfl⟩:r=r'/\q=i:=by simpa using hl
  obtain ⟨_,f,g,r0,r1,rfl,ok,C⟩:=st q r p hI
  have H:=W (q:=4294967296) (w:=r) o o r0 r1
  refine ⟨fun l hp=>l=[]/\hp=p/\(q>=4294967296\/q*(Y%4294967296)>4294967296*r+L%4294967296),B6 (fun O=>⟨rfl,rfl,.inl O⟩) (fun O=>?_),?_⟩
  ·have N:=W (q:=q) (w:=Y%4294967296) f o o o
   rw [C1 N.1 N.2,C1 H.1 H.2,C1 (n:=4294967296*r+L%4294967296) o o]
   exact B6 (fun B=>⟨rfl,rfl,.inr B⟩) (fun B=>ok o B)
  ·rintro ak ⟨_,rfl,m⟩
   obtain ⟨g1,g2,V⟩:=C m
   rw [C1 (n:=r+Y/4294967296) o o,C1 (n:=q-1) o o]
   exact B6 (fun G=>g2 G) (fun G=>⟨⟨_,_,rfl,(V o).1⟩,(V o).2⟩)
 rintro f bd ⟨aj,a3,rfl,ao,a6,a4⟩
 obtain rfl:f=aj:=gz0
 refine B6 (fun e=>absurd e o) (fun _=>?_)
 have ar:f<4294967296:=by
  by_cases z:f<4294967296
  ·exact z
  ·have:=aD (show 4294967296<=f from o) (show 0<=Y from o);omega
 have bc:(f+1)*Y=f*Y+Y:=gz0
 have au:0<=f*Y:=aO ao o
 have an:C3 (C3 (C3 (R*4294967296)+L%4294967296)-C3 (f*Y))=R*4294967296+L%4294967296-f*Y:=by
  simp only [D9];omega
 rw [an,C1 (n:=g*4294967296) o o,C1 (n:=g*4294967296+f) o o,A51 o]
 have aw:(hi*18446744073709551616+lo)*2^s=(g*4294967296+f)*(y*2^s)+(R*4294967296+L%4294967296-f*Y):=by
  grind
 have A:R*4294967296+L%4294967296-f*Y=(hi*18446744073709551616+lo-(g*4294967296+f)*y)*2^s:=gz0
 rw [A,eE _ (show (2:Int)^s≠0 from o)]
 have al:0<=hi*18446744073709551616+lo-(g*4294967296+f)*y:=by
  by_cases z:0<=hi*18446744073709551616+lo-(g*4294967296+f)*y
  ·exact z
  ·have:=aD (show hi*18446744073709551616+lo-(g*4294967296+f)*y <= -1 from o) (aM j);omega
 have ad:hi*18446744073709551616+lo-(g*4294967296+f)*y<y:=by
  by_cases z:hi*18446744073709551616+lo-(g*4294967296+f)*y<y
  ·exact z
  ·have:=aD (show (y:Int)<=hi*18446744073709551616+lo-(g*4294967296+f)*y from o) (aM j);omega
 have S:(hi*18446744073709551616+lo)/y=g*4294967296+f:=by
  have:hi*18446744073709551616+lo=(hi*18446744073709551616+lo-(g*4294967296+f)*y)+(g*4294967296+f)*y:=o
  rw [this,dS _ _ o,bF al ad,cK]
 have av:(hi*18446744073709551616+lo)%y=hi*18446744073709551616+lo-(g*4294967296+f)*y:=by
  rw [Int.emod_def,S,aU (y:Int)]
 grind
end
def K8{xs:List Int}(d:Dig b64 xs)(i:Nat):0<=xs.getD i 0/\xs.getD i 0<18446744073709551616:=d.getD dc i
def Ba(c:Int):0<=c%18446744073709551616/\c%18446744073709551616<b64:=⟨aP _ dc,aK _ dc⟩
section
variable {h g:bG} {K:VP} {A B:Option bL} {ac bc:Nat}
def Am{xs:List Int}(s:SlI .u64 h A xs)(hc:xs.length<=ac)(hl:xs.length<=100000000000000)(hK:∀ m,m<=xs.length->fK (xs.take m)->val b64 (xs.take m)=val b64 xs->K (.slice A m ac) h):aW prog 221 #[.slice A xs.length ac] h K:=by
 refine (fnk func221 [(2,[3],[],[I 0])]) ?_
 refine ⟨fun l d=>∃ m:Nat,l=[I m]/\m<=xs.length/\d=h/\val b64 (xs.take m)=val b64 xs,fun l _=>(iAt l 0).toNat,⟨xs.length,rfl,aV _,rfl,by rw [bO]⟩,?_⟩
 rintro g p ⟨m,f,c,rfl,a⟩
 obtain rfl:g=(m:Int):=gz0
 refine B6 (fun n=>?_) (fun n=>?_)
 ·obtain ⟨j,rfl⟩:∃ j,m=j+1:=⟨m-1,o⟩
  have e:B9 (((j+1:Nat):Int)-1)=(j:Int):=by rw [B7 o o];omega
  rw [e]
  have k:=K4 b64 (xs:=xs) (i:=j) o
  refine s.load rfl o o ?_
  refine D5 (fun b=>?_) (fun b=>?_)
  ·exact ⟨⟨j,rfl,o,rfl,gz0⟩,by simp only [iAt,aF];omega⟩
  ·refine ⟨⟨o,o⟩,?_⟩
   rw [G0,aC,bU,bU]
   refine hK (j+1) c ?_ a
   rw [Kw o];exact Tn b
 ·have:m=0:=o
  subst this
  refine ⟨⟨o,o⟩,?_⟩
  rw [G0,aC,bU,bU]
  exact hK 0 o Norm.nil a
def N2{xs:List Int}(s:SlI .u64 h A xs)(hd:Dig b64 xs)(hc:xs.length<=ac)(hl:xs.length<=100000000000000)(hK:∀ m,m<=xs.length->Mw h A m (val b64 xs)->K (.slice A m ac) h):aW prog 221 #[.slice A xs.length ac] h K:=by
 refine Am s hc hl ?_
 intro m a d b
 refine hK m a ⟨xs.take m,gz0,?_,hd.take m,d,b⟩
 have:=s.cut (c:=ac) (l:=0) (m:=m) o a hc
 simpa [G0] using this
def U5{w:Int}(hw:0<=w/\w<18446744073709551616)(hK:∀ A m c h',h.le h'->m<=c->Mw h' A m w->K (.slice A m c) h'):aW prog 233 #[U w] h K:=by
 refine (fnk func233) ?_
 refine D5 (fun e=>?_) (fun e=>?_)
 ·subst e;exact hK none 0 0 h (B4 h) (aV _) Mag.zero
 ·refine T6 L7 rfl ?_
  intro b a
  exact ⟨_,_,_,rfl,hK _ _ _ _ (Heap.le_put _ a) (aV _) ⟨[w],rfl,SlI.new h b [w] 230 _,Dig.one hw,by simpa [fK] using e,Q9 _ _⟩⟩
def F2{x y:Int}{an bn:Nat}(ma:Mw h A an x)(mb:Mw h B bn y)(hl:an<=100000000000000)(hK:K (I (Bf x y)) h):aW prog 196 #[.slice A an ac,.slice B bn bc] h K:=by
 obtain ⟨a,rfl,p,d,C,rfl⟩:=ma
 obtain ⟨b,rfl,m,c,s,rfl⟩:=mb
 refine (fnk func196 [(4,[5],[],[I 0])]) ?_
 refine G7 (fun u=>?_) (fun u=>?_)
 ·refine A3p ⟨_,rfl,?_⟩
  have:Bf (a.length:Int) (b.length:Int)=Bf (val b64 a) (val b64 b):=by
   unfold Bf
   by_cases g:a.length<b.length
   ·have:=Ei dc d c s g
    omega
   ·have:=Ei dc c d C o
    omega
  grind
 ·have n:a.length=b.length:=o
  refine ⟨fun l q=>∃ k:Nat,l=[I ((k:Int)-1)]/\k<=a.length/\q=h/\a.drop k=b.drop k,fun l _=>(iAt l 0+1).toNat,⟨a.length,?_,aV _,rfl,?_⟩,?_⟩
  ·rw [B7 o o]
  ·grind
  rintro i E ⟨k,z,D,rfl,f⟩
  obtain rfl:i=(k:Int)-1:=gz0
  refine B6 (fun g=>?_) (fun g=>?_)
  ·obtain ⟨j,rfl⟩:∃ j,k=j+1:=⟨k-1,o⟩
   have e:((j+1:Nat):Int)-1=(j:Int):=o
   rw [e]
   refine p.load rfl o o ?_
   refine m.load rfl o o ?_
   rw [aC]
   refine G7 (fun w=>?_) (fun w=>?_)
   ·refine p.load rfl o o ?_
    refine m.load rfl o o ?_
    refine A3m ⟨_,rfl,B4 _,?_⟩
    have:Bf (a.getD j 0) (b.getD j 0)=Bf (val b64 a) (val b64 b):=by
     unfold Bf
     by_cases t:a.getD j 0<b.getD j 0
     ·have:=Eh dc d c (i:=j) o o f t
      omega
     ·have:=Eh dc c d (i:=j) o o f.symm o
      omega
    grind
   ·rw [B7 o o]
    refine ⟨⟨j,rfl,o,rfl,?_⟩,by simp only [iAt,aF];omega⟩
    rw [cL (show j<a.length from o),cL (show j<b.length from o),f]
    grind
  ·have r:k=0:=o
   have:Bf (val b64 a) (val b64 a)=0:=by unfold Bf;omega
   grind
def Bg{xs:List Int}{an:Nat}(s:SlI .u64 h A xs)(hn:an=xs.length)(hl:xs.length<=17500000000000)(hK:∀ A' c' h' g',h.le g'->fE h' g' 230 1 A' xs.length c' (xs.map (bK .u64))->K (.slice A' xs.length c') h'):aW prog 229 #[.slice A an ac] h K:=by
 subst hn
 refine (fnk func229) ?_
 refine Br.of (fun e=>?_) (fun e=>?_)
 ·have j:xs=[]:=by
   rcases s with l|⟨a,k,_⟩
   ·simp_all
   grind
  subst j
  exact hK none 0 h h (B4 h) (by simpa using Priv.nil _ _ _ _)
 ·refine Fq L7 ?_
  intro b g
  refine ⟨_,_,_,rfl,?_⟩
  have c:=Heap.le_put (h:=h) (b:=b) (.cells #[] 230) g
  refine Hv L7 (Priv.nil _ _ _ _) (ys:=xs.map (bK .u64)) (by simp) (SlI.mono c s) (fun v f=>?_) o o ?_
  ·obtain ⟨a,_,rfl⟩:=List.mem_map.1 f;rfl
  ·intro A' c' h' g' i d
   simp only [Nat.zero_add,cD] at d ⊢
   exact ⟨_,_,_,rfl,hK _ _ _ _ (B0 c i) d⟩
variable {b:Nat} {e:cC} {pre post:List eA}
def Dz{xs ys:List Int}{an bn:Nat}(w:Win .u64 h g b e A pre xs post)(hn:an=xs.length)(sy:SlI .u64 g B ys)(hm:bn=ys.length)(dx:Dig b64 xs)(dy:Dig b64 ys)(hle:ys.length<=xs.length)(hfit:val b64 xs+val b64 ys<b64^xs.length)(hl:xs.length<=100000000000000)
 (hK:∀ xs' h',xs'.length=xs.length->Dig b64 xs'->val b64 xs'=val b64 xs+val b64 ys->Win .u64 h' g b e A pre xs' post->K (.tuple #[]) h'):aW prog 248 #[.slice A an ac,.slice B bn bc] h K:=by
 subst hn hm
 refine (fnk func248 [(2,[4,10],[],[U 0,I 0]),(7,[4,7],[],[U 0,I 0])]) ?_
 refine ⟨fun l s=>∃ (k:Nat) (c:Int) (zs:List Int),l=[U c,I k]/\k<=ys.length/\zs.length=xs.length/\Dig b64 zs/\(0<=c/\c<=1)/\Win .u64 s g b e A pre zs post/\zs.drop k=xs.drop k/\val b64 (zs.take k)+c*b64^k=val b64 (xs.take k)+val b64 (ys.take k),fun l _=>ys.length-(iAt l 1).toNat,⟨0,0,xs,rfl,o,rfl,dx,o,w,rfl,by rfl⟩,?_⟩
 rintro c i s ⟨k,D,zs,G,M,j,m,y,f,d,x⟩
 obtain ⟨rfl,rfl⟩:c=D/\i=(k:Int):=gz0
 refine B6 (fun F=>?_) (fun F=>?_)
 ·have O:=K8 dy k
  have z:=K8 m k
  have q:=D7 d
  have E:=C2 b64 xs k
  have Q:=C2 b64 ys k
  refine (sy.mono f.le).load rfl o o ?_
  refine f.sl.load j.symm o o ?_
  simp only [aC]
  refine Z8 z O y ⟨_,_,rfl,?_⟩
  obtain ⟨a,t,_⟩:=SlV.at f.sl (i:=k) gz0
  refine ⟨a,t,o,o,f.storeN (i:=k) E9 t o ?_⟩
  intro h' C
  rw [B7 (n:=(k:Int)+1) o o]
  refine ⟨⟨k+1,_,_,rfl,o,gz0,m.set (Ba _),o,C,?_,?_⟩,by simp only [iAt,aF,aH];omega⟩
  ·rw [C9 o];exact D4 d
  ·rw [C6 o,E6,aJ,aI o,bB,W4,E,Q,<- q]
   grind
 ·have p:k=ys.length:=o
  subst p
  rw [bO] at x
  refine ⟨fun l s=>∃ (k:Nat) (c:Int) (zs:List Int),l=[U c,I k]/\ys.length<=k/\k<=xs.length/\zs.length=xs.length/\Dig b64 zs/\(0<=c/\c<=1)/\Win .u64 s g b e A pre zs post/\zs.drop k=xs.drop k/\val b64 (zs.take k)+c*b64^k=val b64 (xs.take k)+val b64 ys,fun l _=>xs.length-(iAt l 1).toNat,⟨ys.length,c,zs,rfl,o,o,j,m,y,f,d,x⟩,?_⟩
  rintro c i s ⟨k,D,zs,G,N,M,j,m,y,f,d,x⟩
  obtain ⟨rfl,rfl⟩:c=D/\i=(k:Int):=gz0
  have u:=E8 b64 zs (i:=k) o
  have r:=E8 b64 xs (i:=k) o
  refine G7 (fun L=>B6 (fun F=>?_) (fun F=>?_)) (fun L=>?_)
  ·have z:=K8 m k
   have q:=D7 d
   have E:=C2 b64 xs k
   refine f.sl.load j.symm o o ?_
   simp only [aC]
   refine Z8 z o y ⟨_,_,rfl,?_⟩
   obtain ⟨a,t,_⟩:=SlV.at f.sl (i:=k) gz0
   refine ⟨a,t,o,o,f.storeN (i:=k) E9 t o ?_⟩
   intro h' C
   rw [B7 (n:=(k:Int)+1) o o]
   refine ⟨⟨k+1,_,_,rfl,o,o,gz0,m.set (Ba _),o,C,?_,?_⟩,by simp only [iAt,aF,aH];omega⟩
   ·rw [C9 o];exact D4 d
   ·rw [C6 o,E6,aJ,aI o,bB,W4,E,<- q]
    grind
  ·exfalso
   have p:k=xs.length:=o
   subst p
   have H:c=1:=o
   subst H
   rw [bO] at x
   have:=C5 dc (m.take xs.length)
   omega
  grind
def As{xs ys:List Int}{an bn:Nat}(w:Win .u64 h g b e A pre xs post)(hn:an=xs.length)(sy:SlI .u64 g B ys)(hm:bn=ys.length)(dx:Dig b64 xs)(dy:Dig b64 ys)(hle:ys.length<=xs.length)(hfit:val b64 ys<=val b64 xs)(hl:xs.length<=100000000000000)
 (hK:∀ xs' h',xs'.length=xs.length->Dig b64 xs'->val b64 xs'=val b64 xs-val b64 ys->Win .u64 h' g b e A pre xs' post->K (.tuple #[]) h'):aW prog 249 #[.slice A an ac,.slice B bn bc] h K:=by
 subst hn hm
 refine (fnk func249 [(2,[4,10],[],[U 0,I 0]),(7,[4,7],[],[U 0,I 0])]) ?_
 have key:∀ {z y c:Int},(0<=z/\z<18446744073709551616)->(0<=y/\y<18446744073709551616)->(0<=c/\c<=1)->(z-y-c)%18446744073709551616=z-y-c+18446744073709551616*(if z-y-c<0 then 1 else 0):=by
  omega
 refine ⟨fun l t=>∃ (k:Nat) (c:Int) (zs:List Int),l=[U c,I k]/\k<=ys.length/\zs.length=xs.length/\Dig b64 zs/\(0<=c/\c<=1)/\Win .u64 t g b e A pre zs post/\zs.drop k=xs.drop k/\val b64 (zs.take k)=val b64 (xs.take k)-val b64 (ys.take k)+c*b64^k,fun l _=>ys.length-(iAt l 1).toNat,⟨0,0,xs,rfl,o,rfl,dx,o,w,rfl,by rfl⟩,?_⟩
 rintro c i t ⟨k,E,zs,L,O,j,m,q,f,d,u⟩
 obtain ⟨rfl,rfl⟩:c=E/\i=(k:Int):=gz0
 refine B6 (fun H=>?_) (fun H=>?_)
 ·have M:=K8 dy k
  have s:=K8 m k
  have p:=D7 d
  have F:=C2 b64 xs k
  have R:=C2 b64 ys k
  refine (sy.mono f.le).load rfl o o ?_
  refine f.sl.load j.symm o o ?_
  simp only [aC]
  refine Bu s M q ⟨_,_,rfl,?_⟩
  obtain ⟨a,x,_⟩:=SlV.at f.sl (i:=k) gz0
  refine ⟨a,x,o,o,f.storeN (i:=k) E9 x o ?_⟩
  intro h' D
  rw [B7 (n:=(k:Int)+1) o o]
  refine ⟨⟨k+1,_,_,rfl,o,by simp_all,m.set (Ba _),o,D,?_,?_⟩,by simp only [iAt,aF,aH];omega⟩
  ·rw [C9 o];exact D4 d
  ·rw [C6 o,E6,aJ,aI o,bB,F,R,<- p,u,key s M q]
   grind
 ·have G:k=ys.length:=o
  subst G
  rw [bO] at u
  refine ⟨fun l t=>∃ (k:Nat) (c:Int) (zs:List Int),l=[U c,I k]/\ys.length<=k/\k<=xs.length/\zs.length=xs.length/\Dig b64 zs/\(0<=c/\c<=1)/\Win .u64 t g b e A pre zs post/\zs.drop k=xs.drop k/\val b64 (zs.take k)=val b64 (xs.take k)-val b64 ys+c*b64^k,fun l _=>xs.length-(iAt l 1).toNat,⟨ys.length,c,zs,rfl,o,o,j,m,q,f,d,u⟩,?_⟩
  rintro c i t ⟨k,E,zs,L,Q,O,j,m,q,f,d,u⟩
  obtain ⟨rfl,rfl⟩:c=E/\i=(k:Int):=gz0
  have C:=E8 b64 zs (i:=k) o
  have r:=E8 b64 xs (i:=k) o
  refine G7 (fun N=>B6 (fun H=>?_) (fun H=>?_)) (fun N=>?_)
  ·have s:=K8 m k
   have p:=D7 d
   have F:=C2 b64 xs k
   refine f.sl.load j.symm o o ?_
   simp only [aC]
   refine Bu s o q ⟨_,_,rfl,?_⟩
   obtain ⟨a,x,_⟩:=SlV.at f.sl (i:=k) gz0
   refine ⟨a,x,o,o,f.storeN (i:=k) E9 x o ?_⟩
   intro h' D
   rw [B7 (n:=(k:Int)+1) o o]
   refine ⟨⟨k+1,_,_,rfl,o,o,gz0,m.set (Ba _),o,D,?_,?_⟩,by simp only [iAt,aF,aH];omega⟩
   ·rw [C9 o];exact D4 d
   ·rw [C6 o,E6,aJ,aI o,bB,F,<- p,u,key s (y:=0) o q]
    grind
  ·exfalso
   have:=J4 dc (m.take xs.length)
   grind
  grind
def Rk{x y:Int}{an bn:Nat}(ma:Mw h A an x)(mb:Mw h B bn y)(hab:bn<=an)(hl:an<=30000000000000)(hb0:bn≠0)(hK:∀ A' m c' h',h.le h'->m<=c'->Mw h' A' m (x+y)->K (.slice A' m c') h'):
 wpH prog (Instr.makeSlice 89 (I (B9 ((an:Int)+1))) (I (B9 ((an:Int)+1)))) (fun v hp1=>∃ (t20A:Option bL) (t20n:Nat) (t20c:Nat),v= .slice t20A t20n t20c/\∀ ty,wpH prog (dL #[89,89] ty #[.slice t20A t20n t20c,.slice A an ac]) (fun v1 hp2=>∃ (t23:Int),v1=I t23/\aW prog 248 #[.slice t20A t20n t20c,.slice B bn bc] hp2 (fun r hp3=>r= .tuple #[]/\aW prog 221 #[.slice t20A t20n t20c] hp3 (fun r1 hp4=>∃ (t28A:Option bL) (t28n:Nat) (t28c:Nat),r1= .slice t28A t28n t28c/\K (.slice t28A t28n t28c) hp4))) hp1) h:=by
 obtain ⟨a,rfl,C,p,M,rfl⟩:=ma
 obtain ⟨L,rfl,u,l,G,rfl⟩:=mb
 have E:B9 ((a.length:Int)+1)=((a.length+1:Nat):Int):=by rw [B7 o o];omega
 rw [E]
 refine I5 L7 o o o ?_
 intro b t
 refine ⟨_,_,_,rfl,fun ty=>?_⟩
 have k:=Win.blk .u64 230 t (aE (a.length+1) 0)
 refine Ci L7 k (by simp) (SlI.mono k.le C) rfl (by simp) ?_
 intro H i
 refine ⟨_,rfl,?_⟩
 have c:(aE (a.length+1) (0:Int)).drop a.length=[0]:=by simp_all
 rw [c] at i
 have e:val b64 (a++[0])=val b64 a:=by rw [E6];omega
 have q:=J4 dc p
 have z:=J4 dc l
 have s:=C8 (B:=b64) dc hab
 refine Dz i (by simp) u rfl (p.append (Dig.one dc)) l gz0 ?_ gz0 ?_
 ·grind
 intro zs F w f g n
 refine ⟨rfl,?_⟩
 have d:zs.length=a.length+1:=gz0
 rw [<- d]
 refine N2 n.sl f o o ?_
 intro m D j
 rw [g,e] at j
 exact ⟨_,_,_,rfl,hK _ _ _ _ n.le D j⟩
def O1{x y:Int}{an bn:Nat}(ma:Mw h A an x)(mb:Mw h B bn y)(ha:an<=ac)(hb:bn<=bc)(hl:an<=30000000000000)(hl2:bn<=30000000000000)(hK:∀ A' m c' h',h.le h'->m<=c'->Mw h' A' m (x+y)->K (.slice A' m c') h'):aW prog 198 #[.slice A an ac,.slice B bn bc] h K:=by
 refine (fnk func198 (cs:=[(3,[0,1],[],[.slice none 0 0,.slice none 0 0])]) (wr:=[248])) ?_
 refine ⟨fun l h'=>h'=h/\∃ (A1 B1:Option bL) (a b c1 c2:Nat) (j k:Int),l=[.slice A1 a c1,.slice B1 b c2]/\Mw h A1 a j/\Mw h B1 b k/\b<=a/\a<=30000000000000/\a<=c1/\j+k=x+y,B6 (fun r=>?_) (fun r=>?_),?_⟩
 ·grind
 ·grind
 ·rintro A1 a c1 B1 b c2 w ⟨rfl,A1',B1',e,d,g,f,j,k,s,q,p,u,i,n,c⟩
  obtain ⟨⟨rfl,rfl,rfl⟩,rfl,rfl,rfl⟩:(A1=A1'/\a=e/\c1=g)/\B1=B1'/\b=d/\c2=f:=gz0
  rw [<- c] at hK
  refine D5 (fun t=>?_) (fun t=>?_)
  ·have:=(p.len_zero dc).2 o
   subst this
   rw [eK] at hK
   exact hK _ _ _ _ (B4 _) n q
  ·refine Ef _ (Rk (ac:=c1) (bc:=c2) q p u i o hK) ?_
   grind
def F8{x y:Int}{an bn:Nat}(ma:Mw h A an x)(mb:Mw h B bn y)(ha:an<=ac)(hl:an<=17500000000000)(hxy:y<=x)(hK:∀ A' m c' h',h.le h'->m<=c'->Mw h' A' m (x-y)->K (.slice A' m c') h'):aW prog 199 #[.slice A an ac,.slice B bn bc] h K:=by
 have f:bn<=an:=mb.len_le dc (bZ hxy (ma.lt dc))
 refine (fnk func199 (wr:=[249])) ?_
 refine D5 (fun n=>?_) (fun n=>?_)
 ·have:=(mb.len_zero dc).2 o
  subst this
  rw [Int.sub_zero] at hK
  exact hK _ _ _ _ (B4 _) ha ma
 ·obtain ⟨C,rfl,q,s,F,rfl⟩:=ma
  obtain ⟨E,rfl,p,r,u,rfl⟩:=mb
  refine Bg q rfl o ?_
  intro A1 c1 w z j e
  refine ⟨_,_,_,rfl,?_⟩
  obtain ⟨b,i,l⟩:=e.win gz0
  refine As l rfl (p.mono j) rfl s r f hxy o ?_
  intro zs t c a d k
  refine ⟨rfl,?_⟩
  rw [<- c]
  refine N2 k.sl a (by have:=e.2.1;omega) o ?_
  intro m D g
  rw [d] at g
  exact ⟨_,_,_,rfl,hK _ _ _ _ (B0 j k.le) (by have:=e.2.1;omega) g⟩
def Dy{zs xs:List Int}{an bn:Nat}{wd:Int}(w:Win .u64 h g b e A pre zs post)(hn:an=zs.length)(sx:SlI .u64 g B xs)(hm:bn=xs.length)(dz:Dig b64 zs)(dx:Dig b64 xs)(hle:zs.length=xs.length)(hw:0<=wd/\wd<18446744073709551616)(hl:xs.length<=100000000000000)
 (hK:∀ zs' c h',zs'.length=zs.length->Dig b64 zs'->(0<=c/\c<18446744073709551616)->val b64 zs'+c*b64^zs.length=val b64 zs+val b64 xs*wd->Win .u64 h' g b e A pre zs' post->K (U c) h'):aW prog 246 #[.slice A an ac,.slice B bn bc,U wd] h K:=by
 subst hn hm
 refine (fnk func246 [(3,[7,16],[],[U 0,I 0])]) ?_
 refine ⟨fun l r=>∃ (k:Nat) (c:Int) (d:List Int),l=[U c,I k]/\k<=xs.length/\d.length=zs.length/\Dig b64 d/\(0<=c/\c<18446744073709551616)/\Win .u64 r g b e A pre d post/\d.drop k=zs.drop k/\val b64 (d.take k)+c*b64^k=val b64 (zs.take k)+val b64 (xs.take k)*wd,fun l _=>xs.length-(iAt l 1).toNat,⟨0,0,zs,rfl,o,rfl,dz,o,w,rfl,by simp [val]⟩,?_⟩
 rintro c i r ⟨k,y,d,E,G,m,q,F,j,f,H⟩
 obtain ⟨rfl,rfl⟩:c=y/\i=(k:Int):=gz0
 refine B6 (fun C=>?_) (fun C=>?_)
 ·have s:=K8 dx k
  have u:=K8 q k
  have p:=D7 f
  have z:=C2 b64 xs k
  have D:=C2 b64 zs k
  have hm:0<=xs.getD k 0*wd/\xs.getD k 0*wd<=18446744073709551615*18446744073709551615:=⟨aO s.1 hw.1,dE o o hw.1 dc⟩
  refine (sx.mono j.le).load rfl o o ?_
  rw [aC]
  refine Hc s hw ⟨_,_,rfl,?_⟩
  generalize hmm:xs.getD k 0*wd=mm at *
  refine Z8 o F o ⟨_,_,rfl,?_⟩
  refine j.sl.load m.symm o o ?_
  rw [aC]
  refine Z8 u o o ⟨_,_,rfl,?_⟩
  obtain ⟨a,t,_⟩:=SlV.at j.sl (i:=k) gz0
  refine ⟨a,t,o,o,j.storeN (i:=k) E9 t o ?_⟩
  intro h' x
  rw [B7 (n:=(k:Int)+1) o o]
  rw [C1 (n:=mm/18446744073709551616+(mm%18446744073709551616+c+0)/18446744073709551616) o o]
  rw [C1 o o]
  refine ⟨⟨k+1,_,_,rfl,o,gz0,q.set (Ba _),o,x,?_,?_⟩,by simp only [iAt,aF,aH];omega⟩
  ·rw [C9 o];exact D4 f
  ·rw [C6 o,E6,aJ,aI o,bB,z,D,<- p]
   grind
 grind
def Ew{zs xs:List Int}{an bn:Nat}{wd:Int}(w:Win .u64 h g b e A pre zs post)(hn:an=zs.length)(sx:SlI .u64 g B xs)(hm:bn=xs.length)(dz:Dig b64 zs)(dx:Dig b64 xs)(hle:zs.length=xs.length)(hw:0<=wd/\wd<18446744073709551616)(hl:xs.length<=100000000000000)
 (hK:∀ zs' c h',zs'.length=zs.length->Dig b64 zs'->(0<=c/\c<18446744073709551616)->val b64 zs'=val b64 zs-val b64 xs*wd+c*b64^zs.length->Win .u64 h' g b e A pre zs' post->K (U c) h'):aW prog 284 #[.slice A an ac,.slice B bn bc,U wd] h K:=by
 subst hn hm
 refine (fnk func284 [(3,[7,16],[],[U 0,I 0])]) ?_
 refine ⟨fun l r=>∃ (k:Nat) (c:Int) (d:List Int),l=[U c,I k]/\k<=xs.length/\d.length=zs.length/\Dig b64 d/\(0<=c/\c<18446744073709551616)/\Win .u64 r g b e A pre d post/\d.drop k=zs.drop k/\val b64 (d.take k)=val b64 (zs.take k)-val b64 (xs.take k)*wd+c*b64^k,fun l _=>xs.length-(iAt l 1).toNat,⟨0,0,zs,rfl,o,rfl,dz,o,w,rfl,by simp [val]⟩,?_⟩
 rintro c i r ⟨k,y,d,F,H,m,q,G,j,f,E⟩
 obtain ⟨rfl,rfl⟩:c=y/\i=(k:Int):=gz0
 refine B6 (fun C=>?_) (fun C=>?_)
 ·have s:=K8 dx k
  have u:=K8 q k
  have p:=D7 f
  have z:=C2 b64 xs k
  have D:=C2 b64 zs k
  have hm:0<=xs.getD k 0*wd/\xs.getD k 0*wd<=18446744073709551615*18446744073709551615:=⟨aO s.1 hw.1,dE o o hw.1 dc⟩
  refine (sx.mono j.le).load rfl o o ?_
  rw [aC]
  refine Hc s hw ⟨_,_,rfl,?_⟩
  generalize hmm:xs.getD k 0*wd=mm at *
  refine Z8 o G o ⟨_,_,rfl,?_⟩
  refine j.sl.load m.symm o o ?_
  rw [aC]
  refine Bu u o o ⟨_,_,rfl,?_⟩
  obtain ⟨a,t,_⟩:=SlV.at j.sl (i:=k) gz0
  refine ⟨a,t,o,o,j.storeN (i:=k) E9 t o ?_⟩
  intro h' x
  rw [B7 (n:=(k:Int)+1) o o]
  rw [C1 (n:=mm/18446744073709551616+(mm%18446744073709551616+c+0)/18446744073709551616) o o]
  rw [C1 o o]
  refine ⟨⟨k+1,_,_,rfl,o,gz0,q.set (Ba _),o,x,?_,?_⟩,by simp only [iAt,aF,aH];omega⟩
  ·rw [C9 o];exact D4 f
  ·rw [C6 o,E6,aJ,aI o,bB,z,D,<- p,E]
   have key:(d.getD k 0-(mm%18446744073709551616+c+0)%18446744073709551616-0)%18446744073709551616=d.getD k 0-mm-c+18446744073709551616*(mm/18446744073709551616+(mm%18446744073709551616+c+0)/18446744073709551616+(if d.getD k 0-(mm%18446744073709551616+c+0)%18446744073709551616-0<0 then 1 else 0)):=o
   grind
 grind
end
def Ov{x z:Int}{s:Nat}(hs:s<=64)(_hx:0<=x/\x<18446744073709551616)(hz:0<=z/\z<(2:Int)^s):
 bor .u64 z (x*2^s%18446744073709551616)=z+x*2^s%18446744073709551616/\z+x*2^s%18446744073709551616<18446744073709551616/\x*2^s%18446744073709551616=2^s*(x%2^(64-s)):=by
 have g:=S5 hs
 have c:0<(2:Int)^s:=bI dc
 have k:0<(2:Int)^(64-s):=bI dc
 have a:z<18446744073709551616:=by
  have:(2:Int)^s*1<=2^s*2^(64-s):=aG o o
  omega
 have i:x*2^s%18446744073709551616=2^s*(x%2^(64-s)):=by
  rw [<- g,aU x,Int.mul_emod_mul_of_pos _ _ c]
 have e:=Ba (x*2^s)
 have j:0<=x%2^(64-s):=aP _ o
 have f:(x*2^s%18446744073709551616).toNat=2^s*(x%2^(64-s)).toNat:=by
  grind
 have d:z.toNat<2^s:=by
  grind
 have b:bor .u64 z (x*2^s%18446744073709551616)=z+x*2^s%18446744073709551616:=by
  rw [Xc ⟨hz.1,a⟩ e,f,Nat.or_comm,Yl d,<- f]
  omega
 refine ⟨b,?_,i⟩
 rw [<- b,Xc ⟨hz.1,a⟩ e]
 have:z.toNat ||| (x*2^s%18446744073709551616).toNat<2^64:=Nat.or_lt_two_pow o o
 omega
def Fo(k:Nat):b64^k=(2:Int)^(64*k):=by
 rw [show b64=(2:Int)^64 from dc,<- Int.pow_mul]
section
variable {h g:bG} {K:VP} {A B:Option bL} {ac bc:Nat}
def Q1{x:Int}{an s:Nat}(ma:Mw h A an x)(ha:an<=ac)(hl:an<=20000000000000)(hs:s<=100000000000000)(hK:∀ A' m c' h',h.le h'->m<=c'->Mw h' A' m (x*2^s)->K (.slice A' m c') h'):aW prog 276 #[.slice A an ac,U s] h K:=by
 have j:=ma.len_zero dc
 refine (fnk func276 [(6,[31],[],[I 0])]) ?_
 refine D5 (fun C=>?_) (fun C=>D5 (fun g=>?_) (fun g=>?_))
 ·have:=j.2 o
  subst this
  rw [dR] at hK
  exact hK _ _ _ _ (B4 _) ha ma
 ·have:s=0:=o
  subst this
  rw [fR,Int.mul_one] at hK
  exact hK _ _ _ _ (B4 _) ha ma
 ·obtain ⟨a,rfl,V,dx,nx,rfl⟩:=ma
  obtain ⟨k0,hk0⟩:∃ k0,k0=s/64:=⟨_,rfl⟩
  obtain ⟨r,hr⟩:∃ r,r=s%64:=⟨_,rfl⟩
  have X:B9 (C3 (cI (s:Int) 64))=(k0:Int):=by
   rw [aX o,C1 o o,B7 o o];omega
  have R:Int.tmod (s:Int) 64=(r:Int):=gz0
  have z:C3 ((64:Int)-(r:Int))=((64-r:Nat):Int):=by rw [C1 o o];omega
  simp only [X,R,z,aC]
  have e1:B9 (B9 ((a.length:Int)+k0)+1)=((a.length+k0+1:Nat):Int):=by rw [B7 (n:=(a.length:Int)+k0) o o,B7 o o];omega
  rw [e1]
  refine I5 L7 o o o ?_
  intro b D
  rw [aC]
  refine ⟨_,_,_,rfl,?_⟩
  have aa:0<(2:Int)^r:=bI dc
  have p:0<(2:Int)^(64-r):=bI dc
  have L:=S5 (s:=r) o
  refine ⟨fun l h'=>∃ (k:Nat) (zs:List Int),l=[I k]/\k<=a.length/\zs.length=a.length+k0+1/\Dig b64 zs/\h'=blk .u64 230 h b zs/\zs.drop (k+k0+1)=aE (a.length-k) 0/\zs.getD (k+k0) 0<2^r/\val b64 (zs.take (k+k0+1))=val b64 (a.take k)*2^s,fun l _=>a.length-(iAt l 0).toNat,⟨0,_,rfl,o,by simp,G2 dc _,rfl,?_,?_,?_⟩,?_⟩
  ·grind
  ·grind
  ·rw [cN,X3];simp [val]
  rintro i hp ⟨k,zs,ae,hk,c,d,rfl,q,E,w⟩
  obtain rfl:i=(k:Int):=gz0
  have t:=Z6 (k:=.u64) (e:=230) D zs
  refine B6 (fun g=>?_) (fun g=>?_)
  ·have u:=K8 dx k
   have y:=K8 d (k+k0)
   have F:=C2 b64 a k
   have W:=C2 b64 zs (k+k0)
   have O:B9 ((k:Int)+k0)=((k+k0:Nat):Int):=by rw [B7 o o];omega
   have e3:B9 (((k+k0:Nat):Int)+1)=((k+k0+1:Nat):Int):=by rw [B7 o o];omega
   rw [O,e3]
   refine (V.mono t).load rfl o o ?_
   refine (Z5 .u64 230 h b zs).load c.symm o o ?_
   simp only [aC]
   refine B6 (fun e=>absurd e o) (fun _=>?_)
   refine ⟨_,rfl,o,o,?_⟩
   obtain ⟨Q,N,o3⟩:=Ov (s:=r) o u ⟨y.1,E⟩
   rw [aI (show r<=64 from o),D9,Q,A51 (show 64-r<=64 from o)]
   have M:=Ba (a.getD k 0*2^r)
   refine Bh (zs:=zs) (i:=k+k0) E9 o ?_
   refine B6 (fun e=>absurd e o) (fun _=>?_)
   refine ⟨_,rfl,o,o,?_⟩
   refine Bh (zs:=zs.set (k+k0) (zs.getD (k+k0) 0+a.getD k 0*2^r%18446744073709551616)) (i:=k+k0+1) E9 gz0 ?_
   have H:0<=a.getD k 0/2^(64-r)/\a.getD k 0/2^(64-r)<2^r:=⟨bJ u.1 o,aY p o⟩
   have S:(2:Int)^r<=9223372036854775808:=by
    have:=C8 (B:=2) dc (show r<=63 from o)
    omega
   rw [B7 (n:=(k:Int)+1) o o]
   refine ⟨⟨k+1,(zs.set (k+k0) (zs.getD (k+k0) 0+a.getD k 0*2^r%18446744073709551616)).set (k+k0+1) (a.getD k 0/2^(64-r)),rfl,o,gz0,(d.set ⟨o,N⟩).set ⟨H.1,gz0⟩,rfl,?_,?_,?_⟩,by simp only [iAt,aF];omega⟩
   ·rw [show k+1+k0+1=(k+k0+1)+1 from o,C9 o,C9 o,<- cR,q,bH]
    congr 1
   ·grind
   ·rw [show k+1+k0+1=(k+k0+1)+1 from o,C6 gz0,E6,C6 o,E6]
    simp only [aJ,aR,dX]
    rw [aI (show k+k0<=zs.length from o),bB,F]
    rw [W] at w
    have ad:(2:Int)^s=b64^k0*2^r:=by
     rw [Fo,<- aS];congr 1;omega
    have T:b64^(k+k0)=b64^k*b64^k0:=aS _ _ _
    have G:=aL (a.getD k 0) (2^(64-r))
    grind
  ·have f:k=a.length:=o
   subst f
   rw [bO,aN o] at w
   rw [<- c]
   refine N2 (Z5 _ _ _ _ _) d (aV _) o ?_
   grind
def Ck{x:Int}{an s:Nat}(ma:Mw h A an x)(hl:an<=20000000000000)(hs:s<=1000000000000000)(hK:∀ A' m c' h',h.le h'->m<=c'->Mw h' A' m (x/2^s)->K (.slice A' m c') h'):aW prog 281 #[.slice A an ac,U s] h K:=by
 have N:=ma.nonneg dc
 have V:=ma.lt dc
 refine (fnk func281 [(6,[27],[],[I 0])]) ?_
 obtain ⟨k0,hk0⟩:∃ k0,k0=s/64:=⟨_,rfl⟩
 obtain ⟨r,hr⟩:∃ r,r=s%64:=⟨_,rfl⟩
 have M:C3 (cI (s:Int) 64)=(k0:Int):=by
  rw [aX o,C1 o o];omega
 have w:B9 (k0:Int)=(k0:Int):=B7 o o
 have em:Int.tmod (s:Int) 64=(r:Int):=gz0
 have er:C3 ((64:Int)-(r:Int))=((64-r:Nat):Int):=by rw [C1 o o];omega
 have en:C3 (an:Int)=(an:Int):=C1 o o
 simp only [M,w,em,er,en,aC]
 have j:(2:Int)^s=b64^k0*2^r:=by
  rw [Fo,<- aS];grind
 refine B6 (fun h1=>?_) (fun h1=>?_)
 ·have:x/2^s=0:=by
   apply bF N
   rw [j]
   have E:=C8 (B:=b64) dc (show an<=k0 from o)
   have O:b64^k0*1<=b64^k0*2^r:=aG (by have:0<(2:Int)^r:=bI dc;omega) (aM (D3 dc _))
   omega
  rw [this] at hK
  exact hK _ _ _ _ (B4 _) (aV _) Mag.zero
 ·obtain ⟨a,rfl,S,p,nx,rfl⟩:=ma
  have e1:B9 ((a.length:Int)-k0)=((a.length-k0:Nat):Int):=by rw [B7 o o];omega
  rw [e1]
  refine I5 L7 o o o ?_
  intro b hb
  rw [aC]
  refine ⟨_,_,_,rfl,?_⟩
  have R:0<(2:Int)^r:=bI dc
  have g:=S5 (s:=r) o
  have L:0<(2:Int)^(64-r):=bI dc
  have ad:(a.drop k0).length=a.length-k0:=bY
  have d:∀ i,(a.drop k0).getD i 0=a.getD (k0+i) 0:=fun i=>Ub
  refine ⟨fun l h'=>∃ (k:Nat) (zs:List Int),l=[I k]/\k<=a.length-k0/\zs.length=a.length-k0/\Dig b64 zs/\h'=blk .u64 230 h b zs/\2^r*val b64 (zs.take k)+(a.drop k0).getD 0 0%2^r=val b64 ((a.drop k0).take k)+b64^k*((a.drop k0).getD k 0%2^r),fun l _=>a.length-(iAt l 0).toNat,⟨0,_,rfl,o,by simp,G2 dc _,rfl,by simp [val]⟩,?_⟩
  rintro i X ⟨k,zs,ah,hk,D,q,rfl,T⟩
  obtain rfl:i=(k:Int):=gz0
  have n:∀ zs,h.le (blk .u64 230 h b zs):=fun zs=>Z6 (k:=.u64) (e:=230) hb zs
  have gz:=K8 (p.drop k0) k
  refine B6 (fun h2=>?_) (fun h2=>?_)
  ·have e2:B9 ((k:Int)+k0)=((k0+k:Nat):Int):=by rw [B7 o o];omega
   have e3:B9 (((k0+k:Nat):Int)+1)=((k0+(k+1):Nat):Int):=by rw [B7 o o];omega
   rw [e2,e3]
   refine (S.mono (n zs)).load rfl o o ?_
   refine B6 (fun e=>absurd e o) (fun _=>?_)
   refine ⟨_,rfl,o,o,?_⟩
   simp only [aC]
   rw [<- d k,A51 (show r<=64 from o)]
   have f:0<=(a.drop k0).getD k 0/2^r:=bJ gz.1 o
   have u:(a.drop k0).getD k 0/2^r<2^(64-r):=by
    apply aY R
    grind
   have Q:(2:Int)^(64-r)<=18446744073709551616:=by
    rw [<- g]
    have:=aD (show 1<=(2:Int)^r from o) (aM L);omega
   refine Bh (zs:=zs) (i:=k) E9 o ?_
   have d1:Dig b64 (zs.set k ((a.drop k0).getD k 0/2^r)):=q.set ⟨f,gz0⟩
   have l1:(zs.set k ((a.drop k0).getD k 0/2^r)).length=a.length-k0:=gz0
   have g1:(zs.set k ((a.drop k0).getD k 0/2^r)).getD k 0=(a.drop k0).getD k 0/2^r:=gz0
   have vr:=C2 b64 (a.drop k0) k
   have c:∀ z:Int,2^r*z=(a.drop k0).getD k 0-(a.drop k0).getD k 0%2^r+18446744073709551616*((a.drop k0).getD (k+1) 0%2^r)->
    2^r*val b64 ((zs.set k z).take (k+1))+(a.drop k0).getD 0 0%2^r=val b64 ((a.drop k0).take (k+1))+b64^(k+1)*((a.drop k0).getD (k+1) 0%2^r):=by
    intro z ez
    rw [C6 o,E6,aJ,aI o,vr,bB]
    grind
   have ae:=aL ((a.drop k0).getD k 0) (2^r)
   have C:B9 ((k:Int)+1)=((k+1:Nat):Int):=by rw [B7 o o];omega
   rw [C]
   refine B6 (fun h3=>?_) (fun h3=>?_)
   ·have ld:=(Z5 .u64 230 h b (zs.set k ((a.drop k0).getD k 0/2^r)))
    obtain ⟨aa,G,af⟩:=SlV.at ld (i:=k) gz0
    refine ⟨aa,G,o,o,(a.drop k0).getD k 0/2^r,?_,?_⟩
    ·grind
    refine (S.mono (n _)).load rfl o o ?_
    refine B6 (fun e=>absurd e o) (fun _=>?_)
    refine ⟨_,rfl,o,o,?_⟩
    simp only [aC]
    rw [<- d (k+1)]
    have gr:=K8 (p.drop k0) (k+1)
    obtain ⟨o1,o2,o3⟩:=Ov (s:=64-r) o gr ⟨f,u⟩
    rw [aI (show 64-r<=64 from o),D9,o1]
    refine Bh (zs:=zs.set k ((a.drop k0).getD k 0/2^r)) (i:=k) E9 o ?_
    rw [List.set_set]
    have ag:=Ba ((a.drop k0).getD (k+1) 0*2^(64-r))
    refine ⟨⟨k+1,zs.set k ((a.drop k0).getD k 0/2^r+(a.drop k0).getD (k+1) 0*2^(64-r)%18446744073709551616),rfl,o,gz0,q.set ⟨o,o2⟩,rfl,c _ ?_⟩,by simp only [iAt,aF];omega⟩
    rw [o3,show 64-(64-r)=r from o,cZ,<- cW,g]
    omega
   ·have t:(a.drop k0).getD (k+1) 0=0:=gz0
    refine ⟨⟨k+1,zs.set k ((a.drop k0).getD k 0/2^r),rfl,o,l1,d1,rfl,c _ ?_⟩,by simp only [iAt,aF];omega⟩
    rw [t,fH,eI,eK];omega
  ·have y:k=a.length-k0:=o
   subst y
   have t:(a.drop k0).getD (a.length-k0) 0=0:=gz0
   rw [t,fH,eI,eK,aN o,aN o] at T
   have F:=aP ((a.drop k0).getD 0 0) (show (2:Int)^r≠0 from o)
   have H:=aK ((a.drop k0).getD 0 0) R
   have ai:val b64 a/2^s=val b64 zs:=by
    have W:=E8 b64 a (i:=k0) o
    have E:=J4 dc (p.take k0)
    have O:=C5 dc (p.take k0)
    rw [aJ,aI o] at E
    rw [j,<- dP (aM (D3 dc _)),W,dZ _ _ o,bF O E,cK,<- T,eM,dZ _ _ o,bF F H,cK]
   rw [<- D]
   refine N2 (Z5 _ _ _ _ _) q (aV _) o ?_
   grind
end
def Y6(B:Int)(xs:List Int)(n:Nat):val B (xs++aE n 0)=val B xs:=by rw [F4,X3];omega
def Hb{xs:List Int}{k:Nat}(h:fK xs)(hk:k<xs.length):fK (xs.drop k):=by
 unfold fK at *
 grind
def Mw.of{h:bG}{A:Option bL}{xs:List Int}(s:SlI .u64 h A xs)(d:Dig b64 xs)(n:fK xs):Mw h A xs.length (val b64 xs):=⟨xs,rfl,s,d,n,rfl⟩
def Re{k:cU}{h:bG}{A:Option bL}{xs:List Int}(s:SlI k h A xs){c l:Nat}(hl:l<=xs.length)(hc:xs.length<=c):SlI k h (P7 A c l 1) (xs.drop l):=by
 have:=s.cut (c:=c) (l:=l) (m:=xs.length) hl (aV _) hc
 rwa [aN gz0] at this
def Et{k:cU}{h:bG}{A:Option bL}{xs:List Int}(s:SlI k h A xs){c m:Nat}(hm:m<=xs.length)(hc:xs.length<=c):SlI k h A (xs.take m):=by
 have:=s.cut (c:=c) (l:=0) (m:=m) o hm hc
 simpa [G0] using this
def U3{h:bG}{K:VP}{A:Option bL}{ac n:Nat}{v:Int}{xs:List Int}(s:SlI .u64 h A xs)(hd:Dig b64 xs)(hn:n=xs.length)(hv:val b64 xs=v)(hc:n<=ac)(hl:n<=100000000000000)(hK:∀ m,m<=n->Mw h A m v->K (.slice A m ac) h):aW prog 221 #[.slice A n ac] h K:=by
 subst hn hv
 exact N2 s hd hc hl hK
def B22(N:Nat):Prop:=∀ {h:bG} {K:VP} {A B:Option bL} {ac bc an bn:Nat} {x y:Int},an+bn<=N->Mw h A an x->Mw h B bn y->an<=ac->bn<=bc->an<=10000000000000->bn<=10000000000000->
 (∀ A' m c' h',h.le h'->m<=c'->Mw h' A' m (x*y)->K (.slice A' m c') h')->aW prog 197 #[.slice A an ac,.slice B bn bc] h K
section
variable {h g:bG} {K:VP} {A B:Option bL} {ac bc:Nat}
def B00{xs ys:List Int}{b:Nat}(hb:h b=none)(sx:SlI .u64 h A xs)(dx:Dig b64 xs)(sy:SlI .u64 h B ys)(dy:Dig b64 ys)(hl:xs.length<=10000000000000)(hl2:ys.length<=10000000000000)
 (hK:∀ A' m c' h',h.le h'->m<=c'->Mw h' A' m (val b64 xs*val b64 ys)->K (.slice A' m c') h'):
 Bn prog K A xs.length ac B ys.length (some ⟨b,0,none⟩) (xs.length+ys.length) (xs.length+ys.length) (blk .u64 230 h b (aE (xs.length+ys.length) 0)):=by
 refine ⟨fun l u=>∃ (k:Nat) (zs:List Int),l=[I k]/\k<=ys.length/\zs.length=xs.length+ys.length/\Dig b64 zs/\Win .u64 u h b 230 (some ⟨b,0,none⟩) [] zs []/\zs.drop (k+xs.length)=aE (ys.length-k) 0/\val b64 (zs.take (k+xs.length))=val b64 xs*val b64 (ys.take k),fun l _=>ys.length-(iAt l 0).toNat,⟨0,_,rfl,o,by simp,G2 dc _,Win.blk .u64 230 hb _,?_,?_⟩,?_⟩
 ·grind
 ·rw [cN,X3];simp [val]
 rintro i u ⟨k,zs,N,R,p,d,w,q,x⟩
 obtain rfl:i=(k:Int):=gz0
 refine B6 (fun D=>?_) (fun D=>?_)
 ·have E:=K8 dy k
  have H:=C2 b64 ys k
  have M:B9 ((k:Int)+xs.length)=((k+xs.length:Nat):Int):=by rw [B7 o o];omega
  rw [M]
  refine (sy.mono w.le).load rfl o o ?_
  refine ⟨⟨o,o⟩,⟨o,o⟩,?_⟩
  have f:((zs.drop k).take (k+xs.length-k)).length=xs.length:=gz0
  refine Dy (w.sub (l:=k) (m:=k+xs.length) (c:=xs.length+ys.length) o o o) o sx rfl ((d.drop k).take _) dx f E o ?_
  intro e c h' t a Q C z
  have O:=w.whole (l:=k) (m:=k+xs.length) o o o z
  refine ⟨_,rfl,_,rfl,o,o,?_⟩
  have G:(zs.take k++e++zs.drop (k+xs.length)).length=xs.length+ys.length:=by
   grind
  refine O.storeN (i:=k+xs.length) E9 rfl o ?_
  intro S y
  rw [B7 (n:=(k:Int)+1) o o]
  have g:(zs.take k++e++zs.drop (k+xs.length)).take (k+xs.length)=zs.take k++e:=by
   grind
  have r:(zs.take k++e++zs.drop (k+xs.length)).drop (k+xs.length)=zs.drop (k+xs.length):=by
   grind
  refine ⟨⟨k+1,_,rfl,o,gz0,(((d.take k).append a).append (d.drop _)).set Q,y,?_,?_⟩,by simp only [iAt,aF];omega⟩
  ·rw [show k+1+xs.length=(k+xs.length)+1 from o,C9 o,<- cR,r,q,bH]
   congr 1
  ·rw [show k+1+xs.length=(k+xs.length)+1 from o,C6 o,g,E6,F4,H]
   simp only [aR,aJ]
   have F:val b64 (zs.take (k+xs.length))=val b64 (zs.take k)+b64^k*val b64 ((zs.drop k).take (k+xs.length-k)):=by
    rw [show k+xs.length-k=xs.length from o,fG,F4,aJ,aI o]
   grind
 ·have j:k=ys.length:=o
  subst j
  rw [bO,aN o] at x
  rw [<- p]
  refine N2 w.sl d (aV _) o ?_
  intro m L s
  rw [x] at s
  exact ⟨_,_,_,rfl,hK _ _ _ _ w.le L s⟩
def Iv{x y:Int}{an bn N:Nat}(ih:B22 N)(hN:2*bn<=N)(ma:Mw h A an x)(mb:Mw h B bn y)(ha:an<=ac)(hbc:bn<=bc)(hl:an<=10000000000000)(hb0:0<bn)(hba:bn<=an)(hK:∀ A' m c' h',h.le h'->m<=c'->Mw h' A' m (x*y)->K (.slice A' m c') h'):aW prog 247 #[.slice A an ac,.slice B bn bc] h K:=by
 have ad:=mb.nonneg dc
 have D:=mb.lt dc
 obtain ⟨a,rfl,sx,L,nx,rfl⟩:=ma
 refine (fnk func247 [(3,[6],[],[I 0])] (os:=[(6,[0,1,2,3,4,5,6,8,7,9,10])]) (wr:=[248])) ?_
 have e1:B9 ((a.length:Int)+bn)=((a.length+bn:Nat):Int):=by rw [B7 oo oo];omega
 rw [e1]
 refine I5 L7 oo oo oo ?_
 intro b hb
 rw [aC]
 refine ⟨_,_,_,rfl,?_⟩
 refine ⟨fun l F=>∃ (k:Nat) (zs:List Int) (g:bG),l=[I k]/\k<=a.length+bn/\h.le g/\zs.length=a.length+bn/\Dig b64 zs/\Win .u64 F g b 230 (some ⟨b,0,none⟩) [] zs []/\val b64 zs=val b64 (a.take k)*y,fun l _=>a.length+bn-(iAt l 0).toNat,⟨0,_,h,rfl,oo,B4 h,by simp,G2 dc _,Win.blk .u64 230 hb _,by rw [X3];simp [val]⟩,?_⟩
 rintro i F ⟨k,zs,g,au,hk,H,V,t,w,hv⟩
 obtain rfl:i=(k:Int):=gz0
 refine B6 (fun h1=>?_) (fun h1=>?_)
 ·have e2:B9 ((k:Int)+bn)=((k+bn:Nat):Int):=by rw [B7 oo oo];omega
  rw [e2]
  obtain ⟨en,hen⟩:∃ en,en=min a.length (k+bn):=⟨_,rfl⟩
  have e3:(if (a.length:Int)<((k+bn:Nat):Int) then (a.length:Int) else ((k+bn:Nat):Int))=(en:Int):=oo
  rw [e3]
  simp only [aC]
  refine ⟨⟨oo,oo⟩,⟨oo,oo⟩,⟨oo,oo⟩,?_⟩
  have aj:((a.drop k).take (en-k)).length=en-k:=gz0
  have sp:SlI .u64 g (P7 A ac k 1) ((a.drop k).take (en-k)):=(sx.mono H).cut (c:=ac) (l:=k) (m:=en) oo oo ha
  have dp:Dig b64 ((a.drop k).take (en-k)):=(L.drop k).take _
  have ar:=C5 dc L
  have z:∀ m,m<=en-k->fK (((a.drop k).take (en-k)).take m)->val b64 (((a.drop k).take (en-k)).take m)=val b64 ((a.drop k).take (en-k))->
   aW prog 197 #[.slice (P7 A ac k 1) m (ac-k),.slice B bn bc] F (fun M d=>∃ (t38A:Option bL) (t38n:Nat) (t38c:Nat),M= .slice t38A t38n t38c/\Heap.le F d/\aW prog 248 #[.slice (P7 (some ⟨b,0,none⟩) (a.length+bn) k 1) (a.length+bn-k) (a.length+bn-k),.slice t38A t38n t38c] d (fun r2 q=>r2= .tuple #[]/\(∃ (k_1:Nat) (zs:List Int) (g:bG),[I ((k+bn:Nat):Int)]=[I k_1]/\k_1<=a.length+bn/\h.le g/\zs.length=a.length+bn/\Dig b64 zs/\Win .u64 q g b 230 (some ⟨b,0,none⟩) [] zs []/\val b64 zs=val b64 (a.take k_1)*y)/\a.length+bn-(iAt [I ((k+bn:Nat):Int)] 0).toNat<a.length+bn-(iAt [I k] 0).toNat)):=by
   intro m hm s n
   have Mp:Mw g (P7 A ac k 1) m (val b64 ((a.drop k).take (en-k))):=⟨((a.drop k).take (en-k)).take m,gz0,Et sp (c:=ac) oo oo,dp.take m,s,n⟩
   refine w.call ?_
   refine ih oo Mp (mb.mono H) oo hbc oo oo ?_
   intro A' m' c' g2 l2 am M2 h3 O
   refine ⟨_,_,_,rfl,?_,?_⟩
   ·rw [w.eq,O.eq]
    intro kk o e
    by_cases G:kk=b
    ·subst G;rw [C0] at e ⊢;exact e
    ·rw [B8 _ _ G] at e ⊢;exact l2 kk o e
   obtain ⟨f,u,C,E,T,ao⟩:=M2
   have aq:=E8 b64 zs (i:=k) oo
   have ai:=C5 dc (t.take k)
   have Q:a.take en=a.take k++(a.drop k).take (en-k):=by
    have:=fG (l:=a) (i:=k) (j:=en-k)
    rwa [show k+(en-k)=en from oo] at this
   have ah:val b64 (a.take en)=val b64 (a.take k)+b64^k*val b64 ((a.drop k).take (en-k)):=by
    rw [Q,F4,aJ,aI oo]
   have ae:val b64 zs+b64^k*val b64 f=val b64 (a.take en)*y:=by
    grind
   have ak:val b64 (a.take en)*y<b64^(a.length+bn):=by
    have t1:=J4 dc (L.take en)
    have t2:=C5 dc (L.take en)
    rw [aJ,aI oo] at t1
    have t3:val b64 (a.take en)*y<=b64^en*y:=aD oo ad
    have t4:b64^en*y<b64^en*b64^bn:=bM D (D3 dc en)
    rw [<- aS] at t4
    have t5:=C8 (B:=b64) dc (show en+bn<=a.length+bn from oo)
    omega
   have af:val b64 (zs.drop k)+val b64 f<b64^(a.length+bn-k):=by
    have e5:b64^(a.length+bn)=b64^k*b64^(a.length+bn-k):=by rw [<- aS];simp_all
    by_cases hc:val b64 (zs.drop k)+val b64 f<b64^(a.length+bn-k)
    ·exact hc
    ·have:=aG (show b64^(a.length+bn-k)<=val b64 (zs.drop k)+val b64 f from oo) (aM (D3 (B:=b64) dc k))
     grind
   have ag:=C5 dc (t.drop k)
   have ap:f.length<=a.length+bn-k:=by
    have Mps:Mw g2 A' f.length (val b64 f):=⟨f,rfl,C,E,T,rfl⟩
    exact Mps.len_le dc oo
   have ws:=O.sub (l:=k) (m:=a.length+bn) (c:=a.length+bn) oo oo oo
   have aa:(zs.drop k).take (a.length+bn-k)=zs.drop k:=aN gz0
   have R:(zs.drop k).length=a.length+bn-k:=gz0
   rw [aa] at ws
   refine Dz ws R.symm C u (t.drop k) E oo gz0 oo ?_
   intro us h5 al W X w5
   have w6:=O.whole (l:=k) (m:=a.length+bn) oo oo oo w5
   refine ⟨rfl,⟨k+bn,_,g2,rfl,oo,B0 H l2,?_,((t.take k).append W).append (t.drop _),w6,?_⟩,by simp only [iAt,aF];omega⟩
   ·grind
   ·rw [aT oo,bW,F4,aJ,aI oo,X]
    grind
  have tr:=Am (K:=fun r p=>∃ (t36A:Option bL) (t36n:Nat) (t36c:Nat),r= .slice t36A t36n t36c/\Heap.le F p/\aW prog 197 #[.slice t36A t36n t36c,.slice B bn bc] p (fun M d=>∃ (t38A:Option bL) (t38n:Nat) (t38c:Nat),M= .slice t38A t38n t38c/\Heap.le p d/\aW prog 248 #[.slice (P7 (some ⟨b,0,none⟩) (a.length+bn) k 1) (a.length+bn-k) (a.length+bn-k),.slice t38A t38n t38c] d (fun r2 q=>r2= .tuple #[]/\(∃ (k_1:Nat) (zs:List Int) (g:bG),[I ((k+bn:Nat):Int)]=[I k_1]/\k_1<=a.length+bn/\h.le g/\zs.length=a.length+bn/\Dig b64 zs/\Win .u64 q g b 230 (some ⟨b,0,none⟩) [] zs []/\val b64 zs=val b64 (a.take k_1)*y)/\a.length+bn-(iAt [I ((k+bn:Nat):Int)] 0).toNat<a.length+bn-(iAt [I k] 0).toNat))) (ac:=ac-k) (sp.mono w.le) oo oo (fun m hm s n=>⟨_,_,_,rfl,B4 _,z m oo s n⟩)
  grind
 ·have S:a.take k=a:=aN oo
  rw [S] at hv
  rw [<- V]
  refine N2 w.sl t (aV _) oo ?_
  intro m hm hM
  rw [hv] at hM
  exact ⟨_,_,_,rfl,hK _ _ _ _ (B0 H w.le) hm hM⟩
def B44{X0 X1 Y0 Y1 P:Int}(hx0:0<=X0)(hx1:0<=X1)(hy0:0<=Y0)(hy1:0<=Y1):
 X0*Y0<=(X0+X1)*(Y0+Y1)/\X1*Y1<=(X0+X1)*(Y0+Y1)-X0*Y0/\(X0+P*X1)*(Y0+P*Y1)=X0*Y0+P*((X0+X1)*(Y0+Y1)-X0*Y0-X1*Y1)+P*P*(X1*Y1):=by
 have b:=aO hx0 hy1
 have c:=aO hx1 hy0
 have d:=aO hx1 hy1
 grind
def B3e:∀ N,B22 N:=by
 intro N
 induction N with
 | zero=>
  intro h K A B ac bc an bn x y hN ma mb ha hb hl F D
  have h0:=ma.len_zero dc
  have hx:x=0:=h0.2 o
  subst hx
  rw [dR] at D
  refine Bm _ _ _ _ _ _ ?_
  unfold Ag
  refine ⟨fun l h'=>h'=h/\l=[.slice A an ac,.slice B bn bc],B6 (fun e=>absurd e o) (fun _=>⟨rfl,rfl⟩),?_⟩
  rintro A1 u c1 B1 w c2 hp ⟨rfl,hl⟩
  obtain ⟨⟨rfl,rfl,rfl⟩,rfl,rfl,rfl⟩:(A1=A/\u=an/\c1=ac)/\B1=B/\w=bn/\c2=bc:=gz0
  refine D5 (fun _=>D none 0 0 _ (B4 _) (aV _) Mag.zero) (fun e=>absurd o e)
 | succ N ih=>
  intro h K A B ac bc an bn x y hN ma mb ha hb hl F D
  refine Bm _ _ _ _ _ _ ?_
  unfold Ag
  refine ⟨fun l h'=>h'=h/\∃ (A1 B1:Option bL) (u w c1 c2:Nat) (x1 y1:Int),l=[.slice A1 u c1,.slice B1 w c2]/\Mw h A1 u x1/\Mw h B1 w y1/\w<=u/\u<=10000000000000/\u<=c1/\w<=c2/\u+w<=N+1/\x1*y1=x*y,B6 (fun h1=>?_) (fun h1=>?_),?_⟩
  ·grind
  ·grind
  clear ma mb ha hb hl F hN
  rintro A1 u c1 B1 w c2 hp ⟨rfl,A1',B1',ba,bb,b0,bf,x1,y1,bx,m1,m2,hn,am,M,V,cl,ar⟩
  obtain ⟨⟨rfl,rfl,rfl⟩,rfl,rfl,rfl⟩:(A1=A1'/\u=ba/\c1=b0)/\B1=B1'/\w=bb/\c2=bf:=gz0
  rw [<- ar] at D
  clear bx ar
  have hz:=m2.len_zero dc
  refine D5 (fun h0=>?_) (fun h0=>?_)
  ·have:y1=0:=hz.2 o
   subst this
   rw [eI] at D
   exact D none 0 0 _ (B4 _) (aV _) Mag.zero
  ·refine ⟨fun l h'=>∃ t:Bool,h'=hp/\l=[.bool t]/\(t=true->y1=1),D5 (fun h1=>?_) (fun h1=>⟨false,rfl,rfl,fun e=>by cases e⟩),?_⟩
   ·obtain ⟨f,b1,sy,R,ny,bo⟩:=m2
    refine sy.load b1 o o ⟨_,rfl,rfl,fun e=>?_⟩
    have e1:f.getD 0 0=1:=gz0
    obtain ⟨d,rfl⟩:∃ d,f=[d]:=by
     cases f with
     | nil=>grind
     | cons d r=>
      grind
    rw [<- bo,Q9];assumption
   rintro tb ad ⟨t',rfl,F,O⟩
   obtain rfl:tb=t':=gz0
   refine Br.of (fun e=>?_) (fun _=>?_)
   ·rw [O e,Int.mul_one] at D
    exact D _ _ _ _ (B4 _) M m1
   clear O F
   have eL:B9 ((u:Int)+w)=((u+w:Nat):Int):=by rw [B7 o o];omega
   refine B6 (fun h2=>?_) (fun h2=>?_)
   ·obtain ⟨g,rfl,sx,W,nx,rfl⟩:=m1
    obtain ⟨f,rfl,sy,R,ny,rfl⟩:=m2
    rw [eL]
    refine I5 L7 o o o ?_
    intro b hb
    rw [aC]
    exact ⟨_,_,_,rfl,B00 hb sx W sy R am o D⟩
   ·obtain ⟨H,hH⟩:∃ H,H=(u+1)/2:=⟨_,rfl⟩
    have eH:B9 (cI (B9 ((u:Int)+1)) 2)=(H:Int):=by
     rw [B7 (n:=(u:Int)+1) o o,aX o,B7 o o];omega
    have bh:B9 ((2:Int)*(H:Int))=((2*H:Nat):Int):=by rw [B7 o o];omega
    simp only [eH,eL,bh,aC]
    refine B6 (fun h3=>?_) (fun h3=>?_)
    ·refine Iv ih o m1 m2 M V am o o ?_
     grind
    ·have a9:=m1.nonneg dc
     have a4:=m1.lt dc
     have az:=m2.lt dc
     have bz:=m2.nonneg dc
     obtain ⟨g,rfl,sx,W,nx,rfl⟩:=m1
     obtain ⟨f,rfl,sy,R,ny,rfl⟩:=m2
     have bm:H<g.length:=o
     have a7:H<f.length:=o
     have ah:=C5 dc (W.take H)
     have av:=C5 dc (W.drop H)
     have ao:=C5 dc (R.take H)
     have a2:=C5 dc (R.drop H)
     have b4:=E8 b64 g (i:=H) o
     have br:=E8 b64 f (i:=H) o
     have af:=J4 dc (W.take H)
     have ax:=J4 dc (R.take H)
     rw [aJ,aI o] at af ax
     have C:Mw ad (P7 A1 c1 H 1) (g.length-H) (val b64 (g.drop H)):=by
      have:=Mw.of (Re sx (c:=c1) (l:=H) o M) (W.drop H) (Hb nx bm)
      grind
     have z:Mw ad (P7 B1 c2 H 1) (f.length-H) (val b64 (f.drop H)):=by
      have:=Mw.of (Re sy (c:=c2) (l:=H) o V) (R.drop H) (Hb ny a7)
      grind
     obtain ⟨ka,kb,kc⟩:=B44 (P:=b64^H) ah av ao a2
     rw [<- b4,<- br] at kc
     generalize hX0:val b64 (g.take H)=X0 at *
     generalize hX1:val b64 (g.drop H)=X1 at *
     generalize hY0:val b64 (f.take H)=Y0 at *
     generalize hY1:val b64 (f.drop H)=Y1 at *
     rw [G0,G0,bU,bU,bU]
     refine ⟨⟨o,o⟩,⟨o,o⟩,?_⟩
     refine U3 (Et sx (c:=c1) (m:=H) o M) (W.take H) gz0 hX0 o o ?_
     intro mx cr MX0
     refine ⟨_,_,_,rfl,B4 _,⟨o,o⟩,⟨o,o⟩,?_⟩
     refine U3 (Et sy (c:=c2) (m:=H) o V) (R.take H) gz0 hY0 o o ?_
     intro my ch MY0
     refine ⟨_,_,_,rfl,B4 _,?_⟩
     refine ih o MX0 MY0 o o o o ?_
     intro A3 n3 c3 g3 l3 k3 M3
     refine ⟨_,_,_,rfl,?_⟩
     refine ih o (C.mono l3) (z.mono l3) o o o o ?_
     intro A4 n4 c4 g4 l4 k4 M4
     refine ⟨_,_,_,rfl,?_⟩
     have E:=B0 l3 l4
     refine O1 (MX0.mono E) (C.mono E) o o o o ?_
     intro A5 n5 c5 g5 l5 k5 M5
     refine ⟨_,_,_,rfl,?_⟩
     have au:=B0 E l5
     refine O1 (MY0.mono au) (z.mono au) o o o o ?_
     intro A6 n6 c6 g6 l6 k6 M6
     refine ⟨_,_,_,rfl,?_⟩
     have ag:=C.lt dc
     have ai:=z.lt dc
     have bw:=D3 (B:=b64) dc H
     have b6:b64^(H+1)=b64^H*18446744073709551616:=bB _ _
     have cf:n5<=H+1:=by
      refine M5.len_le dc ?_
      have:=C8 (B:=b64) dc (show g.length-H<=H from o)
      omega
     have ca:n6<=H+1:=by
      refine M6.len_le dc ?_
      have:=C8 (B:=b64) dc (show f.length-H<=H from o)
      omega
     refine ih o (M5.mono l6) M6 k5 k6 o o ?_
     intro A7 n7 c7 g7 l7 k7 M7
     refine ⟨_,_,_,rfl,?_⟩
     have T:=B0 (B0 l5 l6) l7
     have k:∀ {p q:Int} {i j:Nat},0<=p->p<b64^i->0<=q->q<b64^j->p*q<b64^(i+j):=by
      intro p q i j a b c d
      rw [aS]
      have t1:p*q<=b64^i*q:=aD o c
      have t2:b64^i*q<b64^i*b64^j:=bM d (D3 dc i)
      omega
     have b7:n7<=n5+n6:=M7.len_le dc (k (M5.nonneg dc) (M5.lt dc) (M6.nonneg dc) (M6.lt dc))
     refine F8 M7 (M3.mono (B0 l4 T)) k7 o ka ?_
     intro A8 n8 c8 g8 l8 k8 M8
     refine ⟨_,_,_,rfl,?_⟩
     have b9:n8<=n7:=M8.len_le dc (by have:=M7.lt dc;have:=M3.nonneg dc;omega)
     refine F8 M8 (M4.mono (B0 T l8)) k8 o kb ?_
     intro A9 n9 c9 g9 l9 k9 M9
     refine ⟨_,_,_,rfl,?_⟩
     have S:=B0 T (B0 l8 l9)
     have a0:ad.le g9:=B0 E S
     refine I5 L7 o o o ?_
     intro b hb
     rw [aC]
     refine ⟨_,_,_,rfl,?_⟩
     have w0:=Win.blk .u64 230 hb (aE (g.length+f.length) 0)
     have cd:n3<=H+H:=M3.len_le dc (k ah af ao ax)
     have ce:n4<=(g.length-H)+(f.length-H):=M4.len_le dc (k av ag a2 ai)
     obtain ⟨s,al,bl,a6,cu,aj⟩:=M3.mono (B0 l4 S)
     obtain ⟨hi,ak,bg,bt,ct,ap⟩:=M4.mono S
     obtain ⟨Q,aw,ay,a3,bv,b8⟩:=M9
     refine Ci L7 w0 (by simp) (bl.mono w0.le) al (by simp;omega) ?_
     intro cn aa
     refine ⟨_,rfl,⟨o,o⟩,?_⟩
     have b3:s++(aE (g.length+f.length) (0:Int)).drop s.length=s++aE (g.length+f.length-s.length) 0:=by rw [bH]
     rw [b3] at aa
     have X:=aa.sub (l:=2*H) (m:=g.length+f.length) (c:=g.length+f.length) o (by simp;omega) (by simp;omega)
     have bq:((s++aE (g.length+f.length-s.length) (0:Int)).drop (2*H)).take (g.length+f.length-2*H)=aE (g.length+f.length-2*H) 0:=by
      rw [eR,aT o,cD,bH,cN]
      congr 1;omega
     rw [bq] at X
     refine Ci L7 X (by simp) (bg.mono X.le) ak (by simp;omega) ?_
     intro cq a5
     refine ⟨_,rfl,⟨o,o⟩,?_⟩
     rw [bH] at a5
     have G:=aa.whole (l:=2*H) (m:=g.length+f.length) o (by simp;omega) (by simp;omega) a5
     have a8:(s++aE (g.length+f.length-s.length) (0:Int)).take (2*H)=s++aE (2*H-s.length) 0:=by
      rw [List.take_append,aN o,cN]
      congr 2;omega
     have b5:(s++aE (g.length+f.length-s.length) (0:Int)).drop (g.length+f.length)=[]:=by
      apply aT;simp;omega
     rw [a8,b5,bW] at G
     generalize hzs:s++aE (2*H-s.length) (0:Int)++(hi++aE (g.length+f.length-2*H-hi.length) 0)=zs at G
     have cj:zs.length=g.length+f.length:=by
      rw [<- hzs];simp;omega
     have L:Dig b64 zs:=by
      rw [<- hzs]
      exact (a6.append (G2 dc _)).append (bt.append (G2 dc _))
     have ck:val b64 zs=X0*Y0+b64^H*b64^H*(X1*Y1):=by
      rw [<- hzs,F4,Y6,Y6,aj,ap]
      have:(s++aE (2*H-s.length) (0:Int)).length=H+H:=by simp;omega
      rw [this,aS]
     have a1:=G.sub (l:=H) (m:=g.length+f.length) (c:=g.length+f.length) o o o
     have be:(zs.drop H).take (g.length+f.length-H)=zs.drop H:=aN (by rw [bY];omega)
     have bd:(zs.drop H).length=g.length+f.length-H:=by rw [bY];omega
     rw [be] at a1
     have bu:=E8 b64 zs (i:=H) o
     have cm:=C5 dc (L.take H)
     have cc:=C5 dc (L.drop H)
     have cg:val b64 g*val b64 f<b64^(g.length+f.length):=k a9 a4 bz az
     have aq:val b64 zs+b64^H*val b64 Q=val b64 g*val b64 f:=gz0
     have cb:val b64 (zs.drop H)+val b64 Q<b64^(g.length+f.length-H):=by
      have e5:b64^(g.length+f.length)=b64^H*b64^(g.length+f.length-H):=by rw [<- aS];congr 1;omega
      by_cases hc:val b64 (zs.drop H)+val b64 Q<b64^(g.length+f.length-H)
      ·exact hc
      ·have:=aG (show b64^(g.length+f.length-H)<=val b64 (zs.drop H)+val b64 Q from o) (aM bw)
       grind
     have co:Q.length<=g.length+f.length-H:=by
      have Mmi:Mw g9 A9 Q.length (val b64 Q):=⟨Q,rfl,ay,a3,bv,rfl⟩
      exact Mmi.len_le dc o
     refine Dz a1 bd.symm ay aw (L.drop H) a3 o gz0 o ?_
     intro us ci cs bp bk bi
     refine ⟨rfl,?_⟩
     have ae:=G.whole (l:=H) (m:=g.length+f.length) o o o bi
     rw [aT (show zs.length<=g.length+f.length from o),bW] at ae
     have bj:(zs.take H++us).length=g.length+f.length:=by
      simp only [aR,aJ];omega
     rw [<- bj]
     refine N2 ae.sl ((L.take H).append bp) o o ?_
     intro m hm hM
     have b2:val b64 (zs.take H++us)=val b64 g*val b64 f:=by
      rw [F4,aJ,aI o,bk,<- aq,bu];grind
     rw [b2] at hM
     exact ⟨_,_,_,rfl,D _ _ _ _ (B0 a0 ae.le) hm hM⟩
def F9{x y:Int}{an bn:Nat}(ma:Mw h A an x)(mb:Mw h B bn y)(ha:an<=ac)(hb:bn<=bc)(hl:an<=10000000000000)(hl2:bn<=10000000000000)(hK:∀ A' m c' h',h.le h'->m<=c'->Mw h' A' m (x*y)->K (.slice A' m c') h'):aW prog 197 #[.slice A an ac,.slice B bn bc] h K:=
 B3e _ (aV _) ma mb ha hb hl hl2 hK
end
section
variable {h g:bG} {K:VP} {A B:Option bL} {ac bc:Nat}
def A3h{hi lo y:Int}(hhi:0<=hi/\hi<y)(hlo:0<=lo/\lo<18446744073709551616)(hy:y<18446744073709551616)
 (hK:K (.tuple #[U ((hi*18446744073709551616+lo)/y),U ((hi*18446744073709551616+lo)%y)]) h):aW prog 264 #[U hi,U lo,U y] h K:=by
 obtain ⟨n,rfl⟩:∃ n:Nat,y=n:=⟨y.toNat,o⟩
 exact Kp hhi hlo o hK
def Mq{x:Int}{an w:Nat}(ma:Mw h A an x)(hw:0<w/\w<18446744073709551616)(hl:an<=20000000000000)(hK:∀ A' m c' h',h.le h'->m<=c'->m<=an->Mw h' A' m (x/w)->K (.tuple #[.slice A' m c',U (x%w)]) h'):aW prog 282 #[.slice A an ac,U w] h K:=by
 obtain ⟨a,rfl,z,E,M,rfl⟩:=ma
 refine (fnk func282 [(4,[7,8],[],[U 0,I 0])]) ?_
 refine I5 L7 o o o ?_
 intro b t
 refine ⟨_,_,_,rfl,?_⟩
 refine ⟨fun l h'=>∃ (k:Nat) (r:Int) (zs:List Int),l=[U r,I ((k:Int)-1)]/\k<=a.length/\zs.length=a.length/\Dig b64 zs/\(0<=r/\r<w)/\h'=blk .u64 230 h b zs/\val b64 (a.drop k)=val b64 (zs.drop k)*w+r,fun l _=>(iAt l 1+1).toNat,⟨a.length,0,_,by rw [B7 o o],o,by simp,G2 dc _,o,rfl,by simp [val]⟩,?_⟩
 rintro r i H ⟨k,s,zs,C,G,g,p,c,rfl,d⟩
 obtain ⟨rfl,rfl⟩:r=s/\i=(k:Int)-1:=gz0
 have n:=Z6 (k:=.u64) (e:=230) t zs
 refine B6 (fun y=>?_) (fun y=>?_)
 ·obtain ⟨j,rfl⟩:∃ j,k=j+1:=⟨k-1,o⟩
  have e:((j+1:Nat):Int)-1=(j:Int):=o
  rw [e]
  have B:=K8 E j
  refine (z.mono n).load rfl o o ?_
  refine Kp c B hw.2 ⟨_,_,rfl,?_⟩
  have u:0<=r*18446744073709551616+a.getD j 0:=o
  have q:0<=(r*18446744073709551616+a.getD j 0)/w/\(r*18446744073709551616+a.getD j 0)/w<18446744073709551616:=by
   constructor
   ·exact bJ u o
   ·apply aY o
    omega
  refine ⟨_,rfl,o,o,?_⟩
  refine Bh (zs:=zs) (i:=j) E9 o ?_
  rw [B7 o o]
  refine ⟨⟨j,_,zs.set j ((r*18446744073709551616+a.getD j 0)/w),rfl,o,gz0,p.set q,⟨aP _ o,aK _ o⟩,rfl,?_⟩,by simp only [iAt,aF,aH];omega⟩
  rw [Q8 o,Gh b64 o,d]
  have:=aL (r*18446744073709551616+a.getD j 0) w
  simp only [val]
  grind
 ·have f:k=0:=o
  subst f
  rw [dB,dB] at d
  rw [<- g]
  refine N2 (Z5 _ _ _ _ _) p (aV _) o ?_
  intro m L F
  have q:val b64 a/w=val b64 zs:=by
   rw [d,eM,dS _ _ o,bF c.1 c.2,cK]
  have D:val b64 a%w=r:=by
   rw [d,eM,fB,eJ c.1 c.2]
  grind
def Gx{x:Int}{an w:Nat}(ma:Mw h A an x)(hw:0<w/\w<18446744073709551616)(hl:an<=20000000000000)(hK:K (U (x%w)) h):aW prog 235 #[.slice A an ac,U w] h K:=by
 obtain ⟨a,rfl,s,q,z,rfl⟩:=ma
 refine (fnk func235 [(3,[5,6],[],[U 0,I 0])]) ?_
 refine ⟨fun l f=>∃ (k:Nat) (r:Int) (Q:Int),l=[U r,I ((k:Int)-1)]/\k<=a.length/\(0<=r/\r<w)/\f=h/\val b64 (a.drop k)=Q*w+r,fun l _=>(iAt l 1+1).toNat,⟨a.length,0,0,by rw [B7 o o],o,o,rfl,by simp [val]⟩,?_⟩
 rintro r i u ⟨k,g,Q,n,y,d,rfl,b⟩
 obtain ⟨rfl,rfl⟩:r=g/\i=(k:Int)-1:=gz0
 refine B6 (fun m=>?_) (fun m=>?_)
 ·obtain ⟨j,rfl⟩:∃ j,k=j+1:=⟨k-1,o⟩
  have e:((j+1:Nat):Int)-1=(j:Int):=o
  rw [e]
  have t:=K8 q j
  refine s.load rfl o o ?_
  refine Kp d t hw.2 ⟨_,_,rfl,?_⟩
  rw [B7 o o]
  refine ⟨⟨j,_,b64*Q+(r*18446744073709551616+a.getD j 0)/w,rfl,o,⟨aP _ o,aK _ o⟩,rfl,?_⟩,by simp only [iAt,aF,aH];omega⟩
  rw [Gh b64 o,b]
  have:=aL (r*18446744073709551616+a.getD j 0) w
  grind
 ·have c:k=0:=o
  subst c
  rw [dB] at b
  have p:val b64 a%w=r:=by
   rw [b,eM,fB,eJ d.1 d.2]
  grind
def Qz{us vs:List Int}{m wn dn:Nat}{X Y:Int}(su:SlI .u64 h A us)(sv:SlI .u64 h B vs)(hwn:wn=us.length)(hdn:dn=vs.length)(du:Dig b64 us)(dv:Dig b64 vs)(hu:us.length=m+3)(hv:vs.length=m+2)(hl:m<=100000000000000)(h1:b64<=2*vs.getD (m+1) 0)(hX:val b64 us=X)(hY:val b64 vs=Y)(hlt:X<Y*b64)
 (hK:∀ q,0<=q->q<18446744073709551616->X<(q+1)*Y->(q-1)*Y<=X->K (U q) h):aW prog 283 #[.slice A wn ac,.slice B dn bc] h K:=by
 subst hwn hdn
 have a:=A70 (B:=b64) dc du dv hu hv h1 gz0
 rw [hX,hY] at a
 have gu:=K8 du (m+2)
 have u:=K8 du (m+1)
 have D:=K8 dv (m+1)
 have k:=a.v2r
 have E:=a.u2r
 refine (fnk func283 [(6,[8,9],[],[U 0,U 0])]) ?_
 have W:B9 ((vs.length:Int)-1)=((m+1:Nat):Int):=by rw [B7 o o];omega
 have R:B9 ((vs.length:Int)-2)=(m:Int):=by rw [B7 o o];omega
 have e3:((vs.length:Nat):Int)=((m+2:Nat):Int):=o
 rw [W,R,e3]
 refine sv.load o o o ?_
 refine sv.load o o o ?_
 refine su.load rfl o o ?_
 simp only [aC]
 refine B6 (fun C=>?_) (fun C=>?_)
 ·have ht:=a.top (by
   grind)
  grind
 ·refine su.load rfl o o ?_
  refine su.load rfl o o ?_
  simp only [aC]
  refine A3h o u D.2 ⟨_,_,rfl,B4 h,?_⟩
  generalize hT:us.getD (m+2) 0*b64+us.getD (m+1) 0=T at a
  have V:us.getD (m+2) 0*18446744073709551616+us.getD (m+1) 0=T:=hT
  have x:0<=T:=a.top0
  have t:=a.init
  have F:=aL T (vs.getD (m+1) 0)
  have O:=aP T (show vs.getD (m+1) 0≠0 from o)
  have Q:=aK T (show 0<vs.getD (m+1) 0 from o)
  have s:0<=T/vs.getD (m+1) 0:=bJ x o
  have e:T/vs.getD (m+1) 0<18446744073709551616:=by
   apply aY o
   omega
  refine ⟨fun l L=>∃ q r:Int,l=[U q,U r]/\L=h/\(0<=q/\q<18446744073709551616)/\(0<=r/\r<18446744073709551616)/\q*vs.getD (m+1) 0+r=T/\X<(q+1)*Y,fun l _=>(iAt l 0).toNat,⟨_,_,rfl,rfl,⟨s,e⟩,o,gz0,t⟩,?_⟩
  rintro q r p ⟨q',z,H,rfl,f,hr,G,j⟩
  obtain ⟨rfl,rfl⟩:q=q'/\r=z:=gz0
  have hm:0<=q*vs.getD m 0/\q*vs.getD m 0<=18446744073709551615*18446744073709551615:=⟨aO f.1 k.1,dE o gz0 k.1 dc⟩
  have b:q*vs.getD m 0<=r*18446744073709551616+us.getD m 0->K (U q) p:=by
   intro S
   refine hK q f.1 f.2 j (a.up gz0 ?_)
   grind
  have c:¬ (q*vs.getD m 0<=r*18446744073709551616+us.getD m 0)->Br (decide (C3 (r+vs.getD (m+1) 0)<vs.getD (m+1) 0)) (K (U (C3 (q-1))) p) ((∃ q_1 r_1:Int,[U (C3 (q-1)),U (C3 (r+vs.getD (m+1) 0))]=[U q_1,U r_1]/\p=p/\(0<=q_1/\q_1<18446744073709551616)/\(0<=r_1/\r_1<18446744073709551616)/\q_1*vs.getD (m+1) 0+r_1=T/\X<(q_1+1)*Y)/\(iAt [U (C3 (q-1)),U (C3 (r+vs.getD (m+1) 0))] 0).toNat<(iAt [U q,U r] 0).toNat):=by
   intro hf
   have y:X<q*Y:=a.low f.1 gz0
   have e:1<=q:=by
    grind
   have d:X<(q-1+1)*Y:=gz0
   have i:(q-1)*vs.getD (m+1) 0+(r+vs.getD (m+1) 0)=T:=gz0
   rw [C1 (n:=q-1) o o]
   refine B6 (fun g=>?_) (fun g=>?_)
   ·rw [D9] at g
    refine hK (q-1) o o d (a.up gz0 ?_)
    grind
   ·have w:r+vs.getD (m+1) 0<18446744073709551616:=by
     by_cases hc:r+vs.getD (m+1) 0<18446744073709551616
     ·exact hc
     ·rw [D9] at g;omega
    rw [C1 (n:=r+vs.getD (m+1) 0) o w]
    exact ⟨⟨q-1,r+vs.getD (m+1) 0,rfl,rfl,o,o,i,d⟩,by simp only [iAt,aF];omega⟩
  refine Hc f o ⟨_,_,rfl,?_⟩
  have aa:0<=us.getD m 0/\us.getD m 0<18446744073709551616:=K8 du m
  refine B6 (fun g=>b o) (fun g=>?_)
  refine D5 (fun M=>?_) (fun M=>c o)
  refine su.load rfl o o ?_
  rw [aC]
  exact B6 (fun N=>b o) (fun N=>c o)
end
section
variable {h g:bG} {K:VP} {bu bq:Nat} {pre qs:List Int} {VA:Option bL} {vs:List Int}
def B1y{n N:Nat}{ws:List Int}{q:Int}{J:LP}(hu:g bu=none)(hq:g bq=none)(hne:bu≠bq)(sv:SlI .u64 g VA vs)(dv:Dig b64 vs)(hn:n=vs.length)(dw:Dig b64 ws)(hN:N=(pre++ws).length)(hl:n<ws.length)(hbig:N<=40000000000000)
 (hD:val b64 (ws.take n)+val b64 vs<2*b64^n) (hD0:b64^n<=val b64 (ws.take n)+val b64 vs) (htop:ws.getD n 0=18446744073709551615)
 (hJ:∀ ws',ws'.length=ws.length->Dig b64 ws'->ws'.drop (n+1)=ws.drop (n+1)->ws'.getD n 0=0->val b64 (ws'.take n)=val b64 (ws.take n)+val b64 vs-b64^n->J [U (C3 (q-1))] (T4 .u64 230 g bu (pre++ws') bq qs)):
 Ct prog n VA n (some ⟨bu,0,none⟩) N (pre.length:Int) q J (T4 .u64 230 g bu (pre++ws) bq qs):=by
 refine ⟨fun l F=>∃ (k:Nat) (c:Int) (zs:List Int),l=[U c,I k]/\k<=n/\zs.length=ws.length/\Dig b64 zs/\(0<=c/\c<=1)/\F=T4 .u64 230 g bu (pre++zs) bq qs/\zs.drop k=ws.drop k/\val b64 (zs.take k)+c*b64^k=val b64 (ws.take k)+val b64 (vs.take k),fun l _=>n-(iAt l 1).toNat,⟨0,0,ws,rfl,o,rfl,dw,o,rfl,rfl,by rfl⟩,?_⟩
 rintro c i T ⟨k,C,zs,Q,S,H,p,R,rfl,a,O⟩
 obtain ⟨rfl,rfl⟩:c=C/\i=(k:Int):=gz0
 have w:g.le (T4 .u64 230 g bu (pre++zs) bq qs):=Je hu hq hne
 have z:SlI .u64 (T4 .u64 230 g bu (pre++zs) bq qs) (some ⟨bu,0,none⟩) (pre++zs):=Nf hne
 have j:N=(pre++zs).length:=gz0
 have L:N=pre.length+zs.length:=gz0
 have x:B9 ((pre.length:Int)+k)=((k+pre.length:Nat):Int):=by rw [B7 o o];omega
 have s:B9 ((pre.length:Int)+n)=((n+pre.length:Nat):Int):=by rw [B7 o o];omega
 refine B6 (fun G=>?_) (fun G=>?_)
 ·have D:=K8 dv k
  have B:=K8 p k
  have b:=D7 a
  have M:=C2 b64 vs k
  have E:=C2 b64 ws k
  rw [x]
  refine (sv.mono w).load hn o o ?_
  refine z.load j o o ?_
  simp only [aC,Cg]
  refine Z8 B D R ⟨_,_,rfl,?_⟩
  refine ⟨_,rfl,o,o,?_⟩
  have m:=K9 (P:=prog) (t:=230) (k:=.u64) (e:=230) (g:=g) (bu:=bu) (bq:=bq) (us:=pre++zs) (qs:=qs) (i:=((k+pre.length:Nat):Int)) (n:=(zs.getD k 0+vs.getD k 0+c)%18446744073709551616) E9 hne o
   (K:=fun _ f=>(∃ (k_1:Nat) (c_1:Int) (zs_1:List Int),[U ((zs.getD k 0+vs.getD k 0+c)/18446744073709551616),I (B9 ((k:Int)+1))]=[U c_1,I k_1]/\k_1<=n/\zs_1.length=ws.length/\Dig b64 zs_1/\(0<=c_1/\c_1<=1)/\f=T4 .u64 230 g bu (pre++zs_1) bq qs/\zs_1.drop k_1=ws.drop k_1/\val b64 (zs_1.take k_1)+c_1*b64^k_1=val b64 (ws.take k_1)+val b64 (vs.take k_1))/\n-(iAt [U ((zs.getD k 0+vs.getD k 0+c)/18446744073709551616),I (B9 ((k:Int)+1))] 1).toNat<n-(iAt [U c,I k] 1).toNat)
  rw [aC] at m
  refine m ?_
  rw [Fl,B7 (n:=(k:Int)+1) o o]
  refine ⟨⟨k+1,_,zs.set k ((zs.getD k 0+vs.getD k 0+c)%18446744073709551616),rfl,o,gz0,p.set (Ba _),o,rfl,?_,?_⟩,by simp only [iAt,aF,aH];omega⟩
  ·rw [C9 o];exact D4 a
  ·rw [C6 o,E6,aJ,aI o,bB,W4,M,E,<- b]
   grind
 ·have r:k=n:=o
  subst r
  have b:=D7 a
  rw [s]
  refine z.load j o o ?_
  rw [aC,Cg,b,htop]
  refine ⟨_,rfl,o,o,?_⟩
  have u:vs.take k=vs:=gz0
  rw [u] at O
  have A:=J4 dc (p.take k)
  have y:c=1:=by
   grind
  subst y
  have m:=K9 (P:=prog) (t:=230) (k:=.u64) (e:=230) (g:=g) (bu:=bu) (bq:=bq) (us:=pre++zs) (qs:=qs) (i:=((k+pre.length:Nat):Int)) (n:=0) E9 hne o (K:=fun _ d=>J [U (C3 (q-1))] d)
  rw [aC] at m
  refine m ?_
  rw [Fl]
  refine hJ (zs.set k 0) gz0 (p.set dc) (by rw [C9 o];exact D4 a) gz0 ?_
  rw [List.take_set_of_le o]
  omega
end
def A4d{g h':bG}{e:cC}{bu bq:Nat}{A:Option bL}{us qs:List Int}(hne:bu≠bq)(w:Win .u64 h' (blk .u64 e g bq qs) bu e A [] us []):h'=T4 .u64 e g bu us bq qs:=by
 rw [Dw hne,w.eq]
 simp [blk]
def A60{g:bG}{e:cC}{bu bq:Nat}{us qs:List Int}(hu:g bu=none)(hne:bu≠bq):Win .u64 (T4 .u64 e g bu us bq qs) (blk .u64 e g bq qs) bu e (some ⟨bu,0,none⟩) [] us []:=by
 rw [Dw hne]
 refine Win.blk .u64 e ?_ us
 unfold blk;rw [B8 _ _ hne];exact hu
def Uq{P:dM}{t:cC}{k:cU}{e:cC}{g:bG}{bu bq:Nat}{us qs:List Int}(one:P.cellsOf t=1/\(P.info? t).isSome=true)(hne:bu≠bq){n:Int}{i:Nat}(hi:i<us.length){K:Unit->bG->Prop}
 (x:K () (T4 k e g bu (us.set i n) bq qs)):wpH P (dK t (.pointer (some (eO ⟨bu,0,none⟩ (i*1)))) (.int k n)) K (T4 k e g bu us bq qs):=by
 have:=K9 (P:=P) (t:=t) (k:=k) (e:=e) (g:=g) (bu:=bu) (bq:=bq) (us:=us) (qs:=qs) (i:=(i:Int)) (n:=n) (K:=K) one hne o (by assumption)
 assumption
def Ur{P:dM}{t:cC}{k:cU}{e:cC}{g:bG}{bu bq:Nat}{us qs:List Int}(one:P.cellsOf t=1/\(P.info? t).isSome=true){n:Int}{i:Nat}(hi:i<qs.length){K:Unit->bG->Prop}
 (x:K () (T4 k e g bu us bq (qs.set i n))):wpH P (dK t (.pointer (some (eO ⟨bq,0,none⟩ (i*1)))) (.int k n)) K (T4 k e g bu us bq qs):=by
 have:=Ng (P:=P) (t:=t) (k:=k) (e:=e) (g:=g) (bu:=bu) (bq:=bq) (us:=us) (qs:=qs) (i:=(i:Int)) (n:=n) (K:=K) one o (by assumption)
 assumption
section
variable {h g:bG} {K:VP} {bu bq:Nat} {VA:Option bL} {vs us0:List Int}
set_option maxHeartbeats 1000000 in
def Vv{s mm N nq vc xn:Nat}{a b Y:Int}(hu:g bu=none)(hq:g bq=none)(hne:bu≠bq)(sv:SlI .u64 g VA vs)(dv:Dig b64 vs)(hn:vs.length=mm+2)(hv1:b64<=2*vs.getD (mm+1) 0)(hs:s<64)(hY:val b64 vs=Y)(hYb:Y=b*2^s)(du:Dig b64 us0)(hN:us0.length=N)(hua:val b64 us0=a*2^s)(hxn:N=xn+1)(hnq:N=nq+(mm+2))(hnq1:1<=nq)(hbig:N<=20000000000001)(htop:val b64 (us0.drop nq)<Y)
 (hK:∀ A1 m1 c1 A2 m2 c2 h',g.le h'->m1<=c1->m2<=c2->Mw h' A1 m1 (a/b)->Mw h' A2 m2 (a%b)->K (.tuple #[.slice A1 m1 c1,.slice A2 m2 c2]) h'):
 T9 prog xn (mm+2) K (s:Int) VA (mm+2) vc (some ⟨bu,0,none⟩) N N (some ⟨bq,0,none⟩) nq nq (T4 .u64 230 g bu us0 bq (aE nq 0)):=by
 have hp:0<(2:Int)^s:=bI dc
 have a2:Y<b64^(mm+2):=by rw [<- hY,<- hn];exact J4 dc dv
 have a9:0<Y:=by have:=C5 dc (du.drop nq);omega
 have e0:B9 ((xn:Int)-((mm+2:Nat):Int))=(nq:Int)-1:=by rw [B7 o o];omega
 unfold T9
 refine ⟨fun l h'=>∃ (k:Nat) (us qs:List Int),l=[I ((k:Int)-1)]/\k<=nq/\us.length=N/\qs.length=nq/\Dig b64 us/\Dig b64 qs/\h'=T4 .u64 230 g bu us bq qs/\val b64 (us.drop k)<Y/\val b64 us0=val b64 (qs.drop k)*Y*b64^k+val b64 us,fun l _=>(iAt l 0+1).toNat,⟨nq,us0,_,by rw [e0],o,hN,by simp,du,G2 dc _,rfl,htop,by simp [val]⟩,?_⟩
 rintro j a7 ⟨k,us,qs,aw,hk,L,ae,u,ah,rfl,an,hv⟩
 obtain rfl:j=(k:Int)-1:=by simpa using aw
 have ac:g.le (T4 .u64 230 g bu us bq qs):=Je hu hq hne
 have su:SlI .u64 (T4 .u64 230 g bu us bq qs) (some ⟨bu,0,none⟩) us:=Nf hne
 unfold Cu
 refine B6 (fun h1=>?_) (fun h1=>?_)
 ·obtain ⟨j,rfl⟩:∃ j,k=j+1:=⟨k-1,o⟩
  have ej:((j+1:Nat):Int)-1=(j:Int):=o
  rw [ej]
  have e1:B9 ((j:Int)+((mm+2:Nat):Int))=((j+(mm+2):Nat):Int):=by rw [B7 o o];omega
  have e2:B9 (((j+(mm+2):Nat):Int)+1)=((j+(mm+3):Nat):Int):=by rw [B7 o o];omega
  simp only [e1,e2,aC]
  have y:=u.drop j
  have H:(us.drop j).length=N-j:=by rw [bY,L]
  have x:val b64 ((us.drop j).drop (mm+3))=0:=by
   have:=Z9 (B:=b64) dc (n:=mm+2) (u.drop (j+1)) o
   rw [cR] at this ⊢
   rw [show j+(mm+3)=j+1+(mm+2) from o];exact this
  have ai:=Sa b64 us j
  have ar:val b64 (us.drop j)<Y*b64:=by
   have bc:=K8 u j
   rw [ai]
   have t1:b64*(val b64 (us.drop (j+1))+1)<=b64*Y:=aG o dc
   have t2:b64*(val b64 (us.drop (j+1))+1)=b64*val b64 (us.drop (j+1))+18446744073709551616:=by show (18446744073709551616:Int)*_=_;grind
   have t3:Y*b64=b64*Y:=aU _ _
   omega
  have G:=E8 b64 (us.drop j) (i:=mm+3) o
  rw [x,eI,eK] at G
  have av:=F5 b64 (us.drop j) (mm+2)
  have hX:val b64 (us.drop j)=val b64 ((us.drop j).take (mm+2))+b64^(mm+2)*(us.drop j).getD (mm+2) 0:=by rw [G];exact av
  refine ⟨⟨o,o⟩,⟨o,o⟩,?_⟩
  have sw:SlI .u64 (T4 .u64 230 g bu us bq qs) (P7 (some ⟨bu,0,none⟩) N j 1) ((us.drop j).take (mm+3)):=by
   have:=su.cut (c:=N) (l:=j) (m:=j+(mm+3)) o o o
   rwa [show j+(mm+3)-j=mm+3 from o] at this
  generalize hXX:val b64 (us.drop j)=X at *
  refine Qz (m:=mm) (X:=X) (Y:=Y) sw (sv.mono ac) (by rw [aJ,H];omega) hn.symm (y.take _) dv (by rw [aJ,H];omega) hn o hv1 G.symm hY ar ?_
  intro q q0 q1 q2 q3
  refine ⟨_,rfl,⟨o,o⟩,⟨o,o⟩,?_⟩
  have w0:=A60 (e:=230) (us:=us) (qs:=qs) hu hne
  have ax:SlI .u64 (blk .u64 230 g bq qs) VA vs:=sv.mono (Z6 hq qs)
  have hW:(us.drop j).take (j+(mm+2)-j)=(us.drop j).take (mm+2):=by rw [show j+(mm+2)-j=mm+2 from o]
  have w1:=w0.sub (l:=j) (m:=j+(mm+2)) (c:=N) o o o
  rw [hW] at w1
  have M:((us.drop j).take (mm+2)).length=mm+2:=by rw [aJ,H];omega
  refine Ew w1 (by rw [M];omega) ax hn.symm (y.take _) dv (by rw [M,hn]) ⟨q0,q1⟩ o ?_
  intro W c h2 p C w F w2
  rw [M] at p F
  refine ⟨_,rfl,?_⟩
  have w3:=w0.whole (l:=j) (m:=j+(mm+2)) o o o w2
  have V:=A4d hne w3
  have f:(us.take j).length=j:=by rw [aJ,L];omega
  have aj:us.drop (j+(mm+2))=(us.drop j).drop (mm+2):=by rw [cR]
  rw [bX,aj] at V
  subst V
  generalize hws:us.drop j=ws at *
  have r:(W++ws.drop (mm+2)).length=ws.length:=by rw [aR,bY];omega
  have dW:Dig b64 (W++ws.drop (mm+2)):=C.append (y.drop _)
  have T:(W++ws.drop (mm+2)).getD (mm+2) 0=ws.getD (mm+2) 0:=by
   simp only [eQ]
   rw [List.getElem?_append_right o,p,Nat.sub_self,List.getElem?_drop,eF]
  have S:=K8 y (mm+2)
  have az:(us.take j++(W++ws.drop (mm+2))).length=N:=by rw [aR,r,f];omega
  have ak:SlI .u64 (T4 .u64 230 g bu (us.take j++(W++ws.drop (mm+2))) bq qs) (some ⟨bu,0,none⟩) (us.take j++(W++ws.drop (mm+2))):=Nf hne
  have a1:j+(mm+2)=(mm+2)+(us.take j).length:=o
  refine ak.load az.symm o o ?_
  rw [aC,a1,Cg,T]
  refine ⟨_,rfl,o,o,?_⟩
  refine Uq (i:=mm+2+(us.take j).length) E9 hne o ?_
  rw [Fl]
  have hP:0<b64^(mm+2):=D3 dc _
  have ao:=J4 dc C
  have a6:=C5 dc C
  rw [p] at ao
  rw [hY] at F
  have hD:X-q*Y=val b64 W+(ws.getD (mm+2) 0-c)*b64^(mm+2):=by rw [F,hX];grind
  have Q:X-q*Y<Y:=by
   have:(q+1)*Y=q*Y+Y:=gz0
   omega
  have a5: -Y<=X-q*Y:=by
   have:(q-1)*Y=q*Y-Y:=gz0
   omega
  have bd:0<=X:=by
   have t1:=C5 dc (y.take (mm+2))
   have t2:=aO (aM hP) S.1
   omega
  have a3:ws.getD (mm+2) 0-c=0\/ws.getD (mm+2) 0-c= -1:=by
   have t2:ws.getD (mm+2) 0-c<1:=by
    by_cases w:ws.getD (mm+2) 0-c<1
    ·exact w
    ·have:=aD (show 1<=ws.getD (mm+2) 0-c from o) (aM hP);omega
   have t3: -2<ws.getD (mm+2) 0-c:=by
    by_cases w: -2<ws.getD (mm+2) 0-c
    ·exact w
    ·have:=aD (show ws.getD (mm+2) 0-c <= -2 from o) (aM hP);omega
   omega
  have z:∀ v,((W++ws.drop (mm+2)).set (mm+2) v).take (mm+2)=W:=by
   intro v
   rw [List.take_set_of_le o,dA p]
  have aa:∀ v,((W++ws.drop (mm+2)).set (mm+2) v).getD (mm+2) 0=v:=by
   intro v
   rw [eQ,List.getElem?_set_self o];rfl
  have ag:∀ v,((W++ws.drop (mm+2)).set (mm+2) v).drop (mm+3)=ws.drop (mm+3):=by
   intro v
   rw [C9 o,show mm+3=(mm+2)+1 from o,<- cR,eZ p,cR]
  refine ⟨fun l h'=>∃ d t,l=[U t]/\h'=T4 .u64 230 g bu (us.take j++d) bq qs/\d.length=ws.length/\Dig b64 d/\d.drop (mm+3)=ws.drop (mm+3)/\d.getD (mm+2) 0=0/\val b64 (d.take (mm+2))=X-t*Y/\0<=X-t*Y/\X-t*Y<Y/\0<=t/\t<18446744073709551616,B6 (fun h3=>?_) (fun h3=>?_),?_⟩
  ·have E:ws.getD (mm+2) 0-c= -1:=o
   rw [E] at hD ⊢
   have af:C3 (-1)=18446744073709551615:=by rw [D9];omega
   rw [af]
   have ay:1<=q:=by
    by_cases w:1<=q
    ·exact w
    ·have:q=0:=o
     subst this;omega
   have e5:(q-1)*Y=q*Y-Y:=gz0
   have bk:=B1y (g:=g) (bu:=bu) (bq:=bq) (pre:=us.take j) (qs:=qs) (VA:=VA) (vs:=vs) (n:=mm+2) (N:=N) (ws:=(W++ws.drop (mm+2)).set (mm+2) 18446744073709551615) (q:=q)
    (J:=fun l h'=>∃ d t,l=[U t]/\h'=T4 .u64 230 g bu (us.take j++d) bq qs/\d.length=ws.length/\Dig b64 d/\d.drop (mm+3)=ws.drop (mm+3)/\d.getD (mm+2) 0=0/\val b64 (d.take (mm+2))=X-t*Y/\0<=X-t*Y/\X-t*Y<Y/\0<=t/\t<18446744073709551616)
    hu hq hne sv dv hn.symm (dW.set dc) (by rw [aR,dV,r,f];omega) (by rw [dV,r];omega) o (by rw [z,hY];omega) (by rw [z,hY];omega) (aa _) ?_
   ·rw [f] at bk;exact bk
   ·intro d g1 g2 g3 g4 g5
    rw [z,hY] at g5
    rw [C1 (n:=q-1) o o]
    refine ⟨d,q-1,rfl,rfl,by rw [g1,dV,r],g2,by rw [g3,ag],g4,o,o,o,o,o⟩
  ·have D:ws.getD (mm+2) 0-c=0:=o
   rw [D] at hD ⊢
   have aq:C3 0=0:=by rw [D9];omega
   rw [aq]
   exact ⟨(W++ws.drop (mm+2)).set (mm+2) 0,q,rfl,rfl,by rw [dV,r],dW.set dc,ag _,aa _,by rw [z];omega,o,Q,q0,q1⟩
  ·rintro q4 a4 ⟨d,t,am,rfl,g1,g2,g3,g4,g5,g6,g7,g8,g9⟩
   obtain rfl:q4=t:=by simpa using am
   refine ⟨_,rfl,o,o,?_⟩
   refine Ur (i:=j) E9 o ?_
   rw [B7 o o]
   have R:val b64 d=X-q4*Y:=by
    have z1:=E8 b64 d (i:=mm+3) o
    rw [g3,x,F5,g4,g5] at z1
    simp at z1
    omega
   refine ⟨⟨j,us.take j++d,qs.set j q4,rfl,o,by rw [aR,g1,f];omega,by simpa using ae,(u.take j).append g2,ah.set ⟨g8,g9⟩,rfl,?_,?_⟩,by simp only [iAt,aF];omega⟩
   ·rw [eZ f,R];exact g7
   ·have O:=E8 b64 us (i:=j) o
    rw [hws,hXX] at O
    rw [hv,Q8 o,F4,f,R,O,bB]
    simp only [val]
    grind
 ·have ap:k=0:=o
  subst ap
  simp at an hv
  have bb:0<b:=by
   by_cases w:0<b
   ·exact w
   ·have:=aD (show b<=0 from o) (aM hp);omega
  have a8:=C5 dc u
  have hR:val b64 us=(a-val b64 qs*b)*2^s:=by
   rw [hua,hYb] at hv
   grind
  have au:0<=a-val b64 qs*b:=by
   by_cases w:0<=a-val b64 qs*b
   ·exact w
   ·have:=aD (show a-val b64 qs*b <= -1 from o) (aM hp);omega
  have al:a-val b64 qs*b<b:=by
   by_cases w:a-val b64 qs*b<b
   ·exact w
   ·have:=aD (show b<=a-val b64 qs*b from o) (aM hp);omega
  have A:a/b=val b64 qs:=by
   have:a=(a-val b64 qs*b)+val b64 qs*b:=o
   rw [this,dS _ _ o,bF au al,cK]
  have ad:a%b=a-val b64 qs*b:=by
   have:=Int.emod_def a b
   rw [this,A,aU]
  rw [A,ad] at hK
  rw [<- ae]
  refine N2 A75 ah (aV _) o ?_
  intro m1 af M1
  refine ⟨_,_,_,rfl,?_⟩
  rw [<- L]
  refine N2 su u (aV _) o ?_
  intro m2 ba M2
  refine ⟨_,_,_,rfl,?_⟩
  rw [C1 o o]
  refine Ck M2 (by have:=M2.len_le dc (j:=mm+2) o;omega) o ?_
  intro A3 m3 c3 h3 l3 k3 M3
  have a0:val b64 us/2^s=a-val b64 qs*b:=by rw [hR,eE _ o]
  rw [a0] at M3
  exact ⟨_,_,_,rfl,hK _ _ _ _ _ _ _ (B0 ac l3) o k3 (M1.mono l3) M3⟩
end
section
variable {h g:bG} {K:VP} {A B:Option bL} {ac bc:Nat}
set_option maxHeartbeats 1000000 in
def Bc{x y:Int}{an bn:Nat}(ma:Mw h A an x)(mb:Mw h B bn y)(ha:an<=ac)(hbc:bn<=bc)(hy:y≠0)(hl:an<=20000000000000)(hl2:bn<=20000000000000)
 (hK:∀ A1 m1 c1 A2 m2 c2 h',h.le h'->m1<=c1->m2<=c2->Mw h' A1 m1 (x/y)->Mw h' A2 m2 (x%y)->K (.tuple #[.slice A1 m1 c1,.slice A2 m2 c2]) h'):aW prog 260 #[.slice A an ac,.slice B bn bc] h K:=by
 have H:=ma.nonneg dc
 have ap:=mb.nonneg dc
 have a4:=mb.len_zero dc
 have u:=ma.lt dc
 have a8:=mb.lt dc
 refine Kd _ _ _ _ _ _ ?_
 unfold Hy
 refine F2 ma mb o ⟨_,rfl,B6 (fun C=>?_) (fun C=>D5 (fun h2=>?_) (fun h2=>?_))⟩
 ·have L:x<y:=by
   unfold Bf at C
   by_cases c:x<y
   ·exact c
   ·rw [iN c] at C
    by_cases M:x>y
    ·rw [iP M] at C;omega
    ·rw [iN M] at C;omega
  rw [bF H L,eJ H L] at hK
  exact hK none 0 0 _ _ _ _ (B4 h) (aV _) ha Mag.zero ma
 ·obtain ⟨a,rfl,sy,dy,ny,rfl⟩:=mb
  have Q:a.length=1:=o
  obtain ⟨d,rfl⟩:∃ d,a=[d]:=by
   cases a with
   | nil=>simp at Q
   | cons d r=>
    cases r with
    | nil=>exact ⟨d,rfl⟩
    | cons _ _=>simp at Q
  rw [Q9] at hy ap hK
  have hd:=dy d (by simp)
  obtain ⟨w,rfl⟩:∃ w:Nat,d=w:=⟨d.toNat,o⟩
  refine sy.load rfl o (by simp) ?_
  show aW _ _ #[_,U (w:Int)] _ _
  have hw:w<18446744073709551616:=by have:=hd.2;have:(w:Int)<18446744073709551616:=this;omega
  refine Mq ma ⟨o,hw⟩ hl ?_
  intro A' m c' h' aj hm a5 hM
  refine ⟨_,_,_,_,rfl,?_⟩
  refine U5 ⟨aP _ o,by have:=aK x (show (0:Int)<w from o);omega⟩ ?_
  intro A2 m2 c2 h3 F k3 M3
  exact ⟨_,_,_,rfl,hK _ _ _ _ _ _ _ (B0 aj F) hm k3 (hM.mono F) M3⟩
 ·have aq:y<=x:=by
   unfold Bf at C
   by_cases c:x<y
   ·rw [iP c] at C;omega
   ·omega
  have a7:bn<=an:=mb.len_le dc (bZ aq u)
  have ax:=mb
  have ak:=ma
  obtain ⟨a,rfl,sy,dy,ny,rfl⟩:=mb
  obtain ⟨mm,hmm⟩:∃ mm,a.length=mm+2:=⟨a.length-2,o⟩
  have gt:=K8 dy (mm+1)
  have ao:=Se (m:=mm+1) hmm ny
  obtain ⟨G,p⟩:=V5 (B:=b64) dc dy (m:=mm+1) hmm
  have e1:B9 ((a.length:Int)-1)=((mm+1:Nat):Int):=by rw [B7 o o];omega
  rw [e1]
  refine sy.load rfl o o ?_
  rw [aC]
  obtain ⟨t,ht⟩:∃ t:Nat,a.getD (mm+1) 0=t:=⟨(a.getD (mm+1) 0).toNat,o⟩
  rw [ht] at gt ao G p ⊢
  have l:t≠0:=o
  refine N9 o ⟨_,rfl,?_⟩
  obtain ⟨ay,a0⟩:=Bi l
  have a1:L8 t<=64:=Dx (k:=64) o
  have az:1<=L8 t:=by unfold L8;rw [iN l];omega
  obtain ⟨s,hs⟩:∃ s,s=64-L8 t:=⟨_,rfl⟩
  rw [<- hs]
  have W:s<64:=o
  have b:0<(2:Int)^s:=bI dc
  have am:=S5 (s:=s) o
  have z:L8 t=64-s:=o
  have au:(t:Int)+1<=2^(64-s):=by
   rw [<- z]
   have:((t+1:Nat):Int)<=((2^L8 t:Nat):Int):=o
   simpa using this
  have al:(2:Int)^(63-s)<=t:=by
   have:((2^(L8 t-1):Nat):Int)<=((t:Nat):Int):=o
   rw [show L8 t-1=63-s from o] at this
   simpa using this
  have E:(2:Int)^s*2^(63-s)=9223372036854775808:=by
   rw [<- aS,show s+(63-s)=63 from o];decide
  have ai:C3 (s:Int)=(s:Int):=C1 o o
  rw [ai]
  have f:=D3 (B:=b64) dc (mm+1)
  have ah:val b64 a*2^s<b64^(mm+2):=by
   have t2:val b64 a*2^s<((t:Int)+1)*b64^(mm+1)*2^s:=bC G b
   have t3:((t:Int)+1)*b64^(mm+1)*2^s=((t:Int)+1)*2^s*b64^(mm+1):=gz0
   have t4:((t:Int)+1)*2^s*b64^(mm+1)<=18446744073709551616*b64^(mm+1):=by
    apply aD _ (aM f)
    rw [<- am,aU (2^s)]
    exact aD au (aM b)
   have t5:b64^(mm+2)=18446744073709551616*b64^(mm+1):=by rw [bB b64 (mm+1),aU]
   omega
  have a6:9223372036854775808*b64^(mm+1)<=val b64 a*2^s:=by
   have t1:(t:Int)*b64^(mm+1)*2^s<=val b64 a*2^s:=aD p (aM b)
   have t2:9223372036854775808*b64^(mm+1)<=(t:Int)*2^s*b64^(mm+1):=by
    apply aD _ (aM f)
    rw [<- E,aU (t:Int)]
    exact aG al o
   have t3:(t:Int)*2^s*b64^(mm+1)=(t:Int)*b64^(mm+1)*2^s:=gz0
   omega
  refine Q1 ax hbc hl2 o ?_
  intro A1 n1 c1 g1 l1 k1 M1
  refine ⟨_,_,_,rfl,?_⟩
  have aa:n1=mm+2:=by
   have q1:=M1.len_le dc ah
   have q2:=M1.lt dc
   by_cases c:n1=mm+2
   ·exact c
   ·have:=C8 (B:=b64) dc (show n1<=mm+1 from o)
    omega
  subst aa
  obtain ⟨vs,T,sv,dv,nv,X⟩:=M1
  have af:b64<=2*vs.getD (mm+1) 0:=by
   obtain ⟨q1,q2⟩:=V5 (B:=b64) dc dv (m:=mm+1) T.symm
   rw [X] at q1
   have:9223372036854775808<vs.getD (mm+1) 0+1:=by
    by_cases c:9223372036854775808<vs.getD (mm+1) 0+1
    ·exact c
    ·have:=aD (show vs.getD (mm+1) 0+1<=9223372036854775808 from o) (aM f);omega
   show (18446744073709551616:Int)<=_
   omega
  have eN:B9 ((an:Int)+1)=((an+1:Nat):Int):=by rw [B7 o o];omega
  rw [eN]
  refine I5 L7 o o o ?_
  intro bu ar
  rw [aC]
  refine ⟨_,_,_,rfl,?_⟩
  have w0:=Win.blk .u64 230 ar (aE (an+1) 0)
  refine w0.call ?_
  refine Q1 (ak.mono l1) ha hl o ?_
  intro A3 n3 c3 g3 F k3 M3 h4 w4
  refine ⟨_,_,_,rfl,?_⟩
  have av:x*2^s<b64^(an+1):=by
   have t1:x*2^s<b64^an*2^s:=bC u b
   have t2:b64^an*2^s<=b64^an*18446744073709551616:=by
    apply aG _ (aM (D3 dc an))
    have:=C8 (B:=2) dc (show s<=64 from o)
    have e:(2:Int)^64=18446744073709551616:=dc
    omega
   rw [bB];show _<b64^an*(18446744073709551616:Int);omega
  have a3:=M3.len_le dc av
  obtain ⟨us,aw,ag,ad,a2,R⟩:=M3
  refine Ci L7 w4 (by simp) (ag.mono w4.le) aw (by simp;omega) ?_
  intro h5 w5
  refine ⟨_,rfl,?_⟩
  rw [bH] at w5
  generalize hu0:us++aE (an+1-us.length) (0:Int)=us0 at w5
  have V:us0.length=an+1:=by rw [<- hu0];simp;omega
  have q:Dig b64 us0:=by rw [<- hu0];exact ad.append (G2 dc _)
  have j:val b64 us0=x*2^s:=by rw [<- hu0,Y6];exact R
  obtain ⟨nq,hnq⟩:∃ nq,an+1=nq+(mm+2):=⟨an+1-(mm+2),o⟩
  have eq:B9 (B9 ((an:Int)-(a.length:Int))+1)=(nq:Int):=by
   rw [B7 (n:=(an:Int)-(a.length:Int)) o o,B7 o o];omega
  rw [eq]
  refine I5 L7 o o o ?_
  intro bq g
  rw [aC]
  refine ⟨_,_,_,rfl,?_⟩
  have ae:h5=blk .u64 230 g3 bu us0:=by rw [w5.eq];simp [blk]
  subst ae
  have S:g3 bu=none:=w5.free
  have D:bu≠bq:=by
   rintro rfl
   unfold blk at g
   rw [C0] at g;cases g
  have O:g3 bq=none:=by
   have:=g
   unfold blk at this
   rwa [B8 _ _ D.symm] at this
  rw [hmm]
  refine Vv (us0:=us0) (N:=an+1) (xn:=an) S O D (sv.mono F) dv T.symm af W X rfl q V j rfl hnq o o ?_ ?_
  ·have s1:=E8 b64 us0 (i:=nq) o
   have s2:=C5 dc (q.take nq)
   have s3:val b64 us0<b64^an*2^s:=by
    rw [j];exact bC u b
   have s4:b64^(mm+1)<=val b64 a:=by
    have:=aD (show 1<=(t:Int) from o) (aM f);omega
   have s5:b64^nq*(b64^(mm+1)*2^s)<=b64^nq*(val b64 a*2^s):=aG (aD s4 (aM b)) (aM (D3 dc nq))
   have s6:b64^nq*(b64^(mm+1)*2^s)=b64^an*2^s:=by
    rw [<- cW,<- aS,show nq+(mm+1)=an from o]
   by_cases c:val b64 (us0.drop nq)<val b64 a*2^s
   ·exact c
   ·have:=aG (show val b64 a*2^s<=val b64 (us0.drop nq) from o) (aM (D3 (B:=b64) dc nq));omega
  ·intro A5 m5 c5 A6 m6 c6 h6 l6 k5 k6 M5 M6
   exact hK _ _ _ _ _ _ _ (B0 l1 (B0 F l6)) k5 k6 M5 M6
end
def Rd{x a b p:Int}(h:a+p*b=x)(h0:0<=a)(h1:a<p):x/p=b/\x%p=a:=(Int.ediv_emod_unique o).2 ⟨h,h0,h1⟩
def Ny{P:dM}{h:bG}{A:Option bL}{n m c s:Nat}{cs:List eA}(hl:cs.length=n*s)(hc:cs=[]\/∃ a,A=some a/\∀ j v,cs[j]? = some v->h.cell? (a.add j)=some v){K:Array eA->bG->Prop}(x:K cs.toArray h):
 wpH P (Builtin.firstCells s n (.slice A m c)) K h:=by
 cases A with
 | none=>
  rcases hc with rfl|⟨a,e,_⟩
  ·exact x
  ·cases e
 | some a=>
  show wpH P (loadCells a (n*s)) K h
  rcases hc with rfl|⟨b,e,hc⟩
  ·exact Q3 (cs:=[]) hl.symm (fun j v e=>by simp at e) x
  ·cases e
   exact Q3 hl.symm hc x
def A5v{P:dM}{t e ty:cC}{k:cU}{bytes:Nat}(s:SliceT P t e (.int k 0) 1 bytes){h g:bG}{b:Nat}{A:Option bL}{pre post:List eA}{xs:List Int}{n c m d:Nat}(w:Win k h g b e A pre xs post)(hn:n=xs.length){B:Option bL}{ys:List Int}(sy:SlI k h B ys)(hm:min m xs.length=ys.length){K:VP}
 (x:∀ h',Win k h' g b e A pre (ys++xs.drop ys.length) post->K (I ys.length) h'):wpH P (dL #[t,t] ty #[.slice A n c,.slice B m d]) K h:=by
 subst hn
 obtain ⟨i,r,y,l,p⟩:=s.parts
 unfold dL
 simp only [List.getElem?_toArray,aF,aH,C4,E5 s.und,J6 r,I3,Builtin.lenOf,l]
 have f:Nat.min m xs.length=ys.length:=hm
 rw [f]
 refine Ny (s:=1) (cs:=ys.map (bK k)) (by simp) sy ?_
 cases A with
 | none=>
  rcases w.at_ with j|j
  ·have:ys=[]:=aZ gz0
   subst this
   exact x h (by assumption)
  ·cases j
 | some a=>
  simp only [C4]
  rcases w.at_ with j|j
  ·have:ys=[]:=aZ gz0
   subst this
   exact x h (by assumption)
  ·cases j
   rw [w.eq]
   refine I6 (ys.map (bK k)) pre.length 0 (pre++xs.map (bK k)++post) gz0 (fun v q=>?_) ?_
   ·obtain ⟨u,_,rfl⟩:=List.mem_map.1 q;rfl
   ·refine x _ ⟨w.free,?_,?_⟩
    ·congr 3
     unfold J7
     rw [eF,bX pre,dA rfl,eV]
     rw [eR,aT (show pre.length<=pre.length+ys.length from o),fJ,cD]
     rw [cY gz0,<- List.map_drop,eU]
     grind
    grind
section
variable {h g:bG} {K:VP} {A B:Option bL} {ac bc:Nat}
def A6u(a n:Nat):(if (a:Int)<(n:Int) then (a:Int) else (n:Int))=((min n a:Nat):Int):=o
def Gg{xs:List Int}(d:Dig b64 xs)(n:Nat):val b64 xs/b64^n=val b64 (xs.drop (min n xs.length))/\val b64 xs%b64^n=val b64 (xs.take (min n xs.length)):=by
 by_cases c:n<=xs.length
 ·rw [aI c]
  have e:=E8 b64 xs c
  have a:=C5 dc (d.take n)
  have b:=J4 dc (d.take n)
  rw [aJ,aI c] at b
  exact Rd e.symm a b
 ·rw [eP o,List.drop_length,bO]
  have a:=C5 dc d
  have b:=J4 dc d
  have f:=C8 (B:=b64) dc (show xs.length<=n from o)
  exact Rd (by simp [val]) a o
def S4{x:Int}{an n:Nat}(ma:Mw h A an x)(ha:an<=ac)(hK:∀ A' m c',m<=c'->m<=an->Mw h A' m (x/b64^n)->K (.slice A' m c') h):aW prog 278 #[.slice A an ac,I n] h K:=by
 obtain ⟨a,rfl,d,b,e,rfl⟩:=ma
 refine (fnk func278) ?_
 rw [A6u,aC]
 refine ⟨⟨o,o⟩,hK _ _ _ o o ?_⟩
 rw [(Gg b n).1,<- bY]
 refine Mw.of (Re d o ha) (b.drop _) ?_
 by_cases c:min n a.length<a.length
 ·exact Hb e c
 ·rw [aT o];exact Norm.nil
def Cf{x:Int}{an n:Nat}(ma:Mw h A an x)(ha:an<=ac)(hl:an<=100000000000000)(hK:∀ A' m c',m<=c'->m<=n->m<=an->Mw h A' m (x%b64^n)->K (.slice A' m c') h):aW prog 277 #[.slice A an ac,I n] h K:=by
 obtain ⟨b,rfl,c,a,d,rfl⟩:=ma
 refine (fnk func277) ?_
 rw [A6u,aC,G0,bU,bU]
 refine ⟨⟨o,o⟩,U3 (Et c (m:=min n b.length) o ha) (a.take _) gz0 (Gg a n).2.symm o o ?_⟩
 grind
def Dq{x y:Int}{an bn n:Nat}(ma:Mw h A an x)(mb:Mw h B bn y)(hbn:bn<=n)(hl:n+an<=34000000000000)(hK:∀ A' m c' h',h.le h'->m<=c'->Mw h' A' m (x*b64^n+y)->K (.slice A' m c') h'):aW prog 280 #[.slice A an ac,.slice B bn bc,I n] h K:=by
 obtain ⟨a,rfl,r,z,F,rfl⟩:=ma
 obtain ⟨f,rfl,p,t,D,rfl⟩:=mb
 refine (fnk func280) ?_
 have u:B9 ((n:Int)+a.length)=((n+a.length:Nat):Int):=by rw [B7 o o];omega
 rw [u]
 refine I5 L7 o o o ?_
 intro b k
 rw [aC]
 refine ⟨_,_,_,rfl,?_⟩
 have j:=Win.blk .u64 230 k (aE (n+a.length) 0)
 refine Ci L7 j gz0 (p.mono j.le) rfl gz0 ?_
 intro E d
 refine ⟨_,rfl,⟨o,o⟩,?_⟩
 rw [bH] at d
 generalize hz:f++aE (n+a.length-f.length) (0:Int)=zs at d
 have q:zs.length=n+a.length:=gz0
 have w:=d.sub (l:=n) (m:=n+a.length) (c:=n+a.length) o o o
 refine Ci L7 w gz0 (r.mono d.le) rfl gz0 ?_
 intro C i
 rw [aT gz0,bW] at i
 have e:=d.whole (l:=n) (m:=n+a.length) o o o i
 rw [aT (show zs.length<=n+a.length from o),bW] at e
 have g:zs.take n=f++aE (n-f.length) 0:=by
  rw [<- hz,List.take_append,aN o,cN]
  grind
 rw [g] at e
 refine ⟨_,rfl,U3 e.sl ((t.append (G2 dc _)).append z) gz0 rfl o o ?_⟩
 intro m s M
 refine ⟨_,_,_,rfl,hK _ _ _ _ e.le s ?_⟩
 rw [F4,Y6] at M
 grind
def A96{x y:Int}(hx:0<=x/\x<18446744073709551616)(hy:0<=y/\y<18446744073709551616)(hK:K (.tuple #[U (x*y/18446744073709551616),U (x*y%18446744073709551616)]) h):aW prog 155 #[U x,U y] h K:=by
 refine (fnk func155) ?_
 exact Hc hx hy ⟨_,_,rfl,hK⟩
def Wc{v:Int}{n:Nat}(s:SlI .u64 h A [v])(hn:0<n)(hl:n<=10000000000000)(hK:∀ A' h',h.le h'->SlI .u64 h' A' (aE n v)->K (.slice A' n n) h'):aW prog 287 #[.slice A 1 ac,I n] h K:=by
 refine (fnk func287 [(8,[8],[],[I 0])]) ?_
 refine B6 (fun d=>o) (fun _=>?_)
 rw [C1 (n:=((1:Nat):Int)) o o,C1 (n:=(n:Int)) o o]
 refine A96 o o ⟨_,_,rfl,?_⟩
 have y:((1:Nat):Int)*(n:Int)/18446744073709551616=0:=o
 have x:((1:Nat):Int)*(n:Int)%18446744073709551616=n:=o
 rw [y,x]
 refine B6 (fun d=>o) (fun _=>?_)
 refine B6 (fun d=>o) (fun _=>?_)
 rw [B7 (n:=(n:Int)) o o]
 refine I5 L7 o o o ?_
 intro b q
 refine ⟨_,_,_,rfl,?_⟩
 have j:=Win.blk .u64 230 q (aE n 0)
 refine Ci L7 j (by simp) (s.mono j.le) rfl gz0 ?_
 intro d f
 refine ⟨_,rfl,?_⟩
 rw [bH] at f
 refine ⟨fun l e=>∃ k:Nat,l=[I k]/\0<k/\k<=n/\Win .u64 e h b 230 (some ⟨b,0,none⟩) [] (aE k v++aE (n-k) 0) [],fun l _=>n-(iAt l 0).toNat,⟨1,rfl,o,hn,f⟩,?_⟩
 rintro i e ⟨k,B,t,a,w⟩
 obtain rfl:i=(k:Int):=gz0
 refine B6 (fun p=>?_) (fun p=>?_)
 ·have u:(aE k v++aE (n-k) (0:Int)).length=n:=gz0
  refine ⟨⟨o,o⟩,⟨o,o⟩,?_⟩
  simp only [aC,G0,bU]
  have C:=w.sub (l:=k) (m:=n) (c:=n) o o o
  have r:SlI .u64 e (some ⟨b,0,none⟩) (aE (min k (n-k)) v):=by
   have:=Et w.sl (c:=n) (m:=min k (n-k)) o o
   grind
  refine A5v L7 C (by simp) r (by simp) ?_
  intro F g
  rw [bV] at g ⊢
  have D:=w.whole (l:=k) (m:=n) o o (by simp;omega) g
  have z:B9 ((k:Int)+(min k (n-k):Nat))=((k+min k (n-k):Nat):Int):=by rw [B7 o o];omega
  refine ⟨_,rfl,?_⟩
  rw [z]
  refine ⟨⟨_,rfl,o,o,?_⟩,?_⟩
  ·have E:(aE k v++aE (n-k) (0:Int)).take k++(aE (min k (n-k)) v++(aE (n-k) (0:Int)).drop (min k (n-k)))++(aE k v++aE (n-k) (0:Int)).drop n=aE (k+min k (n-k)) v++aE (n-(k+min k (n-k))) 0:=by
    rw [dA (by simp),aT (show (aE k v++aE (n-k) (0:Int)).length<=n from o),bW,bH,<- bX,cT]
    grind
   grind
  ·simp only [iAt,aF];omega
 ·have a:k=n:=o
  subst a
  have:=w.sl
  rw [Nat.sub_self,List.replicate_zero,bW] at this
  exact hK _ _ w.le this
end
def Mw.high{h:bG}{A:Option bL}{an ac k:Nat}{x:Int}(ma:Mw h A an x)(ha:an<=ac)(hk:k<=an):Mw h (P7 A ac k 1) (an-k) (x/b64^k):=by
 obtain ⟨c,rfl,d,b,f,rfl⟩:=ma
 have e:=(Gg b k).1
 rw [aI hk] at e
 rw [e,<- bY]
 refine Mw.of (Re d hk ha) (b.drop _) ?_
 by_cases a:k<c.length
 ·exact Hb f a
 ·rw [aT o];exact Norm.nil
def A4k{x P X2 yh top:Int}(hP:0<P)(h1:x<P*P*(X2+1))(h2:P*top<=x)(hlt:X2<yh):top<P*yh:=by
 by_cases a:top<P*yh
 ·exact a
 ·have c:P*(P*yh)<=P*top:=aG o o
  have b:P*P*(X2+1)<=P*P*yh:=aG o (aO o o)
  grind
def A4l{x P X2 yh top:Int}(hP:0<P)(h1:P*P*X2<=x)(h2:x<P*(top+1))(hge:yh<=X2):P*yh<=top:=by
 by_cases a:P*yh<=top
 ·exact a
 ·have c:P*(top+1)<=P*(P*yh):=aG o o
  have b:P*P*yh<=P*P*X2:=aG o (aO o o)
  grind
def A76(N:Nat):Prop:=∀ {h:bG} {K:VP} {A B:Option bL} {ac bc an bn:Nat} {x y:Int},bn<=N->Mw h A an x->Mw h B bn y->an<=ac->bn<=bc->an<=19000000000000->bn<=9300000000000->0<bn->9223372036854775808*b64^(bn-1)<=y->x<b64^bn*y->
 (∀ A1 m1 c1 A2 m2 c2 h',h.le h'->m1<=c1->m2<=c2->Mw h' A1 m1 (x/y)->Mw h' A2 m2 (x%y)->K (.tuple #[.slice A1 m1 c1,.slice A2 m2 c2]) h')->aW prog 279 #[.slice A an ac,.slice B bn bc] h K
section
variable {h g:bG} {K:VP} {A B:Option bL} {ac bc:Nat}
def Z2{x y:Int}:Bf x y<0↔x<y:=by
 unfold Bf
 omega
set_option maxHeartbeats 1000000 in
def Vp{x y q0 R0 pr:Int}{m bn nq cq np cp nr cr:Nat}{Aq Ap Ar:Option bL}(hx0:0<=x)(mb:Mw h B bn y)(hb:bn<=bc)(hl2:bn<=9300000000000)(hbm:bn=2*m)(mq:Mw h Aq nq q0)(hq:nq<=cq)(mp:Mw h Ap np pr)(hp2:pr<b64^bn)
 (mr:Mw h Ar nr R0) (hr:nr<=cr) (hq0:q0<b64^m) (hR:R0-pr=x-q0*y) (hy:x-q0*y<y)
 (hK:∀ A1 m1 c1 A2 m2 c2 h',h.le h'->m1<=c1->m2<=c2->Mw h' A1 m1 (x/y)->Mw h' A2 m2 (x%y)->K (.tuple #[.slice A1 m1 c1,.slice A2 m2 c2]) h'):
 T8 prog B bn bc K Aq nq cq Ap np cp Ar nr cr h:=by
 have L:=mb.lt dc
 have N:=mb.nonneg dc
 have G:=mp.nonneg dc
 unfold T8
 refine ⟨fun l c=>∃ (Aq Ar:Option bL) (nq cq nr cr:Nat) (q R:Int),l=[.slice Aq nq cq,.slice Ar nr cr]/\h.le c/\Mw c Aq nq q/\nq<=cq/\Mw c Ar nr R/\nr<=cr/\q<b64^m/\R-pr=x-q*y/\x-q*y<y,fun l c=>match l with|[.slice A n _,_]=>A2p b64 c A n|_=>0,⟨_,_,_,_,_,_,_,_,rfl,B4 h,mq,hq,mr,hr,hq0,hR,hy⟩,?_⟩
 rintro A1 M c1 A2 O c2 c ⟨Aq,Ar,nq,cq,nr,cr,q,R,t,e,mq,hq,mr,hr,hq0,hR,hy⟩
 simp only [cF,cQ,and_true] at t
 obtain ⟨⟨rfl,rfl,rfl⟩,rfl,rfl,rfl⟩:=t
 have C:O<=bn+1:=mr.len_le dc (by
  rw [bB]
  show R<b64^bn*18446744073709551616
  omega)
 have H:M<=m:=mq.len_le dc hq0
 refine F2 mr (mp.mono e) o ⟨_,rfl,?_⟩
 refine B6 (fun g=>?_) (fun g=>?_)
 ·rw [Z2] at g
  have w:=mq.nonneg dc
  have r:1<=q:=by
   by_cases Q:1<=q
   ·exact Q
   ·obtain rfl:q=0:=o
    omega
  refine O1 mr (mb.mono e) hr hb o o ?_
  intro A3 z F j d f M3
  refine ⟨_,_,_,rfl,T6 L7 rfl ?_⟩
  intro b k
  refine ⟨_,_,_,rfl,?_⟩
  have i:=Heap.le_put (.cells #[U 1] 230) k
  have M1:Mw (j.put b (.cells #[U 1] 230)) (some ⟨b,0,none⟩) 1 1:=⟨[1],rfl,SlI.new j b [1] 230 _,Dig.one dc,by simp [fK],Q9 _ _⟩
  refine F8 ((mq.mono d).mono i) M1 hq o r ?_
  intro A5 S V T s E M5
  refine ⟨_,_,_,rfl,⟨_,_,_,_,_,_,_,_,rfl,B0 e (B0 d (B0 i s)),M5,E,(M3.mono i).mono s,f,o,?_,?_⟩,?_⟩
  ·rw [Int.sub_mul];omega
  ·rw [Int.sub_mul];omega
  ·simp only [T5 M5,T5 mq];omega
 ·rw [Z2] at g
  refine F8 mr (mp.mono e) hr o o ?_
  intro A3 z F j d f M3
  obtain ⟨D,u⟩:=Rd (x:=x) (a:=R-pr) (b:=q) (p:=y) (by rw [hR,aU y];omega) o o
  refine ⟨_,_,_,rfl,hK _ _ _ _ _ _ _ (B0 e d) hq f ?_ ?_⟩
  ·rw [D];exact mq.mono d
  ·rw [u];exact M3
set_option maxHeartbeats 1000000 in
def Kv{N:Nat}(ih:A76 N){x y:Int}{an bn m:Nat}(hm:0<m)(hN:m<=N)(hbm:bn=2*m)(ma:Mw h A an x)(mb:Mw h B bn y)(ha:an<=ac)(hb:bn<=bc)(hl:an<=19000000000000)(hl2:bn<=9300000000000)(htop:9223372036854775808*b64^(bn-1)<=y)(hxy:x<b64^m*y)
 (hK:∀ A1 m1 c1 A2 m2 c2 h',h.le h'->m1<=c1->m2<=c2->Mw h' A1 m1 (x/y)->Mw h' A2 m2 (x%y)->K (.tuple #[.slice A1 m1 c1,.slice A2 m2 c2]) h'):aW prog 286 #[.slice A an ac,.slice B bn bc] h K:=by
 have ag:=ma.nonneg dc
 have a5:=mb.nonneg dc
 have ap:=mb.lt dc
 have n:=D3 (B:=b64) dc m
 have al:b64^bn=b64^m*b64^m:=by rw [<- aS];congr 1;omega
 have s:b64^(2*m)=b64^m*b64^m:=by rw [<- aS];congr 1;omega
 have aq:b64^(bn-1)=b64^m*b64^(m-1):=by rw [<- aS];congr 1;omega
 have ay:an<=m+bn:=ma.len_le dc (by
  have g:b64^m*y<b64^m*b64^bn:=bM ap n
  rw [aS];omega)
 have a:=mb.high (k:=m) hb o
 rw [show bn-m=m from o] at a
 have d:=a.nonneg dc
 have aw:=a.lt dc
 have dy:b64^m*(y/b64^m)+y%b64^m=y:=aL _ _
 have V:=aP y (b:=b64^m) o
 have a2:=aK y n
 have dx:b64^m*(x/b64^m)+x%b64^m=x:=aL _ _
 have a4:=aP x (b:=b64^m) o
 have bb:=aK x n
 have a0:=D3 (B:=b64) dc (m-1)
 have af:9223372036854775808*b64^(m-1)<=y/b64^m:=by
  by_cases hc:9223372036854775808*b64^(m-1)<=y/b64^m
  ·exact hc
  ·have g:b64^m*(y/b64^m+1)<=b64^m*(9223372036854775808*b64^(m-1)):=aG o o
   have O:b64^m*(9223372036854775808*b64^(m-1))=9223372036854775808*(b64^m*b64^(m-1)):=gz0
   rw [aq] at htop
   rw [cZ] at g
   omega
 obtain ⟨ys,am,sy,e,W,rfl⟩:=mb
 have mb:Mw h B bn (val b64 ys):=⟨ys,am,sy,e,W,rfl⟩
 generalize hyv:val b64 ys=y at *
 refine Kc _ _ _ _ _ _ ?_
 unfold Hx
 have eh:B9 (cI ((bn:Nat):Int) 2)=(m:Int):=by rw [aX o,B7 o o];omega
 have aa:B9 (2*(m:Int))=((2*m:Nat):Int):=by rw [B7 o o];omega
 simp only [eh,aa,aC,bU,G0]
 rw [show bn-m=m from o]
 refine ⟨⟨o,o⟩,⟨o,o⟩,U3 (Et sy (m:=m) (c:=bc) o o) (e.take m) (by rw [aJ];omega) rfl o o ?_⟩
 intro yn a8 Myl
 have t:=(Gg e m).2
 rw [aI o,hyv] at t
 rw [<- t] at Myl
 refine ⟨_,_,_,rfl,B4 h,S4 ma ha ?_⟩
 intro A1 n1 c1 k1 a7 M1
 refine ⟨_,_,_,rfl,?_⟩
 have E:=M1.nonneg dc
 refine ⟨fun l S=>∃ (Aq Ar:Option bL) (R cq T cr:Nat) (q r:Int),l=[.slice Aq R cq,.slice Ar T cr]/\h.le S/\Mw S Aq R q/\R<=cq/\Mw S Ar T r/\T<=cr/\q<b64^m/\x/b64^m=q*(y/b64^m)+r/\x-q*y<y,?_,?_⟩
 ·refine S4 ma ha ?_
  intro A2 n2 c2 k2 a6 M2
  refine ⟨_,_,_,rfl,F2 M2 a o ⟨_,rfl,?_⟩⟩
  have au:b64^(2*m)*(x/b64^(2*m))+x%b64^(2*m)=x:=aL _ _
  have ae:=aP x (b:=b64^(2*m)) (by have:=D3 (B:=b64) dc (2*m);omega)
  have ad:=aK x (D3 (B:=b64) dc (2*m))
  generalize x/b64^(2*m)=X2 at *
  rw [s] at au ae ad
  refine B6 (fun Q=>?_) (fun Q=>?_)
  ·rw [Z2] at Q
   have X:=A4k (x:=x) (top:=x/b64^m) n (by rw [cZ];omega) o Q
   refine ih hN M1 a k1 o o o hm af X ?_
   intro A3 n3 c3 A4 n4 c4 h3 p k3 k4 M3 M4
   have H:0<y/b64^m:=o
   have d1:=aL (x/b64^m) (y/b64^m)
   have d2:=aK (x/b64^m) H
   have d0:=M3.nonneg dc
   refine ⟨_,_,_,_,_,_,rfl,_,_,_,_,_,_,_,_,rfl,p,M3,k3,M4,k4,aY H X,by rw [aU];omega,?_⟩
   generalize (x/b64^m)/(y/b64^m)=q at *
   generalize (x/b64^m)%(y/b64^m)=r at *
   generalize x/b64^m=top at *
   generalize y/b64^m=yh at *
   generalize y%b64^m=yl at *
   generalize x%b64^m=xl at *
   generalize b64^m=P at *
   have g:P*(r+1)<=P*yh:=aG o o
   have O:x-q*y=P*r+xl-q*yl:=by rw [<- dx,<- dy,<- d1];grind
   have t3:=aO d0 V
   rw [cZ] at g
   omega
  ·rw [Z2] at Q
   have X:=A4l (x:=x) (top:=x/b64^m) (yh:=y/b64^m) (X2:=X2) n o (by rw [cZ];omega) o
   refine T6 L7 rfl ?_
   intro b aj
   refine ⟨_,_,_,rfl,?_⟩
   have l4:=Heap.le_put (.cells #[U 18446744073709551615] 230) aj
   refine Wc (v:=18446744073709551615) (SlI.new h b [18446744073709551615] 230 _) hm o ?_
   intro A5 h5 w s5
   refine ⟨_,_,_,rfl,?_⟩
   have L:=B0 l4 w
   refine Dq (a.mono L) (Mag.zero (k:=.u64) (B:=b64)) o o ?_
   intro A6 n6 c6 h6 l6 k6 M6
   refine ⟨_,_,_,rfl,?_⟩
   have i:=B0 L l6
   refine F8 (M1.mono i) M6 k1 o (by rw [aU];omega) ?_
   intro A7 n7 c7 h7 u k7 M7
   have a9:n7<=an:=M7.len_le dc (by
    have:=ma.lt dc
    have g:=aO d (aM n)
    have O:1*(x/b64^m)<=b64^m*(x/b64^m):=aD o E
    omega)
   refine ⟨_,_,_,rfl,?_⟩
   refine O1 M7 ((a.mono i).mono u) k7 o o o ?_
   intro A8 n8 c8 h8 l8 k8 M8
   have D:∀ j:Nat,val b64 (aE j 18446744073709551615)=b64^j-1:=by
    intro j
    induction j with
    | zero=>rfl
    | succ j ihj=>
     rw [List.replicate_succ,val,ihj,bB]
     show (18446744073709551615:Int)+18446744073709551616*(b64^j-1)=b64^j*18446744073709551616-1
     omega
   have M5:Mw h5 A5 m (b64^m-1):=by
    refine ⟨aE m 18446744073709551615,by simp,s5,?_,?_,D m⟩
    ·intro z hz
     have:=List.eq_of_mem_replicate hz
     subst this;decide
    ·obtain ⟨j,rfl⟩:∃ j,m=j+1:=⟨m-1,o⟩
     unfold fK
     rw [List.replicate_succ']
     simp
   refine ⟨_,_,_,rfl,_,_,_,_,_,_,_,_,rfl,B0 i (B0 u l8),((M5.mono l6).mono u).mono l8,aV _,M8,k8,o,?_,?_⟩
   ·grind
   ·have:(b64^m-1)*y=b64^m*y-y:=gz0
    omega
 ·rintro Aq' ai a1 Ar' ak ax S ⟨Aq,Ar,R,cq,T,cr,q,r,F,lh,M,hq,mr,hr,f,ah,ao⟩
  simp only [cF,cQ,and_true] at F
  obtain ⟨⟨rfl,rfl,rfl⟩,rfl,rfl,rfl⟩:=F
  have C:=M.nonneg dc
  have a3:=mr.nonneg dc
  have ba:ai<=m:=M.len_le dc f
  have az:ak<=an:=mr.len_le dc (by
   have:=ma.lt dc
   have g:=aO C d
   have O:1*(x/b64^m)<=b64^m*(x/b64^m):=aD o E
   omega)
  refine F9 M (Myl.mono lh) hq o o o ?_
  intro A3 n3 c3 h3 p k3 M3
  refine ⟨_,_,_,rfl,Cf (ma.mono (B0 lh p)) ha o ?_⟩
  intro A4 n4 c4 k4 ar av M4
  refine ⟨_,_,_,rfl,Dq (mr.mono p) M4 ar o ?_⟩
  intro A5 n5 c5 h5 w k5 M5
  have G:=B0 lh (B0 p w)
  refine ⟨_,_,_,rfl,Vp (q0:=q) (m:=m) ag (mb.mono G) hb hl2 hbm ((M.mono p).mono w) hq (M3.mono w) ?_ M5 k5 f ?_ ao ?_⟩
  ·rw [al]
   have g:q*(y%b64^m)<=q*b64^m:=aG o C
   have O:q*b64^m<b64^m*b64^m:=bC f n
   omega
  ·generalize x/b64^m=top at *
   generalize y/b64^m=yh at *
   generalize y%b64^m=yl at *
   generalize x%b64^m=xl at *
   generalize b64^m=P at *
   rw [<- dx,<- dy,ah];grind
  ·intro A6 n6 c6 A7 n7 c7 h7 u k6 k7 M6 M7
   exact hK _ _ _ _ _ _ _ (B0 G u) k6 k7 M6 M7
end
set_option maxHeartbeats 1000000 in
def B1m:∀ N,A76 N:=by
 intro N
 induction N with
 | zero=>intro h K A B V L an d x y W _ _ _ _ _ _ u;omega
 | succ N ih=>
  intro h K A B V L an d x y hN k g D n hl j ae f i X
  have aa:=k.nonneg dc
  have ah:=g.nonneg dc
  have e:0<y:=by
   have:=D3 (B:=b64) dc (d-1);omega
  refine (fnk func279) ?_
  have c:aW prog 260 #[.slice A an V,.slice B d L] h (fun r hp=>∃ (t22aA:Option bL) (t22an:Nat) (t22ac:Nat) (t22bA:Option bL) (t22bn:Nat) (t22bc:Nat),r= .tuple #[.slice t22aA t22an t22ac,.slice t22bA t22bn t22bc]/\K (.tuple #[.slice t22aA t22an t22ac,.slice t22bA t22bn t22bc]) hp):=by
   refine Bc k g D n o o o ?_
   intro A1 m1 c1 A2 m2 c2 h' l E O M1 M2
   exact ⟨_,_,_,_,_,_,rfl,X _ _ _ _ _ _ _ l E O M1 M2⟩
  refine B6 (fun W=>c) (fun W=>?_)
  refine G7 (fun u=>c) (fun u=>?_)
  rw [dC o] at u
  obtain ⟨m,hbm⟩:∃ m,d=2*m:=⟨d/2,o⟩
  have eh:B9 (cI ((d:Nat):Int) 2)=(m:Int):=by rw [aX o,B7 o o];omega
  simp only [eh]
  have T:=D3 (B:=b64) dc m
  have w:b64^d=b64^m*b64^m:=by rw [<- aS];congr 1;omega
  have dx:b64^m*(x/b64^m)+x%b64^m=x:=aL _ _
  have ag:=aP x (b:=b64^m) o
  have ak:=aK x T
  rw [w] at i
  refine S4 k D ?_
  intro A1 n1 c1 E ai M1
  refine ⟨_,_,_,rfl,?_⟩
  have H:x/b64^m<b64^m*y:=by
   by_cases hc:x/b64^m<b64^m*y
   ·exact hc
   ·have C:b64^m*(b64^m*y)<=b64^m*(x/b64^m):=aG o o
    rw [cW] at i
    omega
  refine Kv ih o o hbm M1 g E n o j f H ?_
  intro A2 n2 c2 A3 n3 c3 h3 q O k3 M2 M3
  refine ⟨_,_,_,_,_,_,rfl,Cf (k.mono q) D o ?_⟩
  intro A4 n4 c4 k4 G R M4
  have d1:=aL (x/b64^m) y
  have d2:=aK (x/b64^m) e
  have d3:=aP (x/b64^m) (b:=y) o
  have F:x/b64^m/y<b64^m:=aY e H
  have ad:n3<=d:=M3.len_le dc (by have:=g.lt dc;omega)
  have aj:n2<=m:=M2.len_le dc F
  refine ⟨_,_,_,rfl,Dq M3 M4 G o ?_⟩
  intro A5 n5 c5 h5 s k5 M5
  refine ⟨_,_,_,rfl,?_⟩
  have Q:(x/b64^m)%y*b64^m+x%b64^m<b64^m*y:=by
   have C:b64^m*((x/b64^m)%y+1)<=b64^m*y:=aG o o
   rw [cZ,aU] at C
   omega
  have af:n5<=d+m:=M5.len_le dc (by
   have C:b64^m*y<b64^m*b64^d:=bM (g.lt dc) T
   rw [Nat.add_comm,aS];omega)
  refine Kv ih o o hbm M5 (g.mono (B0 q s)) k5 n o j f Q ?_
  intro A6 n6 c6 A7 n7 c7 h7 M k6 k7 M6 M7
  have z:n6<=m:=M6.len_le dc (aY e Q)
  refine ⟨_,_,_,_,_,_,rfl,Dq ((M2.mono s).mono M) M6 z o ?_⟩
  intro A8 n8 c8 h8 S k8 M8
  refine ⟨_,_,_,rfl,?_⟩
  have e1:=aL ((x/b64^m)%y*b64^m+x%b64^m) y
  have e2:=aK ((x/b64^m)%y*b64^m+x%b64^m) e
  have e3:=aP ((x/b64^m)%y*b64^m+x%b64^m) (b:=y) o
  have M7':=M7.mono S
  have t:=B0 q (B0 s (B0 M S))
  generalize ((x/b64^m)%y*b64^m+x%b64^m)/y=q2 at *
  obtain ⟨f1,f2⟩:=Rd (x:=x) (a:=((x/b64^m)%y*b64^m+x%b64^m)%y) (b:=x/b64^m/y*b64^m+q2) (p:=y) (by
   generalize ((x/b64^m)%y*b64^m+x%b64^m)%y=r2 at *
   generalize x/b64^m/y=q1 at *
   generalize x/b64^m%y=r1 at *
   generalize x/b64^m=top at *
   generalize x%b64^m=xl at *
   generalize b64^m=P at *
   grind) e3 e2
  refine X _ _ _ _ _ _ _ t k8 k7 ?_ ?_
  ·rw [f1];exact M8
  ·rw [f2];exact M7'
def Ox{ys:List Int}{k t s:Nat}(dy:Dig b64 ys)(hk:ys.length=k+1)(ht:ys.getD k 0=(t:Int))(ht0:t≠0)(hs:s=64-L8 t):s<64/\val b64 ys*2^s<b64^(k+1)/\9223372036854775808*b64^k<=val b64 ys*2^s:=by
 have u:=K8 dy k
 obtain ⟨d,a⟩:=V5 (B:=b64) dc dy (m:=k) hk
 rw [ht] at u d a
 obtain ⟨p,n⟩:=Bi ht0
 have l:L8 t<=64:=Dx (k:=64) o
 have q:1<=L8 t:=gz0
 have f:s<64:=o
 have b:0<(2:Int)^s:=bI dc
 have g:=S5 (s:=s) o
 have j:(t:Int)+1<=2^(64-s):=by
  grind
 have i:(2:Int)^(63-s)<=t:=by
  grind
 have e:(2:Int)^s*2^(63-s)=9223372036854775808:=by
  rw [<- aS,show s+(63-s)=63 from o];decide
 have c:=D3 (B:=b64) dc k
 refine ⟨f,?_,?_⟩
 ·have r:val b64 ys*2^s<((t:Int)+1)*b64^k*2^s:=bC d b
  have x:((t:Int)+1)*2^s*b64^k<=18446744073709551616*b64^k:=by
   apply aD _ (aM c)
   rw [<- g,aU (2^s)]
   exact aD j (aM b)
  grind
 ·have w:(t:Int)*b64^k*2^s<=val b64 ys*2^s:=aD a (aM b)
  have r:9223372036854775808*b64^k<=(t:Int)*2^s*b64^k:=by
   apply aD _ (aM c)
   rw [<- e,aU (t:Int)]
   exact aG i o
  grind
section
variable {h g:bG} {K:VP} {A B:Option bL} {ac bc:Nat}
set_option maxHeartbeats 1000000 in
def Xd{D V a b:Int}{S sh dn dc vc bn bq:Nat}{pieces t46:Int}{DA VA:Option bL}(hS:B9 ((B9 (cI (B9 ((B9 (((bn:Nat):Int)+pieces))-(1:Int))) pieces))*pieces)=(S:Int))
 (hsh:C3 (B9 ((B9 ((64:Int)*(B9 ((S:Int)-((bn:Nat):Int)))))+t46))=(sh:Int)) (hS0:0<S) (hS2:S<=9300000000000) (hsh2:sh<=100000000000000) (hb:h bq=none) (hD:Mw h DA dn D) (hdc:dn<=dc) (hdn:0<dn) (hdl:dn<=9400000000000) (hV:Mw h VA S V) (hvc:S<=vc) (hVt:9223372036854775808*b64^(S-1)<=V)
 (hDa:D=a*2^sh) (hVb:V=b*2^sh)
 (hK:∀ A1 m1 c1 A2 m2 c2 h',h.le h'->m1<=c1->m2<=c2->Mw h' A1 m1 (a/b)->Mw h' A2 m2 (a%b)->K (.tuple #[.slice A1 m1 c1,.slice A2 m2 c2]) h'):
 U1 prog bn K pieces t46 VA S vc DA dn dc (some ⟨bq,0,none⟩) (dn+S) (dn+S) (blk .u64 230 h bq (aE (dn+S) 0)):=by
 have M:=hD.nonneg (by decide)
 have ak:=hD.lt (by decide)
 have L:=hV.lt (by decide)
 have q:0<V:=by have:=D3 (B:=b64) (by decide) (S-1);omega
 have hp:0<(2:Int)^sh:=bI (by decide)
 have hQ:=D3 (B:=b64) (by decide) S
 unfold U1
 simp only [hS,hsh]
 obtain ⟨nb,hnb⟩:∃ nb,nb=(dn-1)/S:=⟨_,rfl⟩
 have am:nb*S<=dn-1:=by rw [hnb];exact Nat.div_mul_le_self _ _
 have al:dn-1<nb*S+S:=by
  have R:=dU (dn-1) S
  have h2:=fC (dn-1) hS0
  rw [<- hnb,fM] at R
  omega
 have e1:B9 (B9 (cI (B9 ((dn:Int)-1)) (S:Int))*(S:Int))=((nb+1:Nat):Int)*S-S:=by
  rw [B7 (n:=(dn:Int)-1) o o,show (dn:Int)-1=((dn-1:Nat):Int) from o,<- Int.ofNat_tdiv,<- hnb]
  have:nb<=dn-1:=by rw [hnb];exact dT _ _
  have T:(nb:Int)*(S:Int)=((nb*S:Nat):Int):=by simp
  rw [B7 (n:=(nb:Int)) o o,T,B7 o o,Int.natCast_add,Int.add_mul,T]
  omega
 refine ⟨fun l hp=>∃ (j n c:Nat) (A:Option bL) (d:List Int) (r:Int) (g:bG),l=[.slice A n c,I ((j:Int)*S-S)]/\h.le g/\j*S+d.length=dn+S/\Dig b64 d/\Win .u64 hp g bq 230 (some ⟨bq,0,none⟩) [] (aE (j*S) 0++d) []/\Mw g A n r/\n<=c/\r=(D/b64^(j*S))%V/\val b64 d=(D/b64^(j*S))/V,fun l _=>(iAt l 1+S).toNat,⟨nb+1,0,0,none,aE (dn-1+1-nb*S) 0,0,h,by rw [e1],B4 h,?_,G2 (by decide) _,?_,Mag.zero,aV _,?_,?_⟩,?_⟩
 ·rw [bV,dH,dG];omega
 ·rw [cT,show (nb+1)*S+(dn-1+1-nb*S)=dn+S by rw [dH,dG];omega]
  exact Win.blk .u64 230 hb _
 ·have:=C8 (B:=b64) (by decide) (show dn<=(nb+1)*S by rw [dH,dG];omega)
  rw [bF M o,fH]
 ·have:=C8 (B:=b64) (by decide) (show dn<=(nb+1)*S by rw [dH,dG];omega)
  rw [bF M o,Int.zero_ediv,X3]
 rintro A1 n1 c1 st a1 ⟨j,n,c,A',d,r,g,N,lg,t,H,w,Mr,aw,y,f⟩
 simp only [cF,cQ,eS,and_true,true_and] at N
 obtain ⟨⟨rfl,rfl,rfl⟩,rfl⟩:=N
 refine B6 (fun R=>?_) (fun R=>?_)
 ·obtain ⟨i,rfl⟩:∃ i,j=i+1:=⟨j-1,by
   rcases j with _|j
   ·simp at R;omega
   ·rfl⟩
  obtain ⟨e,he⟩:∃ e,e=i*S:=⟨_,rfl⟩
  have C:(i+1)*S=e+S:=by rw [he,dH,dG]
  have af:((i+1:Nat):Int)*(S:Int)-(S:Int)=(e:Int):=by rw [<- cG,C];omega
  rw [C] at t w y f
  rw [af]
  have a2:=D3 (B:=b64) (by decide) e
  refine w.call (S4 (hD.mono lg) hdc ?_)
  intro A2 n2 c2 k2 a0 M2 h2 w2
  refine ⟨_,_,_,rfl,w2.call (Cf M2 k2 o ?_)⟩
  intro A3 n3 c3 k3 ah aj M3 T w3
  have av:=Mr.nonneg (by decide)
  have an:r<V:=by rw [y];exact aK _ q
  have ao:n1<=S:=Mr.len_le (by decide) o
  refine ⟨_,_,_,rfl,w3.call (Dq Mr M3 ah o ?_)⟩
  intro A4 n4 c4 g4 l4 k4 M4 h4 w4
  have ac:D/b64^(e+S)=D/b64^e/b64^S:=by rw [aS,dP o]
  rw [ac] at y f
  have dm:=aL (D/b64^e) (b64^S)
  have au:=aP (D/b64^e) (b:=b64^S) o
  have ay:=aK (D/b64^e) hQ
  generalize hD1:D/b64^e=D1 at *
  have s:r*b64^S+D1%b64^S<b64^S*V:=by
   have t1:b64^S*(r+1)<=b64^S*V:=aG o o
   rw [cZ,aU] at t1
   omega
  have az:n4<=S+S:=M4.len_le (by decide) (by
   have t1:b64^S*V<b64^S*b64^S:=bM L hQ
   rw [aS];omega)
  have z:=B0 lg l4
  refine ⟨_,_,_,rfl,w4.call (B1m S (aV _) M4 (hV.mono z) k4 hvc o hS2 hS0 hVt s ?_)⟩
  intro A5 n5 c5 A6 n6 c6 g6 l6 k5 k6 M5 M6 h6 X
  have ar:n5<=S:=M5.len_le (by decide) (aY q s)
  refine ⟨_,_,_,_,_,_,rfl,⟨o,o⟩,?_⟩
  rw [aC]
  have ad:aE (e+S) (0:Int)++d=aE e 0++(aE S 0++d):=by rw [<- bX,cT]
  rw [ad] at X
  have ap:(aE e (0:Int)++(aE S 0++d)).length=dn+S:=by simp only [aR,bV];omega
  have w7:=X.sub (l:=e) (m:=dn+S) (c:=dn+S) o o o
  have e7:((aE e (0:Int)++(aE S 0++d)).drop e).take (dn+S-e)=aE S 0++d:=by
   rw [eZ (by simp),aN (by simp only [aR,bV];omega)]
  rw [e7] at w7
  obtain ⟨u,E,ae,ai,ax,G⟩:=M5
  refine Ci L7 w7 (by simp only [aR,bV];omega) (ae.mono X.le) E (by simp only [aR,bV];omega) ?_
  intro h8 w8
  rw [cY (by simp;omega),bH,<- bX u] at w8
  have k:(u++aE (S-u.length) (0:Int)).length=S:=by simp;omega
  have w9:=X.whole (l:=e) (m:=dn+S) o o (by rw [aR,k];omega) w8
  rw [dA (by simp),aT (show (aE e (0:Int)++(aE S 0++d)).length<=dn+S from o),bW] at w9
  have e8:B9 ((e:Int)-(S:Int))=((i:Nat):Int)*S-S:=by
   rw [B7 o o,he,cG]
  have aq:=aL (r*b64^S+D1%b64^S) V
  have F:=aP (r*b64^S+D1%b64^S) (b:=V) o
  have O:=aK (r*b64^S+D1%b64^S) q
  have aa:=aL (D1/b64^S) V
  rw [<- y,<- f] at aa
  obtain ⟨f1,f2⟩:=Rd (x:=D1) (a:=(r*b64^S+D1%b64^S)%V) (b:=val b64 u+b64^S*val b64 d) (p:=V) (by
   rw [G]
   generalize (r*b64^S+D1%b64^S)%V=r2 at *
   generalize hq2:(r*b64^S+D1%b64^S)/V=q2 at *
   generalize D1%b64^S=bl at *
   generalize D1/b64^S=D2 at *
   generalize b64^S=Q at *
   generalize val b64 d=W at *
   grind) F O
  refine ⟨_,rfl,?_⟩
  rw [e8]
  refine ⟨⟨i,_,_,_,(u++aE (S-u.length) 0)++d,_,g6,rfl,B0 z l6,?_,?_,?_,M6,k6,?_,?_⟩,?_⟩
  ·rw [aR,k];omega
  ·exact (ai.append (G2 (by decide) _)).append H
  ·rw [<- he];exact w9
  ·rw [<- he,hD1,f2]
  ·rw [<- he,hD1,f1,F4,k,Y6]
  ·simp only [iAt,aH,aF]
   rw [<- cG,<- he]
   omega
 ·obtain rfl:j=0:=by
   rcases j with _|j
   ·rfl
   ·rw [<- cG,dH,dG] at R
    omega
  rw [fL,List.replicate_zero,cD] at w
  rw [fL,fR,Int.ediv_one] at y f
  rw [fL,Nat.zero_add] at t
  have ag:0<b:=by
   by_cases hc:0<b
   ·exact hc
   ·have:=aD (show b<=0 from o) (aM hp);omega
  obtain ⟨f1,f2⟩:=Rd (x:=D) (a:=(a%b)*2^sh) (b:=a/b) (p:=V) (by
   have:=aL a b
   rw [hDa,hVb]
   conv=>rhs;rw [<- this]
   grind) (aO (aP _ o) o) (by rw [hVb];exact bC (aK _ ag) hp)
  refine U3 w.sl H t.symm f o o ?_
  intro m2 k2 M2
  refine ⟨_,_,_,rfl,?_⟩
  refine Ck (Mr.mono w.le) (by have:=Mr.len_le (j:=S) (by decide) (by have:=aK D q;omega);omega) o ?_
  intro A3 n3 c3 T l3 k3 M3
  rw [y,f2,eE _ o] at M3
  rw [f1] at M2
  exact ⟨_,_,_,rfl,hK _ _ _ _ _ _ _ (B0 lg (B0 w.le l3)) k2 k3 (M2.mono l3) M3⟩
set_option maxHeartbeats 1000000 in
def Jc{x y:Int}{an bn:Nat}(ma:Mw h A an x)(mb:Mw h B bn y)(ha:an<=ac)(hbc:bn<=bc)(hl:an<=9000000000000)(hl2:bn<=9000000000000)(ha0:0<an)(hb0:0<bn)
 (hK:∀ A1 m1 c1 A2 m2 c2 h',h.le h'->m1<=c1->m2<=c2->Mw h' A1 m1 (x/y)->Mw h' A2 m2 (x%y)->K (.tuple #[.slice A1 m1 c1,.slice A2 m2 c2]) h'):aW prog 259 #[.slice A an ac,.slice B bn bc] h K:=by
 have aj:=ma.nonneg dc
 have af:=ma.len_zero dc
 have j:=ma.lt dc
 refine Ke _ _ _ _ _ _ ?_
 unfold Hz Ec
 refine ⟨fun l hp=>hp=h/\∃ p:Nat,l=[I p]/\0<p/\p<=bn/\(p=1\/39*p<=bn),fun l _=>bn-(iAt l 0).toNat,⟨rfl,1,rfl,o,o,.inl rfl⟩,?_⟩
 rintro z hp ⟨rfl,p,W,m,ad,X⟩
 obtain rfl:=sI1 W
 have e1:B9 (cI (B9 (B9 ((bn:Int)+(p:Int))-1)) (p:Int))=(((bn+p-1)/p:Nat):Int):=by
  rw [B7 (n:=(bn:Int)+p) o o,B7 (n:=(bn:Int)+p-1) o o,show (bn:Int)+p-1=((bn+p-1:Nat):Int) from o,<- Int.ofNat_tdiv]
  have:(bn+p-1)/p<=bn+p-1:=dT _ _
  generalize (bn+p-1)/p=q at *
  rw [B7 o o]
 refine B6 (fun d=>o) (fun _=>?_)
 obtain ⟨S,hS⟩:∃ S,S=(bn+p-1)/p*p:=⟨_,rfl⟩
 have ag:bn<=S/\S<=bn+p-1:=by
  have d:=dU (bn+p-1) p
  have C:=fC (bn+p-1) m
  rw [fM,<- hS] at d
  omega
 have e2:B9 ((B9 (cI (B9 (B9 ((bn:Int)+(p:Int))-1)) (p:Int)))*(p:Int))=(S:Int):=by
  rw [e1,<- cG,<- hS,B7 o o]
 refine B6 (fun d=>?_) (fun d=>?_)
 ·rw [e1] at d
  have C:80<=(bn+p-1)/p:=o
  rw [Nat.le_div_iff_mul_le m] at C
  have O:B9 ((p:Int)*2)=((p*2:Nat):Int):=by rw [B7 o o];omega
  rw [O]
  exact ⟨⟨rfl,_,rfl,o,o,.inr o⟩,by simp only [iAt,aF];omega⟩
 ·refine B6 (fun d=>o) (fun _=>?_)
  obtain ⟨k,hk⟩:∃ k,bn=k+1:=⟨bn-1,o⟩
  have R:=mb
  obtain ⟨a,M,sy,dy,ny,rfl⟩:=mb
  have c:a.length=k+1:=o
  have gt:=K8 dy k
  have Q:=Se c ny
  have O:B9 ((bn:Int)-1)=(k:Int):=by rw [B7 o o];omega
  rw [O]
  subst M
  refine sy.load rfl o o ?_
  rw [aC]
  obtain ⟨t,ht⟩:∃ t:Nat,a.getD k 0=t:=⟨(a.getD k 0).toNat,o⟩
  rw [ht] at gt Q ⊢
  refine N9 o ⟨_,rfl,?_⟩
  obtain ⟨s,hs⟩:∃ s,s=64-L8 t:=⟨_,rfl⟩
  rw [<- hs]
  obtain ⟨aa,N,L⟩:=Ox dy c ht o hs
  simp only [e2]
  obtain ⟨sh,hsh⟩:∃ sh,sh=64*(S-a.length)+s:=⟨_,rfl⟩
  have e4:C3 (B9 (B9 (64*B9 ((S:Int)-(a.length:Int)))+(s:Int)))=(sh:Int):=by
   rw [B7 (n:=(S:Int)-(a.length:Int)) o o,B7 (n:=64*((S:Int)-(a.length:Int))) o o,B7 o o,C1 o o]
   omega
  simp only [e4]
  have f:(2:Int)^sh=2^s*b64^(S-a.length):=by rw [hsh,aS,Fo,aU]
  have g:=D3 (B:=b64) dc (S-a.length)
  have ai:0<(2:Int)^s:=bI dc
  have i:0<(2:Int)^sh:=bI dc
  have ae:val b64 a*2^sh=val b64 a*2^s*b64^(S-a.length):=by rw [f,cW]
  have E:val b64 a*2^sh<b64^S:=by
   have w:val b64 a*2^s*b64^(S-a.length)<b64^(k+1)*b64^(S-a.length):=bC N g
   rw [<- aS,show k+1+(S-a.length)=S from o] at w
   omega
  have T:9223372036854775808*b64^(S-1)<=val b64 a*2^sh:=by
   have w:9223372036854775808*b64^k*b64^(S-a.length)<=val b64 a*2^s*b64^(S-a.length):=aD L (aM g)
   rw [cW,<- aS,show k+(S-a.length)=S-1 from o] at w
   omega
  refine Q1 R hbc o o ?_
  intro A1 b c1 d l1 k1 M1
  refine ⟨_,_,_,rfl,?_⟩
  have G:b=S:=by
   have q1:=M1.len_le dc E
   have q2:=M1.lt dc
   by_cases hc:b=S
   ·exact hc
   ·have:=C8 (B:=b64) dc (show b<=S-1 from o)
    have:=D3 (B:=b64) dc (S-1)
    omega
  subst G
  refine Q1 (ma.mono l1) ha o o ?_
  intro A2 u c2 C l2 k2 M2
  refine ⟨_,_,_,rfl,?_⟩
  have ah:u<=an+(1+(b-a.length)):=M2.len_le dc (by
   have w:x*2^sh<b64^an*2^sh:=bC j i
   have t2:(2:Int)^sh<=b64^(1+(b-a.length)):=by
    rw [f,aS]
    apply aD _ (aM g)
    have:=C8 (B:=2) dc (show s<=64 from o)
    have e:(2:Int)^64=18446744073709551616:=dc
    show (2:Int)^s<=b64^1
    rw [bB,fR]
    show (2:Int)^s<=1*18446744073709551616
    omega
   have t3:b64^an*2^sh<=b64^an*b64^(1+(b-a.length)):=aG t2 (aM (D3 dc an))
   rw [aS b64 an]
   omega)
  have r:0<u:=by
   rcases Nat.eq_zero_or_pos u with F|F
   ·have:=(M2.len_zero dc).2 F
    rcases Int.mul_eq_zero.1 this with h3|h3<;>omega
   ·exact F
  have e5:B9 ((u:Int)+(b:Int))=((u+b:Nat):Int):=by rw [B7 o o];omega
  rw [e5]
  refine I5 L7 o o o ?_
  intro bq H
  rw [aC]
  refine ⟨_,_,_,rfl,?_⟩
  refine B6 (fun d=>o) (fun _=>?_)
  refine Xd (D:=x*2^sh) (V:=val b64 a*2^sh) (sh:=sh) (S:=b) e2 e4 o o o H M2 k2 r o (M1.mono l2) k1 T rfl rfl ?_
  intro A3 n3 c3 A4 n4 c4 h4 l4 k3 k4 M3 M4
  exact hK _ _ _ _ _ _ _ (B0 l1 (B0 l2 l4)) k3 k4 M3 M4
def O8{x y:Int}{an bn:Nat}(ma:Mw h A an x)(mb:Mw h B bn y)(ha:an<=ac)(hbc:bn<=bc)(hy:y≠0)(hl:an<=9000000000000)(hl2:bn<=9000000000000)
 (hK:∀ A1 m1 c1 A2 m2 c2 h',h.le h'->m1<=c1->m2<=c2->Mw h' A1 m1 (x/y)->Mw h' A2 m2 (x%y)->K (.tuple #[.slice A1 m1 c1,.slice A2 m2 c2]) h'):aW prog 231 #[.slice A an ac,.slice B bn bc] h K:=by
 refine (fnk func231) ?_
 have a:aW prog 260 #[.slice A an ac,.slice B bn bc] h (fun r c=>∃ (t22aA:Option bL) (t22an:Nat) (t22ac:Nat) (t22bA:Option bL) (t22bn:Nat) (t22bc:Nat),r= .tuple #[.slice t22aA t22an t22ac,.slice t22bA t22bn t22bc]/\K (.tuple #[.slice t22aA t22an t22ac,.slice t22bA t22bn t22bc]) c):=by
  refine Bc ma mb ha hbc hy o o ?_
  grind
 refine B6 (fun d=>B6 (fun b=>?_) (fun _=>a)) (fun _=>a)
 rw [B7 o o] at b
 refine Jc ma mb ha hbc hl hl2 o o ?_
 grind
end
def TZ(x k:Nat):Prop:=∃ m,x=2^k*(2*m+1)
def TZ.ex:∀ {x:Nat},x≠0->∃ k,TZ x k:=by
 intro x
 induction x using Nat.strongRecOn with
 | _ x ih=>
  intro h
  rcases Nat.mod_two_eq_zero_or_one x with b|b
  ·obtain ⟨k,m,a⟩:=ih (x/2) o o
   refine ⟨k+1,m,?_⟩
   rw [dQ,fM (2^k),dI,<- a];omega
  ·exact ⟨0,x/2,o⟩
def TZ.lt{x k n:Nat}(h:TZ x k)(hx:x<2^n):k<n:=by
 obtain ⟨m,rfl⟩:=h
 have b:2^k*1<=2^k*(2*m+1):=eD _ o
 exact (fF (a:=2) dc).1 o
def A2g{a u v:Nat}:(2^a*u) ||| (2^a*v)=2^a*(u ||| v):=by
 apply Nat.eq_of_testBit_eq
 grind
def A6r{u v:Nat}(h:u%2=1\/v%2=1):(u ||| v)%2=1:=by simp_all
def TZ.or'{x y a b:Nat}(hx:TZ x a)(hy:TZ y b)(hab:a<=b):TZ (x ||| y) a/\TZ (y ||| x) a:=by
 obtain ⟨m,rfl⟩:=hx
 obtain ⟨n,rfl⟩:=hy
 obtain ⟨d,rfl⟩:∃ d,b=a+d:=⟨b-a,o⟩
 rw [eC,dI,A2g,A2g]
 have c:=A6r (u:=2*m+1) (v:=2^d*(2*n+1)) (.inl o)
 have e:=A6r (u:=2^d*(2*n+1)) (v:=2*m+1) (.inr o)
 exact ⟨⟨_/2,by rw [<- dU (_ ||| _) 2,c]⟩,⟨_/2,by rw [<- dU (_ ||| _) 2,e]⟩⟩
def TZ.or{x y a b:Nat}(hx:TZ x a)(hy:TZ y b):TZ (x ||| y) (min a b):=by
 by_cases h:a<=b
 ·rw [aI h];exact (hx.or' hy h).1
 ·rw [eP o];exact (hy.or' hx o).2
def TZ.bit{x k:Nat}(h:TZ x k)(hx:x<2^64):x &&& (2^64-x)=2^k:=by
 obtain ⟨m,rfl⟩:=h
 have f:0<2^k:=cX dc
 have a:2^k*(2*m+1)=2^k*(2*m)+(2^k-1)+1:=gz0
 apply Nat.eq_of_testBit_eq
 intro i
 rw [Nat.testBit_and]
 have e:(2^64-2^k*(2*m+1)).testBit i=(decide (i<64) && !(2^k*(2*m)+(2^k-1)).testBit i):=by
  rw [a];exact Nat.testBit_two_pow_sub_succ o i
 rw [e,Nat.testBit_two_pow_mul_add _ o,Nat.testBit_two_pow_mul,Nat.testBit_two_pow]
 by_cases g:i<k
 ·grind
 ·by_cases b:i=k
  ·subst b
   have c:i<64:=TZ.lt ⟨m,rfl⟩ hx
   grind
  ·obtain ⟨d,hd⟩:∃ d,i-k=d+1:=⟨i-k-1,o⟩
   grind
def Pr{o k:Nat}(h:o%2=1):Nat.Coprime (2^k) o:=Nat.Coprime.pow_left k (by unfold Nat.Coprime;rw [Nat.gcd_rec,h];rfl)
def A8p{x y a b m:Nat}(hx:x=2^a*(2*m+1))(hy:TZ y b):cV x y=2^(min a b)*cV (2*m+1) y:=by
 obtain ⟨n,rfl⟩:=hy
 subst hx
 have c:cV (2*m+1) (2^b*(2*n+1))=cV (2*m+1) (2*n+1):=cJ (2*n+1) (Pr o)
 rw [c]
 by_cases h:a<=b
 ·obtain ⟨d,rfl⟩:∃ d,b=a+d:=⟨b-a,o⟩
  rw [aI h,eC,dI,Nat.gcd_mul_left,cJ _ (Pr o)]
 ·obtain ⟨d,rfl⟩:∃ d,a=b+d:=⟨a-b,o⟩
  rw [eP o,eC,dI,Nat.gcd_mul_left,Nat.Coprime.gcd_mul_left_cancel _ (Pr o)]
def Vn(k:Nat):Nat:=(2^k*285870213051353865%18446744073709551616)/2^58
def Gtz(h:bG):Prop:=∀ k,k<64->h.cell? (eO ⟨1,0,none⟩ (Vn k*1))=some (Y k)
def Gtz.mono{h h':bG}(g:Gtz h)(l:h.le h'):Gtz h':=fun k a=>B5 l (g k a)
section
variable {h g:bG} {K:VP} {A B:Option bL} {ac bc:Nat}
def Fj{x k:Nat}(gl:Gtz h)(tz:TZ x k)(hx:x<18446744073709551616)(hK:K (I k) h):aW prog 263 #[U x] h K:=by
 have a:=tz.lt (n:=64) hx
 have d:x≠0:=by
  obtain ⟨m,rfl⟩:=tz
  grind
 refine Ga _ ?_
 refine D5 (fun e=>o) (fun _=>?_)
 have b:C3 (0-(x:Int))=((2^64-x:Nat):Int):=by
  rw [D9];omega
 have f:Ru .u64 (x:Int) ((2^64-x:Nat):Int)=((2^k:Nat):Int):=by
  rw [A3v o o,aC,aC,tz.bit hx]
 have c:dF (C3 (((2^k:Nat):Int)*285870213051353865)) (2^(min ((58:Int)).toNat 64))=((Vn k:Nat):Int):=by
  show dF _ (2^(min 58 64))=_
  rw [A51 dc,D9]
  rfl
 rw [b,f,c,aC]
 have g:Vn k<64:=by
  unfold Vn
  omega
 refine ⟨⟨o,o⟩,_,gl k a,?_⟩
 rw [B7 o o]
 exact hK
def Uc{x y:Nat}(gl:Gtz h)(hx:x<18446744073709551616)(hy:y<18446744073709551616)(hK:K (U (cV x y:Nat)) h):aW prog 234 #[U x,U y] h K:=by
 refine (fnk func234 [(5,[0,1],[],[U 0,U 0])]) ?_
 refine D5 (fun e=>?_) (fun e=>?_)
 ·obtain rfl:x=0:=o
  rw [Xc o o]
  grind
 refine D5 (fun D=>?_) (fun D=>?_)
 ·obtain rfl:y=0:=o
  rw [Xc o o]
  grind
 obtain ⟨a,j⟩:=TZ.ex (x:=x) o
 obtain ⟨b,w⟩:=TZ.ex (x:=y) o
 have R:=j.lt (n:=64) hx
 rw [Xc o o,aC,aC]
 have p:x ||| y<18446744073709551616:=Nat.or_lt_two_pow (n:=64) hx hy
 refine Fj gl (j.or w) p ⟨_,rfl,?_⟩
 refine Fj gl j hx ⟨_,rfl,?_⟩
 refine B6 (fun i=>o) (fun _=>?_)
 obtain ⟨m,r⟩:=j
 have C:=A8p r w
 have M:dF (x:Int) (2^(min ((a:Int)).toNat 64))=((2*m+1:Nat):Int):=by
  rw [aC,A51 o,show ((2:Int)^a)=((2^a:Nat):Int) by simp,<- Int.natCast_ediv,r,fI _ (cX dc)]
 rw [M]
 have t:2*m+1<=x:=by
  rw [r];exact fN _ (cX dc)
 refine ⟨fun l G=>G=h/\∃ u v:Nat,l=[U u,U v]/\u%2=1/\u<18446744073709551616/\v<18446744073709551616/\cV u v=cV (2*m+1) y,fun l _=>(iAt l 0+iAt l 1).toNat,⟨rfl,2*m+1,y,rfl,o,o,hy,rfl⟩,?_⟩
 rintro S Q F ⟨rfl,u,v,H,L,B,f,d⟩
 obtain ⟨rfl,rfl⟩:=H
 refine G7 (fun i=>?_) (fun i=>?_)
 ·obtain ⟨c,k⟩:=TZ.ex (x:=v) o
  have T:=k.lt (n:=64) f
  refine Fj gl k f ⟨_,rfl,?_⟩
  refine B6 (fun i=>o) (fun _=>?_)
  obtain ⟨n,q⟩:=k
  have E:dF (v:Int) (2^(min ((c:Int)).toNat 64))=((2*n+1:Nat):Int):=by
   rw [aC,A51 o,show ((2:Int)^c)=((2^c:Nat):Int) by simp,<- Int.natCast_ediv,q,fI _ (cX dc)]
  have z:2*n+1<=v:=by
   rw [q];exact fN _ (cX dc)
  have g:cV u (2*n+1)=cV u v:=by
   rw [q,cJ _ (Pr L)]
  rw [E]
  refine B6 (fun A=>?_) (fun A=>?_)
  ·have s:C3 ((u:Int)-((2*n+1:Nat):Int))=((u-(2*n+1):Nat):Int):=by rw [C1 o o];omega
   rw [s]
   refine ⟨⟨rfl,_,_,rfl,o,o,o,?_⟩,?_⟩
   ·rw [fO o,fP,g,d]
   ·simp only [iAt,aF,aH];omega
  ·have s:C3 (((2*n+1:Nat):Int)-(u:Int))=((2*n+1-u:Nat):Int):=by rw [C1 o o];omega
   rw [s]
   refine ⟨⟨rfl,_,_,rfl,o,o,o,?_⟩,?_⟩
   ·rw [fO o,g,d]
   ·simp only [iAt,aF,aH];omega
 ·refine B6 (fun i=>o) (fun _=>?_)
  obtain rfl:v=0:=o
  rw [aC,aI (show min a b<=64 from o)]
  have N:(u:Int)*2^(min a b)=((cV x y:Nat):Int):=by
   rw [C,<- d,cG,aU];simp
  have O:cV x y<=x:=Nat.le_of_dvd o (Nat.gcd_dvd_left x y)
  rw [N,C1 o o]
  exact hK
end
def A17{xs:List Int}(d:Dig b64 xs){k s:Nat}(hl:xs.length<=k+2)(hs:s<=64):val b64 xs/(b64^k*2^(64-s))=xs.getD (k+1) 0*2^s+xs.getD k 0/2^(64-s):=by
 have g:=C2 b64 xs (k+1)
 have j:=C2 b64 xs k
 rw [aN (show xs.length<=k+1+1 from o)] at g
 have c:=D3 (B:=b64) dc k
 have f:0<(2:Int)^(64-s):=bI dc
 have b:=S5 (s:=s) hs
 have i:=C5 dc (d.take k)
 have l:=J4 dc (d.take k)
 have m:=C8 (B:=b64) dc (show (xs.take k).length<=k from gz0)
 rw [<- dP (aM c)]
 have e:val b64 xs/b64^k=xs.getD k 0+18446744073709551616*xs.getD (k+1) 0:=by
  refine (Rd (a:=val b64 (xs.take k)) ?_ i o).1
  grind
 rw [e,<- b,aU (2^s),cW,dZ _ _ o,aU (2^s)]
 omega
section
variable {h g:bG} {K:VP} {A B:Option bL} {ac bc:Nat}
def A9a(a b u0 u1 v0 v1:Int)(odd:Bool):Prop:=(0<=u0/\u0<18446744073709551616)/\(0<=u1/\u1<18446744073709551616)/\(0<=v0/\v0<18446744073709551616)/\(0<=v1/\v1<18446744073709551616)/\(v0≠0->Leh a b u0 v0 u1 v1 (Ix a b u0 v0 odd) (Iw a b u1 v1 odd))
def A50{a b F S W t20 t26 t33:Int}(hF:F=bor .u64 (C3 (t26*2^(min (C3 t20).toNat 64))) (dF t33 (2^(min (C3 ((64:Int)-(C3 t20))).toNat 64))))(hW:0<W)(hFa:F=a/W)(hSb:S=b/W)(hb0:0<=b)(hba:b<=a)(hF64:F<18446744073709551616)
 (hK:∀ u0 u1 v0 v1 odd,A9a a b u0 u1 v0 v1 odd->K (.agg #[U u0,U u1,U v0,U v1,.bool odd]) h):Eb prog K t20 t26 t33 S h:=by
 have da:=aL a W
 have db:=aL b W
 have t:=aP a (b:=W) o
 have w:=aK a hW
 have x:=aP b (b:=W) o
 have y:=aK b hW
 have u:0<=S:=by rw [hSb];exact bJ hb0 o
 have s:S<=F:=by rw [hSb,hFa];exact Int.ediv_le_ediv hW hba
 unfold Eb
 rw [<- hF]
 refine ⟨fun l A=>A=h/\∃ (first c g d u0 u1 v0 v1:Int) (odd:Bool),l=[U first,U c,U g,U d,U u0,U u1,U v0,U v1,.bool odd]/\LS F S first c u0 v0 u1 v1 g d odd/\A9a a b u0 u1 v0 v1 odd/\g<=F/\d<=(if F=0 then 1 else F),fun l _=>(iAt l 1).toNat,⟨rfl,_,_,_,_,_,_,_,_,_,rfl,LS.init u s,⟨o,o,o,o,fun e=>absurd rfl e⟩,o,o⟩,?_⟩
 rintro first c g d u0 u1 v0 v1 odd A ⟨rfl,q,k,E,M,O,aa,T,X,B,R,i,r,H,L⟩
 obtain ⟨rfl,rfl,rfl,rfl,rfl,rfl,rfl,rfl,rfl⟩:=R
 have z:=i.v2pos
 have m:=i.ord
 have Q:=i.hF
 refine B6 (fun h1=>?_) (fun _=>hK _ _ _ _ _ r)
 have p:1<=c:=o
 have V:=i.bound2 p
 have G:first<=F:=by
  have t1:1*first<=d*first:=aD o o
  have t2:=aO (show 0<=v1 from o) m.1
  omega
 rw [C1 (n:=first-c) o o,C1 (n:=v1+d) o o]
 refine B6 (fun h2=>?_) (fun _=>hK _ _ _ _ _ r)
 refine B6 (fun e=>o) (fun _=>?_)
 refine B6 (fun e=>o) (fun _=>?_)
 rw [dC o,aX o]
 have f:=i.step o o
 have ac:=f.bound p
 have j:0<=first/c:=bJ o o
 have D:first/c<=first:=dO _ o
 have C:=aO j (show 0<=g from o)
 have N:=aO j (show 0<=d from o)
 rw [C1 (n:=first/c) o o,C1 (n:=first/c*g) o o,C1 (n:=first/c*d) o o,C1 (n:=u1+first/c*g) o o,C1 (n:=v1+first/c*d) o o]
 refine ⟨⟨rfl,_,_,_,_,_,_,_,_,_,rfl,f,⟨⟨o,r.2.1.2⟩,⟨o,o⟩,⟨o,r.2.2.2.1.2⟩,⟨o,o⟩,fun e=>f.leh e hW (al:=a%W) (bl:=b%W) ?_ ?_ ⟨t,w⟩ ⟨x,y⟩⟩,o,o⟩,?_⟩
 ·grind
 ·grind
 ·have:=aK first (show 0<c from o)
  simp only [iAt,aH,aF];omega
set_option maxHeartbeats 1000000 in
def Qb{a b:Int}{an bn:Nat}(ma:Mw h A an a)(mb:Mw h B bn b)(hba:b<=a)(hb2:2<=bn)(hl:an<=100000000000000)
 (hK:∀ u0 u1 v0 v1 odd,A9a a b u0 u1 v0 v1 odd->K (.agg #[U u0,U u1,U v0,U v1,.bool odd]) h):aW prog 230 #[.slice A an ac,.slice B bn bc] h K:=by
 have S:=mb.nonneg dc
 have ah:bn<=an:=mb.len_le dc (bZ hba (ma.lt dc))
 obtain ⟨k,rfl⟩:∃ k,an=k+2:=⟨an-2,o⟩
 obtain ⟨w,g,V,H,nx,rfl⟩:=ma
 obtain ⟨f,n,N,X,ny,rfl⟩:=mb
 refine Uv _ _ _ _ _ _ ?_
 unfold Uw
 have e1:B9 (((k+2:Nat):Int)-1)=((k+1:Nat):Int):=by rw [B7 o o];omega
 have e2:B9 (((k+2:Nat):Int)-2)=(k:Int):=by rw [B7 o o];omega
 simp only [e1,e2]
 have gt:=K8 H (k+1)
 have R:=K8 H k
 have aa:=Se (m:=k+1) g.symm nx
 obtain ⟨t,ht⟩:∃ t:Nat,w.getD (k+1) 0=t:=⟨(w.getD (k+1) 0).toNat,o⟩
 rw [g]
 refine V.load rfl o o ?_
 rw [aC,ht]
 rw [ht] at gt aa
 refine N9 o ⟨_,rfl,?_⟩
 obtain ⟨s,hs⟩:∃ s,s=64-L8 t:=⟨_,rfl⟩
 rw [<- hs]
 obtain ⟨ad,r,ag⟩:=Ox H g.symm ht o hs
 refine V.load rfl o o ?_
 simp only [aC,ht]
 have i:C3 (s:Int)=s:=C1 o o
 have d:C3 (64-(s:Int))=((64-s:Nat):Int):=by rw [C1 o o];omega
 refine B6 (fun e=>by rw [i] at e;omega) (fun _=>?_)
 refine V.load rfl o o ?_
 simp only [aC]
 refine B6 (fun e=>by rw [i,d] at e;omega) (fun _=>?_)
 have W:0<(2:Int)^s:=bI dc
 have q:0<(2:Int)^(64-s):=bI dc
 have y:=S5 (s:=s) o
 have T:=D3 (B:=b64) dc k
 have Q:0<b64^k*2^(64-s):=Int.mul_pos T q
 have j:=A17 H (k:=k) (s:=s) o o
 have c:=A17 X (k:=k) (s:=s) o o
 have C:val b64 w/(b64^k*2^(64-s))<18446744073709551616:=by
  apply aY Q
  have G:18446744073709551616*(b64^k*2^(64-s))*2^s=18446744073709551616*b64^k*(2^s*2^(64-s)):=gz0
  rw [y] at G
  have L:b64^(k+1+1)=18446744073709551616*b64^k*18446744073709551616:=by
   rw [bB,bB]
   show b64^k*18446744073709551616*18446744073709551616=_
   grind
  rw [L,<- G] at r
  exact Int.lt_of_mul_lt_mul_right r o
 have af:val b64 f/(b64^k*2^(64-s))<=val b64 w/(b64^k*2^(64-s)):=Int.ediv_le_ediv Q hba
 have q1:∀ z:Int,0<=z/\z<18446744073709551616->0<=z/2^(64-s)/\z/2^(64-s)<2^s:=fun z E=>
  ⟨bJ E.1 o,aY q (by rw [y];exact E.2)⟩
 have x:∀ u z:Int,0<=u->0<=z/\z<18446744073709551616->u*2^s+z/2^(64-s)<18446744073709551616->bor .u64 (C3 (u*2^(min (C3 (s:Int)).toNat 64))) (dF z (2^(min (C3 (64-C3 (s:Int))).toNat 64)))=u*2^s+z/2^(64-s):=by
  intro u z hu E M
  have:=q1 z E
  have:=aO hu (aM W)
  rw [i,d,aC,aC,A51 o,aI (show s<=64 from o),C1 o o,Uo hu o M]
 have gy:=K8 X (k+1)
 have O:=K8 X k
 rw [ht] at j
 refine ⟨fun l hp=>hp=h/\l=[U (val b64 f/(b64^k*2^(64-s)))],?_,?_⟩
 ·refine D5 (fun e=>?_) (fun e=>?_)
  ·rw [n]
   refine N.load rfl o o ?_
   simp only [aC]
   refine B6 (fun e=>by rw [i] at e;omega) (fun _=>?_)
   refine N.load rfl o o ?_
   simp only [aC]
   refine B6 (fun e=>by rw [i,d] at e;omega) (fun _=>?_)
   rw [x _ _ gy.1 O o,c]
   first|exact ⟨rfl,rfl⟩|exact ⟨trivial,rfl⟩
  ·refine D5 (fun e=>?_) (fun e=>?_)
   ·rw [n]
    refine N.load rfl o o ?_
    simp only [aC]
    refine B6 (fun e=>by rw [i,d] at e;omega) (fun _=>?_)
    have:f.getD (k+1) 0=0:=by simp [eQ,dY (show f.length<=k+1 from o)]
    rw [this,dR,cK] at c
    rw [i,d,aC,A51 o,c]
    first|exact ⟨rfl,rfl⟩|exact ⟨trivial,rfl⟩
   ·have G:f.getD (k+1) 0=0:=by simp [eQ,dY (show f.length<=k+1 from o)]
    have L:f.getD k 0=0:=by simp [eQ,dY (show f.length<=k from o)]
    rw [G,L,dR,cK,Int.zero_ediv] at c
    rw [c]
    exact ⟨rfl,rfl⟩
 ·rintro D ae ⟨rfl,p⟩
  simp only [cF,eS,and_true,true_and] at p
  subst p
  exact A50 (F:=val b64 w/(b64^k*2^(64-s))) (by rw [x _ _ o R o,j]) Q rfl rfl S hba C hK
end
def Win.swap{k k':cU}{h g1 g:bG}{ba bb:Nat}{e e':cC}{A B:Option bL}{pa qa pb qb:List eA}{us bs:List Int}(wa:Win k h g1 ba e A pa us qa)(wb:Win k' g1 g bb e' B pb bs qb):∃ g2,Win k' h g2 bb e' B pb bs qb/\Win k g2 g ba e A pa us qa:=by
 have a:ba≠bb:=by
  rintro rfl
  have:=wa.free
  rw [wb.eq,C0] at this
  cases this
 have b:g ba=none:=by
  have:=wa.free
  rwa [wb.eq,B8 _ _ a] at this
 refine ⟨g.put ba (.cells (pa++us.map (bK k)++qa).toArray e),⟨?_,?_,wb.at_⟩,⟨b,rfl,wa.at_⟩⟩
 ·rw [B8 _ _ a.symm];exact wb.free
 ·rw [wa.eq,wb.eq];exact Heap.put_comm _ _ _ a.symm
def Px{z y c:Int}(hz:0<=z/\z<18446744073709551616)(hy:0<=y/\y<18446744073709551616)(hc:0<=c/\c<=1):(z-y-c)%18446744073709551616=z-y-c+18446744073709551616*(if z-y-c<0 then 1 else 0):=by
 omega
def Ts(z:Int):z%18446744073709551616=z-18446744073709551616*(z/18446744073709551616):=o
def Hh{x y c:Int}(hx:0<=x/\x<18446744073709551616)(hy:0<=y/\y<18446744073709551616)(hc:0<=c/\c<18446744073709551616):0<=(x*y+c)/18446744073709551616/\(x*y+c)/18446744073709551616<18446744073709551616:=by
 have b:=aO hx.1 hy.1
 have a:x*y<=18446744073709551615*y:=aD o hy.1
 omega
def pin{v w B m:Int}(h:v=w+B*m)(hv:0<=v/\v<B)(hw:0<=w/\w<B):v=w:=by
 have a:0<B:=o
 by_cases c:m <= -1
 ·have:=aG c (aM a);omega
 ·by_cases b:1<=m
  ·have:=aG b (aM a);omega
  grind
section
variable {h g g1:bG} {K:VP} {A B:Option bL} {ac bc an bn ba bb:Nat} {e:cC} {qa qb:List eA}
set_option maxHeartbeats 1000000 in
def A0e{us bs:List Int}{u0 u1 v0 v1:Int}{odd:Bool}(wa:Win .u64 h g1 ba e A [] us qa)(wb:Win .u64 g1 g bb e B [] bs qb)(ha:an=us.length)(hb:bn=bs.length)(hab:us.length=bs.length)(da:Dig b64 us)(db:Dig b64 bs)(hl:us.length<=100000000000000)(hu0:0<=u0/\u0<18446744073709551616)(hu1:0<=u1/\u1<18446744073709551616)(hv0:0<=v0/\v0<18446744073709551616)(hv1:0<=v1/\v1<18446744073709551616)
 (hX0:0<=Ix (val b64 us) (val b64 bs) u0 v0 odd/\Ix (val b64 us) (val b64 bs) u0 v0 odd<b64^us.length) (hX1:0<=Iw (val b64 us) (val b64 bs) u1 v1 odd/\Iw (val b64 us) (val b64 bs) u1 v1 odd<b64^us.length)
 (hK:∀ us' bs' h' g1',us'.length=us.length->bs'.length=us.length->Dig b64 us'->Dig b64 bs'->val b64 us'=Ix (val b64 us) (val b64 bs) u0 v0 odd->val b64 bs'=Iw (val b64 us) (val b64 bs) u1 v1 odd->Win .u64 h' g1' ba e A [] us' qa->Win .u64 g1' g bb e B [] bs' qb->K (.tuple #[]) h'):
 aW prog 232 #[.agg #[U u0,U u1,U v0,U v1,.bool odd],.slice A an ac,.slice B bn bc] h K:=by
 subst ha hb
 refine (fnk func232 [(4,[6,7,8,9,10,11,21],[],[U 0,U 0,U 0,U 0,U 0,U 0,I 0])] (own:=[3])) ?_
 refine ⟨fun l hp=>∃ (k:Nat) (b c d f V X:Int) (z C:List Int) (g1:bG),l=[U b,U c,U d,U f,U V,U X,I k]/\k<=us.length/\z.length=us.length/\C.length=us.length/\Dig b64 z/\Dig b64 C/\(0<=b/\b<18446744073709551616)/\(0<=c/\c<18446744073709551616)/\(0<=d/\d<18446744073709551616)/\(0<=f/\f<18446744073709551616)/\(0<=V/\V<=1)/\(0<=X/\X<=1)/\Win .u64 hp g1 ba e A [] z qa/\Win .u64 g1 g bb e B [] C qb/\z.drop k=us.drop k/\C.drop k=bs.drop k/\
  val b64 (z.take k)=Ix (val b64 (us.take k)) (val b64 (bs.take k)) u0 v0 odd+b64^k*((if odd then c-b else b-c)+V)/\val b64 (C.take k)=Iw (val b64 (us.take k)) (val b64 (bs.take k)) u1 v1 odd+b64^k*((if odd then f-d else d-f)+X),fun l _=>us.length-(iAt l 6).toNat,⟨0,0,0,0,0,0,0,us,bs,g1,rfl,o,rfl,hab.symm,da,db,o,o,o,o,o,o,wa,wb,rfl,rfl,by simp [val,Ix],by simp [val,Iw]⟩,?_⟩
 rintro b c d f V X i hp ⟨k,ae,ai,ad,af,ag,aj,z,C,g1,W,hk,a,m,R,Q,hP,hQ,hR,hT,j,D,O,S,F,L,n,E⟩
 simp only [cF,eS,and_true,true_and] at W
 obtain ⟨rfl,rfl,rfl,rfl,rfl,rfl,rfl⟩:=W
 refine B6 (fun h1=>?_) (fun h1=>?_)
 ·have gx:=K8 R k
  have gy:=K8 Q k
  have u:=D7 F
  have s:=D7 L
  have vx:=C2 b64 us k
  have vy:=C2 b64 bs k
  obtain ⟨g2,aa,ah⟩:=O.swap S
  refine O.sl.load a.symm o o ?_
  refine aa.sl.load o o o ?_
  simp only [aC]
  obtain ⟨aA,hA,_⟩:=SlV.at O.sl (i:=k) (by simp;omega)
  obtain ⟨aB,hB,_⟩:=SlV.at S.sl (i:=k) (by simp;omega)
  generalize hx0:z.getD k 0=x at *
  generalize hy0:C.getD k 0=y at *
  refine O5 gx hu0 hP ⟨_,_,rfl,?_⟩
  refine O5 gy hv0 hQ ⟨_,_,rfl,?_⟩
  refine O5 gy hv1 hR ⟨_,_,rfl,?_⟩
  refine O5 gx hu1 hT ⟨_,_,rfl,?_⟩
  have bP:=Hh gx hu0 hP
  have bQ:=Hh gy hv0 hQ
  have bR:=Hh gy hv1 hR
  have bT:=Hh gx hu1 hT
  have mP:=Ba (x*u0+b)
  have mQ:=Ba (y*v0+c)
  have mR:=Ba (y*v1+d)
  have mT:=Ba (x*u1+f)
  have kP:=Ts (x*u0+b)
  have kQ:=Ts (y*v0+c)
  have kR:=Ts (y*v1+d)
  have kT:=Ts (x*u1+f)
  have ek:B9 ((k:Int)+1)=((k+1:Nat):Int):=by rw [B7 o o];omega
  rw [ek]
  generalize (x*u0+b)/18446744073709551616=cP2 at *
  generalize (y*v0+c)/18446744073709551616=cQ2 at *
  generalize (y*v1+d)/18446744073709551616=cR2 at *
  generalize (x*u1+f)/18446744073709551616=cT2 at *
  generalize (x*u0+b)%18446744073709551616=p at *
  generalize (y*v0+c)%18446744073709551616=q at *
  generalize (y*v1+d)%18446744073709551616=r at *
  generalize (x*u1+f)%18446744073709551616=t at *
  have w:b64^(k+1)=b64^k*18446744073709551616:=bB _ _
  cases odd with
  | true=>
   refine Br.of (fun _=>?_) (fun e=>by cases e)
   refine Bu mP mQ j ⟨_,_,rfl,aA,hA,o,o,O.storeN (i:=k) E9 hA o ?_⟩
   intro h2 w2
   refine Bu mR mT D ⟨_,_,rfl,aB,hB,o,o,?_⟩
   obtain ⟨g3,G,N⟩:=w2.swap S
   refine G.storeN (i:=k) E9 hB o ?_
   intro h4 w4
   obtain ⟨g5,H,M⟩:=w4.swap N
   refine ⟨⟨k+1,_,_,_,_,_,_,_,_,g5,rfl,o,by simpa using a,by simpa using m,R.set (Ba _),Q.set (Ba _),bP,bQ,bR,bT,by split<;>omega,by split<;>omega,H,M,?_,?_,?_,?_⟩,by simp only [iAt,aF,aH];omega⟩
   ·rw [C9 o];exact D4 F
   ·rw [C9 o];exact D4 L
   ·rw [C6 o,E6,aJ,aI o,w,vx,vy,<- u,<- s,n,Px mP mQ j]
    simp only [Ix,if_true]
    grind
   ·rw [C6 o,E6,aJ,aI o,w,vx,vy,<- u,<- s,E,Px mR mT D]
    simp only [Iw,if_true]
    grind
  | false=>
   refine Br.of (fun e=>by cases e) (fun _=>?_)
   refine Bu mQ mP j ⟨_,_,rfl,aA,hA,o,o,O.storeN (i:=k) E9 hA o ?_⟩
   intro h2 w2
   refine Bu mT mR D ⟨_,_,rfl,aB,hB,o,o,?_⟩
   obtain ⟨g3,G,N⟩:=w2.swap S
   refine G.storeN (i:=k) E9 hB o ?_
   intro h4 w4
   obtain ⟨g5,H,M⟩:=w4.swap N
   refine ⟨⟨k+1,_,_,_,_,_,_,_,_,g5,rfl,o,by simpa using a,by simpa using m,R.set (Ba _),Q.set (Ba _),bP,bQ,bR,bT,by split<;>omega,by split<;>omega,H,M,?_,?_,?_,?_⟩,by simp only [iAt,aF,aH];omega⟩
   ·rw [C9 o];exact D4 F
   ·rw [C9 o];exact D4 L
   ·rw [C6 o,E6,aJ,aI o,w,vx,vy,<- u,<- s,n,Px mQ mP j]
    simp only [Ix,Bool.false_eq_true,if_false]
    grind
   ·rw [C6 o,E6,aJ,aI o,w,vx,vy,<- u,<- s,E,Px mT mR D]
    simp only [Iw,Bool.false_eq_true,if_false]
    grind
 ·obtain rfl:k=us.length:=o
  rw [aN (show z.length<=us.length from o),bO,aN (show bs.length<=us.length from o)] at n
  rw [aN (show C.length<=us.length from o),bO,aN (show bs.length<=us.length from o)] at E
  have bx:=J4 dc R
  have T:=J4 dc Q
  rw [a] at bx
  rw [m] at T
  exact hK z C hp g1 a m R Q (pin n ⟨C5 dc R,bx⟩ hX0) (pin E ⟨C5 dc Q,T⟩ hX1) O S
end
def Win.priv{k:cU}{h g:bG}{b m c:Nat}{e:cC}{A:Option bL}{xs:List Int}{post:List eA}(w:Win k h g b e A [] xs post)(hx:xs≠[])(hc:c=xs.length+post.length)(hm:m<=xs.length):fE h g e 1 A m c ((xs.take m).map (bK k)):=by
 refine ⟨gz0,o,.inr ⟨b,xs.map (bK k)++post,?_,w.free,?_,gz0,?_⟩⟩
 ·rcases w.at_ with a|a
  ·grind
  omega
 ·have:=w.eq
  assumption
 ·rw [Nat.mul_one,List.take_append_of_le_length gz0,List.map_take]
def Bp{k:cU}{h g:bG}{n c:Nat}{e:cC}{A:Option bL}{xs:List Int}(p:fE h g e 1 A n c (xs.map (bK k)))(hx:xs≠[]):∃ b post,Win k h g b e A [] xs post/\c=xs.length+post.length:=by
 obtain ⟨q,l,f⟩:=p
 rcases f with ⟨r,rfl⟩|⟨b,a,j,i,rfl,m,d⟩
 ·simp_all
 ·refine ⟨b,a.drop (n*1),⟨i,?_,.inr j⟩,?_⟩
  ·rw [cD,<- d,cH]
  grind
def Priv.swap{h g1 g:bG}{e e':cC}{s s' n c m d:Nat}{A B:Option bL}{xs ys:List eA}(pa:fE h g1 e s A n c xs)(pb:fE g1 g e' s' B m d ys):∃ g2,fE h g2 e' s' B m d ys/\fE g2 g e s A n c xs:=by
 obtain ⟨q,r,z⟩:=pa
 obtain ⟨j,p,u⟩:=pb
 rcases z with ⟨E,rfl⟩|⟨i,f,w,a,rfl,x⟩
 ·exact ⟨g,⟨j,p,u⟩,⟨q,r,.inl ⟨E,rfl⟩⟩⟩
 ·rcases u with ⟨y,rfl⟩|⟨t,l,D,k,rfl,C⟩
  ·exact ⟨_,⟨j,p,.inl ⟨y,rfl⟩⟩,⟨q,r,.inr ⟨i,f,w,a,rfl,x⟩⟩⟩
  ·have b:i≠t:=by
    rintro rfl
    rw [C0] at a;cases a
   rw [B8 _ _ b] at a
   refine ⟨g.put i (.cells f.toArray e),⟨j,p,.inr ⟨t,l,D,?_,Heap.put_comm _ _ _ b.symm,C⟩⟩,⟨q,r,.inr ⟨i,f,w,a,rfl,x⟩⟩⟩
   rw [B8 _ _ b.symm];exact k
abbrev Pw(h g:bG)(A:Option bL)(n c:Nat)(us:List Int):Prop:=fE h g 230 1 A n c (us.map (bK .u64))
def GI(h:bG)(G:Nat)(hp:bG)(A:Option bL)(n c:Nat)(B:Option bL)(m d:Nat):Prop:=∃ (us vs:List Int) (g1 g:bG),h.le g/\Pw hp g1 A n c us/\Pw g1 g B m d vs/\Dig b64 us/\Dig b64 vs/\fK us/\fK vs/\n=us.length/\m=vs.length/\val b64 vs<=val b64 us/\fA (val b64 us) (val b64 vs)=G/\us.length<=9000000000000
def A30{a b:Int}(ha:0<=a)(hb:0<=b):fA b (a%b)=fA a b:=by
 obtain ⟨x,rfl⟩:=cP ha
 obtain ⟨y,rfl⟩:=cP hb
 rw [<- Int.natCast_emod,dN,dN,fP x,fP y,<- Nat.gcd_rec]
section
variable {h g:bG} {K:VP} {A B:Option bL} {ac bc:Nat}
set_option maxHeartbeats 1000000 in
def A5l{G an bn:Nat}{hp:bG}(gl:Gtz h)(gi:GI h G hp A an ac B bn bc)(hK:∀ A' m c' h',h.le h'->m<=c'->Mw h' A' m (G:Int)->K (.slice A' m c') h'):Fx prog K A an ac B bn bc hp:=by
 unfold Fx
 refine ⟨fun l hp=>∃ (A B:Option bL) (n c m d:Nat),l=[.slice A n c,.slice B m d]/\GI h G hp A n c B m d,fun l hp=>match l with|[_,.slice B n _]=>A2p b64 hp B n|_=>0,⟨_,_,_,_,_,_,rfl,gi⟩,?_⟩
 rintro A1 X c1 B1 m1 d1 hp ⟨A,B,n,c,m,d,hl,s,k,g1,g,lg,R,pb,du,dv,nu,nv,hn,W,V,a,bt⟩
 simp only [cF,cQ,and_true] at hl
 obtain ⟨⟨rfl,rfl,rfl⟩,rfl,rfl,rfl⟩:=hl
 have Ma:Mw hp A1 X (val b64 s):=⟨s,hn,R.slV,du,nu,rfl⟩
 have Mb:Mw hp B1 m1 (val b64 k):=⟨k,W,SlV.mono R.le pb.slV,dv,nv,rfl⟩
 have aa:=R.2.1
 have a8:=pb.2.1
 have M:=C5 dc du
 have bg:=C5 dc dv
 have a2:m1<=X:=Mb.len_le dc (bZ V (Ma.lt dc))
 have T:h.le hp:=B0 lg (B0 pb.le R.le)
 have aw:=Mb.len_zero dc
 refine B6 (fun h1=>?_) (fun h1=>?_)
 ·refine Qb Ma Mb V o o ?_
  intro u0 u1 v0 v1 bp st
  refine ⟨_,_,_,_,_,rfl,D5 (fun e=>?_) (fun e=>?_)⟩
  ·refine O8 Ma Mb aa a8 o o o ?_
   intro A2 m2 c2 A3 m3 c3 h6 l6 q k3 M2 M3
   refine ⟨_,_,_,_,_,_,rfl,?_⟩
   have bu:m3<=m1:=M3.len_le dc (by have:=aK (val b64 s) (show 0<val b64 k from o);have:=Mb.lt dc;omega)
   obtain ⟨ws,bd,a3,N,ar,a6⟩:=M3
   refine Bg a3 bd o ?_
   intro A4 c4 h7 g7 l7 p7
   obtain ⟨g2,Q,F⟩:=R.swap pb
   obtain ⟨g8,l8,a1⟩:=Q.after (B0 l6 l7)
   obtain ⟨g9,av,a7⟩:=Priv.swap p7 a1
   have bm:=aK (val b64 s) (show 0<val b64 k from o)
   have Mn:Mw h7 A4 ws.length (val b64 ws):=⟨ws,rfl,p7.slV,N,ar,rfl⟩
   refine ⟨_,_,_,rfl,⟨_,_,_,_,_,_,rfl,k,ws,g9,g8,B0 lg (B0 F.le l8),av,a7,dv,N,nv,ar,W,rfl,o,?_,o⟩,?_⟩
   ·rw [a6,A30 M bg];exact a
   ·simp only [T5 Mn,T5 Mb]
    have:=C5 dc N
    omega
  ·obtain ⟨ag,ap,al,am,lh⟩:=st
   have lh:=lh e
   unfold Jv
   obtain ⟨g2,Q,F⟩:=R.swap pb
   refine ⟨fun l hp=>∃ (B:Option bL) (m d j:Nat) (g1 g:bG),l=[.slice B m d]/\h.le g/\Pw hp g1 B m d (k++aE j 0)/\Pw g1 g A1 X c1 s/\m=k.length+j/\m<=X,fun l _=>match l with|[.slice _ m _]=>X-m|_=>0,⟨B1,m1,d1,0,g2,g,rfl,lg,by simpa using Q,F,o,a2⟩,?_⟩
   rintro B2 m2 d2 br ⟨B',m',d',j,g3,g4,ak,ad,ai,au,bo,bh⟩
   simp only [cF,cQ,and_true] at ak
   obtain ⟨rfl,rfl,rfl⟩:=ak
   refine B6 (fun h2=>?_) (fun h2=>?_)
   ·refine Ab L7 ai rfl rfl o o ?_
    intro A5 c5 h5 g5 l5 p5
    obtain ⟨g6,l6,be⟩:=au.after l5
    refine ⟨⟨A5,m2+1,c5,j+1,g5,g6,rfl,B0 ad l6,?_,be,o,o⟩,by simp only;omega⟩
    have p6:=p5
    rw [<- List.map_singleton (f:=bK .u64),<- eU,bX,<- List.replicate_succ'] at p6
    exact p6
   ·obtain ⟨g5,az,a5⟩:=ai.swap au
    have y:(k++aE j (0:Int)).length=s.length:=by simp;omega
    have i:s≠[]:=by rintro rfl;simp at hn;omega
    have aj:k++aE j (0:Int)≠[]:=by intro h0;rw [h0] at y;simp at y;exact i (aZ y.symm)
    obtain ⟨ba,qa,wa,bl⟩:=Bp az i
    obtain ⟨bb,qb,wb,bq⟩:=Bp a5 aj
    have ay:=lh.gcd
    have bi:=lh.ord
    have a4:=lh.le
    have bj:val b64 k<b64^s.length:=by rw [<- hn];exact bZ V (Ma.lt dc)
    refine A0e wa wb hn o y.symm du (dv.append (G2 dc _)) o ag ap al am (by rw [Y6];omega) (by rw [Y6];omega) ?_
    intro x p h6 g6 z C ax ae S u H ah
    rw [Y6] at S u
    have D:x≠[]:=by rintro rfl;simp at z;exact i (aZ z.symm)
    have E:p≠[]:=by rintro rfl;simp at C;exact i (aZ C.symm)
    refine ⟨rfl,?_⟩
    rw [show X=x.length from o]
    refine Am H.sl o o ?_
    intro k1 a9 bf af
    refine ⟨_,_,_,rfl,?_⟩
    rw [show m2=p.length from o]
    refine Am (SlV.mono H.le ah.sl) o o ?_
    intro q a0 aq L
    have pA:=H.priv (m:=k1) (c:=c1) D o a9
    have pB:=ah.priv (m:=q) (c:=d2) E o a0
    have e1:(x.take k1).length=k1:=by rw [aJ];omega
    have e2:(p.take q).length=q:=by rw [aJ];omega
    have Mn:Mw h6 B2 q (val b64 (p.take q)):=⟨p.take q,e2.symm,SlV.mono pA.le pB.slV,ae.take _,aq,rfl⟩
    refine ⟨_,_,_,rfl,⟨_,_,_,_,_,_,rfl,x.take k1,p.take q,_,_,ad,pA,pB,ax.take _,ae.take _,bf,aq,e1.symm,e2.symm,?_,?_,o⟩,?_⟩
    ·rw [af,L,S,u];omega
    ·rw [af,L,S,u,ay];exact a
    ·simp only [T5 Mn,T5 Mb]
     rw [L,u];omega
 ·refine D5 (fun h2=>?_) (fun h2=>?_)
  ·have h0:val b64 k=0:=aw.2 o
   rw [h0,Int.gcd_zero_right] at a
   refine hK _ _ _ _ T aa ?_
   rw [<- a,Int.natAbs_of_nonneg M];exact Ma
  ·have bv:m1=1:=o
   obtain ⟨w,rfl⟩:∃ w,k=[w]:=by
    rcases k with _|⟨w,_|⟨w',r⟩⟩
    ·simp at W;omega
    ·exact ⟨w,rfl⟩
    ·simp at W;omega
   have hw:=dv w (by simp)
   rw [Q9] at *
   obtain ⟨t,rfl⟩:∃ t:Nat,w=(t:Int):=cP hw.1
   have bk:(t:Int)<18446744073709551616:=hw.2
   have ao:0<t:=o
   have sb:SlI .u64 hp B1 [(t:Int)]:=SlV.mono R.le pb.slV
   refine sb.load W o o ?_
   refine sb.load W o o ?_
   show aW _ _ #[_,U ((t:Nat):Int)] _ _
   refine Gx Ma ⟨ao,o⟩ o ⟨_,rfl,B4 _,?_⟩
   have r0:=aP (val b64 s) (b:=(t:Int)) o
   have r1:=aK (val b64 s) (show (0:Int)<(t:Int) from o)
   have O:=A30 M (show (0:Int)<=(t:Int) from o)
   obtain ⟨r,hr⟩:=cP r0
   rw [hr] at r1 O ⊢
   show aW _ _ #[U ((t:Nat):Int),_] _ _
   refine Uc (gl.mono T) o o ⟨_,rfl,B4 _,?_⟩
   rw [dN] at O
   have a4:cV t r<=t:=Nat.le_of_dvd ao (Nat.gcd_dvd_left t r)
   refine U5 o ?_
   intro A2 m2 c2 h2 l2 q M2
   rw [O,a] at M2
   exact ⟨_,_,_,rfl,l2,hK _ _ _ _ (B0 T l2) q M2⟩
def Hn{x y:Int}{an bn:Nat}(gl:Gtz h)(ma:Mw h A an x)(mb:Mw h B bn y)(ha:an<=ac)(hb:bn<=bc)(hl:an<=9000000000000)(hl2:bn<=9000000000000)(hK:∀ A' m c' h',h.le h'->m<=c'->Mw h' A' m (fA x y:Int)->K (.slice A' m c') h'):aW prog 186 #[.slice A an ac,.slice B bn bc] h K:=by
 refine Uy _ _ _ _ _ _ ?_
 refine ⟨fun l r=>r=h/\∃ (A B:Option bL) (n c m d:Nat) (e a:Int),l=[.slice A n c,.slice B m d]/\Mw h A n e/\Mw h B m a/\a<=e/\n<=c/\m<=d/\n<=9000000000000/\m<=9000000000000/\fA e a=fA x y,?_,?_⟩
 ·refine F2 ma mb o ⟨_,rfl,B6 (fun b=>?_) (fun b=>?_)⟩
  ·rw [Z2] at b
   exact ⟨rfl,_,_,_,_,_,_,_,_,rfl,mb,ma,o,hb,ha,hl2,hl,Int.gcd_comm _ _⟩
  ·rw [Z2] at b
   grind
 ·rintro A1 n1 c1 B1 X S r ⟨rfl,A2,B2,n,c,m,d,e,a,j,M1,M2,i,s,k2,l1,l2,p⟩
  obtain ⟨⟨rfl,rfl,rfl⟩,rfl,rfl,rfl⟩:=j
  refine D5 (fun b=>?_) (fun b=>?_)
  ·have:a=0:=(M2.len_zero dc).2 o
   subst this
   rw [Int.gcd_zero_right] at p
   refine hK _ _ _ _ (B4 _) s ?_
   grind
  ·obtain ⟨O,g,C,t,L,rfl⟩:=M1
   obtain ⟨F,f,M,D,nv,rfl⟩:=M2
   refine Bg C g o ?_
   intro A3 V W g3 q k
   refine ⟨_,_,_,rfl,?_⟩
   refine Bg (SlV.mono (B0 q k.le) M) f o ?_
   intro A4 c4 R T H u
   refine ⟨_,_,_,rfl,?_⟩
   obtain ⟨N,E,w⟩:=k.after H
   obtain ⟨z,Q,G⟩:=Priv.swap u w
   exact A5l gl ⟨O,F,z,N,B0 q E,Q,G,t,D,L,nv,rfl,rfl,i,p,o⟩ hK
end
