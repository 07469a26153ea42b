/- A part. -/
import Derived.Test.YtdphgbjaijlckaaGreatDoorG16
import Derived.Test.YtdphgbjaijlckaaGreatDoorG17
import Derived.Test.YtdphgbjaijlckaaGreatDoorG10
open Go.Proofs.Tryz
set_option linter.all false
open _root_.Go.Addr renaming add->eO
open _root_.Go.Builtin renaming copy_->dM
open _root_.Go.Extern.MathBitsCarry renaming m64->aQ,pair->fB
open _root_.Go.Instr renaming storeAt->dL
open Int renaming toNat_natCast->aC,mul_le_mul_of_nonneg_right->aD,mul_le_mul_of_nonneg_left->aG,emod_lt_of_pos->aK,mul_ediv_add_emod->aL,le_of_lt->aM,mul_nonneg->aO,emod_nonneg->aP,pow_add->aS,mul_comm->aU,tdiv_eq_ediv_of_nonneg->aX,ediv_lt_of_lt_mul->aY,pow_succ->bB,mul_lt_mul_of_pos_right->bC,ediv_eq_zero_of_lt->bG,pow_pos->bI,ediv_nonneg->bK,mul_lt_mul_of_pos_left->bM,natCast_mul->bV,lt_of_le_of_lt->cC,tdiv->cI,zero_add->cK,natAbs_natCast->cP,gcd_natCast_natCast->cQ,eq_ofNat_of_zero_le->cR,mul_assoc->cY,mul_add->dB,tmod_eq_emod_of_nonneg->dE,mul_le_mul->dF,fdiv->dG,ediv_le_self->dO,ediv_ediv_of_nonneg->dP,zero_mul->dR,add_mul_ediv_right->dS,add_mul_ediv_left->dZ,mul_ediv_cancel->eD,mul_zero->eG,gcd->eI,emod_eq_of_lt->eJ,add_zero->eK,add_comm->eM,add_mul_emod_self_right->eZ,zero_emod->fF,pow_zero->fP
open List renaming replicate->aE,getElem?_cons_zero->aF,getElem?_cons_succ->aH,length_take->aJ,take_of_length_le->aN,length_append->aR,drop_of_length_le->aT,eq_nil_of_length_eq_zero->aZ,drop_replicate->bH,take_length->bO,length_replicate->bW,append_nil->bX,append_assoc->bY,length_drop->bZ,nil_append->cF,take_append_drop->cH,drop_eq_getElem_cons->cL,take_replicate->cN,drop_drop->cU,replicate_append_replicate->cV,drop_append_of_le_length->dA,take_left'->dC,drop_zero->dD,getElem?_eq_getElem->dK,length_set->dV,length_singleton->dX,getElem?_eq_none->dY,take_succ_eq_append_getElem->eF,getD->eQ,drop_append->eR,map_append->eU,length_map->eV,drop_left'->eX,take_add->fE
open List.cons renaming injEq->cG
open Nat renaming min_eq_left->aI,le_refl->aV,pow_le_pow_right->bF,lt_of_lt_of_le->bN,sub_zero->bU,pow_le_pow_left->cM,lt_of_le_of_lt->cO,gcd->cX,pow_pos->cZ,one_mul->dH,add_mul->dI,mul_assoc->dJ,pow_succ->dQ,div_le_self->dT,div_add_mod->dU,pow_add->eB,mul_le_mul_left->eC,add_zero->eE,min_eq_right->eP,mod_lt->fA,pow_lt_pow_iff_right->fD,mul_div_cancel_left->fG,add_sub_cancel_left->fH,zero_mul->fJ,mul_comm->fK,le_mul_of_pos_left->fL,gcd_sub_self_right->fM,gcd_comm->fN,div_div_eq_div_mul->fO
open Nat.Coprime renaming gcd_mul_left_cancel_right->cJ
open _root_.Go.Value renaming int->bL
open _root_.Go.Value.int renaming injEq->eS
open _root_.Go.Value.slice renaming injEq->cT
open _root_.Go renaming Addr->bJ,TypeId->cD,IntKind->cW,Program->dN,Value->eA
open _root_.Go.Proofs.YtdphgbjaijlckaaGreatDoor renaming FCall->aW,Heap->bD,Priv->fC,Norm->fI
namespace Go.Proofs.YtdphgbjaijlckaaGreatDoor
set_option maxRecDepth 20000
open Go
def V5:prog.underlying 5=some (.int .u8):=by kernel_rfl
def O6:prog.underlying 9=some .string:=by kernel_rfl
def pv:List Nat->Nat
 | []=>0
 | d::r=>d+1000000000*pv r
def A40(ps:List Nat)(d:Nat):pv (ps++[d])=pv ps+10^(9*ps.length)*d:=by
 induction ps with
 | nil=>simp [pv]
 | cons p ps ih=>
  simp only [List.cons_append,pv,ih,List.length_cons]
  grind
def Ul(ps:List Nat)(k:Nat):pv (ps.drop k)<=pv ps:=by
 induction ps generalizing k with
 | nil=>simp
 | cons p ps ih=>
  cases k with
  | zero=>simp
  | succ k=>have:=ih k;simp only [List.drop_succ_cons,pv];omega
def A41{ps:List Nat}{k:Nat}(h:k<ps.length):pv (ps.drop k)=ps[k]+1000000000*pv (ps.drop (k+1)):=by
 rw [cL h];rfl
def pw(e:Nat):Nat:=if e=0 then 0 else 10^(e-1)
def Lg(e:Nat):pw (e+1)=10^e:=by simp [pw]
def Xe(e:Nat):pw (e+1)/10=pw e:=by
 rw [Lg]
 cases e with
 | zero=>simp [pw]
 | succ e=>rw [Lg,dQ,Nat.mul_div_cancel _ dc]
def A4j(V d:Nat)(hd:d<10):dd (10*V+d)=if V≠0\/d≠0 then dd V++[dch d] else dd V:=by
 by_cases h:10*V+d=0
 ·grind
 ·rw [iP o,X4 h,show (10*V+d)/10=V from o,show (10*V+d)%10=d from o]
def Vb(n:Nat):(dd n).length=0↔n=0:=by
 constructor
 ·intro h
  by_cases a:n=0
  ·exact a
  ·exact absurd (aZ h) (A1l a)
 ·rintro rfl;rw [I3];rfl
section
variable {h h':bD} {K:VP} {A B:Option bJ} {n c n' c':Nat} {s s':Bool} {x y z:Int} {m:Nat} {p q:Rat} {a b w:QV}
def Gt{D:Nat}(i:NI h s A n c z)(hz:ZB m z)(hm:m<=575000000000000)(hD:z.natAbs<10^D)(hD2:D<=140737488355232)(hK:K (.string (bs (J2 z.natAbs))) h):aW prog 74 #[.agg #[.bool s,.slice A n c]] h K:=by
 have h0:=i.zero_iff
 have W:=i.len hz hm
 refine FCall.pure ((fnk func74 [(5,[3,4],[],[.slice none 0 0,.slice none 0 0]),(11,[7,8],[],[.slice none 0 0,I 0]),(14,[7,9],[],[.slice none 0 0,U32 0])] (cs:=[(15,[7],[],[.slice none 0 0]),(18,[56],[],[.bool false])]) (own:=[1])) ?_)
 refine D5 (fun e=>?_) (fun e=>?_)
 ·have:z=0:=h0.1 o
  subst this
  exact ⟨B3 h,hK⟩
 ·generalize hZ:z.natAbs=Z at *
  have a7:Z<2^m:=by rw [<- hZ];exact hz
  rw [U3 (show Z≠0 from o)] at hK
  have t:=i.mag
  rw [hZ] at t
  refine ⟨fun l q=>∃ (b:List Nat) (X:Nat) (A B:Option bJ) (c x mc:Nat) (g:bD),l=[.slice A b.length c,.slice B x mc]/\h.le g/\fC q g 173 1 A b.length c (b.map fun (d:Nat)=>U32 (d:Int))/\Mg g B x X/\x<=18000000000000/\(∀ d∈b,d<1000000000)/\Z=pv b+10^(9*b.length)*X/\29*b.length<=m+29,fun l q=>match l with|[_,.slice B n _]=>Xu b32 q B n|_=>0,⟨[],Z,none,A,0,n,c,h,rfl,B3 h,Priv.nil _ _ _ _,t,W,by simp,by simp [pv],by simp⟩,?_⟩
  rintro A1 n1 c1 B1 x mc q ⟨b,X,A1',B1',ar,af,al,g,hl,y,P1,M1,q1,aj,w,ay⟩
  obtain ⟨⟨rfl,rfl,rfl⟩,rfl,rfl,rfl⟩:(A1=A1'/\n1=b.length/\c1=ar)/\B1=B1'/\x=af/\mc=al:=gz0
  have a4:=M1.len_zero dc
  refine B5 (fun h1=>?_) (fun h1=>?_)
  ·have ax:29*b.length<m:=by
    have h2:2^(29*b.length)<=10^(9*b.length):=by
     rw [Nat.pow_mul,Nat.pow_mul]
     exact cM dc _
    have h3:10^(9*b.length)*1<=10^(9*b.length)*X:=eC _ o
    exact (fD (a:=2) dc).1 o
   refine P1.call ?_
   refine Ea M1 dc q1 ?_
   intro A2 m2 c2 h2 l2 k2 k3 M2 h3 P3
   refine ⟨_,_,_,_,rfl,?_⟩
   refine U6 Gx P3 rfl rfl o o ?_
   intro A4 c4 N O l4 P4
   have M4:Mg O A2 m2 ((X/1000000000:Nat):Int):=M2.mono l4
   refine ⟨⟨b++[X%1000000000],X/1000000000,A4,A2,c4,m2,c2,O,by simp,A0 y (A0 l2 l4),gz0,M4,o,?_,?_,?_⟩,?_⟩
   ·grind
   ·rw [A40,aR,dX,Nat.mul_add,eB,w,Nat.add_assoc,dJ,<- Nat.mul_add,show 10^(9*1)=1000000000 from dc,Nat.mod_add_div]
   ·grind
   ·show Xu b32 N A2 m2<Xu b32 q B1 x
    rw [R1 (M4.mono P4.le),R1 (M1.mono P1.le)]
    omega
  ·have hX:X=0:=o
   subst hX
   rw [Nat.mul_zero,eE] at w
   have an:SlV q A1 (b.map fun (d:Nat)=>U32 (d:Int)):=P1.slV
   have aw:∀ V,V<=Z->(dd V).length<=D:=by
    intro V hV
    exact K7.2 (cO hV hD)
   have e1:B7 ((b.length:Int)-1)=(b.length:Int)-1:=B6 o o
   rw [e1]
   refine ⟨fun l N=>∃ (k:Nat) (A:Option bJ) (n c:Nat) (g:bD),l=[.slice A n c,I ((k:Int)-1)]/\k<=b.length/\q.le g/\n=(dd (pv (b.drop k))).length/\fC N g 5 1 A n c (yv (dd (pv (b.drop k)))),fun l _=>(iAt l 1+1).toNat,⟨b.length,none,0,0,q,rfl,aV _,B3 q,by simp [pv,I3],by simpa [pv,I3,yv] using Priv.nil _ _ _ _⟩,?_⟩
   rintro A2 n2 c2 i2 N ⟨k,A2',ab,ag,O,a2,hk,lg,F,P2⟩
   obtain ⟨⟨rfl,rfl,rfl⟩,rfl⟩:(A2=A2'/\n2=ab/\c2=ag)/\i2=(k:Int)-1:=gz0
   refine B5 (fun h2=>?_) (fun h2=>?_)
   ·obtain ⟨j,rfl⟩:∃ j,k=j+1:=⟨k-1,o⟩
    have ej:((j+1:Nat):Int)-1=(j:Int):=o
    rw [ej]
    have hj:j<b.length:=o
    have a1:=A41 hj
    have ao:b[j]<1000000000:=aj _ (List.getElem_mem hj)
    have az:=Ul b j
    refine ⟨fun l M=>∃ (e:Nat) (A:Option bJ) (n c:Nat) (g:bD),l=[.slice A n c,U32 (pw e:Int)]/\e<=9/\q.le g/\n=(dd (pv (b.drop (j+1))*10^(9-e)+b[j]/10^e)).length/\fC M g 5 1 A n c (yv (dd (pv (b.drop (j+1))*10^(9-e)+b[j]/10^e))),fun l _=>(iAt l 1).toNat,⟨9,A2,n2,c2,O,rfl,o,lg,?_,?_⟩,?_⟩
    ·grind
    ·grind
    rintro A5 n5 c5 d M ⟨e,A5',ak,ai,g5,a6,he,u,C,P5⟩
    obtain ⟨⟨rfl,rfl,rfl⟩,rfl⟩:(A5=A5'/\n5=ak/\c5=ai)/\d=(pw e:Int):=gz0
    generalize hV:pv (b.drop (j+1))*10^(9-e)+b[j]/10^e=V at *
    refine B5 (fun G=>?_) (fun G=>?_)
    ·obtain ⟨f,rfl⟩:∃ f,e=f+1:=by
      cases e with
      | zero=>simp [pw] at G
      | succ f=>grind
     have am:pw (f+1)=10^f:=Lg f
     have ac:0<10^f:=cZ dc
     have a0:10^f<=100000000:=by
      have:10^f<=10^8:=bF dc o
      omega
     have a5:pv (b.drop (j+1))*10^(9-f)+b[j]/10^f=10*V+b[j]/10^f%10:=by
      rw [<- hV,show 9-f=(9-(f+1))+1 from o,dQ,dQ,<- fO,Nat.mul_add]
      grind
     have H:10*V+b[j]/10^f%10<=Z:=by
      have t1:10^(9-f)*10^f=1000000000:=by rw [<- eB,show 9-f+f=9 from o]
      have t2:10^(9-f)<=1000000000:=by rw [<- t1];exact Nat.le_mul_of_pos_right _ ac
      have t3:pv (b.drop (j+1))*10^(9-f)<=pv (b.drop (j+1))*1000000000:=eC _ t2
      have t4:=dT b[j] (10^f)
      omega
     have ec:wu8 (F6 ((48:Int)+Int.tmod (F6 (cI (b[j]:Int) ((pw (f+1):Nat):Int))) 10))=((48+b[j]/10^f%10:Nat):Int):=by
      rw [am]
      have t1:cI (b[j]:Int) ((10^f:Nat):Int)=((b[j]/10^f:Nat):Int):=by rfl
      rw [t1]
      have t2:b[j]/10^f<1000000000:=cO (dT _ _) ao
      generalize b[j]/10^f=D at t2 ⊢
      rw [J8 (n:=(D:Int)) o o]
      have t3:Int.tmod (D:Int) 10=((D%10:Nat):Int):=by
       rfl
      rw [t3,J8 o o,Js o o];omega
     have r:b[j]/10^f%10<10:=fA _ dc
     have E:SlV M A1 (b.map fun (d:Nat)=>U32 (d:Int)):=an.mono (A0 u P5.le)
     refine ⟨fun l G=>∃ (A:Option bJ) (n c:Nat) (g:bD),l=[.slice A n c]/\q.le g/\n=(dd (10*V+b[j]/10^f%10)).length/\fC G g 5 1 A n c (yv (dd (10*V+b[j]/10^f%10))),?_,?_⟩
     ·obtain ⟨ad,aa,ah⟩:=SlV.at E (i:=j) gz0
      refine ⟨ad,aa,o,o,(b[j]:Int),by simp_all,?_⟩
      refine B5 (fun e0=>absurd e0 o) (fun _=>?_)
      rw [ec]
      have p:=A4j V (b[j]/10^f%10) r
      have au:=Vb V
      refine ⟨fun l Q=>l=[.bool (decide (V≠0\/b[j]/10^f%10≠0))]/\Q=M,B5 (fun Q=>⟨?_,rfl⟩) (fun Q=>⟨?_,rfl⟩),?_⟩
      ·grind
      ·have e2:∀ D:Nat,(((48+D:Nat):Int) != 48)=decide (V≠0\/D≠0):=by
        grind
       rw [e2]
      rintro tb Q ⟨a3,rfl⟩
      obtain rfl:tb=decide (V≠0\/b[j]/10^f%10≠0):=gz0
      refine B5 (fun h8=>?_) (fun h8=>?_)
      ·rw [iP h8] at p
       have S:=aw _ H
       rw [p,aR,dX] at S
       refine U6 Ah P5 rfl rfl o o ?_
       intro A9 L h9 g9 l9 P9
       refine ⟨A9,n5+1,L,g9,rfl,A0 u l9,gz0,?_⟩
       rw [p,N4]
       have:yv [dch (b[j]/10^f%10)]=[Y ((48+b[j]/10^f%10:Nat):Int)]:=by
        simp only [yv,List.map_cons,List.map_nil,X5 r]
       grind
      grind
     ·rintro A9 n9 L h9 ⟨A9',av,T,g9,a8,ap,a9,P9⟩
      obtain ⟨rfl,rfl,rfl⟩:A9=A9'/\n9=av/\L=T:=gz0
      have ed:F6 (cI ((pw (f+1):Nat):Int) 10)=((pw f:Nat):Int):=by
       have t1:cI ((pw (f+1):Nat):Int) 10=((pw (f+1)/10:Nat):Int):=by rfl
       rw [t1,Xe,J8 o (by have:=Xe f;omega)]
      rw [ed]
      refine ⟨⟨f,A9,n9,L,g9,rfl,o,ap,gz0,gz0⟩,?_⟩
      simp only [iAt,aF,aH,aC]
      have:=Xe f
      omega
    ·have R:e=0:=by
      cases e with
      | zero=>rfl
      | succ f=>rw [Lg] at G;grind
     subst R
     have aq:V=pv (b.drop j):=o
     rw [aq] at P5 C
     rw [B6 o o]
     exact ⟨⟨j,A5,n5,c5,g5,rfl,o,u,C,P5⟩,by simp only [iAt,aF,aH];omega⟩
   ·have ae:k=0:=o
    subst ae
    rw [dD,<- w] at P2 F
    refine Dy Ah.und V5 O6 P2.slV F ?_
    exact ⟨_,rfl,A0 y (A0 P1.le (A0 lg P2.le)),hK⟩
end
def Kg(a:Array UInt8):({ data:=a }:ByteArray)=bs a.toList:=by simp [bs]
def T3{l:List UInt8}(h:∀ c∈l,F4 c):G8 l<2^(4*l.length):=by
 have a:=U8 h
 have b:10^l.length<=16^l.length:=cM dc _
 have d:16^l.length=2^(4*l.length):=by rw [Nat.pow_mul]
 omega
def A2h{h:bD}{A:Option bJ}{n m:Nat}{X:Nat}(M:Mg h A n X)(hx:X<2^m)(hm:m<=575000000000000):n<=18000000000000:=by
 have:=Yc (j:=32) dc M (m:=m) gz0
 omega
section
variable {h h':bD} {K:VP} {A B:Option bJ} {n c n' c':Nat} {s s':Bool} {x y z:Int} {m:Nat} {p q:Rat} {a b w:QV} {l:List UInt8}
def Bs(hl:l.length<=140737488351232)(hK:∀ s A n c ok h',h.le h'->(ok=true->(∀ c∈l,F4 c)/\l≠[]/\NI h' s A n c (G8 l))->(ok=false->¬ ((∀ c∈l,F4 c)/\l≠[]))->K (.tuple #[.agg #[.bool s,.slice A n c],.bool ok]) h'):aW prog 142 #[.string (bs l)] h K:=by
 refine (fnk func142 [(3,[4,5],[(2,2)],[.slice none 0 0,I 0,.bool false,.slice none 0 0]),(6,[5,6,7,8],[(2,2)],[I 0,U32 0,U32 0,I 0,.bool false,.slice none 0 0])] (cs:=[(12,[5,6,7],[(2,2)],[I 0,U32 0,U32 0,.bool false,.slice none 0 0])]) (own:=[2])) ?_
 simp only [G7]
 refine ⟨fun L u=>∃ (i:Nat) (A:Option bJ) (n c:Nat),L=[.slice A n c,I i,.bool false,.slice none 0 0]/\i<=l.length/\h.le u/\(∀ c∈l.take i,F4 c)/\Mg u A n (G8 (l.take i))/\n<=c,fun L _=>l.length-(iAt L 1).toNat,⟨0,none,0,0,rfl,o,B3 h,by simp,Mag.zero,aV _⟩,?_⟩
 rintro A1 n1 c1 i1 T A2 n2 c2 u ⟨i,A1',ac,O,hL,hi,ab,r,M,hc⟩
 obtain ⟨⟨rfl,rfl,rfl⟩,rfl,rfl,rfl,rfl,rfl⟩:(A1=A1'/\n1=ac/\c1=O)/\i1=(i:Int)/\T=false/\A2=none/\n2=0/\c2=0:=gz0
 refine B5 (fun h1=>?_) (fun h1=>?_)
 ·refine ⟨fun L Q=>∃ (k:Nat),L=[I ((i+k:Nat):Int),U32 (G8 ((l.drop i).take k):Nat),U32 ((10^k:Nat):Int),.bool false,.slice none 0 0]/\0<k/\k<=9/\i+k<=l.length/\Q=u/\(∀ c∈(l.drop i).take k,F4 c),?_,?_⟩
  ·refine ⟨fun L Q=>∃ (k:Nat),L=[I ((i+k:Nat):Int),U32 (G8 ((l.drop i).take k):Nat),U32 ((10^k:Nat):Int),I k,.bool false,.slice none 0 0]/\k<=9/\i+k<=l.length/\Q=u/\(∀ c∈(l.drop i).take k,F4 c),fun L _=>9-(iAt L 3).toNat,⟨0,by rfl,o,o,rfl,by simp⟩,?_⟩
   rintro G v f k2 x A3 N V E ⟨k,ad,S,t,rfl,g⟩
   obtain ⟨rfl,rfl,rfl,rfl,rfl,rfl,rfl,rfl⟩:G=((i+k:Nat):Int)/\v=((G8 ((l.drop i).take k):Nat):Int)/\f=((10^k:Nat):Int)/\k2=(k:Int)/\x=false/\A3=none/\N=0/\V=0:=gz0
   refine B5 (fun h2=>B5 (fun h3=>?_) (fun h3=>?_)) (fun h2=>?_)
   ·have D:i+k<l.length:=o
    have a:(bs l)[((i+k:Nat):Int).toNat]? = some l[i+k]:=by rw [aC,Pb,dK D]
    have d:¬ F4 l[i+k]->∀ s A n c,K (.tuple #[.agg #[.bool s,.slice A n c],.bool false]) E:=by
     grind
    refine ⟨l[i+k],⟨o,a⟩,B5 (fun y=>?_) (fun y=>?_)⟩
    ·exact d (fun B=>by unfold F4 at B;omega) _ _ _ _
    ·refine ⟨l[i+k],⟨o,a⟩,B5 (fun h5=>?_) (fun h5=>?_)⟩
     ·exact d (fun B=>by unfold F4 at B;omega) _ _ _ _
     ·have af:F4 l[i+k]:=by unfold F4;omega
      refine ⟨l[i+k],⟨o,a⟩,?_⟩
      have j:(l.drop i).take (k+1)=(l.drop i).take k++[l[i+k]]:=by
       rw [eF gz0];simp
      have R:G8 ((l.drop i).take k)<10^k:=by
       have:=U8 g
       grind
      have W:10^k<=100000000:=by
       have:10^k<=10^8:=bF dc o
       omega
      have e1:B7 (((i+k:Nat):Int)+1)=((i+(k+1):Nat):Int):=by rw [B6 o o];omega
      have e2:B7 ((k:Int)+1)=((k+1:Nat):Int):=by rw [B6 o o];omega
      have e3:F6 (((10^k:Nat):Int)*10)=((10^(k+1):Nat):Int):=by rw [dQ,J8 o o];omega
      have e4:F6 (F6 (((G8 ((l.drop i).take k):Nat):Int)*10)+F6 (wu8 ((l[i+k].toNat:Int)-48)))=((G8 ((l.drop i).take (k+1)):Nat):Int):=by
       rw [j,Bu,Js o o,J8 (n:=(l[i+k].toNat:Int)-48) o o,J8 (n:=((G8 ((l.drop i).take k):Nat):Int)*10) o o,J8 o o];omega
      rw [e1,e2,e3,e4]
      refine ⟨⟨k+1,rfl,o,o,rfl,?_⟩,by simp only [iAt,aF,aH];omega⟩
      grind
   ·grind
   grind
  ·rintro G v f w A3 N V p ⟨k,ad,ae,S,t,rfl,g⟩
   obtain ⟨rfl,rfl,rfl,rfl,rfl,rfl,rfl⟩:G=((i+k:Nat):Int)/\v=((G8 ((l.drop i).take k):Nat):Int)/\f=((10^k:Nat):Int)/\w=false/\A3=none/\N=0/\V=0:=gz0
   have R:G8 ((l.drop i).take k)<10^k:=by
    have:=U8 g
    grind
   have W:0<10^k/\10^k<=1000000000:=by
    have:10^k<=10^9:=bF dc o
    omega
   have aa:((l.drop i).take k).length=k:=gz0
   have j:l.take (i+k)=l.take i++(l.drop i).take k:=fE
   have q:∀ c∈l.take (i+k),F4 c:=by
    grind
   have ag:G8 (l.take (i+k))=G8 (l.take i)*10^k+G8 ((l.drop i).take k):=by rw [j,Ab,aa]
   have F:G8 (l.take i)<2^(4*l.length):=bN (T3 r) (bF dc gz0)
   have ah:G8 (l.take (i+k))<2^(4*l.length):=bN (T3 q) (bF dc gz0)
   have X:=A2h M F o
   refine N9 Gx rfl ?_
   intro z C
   refine ⟨_,_,_,rfl,?_⟩
   have lf:=Heap.le_put (h:=p) (b:=z) (.cells #[U32 ((10^k:Nat):Int)] 173) C
   have Mf:Mg (p.put z (.cells #[U32 ((10^k:Nat):Int)] 173)) (some ⟨z,0,none⟩) 1 ((10^k:Nat):Int):=
    ⟨[((10^k:Nat):Int)],rfl,SlI.new p z [((10^k:Nat):Int)] 173 _,Dig.one ⟨o,gz0⟩,by simp only [fI,List.getLast?_singleton,ne_eq,Option.some.injEq];omega,O5 _ _⟩
   refine Qz (M.mono lf) Mf X o ?_
   intro A4 m4 c4 y l4 k4 M4
   refine ⟨_,_,_,rfl,?_⟩
   refine N9 Gx rfl ?_
   intro bv H
   refine ⟨_,_,_,rfl,?_⟩
   have lv:=Heap.le_put (h:=y) (b:=bv) (.cells #[U32 ((G8 ((l.drop i).take k):Nat):Int)] 173) H
   refine R8 (xs:=[((G8 ((l.drop i).take k):Nat):Int)]) (SlI.new y bv _ 173 _) (Dig.one ⟨o,gz0⟩) (aV _) (by simp) ?_
   intro m5 k5 M5
   refine ⟨_,_,_,rfl,?_⟩
   rw [O5] at M5
   have e4:((G8 (l.take i):Nat):Int)*((10^k:Nat):Int)=((G8 (l.take i)*10^k:Nat):Int):=by rw [bV]
   rw [e4] at M4
   refine Rt (M4.mono lv) M5 (A2h M4 (m:=4*l.length) o o) gz0 ?_
   intro A6 m6 c6 h6 l6 k6 M6
   have e6:((G8 (l.take i)*10^k:Nat):Int)+((G8 ((l.drop i).take k):Nat):Int)=((G8 (l.take (i+k)):Nat):Int):=o
   rw [e6] at M6
   exact ⟨_,_,_,rfl,⟨i+k,A6,m6,c6,rfl,t,A0 ab (A0 lf (A0 l4 (A0 lv l6))),q,M6,k6⟩,by simp only [iAt,aF,aH];omega⟩
 ·refine P8 M hc ?_
  intro s1 i1
  refine ⟨_,_,_,_,rfl,?_⟩
  have e:(!((bs l).toList==({ data:=#[] }:ByteArray).toList))=decide (l≠[]):=by
   rw [Kg,Gu];simp
  grind
def Dm{n m:Nat}(h:n<2^m):(J2 n).length<=m+1:=by
 rw [Ho o]
 have:2^m<=10^(m+1):=Nat.le_trans (cM dc m) (bF dc o)
 omega
def Jt{D:Nat}(i:NQ h w q)(hq:Sz m q)(hm:m<=575000000000000)(hD:q.num.natAbs<10^D/\q.den<10^D)(hD2:D<=140737488355232)(hK:K (.string (bs (K9 q))) h):aW prog 21 #[w.v] h K:=by
 have r:=i.num.sg
 have d:=i.den_zero
 refine (fnk func21 (cs:=[(4,[3],[],[.string ⟨#[]⟩])]) (own:=[1])) ?_
 have j:=Dm hq.num
 have k:=Dm (n:=q.den) (m:=m) (by have:=hq.den;assumption)
 refine Gt i.num hq.num hm hD.1 hD2 ⟨_,rfl,?_⟩
 refine ⟨fun l c=>l=[.string (bs (Fk q.num))]/\c=h,Br.of (fun e=>?_) (fun e=>?_),?_⟩
 ·refine ⟨?_,?_,rfl⟩
  ·rw [Kg,G7,G7];grind
  ·rw [Kg,Ey];unfold Fk;grind
 ·exact ⟨by unfold Fk;grind,rfl⟩
 rintro t p ⟨g,rfl⟩
 obtain rfl:t=bs (Fk q.num):=gz0
 have s:(Fk q.num).length<=m+2:=by
  unfold Fk;grind
 refine B5 (fun e=>?_) (fun e=>?_)
 ·have b:¬ q.den=1:=fun f=>by omega
  have a:=i.den
  rw [iN b] at a
  refine Gt a hq.den hm hD.2 hD2 ⟨_,rfl,?_,?_,?_⟩
  ·rw [Kg,G7,G7,cP];grind
  ·rw [Kg,Ey,G7,G7,cP];grind
  ·rw [Kg,Ey,Ey,cP]
   unfold K9 at hK
   grind
 ·unfold K9 at hK
  grind
def Wg(i:NQ h w q)(hq:Sz m q)(hm:m<=140000000000000)(hK:K (.string (bs (K9 q))) h):aW prog 21 #[w.v] h K:=
 Jt (D:=m) i hq o ⟨bN hq.num (cM dc _),bN (by have:=hq.den;assumption) (cM dc _)⟩ o hK
def A38{t a r a' r':List UInt8}(h1:t=a++r)(h2:∀ c∈a,c≠47)(h3:r=[]\/r.head? = some 47)(g1:t=a'++r')(g2:∀ c∈a',c≠47)(g3:r'=[]\/r'.head? = some 47):a=a'/\r=r':=by
 induction a generalizing t a' with
 | nil=>
  cases a' with
  | nil=>grind
  | cons c a'=>
   grind
 | cons c a ih=>
  cases a' with
  | nil=>
   grind
  | cons c' a'=>
   grind
def Wa(q:Rat):K9 q=(if q.num<0 then [45] else [])++(J2 q.num.natAbs++(if q.den=1 then [] else 47::J2 q.den)):=by
 unfold K9 Fk;grind
def Zc(n:Nat):∀ c∈J2 n,c≠47:=fun c a=>(Te (Ew n c a)).2
def Il{neg:Bool}{q:Rat}(h:neg=decide (q.num<0)):Rat.divInt (if neg=true then -((q.num.natAbs:Nat):Int) else ((q.num.natAbs:Nat):Int)) q.den=q:=by
 have:(if neg=true then -((q.num.natAbs:Nat):Int) else ((q.num.natAbs:Nat):Int))=q.num:=by
  grind
 simp_all
def Wv(hl:l.length<=140737488351232)(hK1:∀ q,l=K9 q->∀ w h',h.le h'->NQ h' w q->K (.tuple #[w.v,.bool true]) h')(hK0:¬ IsNum l->∀ (w:QV) h',h.le h'->K (.tuple #[w.v,.bool false]) h'):aW prog 75 #[.string (bs l)] h K:=by
 refine (fnk func75 [(7,[6,7],[],[I 0,I 0])] (cs:=[(3,[5],[],[.bool false]),(5,[4],[],[.string ⟨#[]⟩]),(11,[6],[],[I 0])]) (os:=[(20,[0,1,3,2,4,5,6])]) (own:=[2,8,10,11])) ?_
 simp only [G7]
 refine ⟨fun L h'=>L=[.bool (l.head? == some 45)]/\h'=h,B5 (fun B=>?_) (fun B=>?_),?_⟩
 ·cases l with
  | nil=>grind
  | cons c r=>
   refine ⟨c,⟨o,by rfl⟩,?_,rfl⟩
   have:((c.toNat:Int)==45)=((c::r).head? == some 45):=by
    rw [Bool.eq_iff_iff,beq_iff_eq,beq_iff_eq,List.head?_cons,Option.some.injEq]
    constructor
    ·intro e;apply UInt8.toNat_inj.1;grind
    simp_all
   rw [this]
 ·simp_all
 rintro neg hp ⟨hL,rfl⟩
 obtain rfl:neg=(l.head? == some 45):=gz0
 refine ⟨fun L h'=>L=[.string (bs (if (l.head? == some 45) then l.drop 1 else l))]/\h'=hp,Br.of (fun e=>?_) (fun e=>?_),?_⟩
 ·have af:1<=l.length:=by
   grind
  refine ⟨⟨o,o⟩,?_,rfl⟩
  rw [iP e,J7,aN gz0];rfl
 ·grind
 rintro t0 F ⟨ak,rfl⟩
 generalize ht:(if (l.head? == some 45) then l.drop 1 else l)=t at *
 obtain rfl:t0=bs t:=gz0
 have ao:t.length<=l.length:=gz0
 have aa:l=(if (l.head? == some 45) then [45] else [])++t:=by
  rw [<- ht]
  cases l with
  | nil=>simp
  | cons c r=>
   grind
 have s:∀ q,l=K9 q->(l.head? == some 45)=decide (q.num<0)/\t=J2 q.num.natAbs++(if q.den=1 then [] else 47::J2 q.den):=by
  intro q e
  have f:=Bl q
  rw [<- e] at f
  have hh:=f.head
  refine ⟨hh.symm,?_⟩
  have E:=aa
  rw [<- hh,e,Wa q] at E
  grind
 refine ⟨fun L h'=>∃ b:Nat,L=[I b]/\h'=F/\b<=t.length/\(∀ c∈t.take b,c≠47)/\(t.drop b=[]\/(t.drop b).head? = some 47),?_,?_⟩
 ·simp only [G7]
  refine ⟨fun L h'=>∃ i:Nat,L=[I t.length,I i]/\h'=F/\i<=t.length/\(∀ c∈t.take i,c≠47),fun L _=>t.length-(iAt L 1).toNat,⟨0,rfl,rfl,o,by simp⟩,?_⟩
  rintro X i1 am ⟨i,al,rfl,hi,y⟩
  obtain ⟨rfl,rfl⟩:X=(t.length:Int)/\i1=(i:Int):=gz0
  refine B5 (fun B=>?_) (fun B=>?_)
  ·have z:i<t.length:=o
   refine ⟨t[i],⟨o,by rw [aC,Pb,dK z]⟩,D5 (fun O=>?_) (fun O=>?_)⟩
   ·refine ⟨i,rfl,rfl,hi,y,.inr ?_⟩
    rw [List.head?_drop,dK z]
    congr 1
    apply UInt8.toNat_inj.1
    grind
   ·rw [B6 o o]
    refine ⟨⟨i+1,rfl,rfl,o,?_⟩,by simp only [iAt,aF,aH];omega⟩
    rw [eF z]
    intro c W
    rcases List.mem_append.1 W with T|T
    ·grind
    ·rw [List.mem_singleton.1 T]
     intro e;rw [e] at O;grind
  grind
 rintro ae R ⟨b,ai,rfl,an,y,g⟩
 obtain rfl:ae=(b:Int):=gz0
 simp only [G7,J7,aC,dD,bU]
 refine ⟨⟨o,o⟩,?_⟩
 have m:t=t.take b++t.drop b:=(cH b t).symm
 have d:∀ q,l=K9 q->t.take b=J2 q.num.natAbs/\t.drop b=(if q.den=1 then [] else 47::J2 q.den):=by
  intro q e
  refine A38 m y g (s q e).2 (Zc _) ?_
  split
  ·left;rfl
  grind
 refine Bs gz0 ?_
 intro s1 A1 n1 c1 aj B M k1 k0
 refine ⟨_,_,_,_,_,rfl,Br.not (Br.of (fun e=>?_) (fun e=>?_))⟩
 ·obtain ⟨dg,ad,iN⟩:=k1 e
  have ab:ZB (4*l.length) (G8 (t.take b):Int):=by
   exact bN (T3 dg) (bF dc gz0)
  have im:=iN.mag
  refine P8 im iN.cap ?_
  intro s2 i2
  refine ⟨_,_,_,_,rfl,?_⟩
  have j:ZB (4*l.length) (if (l.head? == some 45)=true then -((G8 (t.take b):Nat):Int) else ((G8 (t.take b):Nat):Int)):=by
   split
   ·exact ab.neg
   omega
  have p:∀ Q:List UInt8,(∀ c∈Q,F4 c)->Q.length<=l.length->G8 Q<10^l.length:=fun Q B O=>bN (U8 B) (bF dc O)
  have C:∀ (A:Rat) (w:QV) (u:bD),R.le u->NQ u w A->Sz (4*l.length+1) A->(A.num.natAbs<10^l.length/\A.den<10^l.length)->(∀ q,l=K9 q->q=A)->
   aW prog 21 #[w.v] u (fun r5 D=>∃ (t79:ByteArray),r5= .string t79/\Heap.le u D/\K (.tuple #[w.v,.bool (ByteArray.toList t79==ByteArray.toList (bs l))]) D):=by
   intro A w u l5 iq S ac ap
   refine Jt iq S o ac o ⟨_,rfl,B3 _,?_⟩
   rw [Gu]
   by_cases W:K9 A=l
   ·grind
   ·rw [decide_eq_false W]
    refine hK0 ?_ w u l5
    rintro ⟨q,e⟩
    grind
  refine B5 (fun E=>?_) (fun E=>?_)
  ·have e3:B7 ((b:Int)+1)=((b+1:Nat):Int):=by rw [B6 o o];omega
   rw [e3]
   refine ⟨⟨o,o⟩,?_⟩
   rw [aC,aN (show (t.drop (b+1)).length<=t.length-(b+1) from gz0)]
   have hb:t.drop b=47::t.drop (b+1):=by
    rcases g with h0|h0
    ·grind
    ·rw [List.head?_drop] at h0
     have H:b<t.length:=o
     rw [cL H]
     grind
   refine Bs gz0 ?_
   intro s3 A3 n3 c3 ah T N j1 j0
   have n:∀ q,l=K9 q->q.den≠1/\t.drop (b+1)=J2 q.den:=by
    intro q e
    by_cases hd:q.den=1
    ·grind
    grind
   refine ⟨_,_,_,_,_,rfl,Br.not (Br.of (fun e4=>?_) (fun e4=>?_))⟩
   ·obtain ⟨G,ag,iD⟩:=j1 e4
    refine Ws iD ⟨_,rfl,D5 (fun e5=>?_) (fun e5=>?_)⟩
    ·refine hK0 ?_ ⟨false,none,0,0,false,none,0,0⟩ _ (A0 M N)
     rintro ⟨q,e⟩
     have h6:=(n q e).2
     have h7:((G8 (t.drop (b+1)):Nat):Int)=0:=Int.sign_eq_zero_iff_zero.1 e5
     rw [h6,Q7] at h7
     exact q.den_nz o
    ·have k:((G8 (t.drop (b+1)):Nat):Int)≠0:=fun e6=>e5 (by rw [e6];rfl)
     have x:ZB (4*l.length) (G8 (t.drop (b+1)):Int):=by
      exact bN (T3 G) (bF dc gz0)
     refine Yk (i2.mono N) iD k j x o ?_
     intro w u l5 iq
     refine ⟨_,_,_,_,_,_,_,_,rfl,?_⟩
     refine C _ w u (A0 M (A0 N l5)) iq ((Ff k j x).mono o) ?_ ?_
     ·have q1:=Ir (a:=if (l.head? == some 45)=true then -((G8 (t.take b):Nat):Int) else ((G8 (t.take b):Nat):Int)) k
      have q2:(if (l.head? == some 45)=true then -((G8 (t.take b):Nat):Int) else ((G8 (t.take b):Nat):Int)).natAbs=G8 (t.take b):=by split<;>omega
      rw [q2,cP] at q1
      exact ⟨cO q1.1 (p _ dg gz0),cO q1.2 (p _ G gz0)⟩
     intro q e
     rw [(d q e).1,(n q e).2,Q7,Q7]
     exact (Il (s q e).1).symm
   ·refine hK0 ?_ ⟨false,none,0,0,false,none,0,0⟩ _ (A0 M N)
    rintro ⟨q,e⟩
    exact j0 e4 (by rw [(n q e).2];exact ⟨Ew _,Is _⟩)
  ·refine C _ ⟨s2,A1,n1,c1,false,none,0,0⟩ B M (NQ.whole i2) (Sz.int (j.mono o) o) ?_ ?_
   ·have V:1<=l.length:=by have:=List.length_pos_iff.2 ad;grind
    refine ⟨?_,?_⟩
    ·rw [Rat.num_intCast]
     refine cO (Nat.le_of_eq ?_) (p _ dg gz0)
     split<;>omega
    ·rw [Rat.den_intCast];exact bN dc (bF dc V)
   intro q e
   have hd:q.den=1:=by
    grind
   rw [(d q e).1,Q7]
   have:=Il (s q e).1
   rw [hd] at this
   rw [<- Kf]
   exact this.symm
 ·refine hK0 ?_ ⟨false,none,0,0,false,none,0,0⟩ _ M
  rintro ⟨q,E⟩
  exact k0 e (by rw [(d q E).1];exact ⟨Ew _,Is _⟩)
end
def ndg(x:Nat):Nat:=x*78913/262144
def A2f:∀ x,x<65->2^x<=10^(ndg x+1)/\(ndg x=0\/10^(ndg x-1)<=2^(x-1))/\ndg x<=19:=dc
def Oz{n k:Nat}(h1:10^k<=n)(h2:n<10^(k+1)):(dd n).length=k+1:=by
 have a:=(K7 (n:=n) (k:=k+1)).2 h2
 have b:¬ (dd n).length<=k:=fun e=>by have:=K7.1 e;omega
 omega
def A6s{d:Nat}(h0:d≠0)(h:d<2^64):(dd d).length=ndg (K3 d)+(if 10^ndg (K3 d)<=d then 1 else 0):=by
 have g:=By h
 obtain ⟨c,f⟩:=Y2 h0
 obtain ⟨e,a,i⟩:=A2f (K3 d) o
 split
 ·rename_i b
  exact Oz b o
 ·rename_i b
  rcases a with a|a
  ·grind
  ·obtain ⟨k,hk⟩:∃ k,ndg (K3 d)=k+1:=by
    by_cases j:ndg (K3 d)=0
    ·grind
    ·exact ⟨ndg (K3 d)-1,o⟩
   rw [hk] at b a ⊢
   rw [Nat.add_sub_cancel] at a
   exact Oz o o
def A43(w n:Nat):pad (w+2) n=pad w (n/100)++[dch (n/10%10),dch (n%10)]:=by
 rw [Hl,Hl,fO];simp
def Xi(n:Nat)(h:n=0):pad 0 n=[]:=by subst h;simp [pad,I3]
abbrev b64:Int:=18446744073709551616
abbrev Mw(h:bD)(A:Option bJ)(len:Nat)(n:Int):Prop:=Mag .u64 b64 h A len n
structure Win (k:cW) (h g:bD) (b:Nat) (e:cD) (A:Option bJ) (pre:List eA) (xs:List Int) (post:List eA):Prop where
 free:g b=none
 eq:h=g.put b (.cells (pre++xs.map (bL k)++post).toArray e)
 at_:xs=[]\/A=some ⟨b,pre.length,none⟩
section
variable {k:cW} {h g:bD} {b:Nat} {e:cD} {A:Option bJ} {pre post:List eA} {xs:List Int}
def Win.le(w:Win k h g b e A pre xs post):g.le h:=by rw [w.eq];exact Heap.le_put _ w.free
def Win.sl(w:Win k h g b e A pre xs post):SlI k h A xs:=by
 rcases w.at_ with rfl|a
 ·exact SlI.nil
 ·right
  refine ⟨_,a,fun i v c=>?_⟩
  rw [w.eq,D4,D6]
  grind
def Win.store{P:dN}{t:cD}(one:P.cellsOf t=1/\(P.info? t).isSome=true)(w:Win k h g b e A pre xs post){a:bJ}(ha:A=some a){i v:Int}(h0:0<=i)(h1:i<xs.length){K:Unit->bD->Prop}
 (x:∀ h',Win k h' g b e A pre (xs.set i.toNat v) post->K () h'):wpH P (dL t (.pointer (some (eO a (i.toNat*1)))) (.int k v)) K h:=by
 have c:A=some ⟨b,pre.length,none⟩:=by
  rcases w.at_ with rfl|c
  ·grind
  ·exact c
 rw [ha] at c
 cases c
 rw [w.eq,D4,Nat.mul_one]
 refine V7 one.1 one.2 rfl rfl gz0 ?_
 refine x _ ⟨w.free,?_,.inr ha⟩
 simp_all
def Win.storeN{P:dN}{t:cD}(one:P.cellsOf t=1/\(P.info? t).isSome=true)(w:Win k h g b e A pre xs post){a:bJ}(ha:A=some a){i:Nat}{v:Int}(h1:i<xs.length){K:Unit->bD->Prop}
 (x:∀ h',Win k h' g b e A pre (xs.set i v) post->K () h'):wpH P (dL t (.pointer (some (eO a (i*1)))) (.int k v)) K h:=by
 have:=w.store one ha (i:=(i:Int)) (v:=v) (K:=K) o o (by assumption)
 assumption
def Win.call{P:dN}{f:FuncId}{args:Array eA}(w:Win k h g b e A pre xs post){K:VP}(x:aW P f args g (fun r h0=>∀ h',Win k h' h0 b e A pre xs post->K r h')):aW P f args h K:=by
 rw [w.eq]
 exact FCall.frame w.free x fun r h0 a c=>c _ ⟨a,rfl,w.at_⟩
def Win.blk(k:cW)(e:cD){g:bD}{b:Nat}(hb:g b=none)(zs:List Int):Win k (Go.Proofs.YtdphgbjaijlckaaGreatDoor.blk k e g b zs) g b e (some ⟨b,0,none⟩) [] zs []:=
 ⟨hb,by simp [Go.Proofs.YtdphgbjaijlckaaGreatDoor.blk],.inr rfl⟩
def Win.sub(w:Win k h g b e A pre xs post){l m c:Nat}(hl:l<=m)(hm:m<=xs.length)(hc:xs.length<=c):
 Win k h g b e (N3 A c l 1) (pre++(xs.take l).map (bL k)) ((xs.drop l).take (m-l)) ((xs.drop m).map (bL k)++post):=by
 refine ⟨w.free,?_,?_⟩
 ·rw [w.eq]
  congr 3
  have:xs=xs.take l++((xs.drop l).take (m-l)++xs.drop m):=by
   have d:xs.drop m=(xs.drop l).drop (m-l):=by simp_all
   rw [d,cH,cH]
  grind
 ·by_cases f:m-l=0
  ·grind
  ·right
   rcases w.at_ with rfl|a
   ·grind
   ·unfold N3
    rw [iN o,a]
    simp only [Option.map_some,D4,Nat.mul_one,aR,eV,aJ]
    grind
def Win.whole{h' g':bD}(w:Win k h g b e A pre xs post){l m:Nat}(hl:l<=m)(hm:m<=xs.length){B:Option bJ}{ys:List Int}(hy:ys.length=m-l)(v:Win k h' g' b e B (pre++(xs.take l).map (bL k)) ys ((xs.drop m).map (bL k)++post)):
 Win k h' g' b e A pre (xs.take l++ys++xs.drop m) post:=by
 refine ⟨v.free,?_,?_⟩
 ·rw [v.eq]
  grind
 ·rcases w.at_ with rfl|a
  ·grind
  grind
def Priv.win{n c:Nat}(p:fC h g e 1 A n c (xs.map (bL k)))(hx:xs≠[]):∃ b post,Win k h g b e A [] xs post:=by
 obtain ⟨q,l,f⟩:=p
 rcases f with ⟨r,rfl⟩|⟨b,a,j,i,rfl,m,d⟩
 ·simp_all
 ·refine ⟨b,a.drop (n*1),i,?_,.inr j⟩
  rw [cF,<- d,cH]
end
def X7{P:dN}{t:cD}(one:P.cellsOf t=1/\(P.info? t).isSome=true){k:cW}{n:Int}{i:Nat}{g:bD}{b:Nat}{e:cD}{zs:List Int}(hi:i<zs.length){K:Unit->bD->Prop}
 (x:K () (blk k e g b (zs.set i n))):wpH P (dL t (.pointer (some (eO ⟨b,0,none⟩ (i*1)))) (.int k n)) K (blk k e g b zs):=by
 have:=L9 (P:=P) (t:=t) one (k:=k) (n:=n) (i:=(i:Int)) (g:=g) (b:=b) (e:=e) (zs:=zs) (K:=K) o (by assumption)
 assumption
def Ac{P:dN}{t e e' ty:cD}{k:cW}{bytes:Nat}(s:SliceT P t e' (.int k 0) 1 bytes){h g:bD}{b:Nat}{A:Option bJ}{pre post:List eA}{xs:List Int}{n c m d:Nat}(w:Win k h g b e A pre xs post)(hn:n=xs.length){B:Option bJ}{ys:List Int}(sy:SlI k h B ys)(hm:m=ys.length)(hle:ys.length<=xs.length){K:VP}
 (x:∀ h',Win k h' g b e A pre (ys++xs.drop ys.length) post->K (I ys.length) h'):wpH P (dM #[t,t] ty #[.slice A n c,.slice B m d]) K h:=by
 subst hn hm
 obtain ⟨i,r,y,l,p⟩:=s.parts
 unfold dM
 simp only [List.getElem?_toArray,aF,aH,C0,D3 s.und,H1 r,F3,Builtin.lenOf,l]
 have f:Nat.min ys.length xs.length=ys.length:=aI hle
 rw [f]
 refine G9 (s:=1) (cs:=ys.map (bL k)) (by simp) sy ?_
 cases A with
 | none=>
  rcases w.at_ with j|j
  ·have:ys=[]:=aZ gz0
   subst this
   exact x h (by assumption)
  ·cases j
 | some a=>
  simp only [C0]
  rcases w.at_ with j|j
  ·have:ys=[]:=aZ gz0
   subst this
   exact x h (by assumption)
  ·cases j
   rw [w.eq]
   refine G1 (ys.map (bL k)) pre.length 0 (pre++xs.map (bL k)++post) gz0 (fun v q=>?_) ?_
   ·obtain ⟨u,_,rfl⟩:=List.mem_map.1 q;rfl
   ·refine x _ ⟨w.free,?_,?_⟩
    ·congr 3
     unfold H0
     rw [eE,bY pre,dC rfl,eV]
     rw [eR,aT (show pre.length<=pre.length+ys.length from o),fH,cF]
     rw [dA gz0,<- List.map_drop,eU]
     grind
    grind
def Sf{P:dN}{nm:String}{x y c:Int}(hc:0<=c/\c<=1){f:Nat × Nat × Nat->eA}:Fq P (Extern.MathBitsCarry.three nm #[U x,U y,U c] >>= fun p=>pure (f p))=some (f (x.toNat,y.toNat,c.toNat)):=by
 obtain rfl|rfl:c=0\/c=1:=o
 ·rfl
 ·rfl
def Yd:aQ=18446744073709551616:=dc
def U4{h:bD}{K:VP}{x y c:Int}(hx:0<=x/\x<18446744073709551616)(hy:0<=y/\y<18446744073709551616)(hc:0<=c/\c<=1)(hK:K (.tuple #[U ((x+y+c)%18446744073709551616),U ((x+y+c)/18446744073709551616)]) h):ECall prog 274 #[U x,U y,U c] h K:=by
 refine A2m Vn (Sf (P:=prog) hc (f:=fun p=>fB ((p.1+p.2.1+p.2.2)%aQ) ((p.1+p.2.1+p.2.2)/aQ))) ?_
 have b:((x.toNat+y.toNat+c.toNat)%aQ:Nat)=(((x+y+c)%18446744073709551616:Int)):=by
  rw [Yd]
  omega
 have a:((x.toNat+y.toNat+c.toNat)/aQ:Nat)=(((x+y+c)/18446744073709551616:Int)):=by
  rw [Yd]
  omega
 show K (.tuple #[U ((x.toNat+y.toNat+c.toNat)%aQ:Nat),U ((x.toNat+y.toNat+c.toNat)/aQ:Nat)]) h
 grind
def Z1{h:bD}{K:VP}{x y c:Int}(hx:0<=x/\x<18446744073709551616)(hy:0<=y/\y<18446744073709551616)(hc:0<=c/\c<=1)(hK:K (.tuple #[U ((x-y-c)%18446744073709551616),U (if x-y-c<0 then 1 else 0)]) h):ECall prog 262 #[U x,U y,U c] h K:=by
 refine A2m Vm (Sf (P:=prog) hc (f:=fun p=>fB ((p.1+aQ-p.2.1-p.2.2)%aQ) (if p.1<p.2.1+p.2.2 then 1 else 0))) ?_
 have a:((x.toNat+aQ-y.toNat-c.toNat)%aQ:Nat)=(((x-y-c)%18446744073709551616:Int)):=by
  rw [Yd]
  omega
 show K (.tuple #[U ((x.toNat+aQ-y.toNat-c.toNat)%aQ:Nat),U ((if x.toNat<y.toNat+c.toNat then 1 else 0:Nat):Nat)]) h
 grind
def Jh(x y:Int):Int:=if x<y then -1 else if x>y then 1 else 0
def Xt{h:bD}{K:VP}{x:Int}(hK:K (.bool false) h):aW prog 272 #[I x] h K:=by
 refine (fnk func272) ?_
 grind
def Xs{h:bD}{K:VP}{x:Int}(hK:K (.bool false) h):aW prog 273 #[U x] h K:=by
 refine (fnk func273) ?_
 grind
def Zh{h:bD}{K:VP}{x y:Int}(hK:K (I (Jh x y)) h):aW prog 244 #[I x,I y] h K:=by
 refine (fnk func244) ?_
 refine Xt ⟨_,rfl,Xt ⟨_,rfl,?_⟩⟩
 unfold Jh at hK
 refine B5 (fun a=>?_) (fun a=>B5 (fun b=>?_) (fun b=>?_))
 ·grind
 ·grind
 grind
def Zg{h:bD}{K:VP}{x y:Int}(hK:K (I (Jh x y)) h):aW prog 245 #[U x,U y] h K:=by
 refine (fnk func245) ?_
 refine Xs ⟨_,rfl,Xs ⟨_,rfl,?_⟩⟩
 unfold Jh at hK
 refine B5 (fun a=>?_) (fun a=>B5 (fun b=>?_) (fun b=>?_))
 ·grind
 ·grind
 grind
def Ej{h:bD}{K:VP}{x y:Int}(hx:0<=x/\x<18446744073709551616)(hy:0<=y/\y<18446744073709551616)(hK:K (.tuple #[U (x*y/18446744073709551616),U (x*y%18446744073709551616)]) h):aW prog 214 #[U x,U y] h K:=by
 refine (fnk func214) ?_
 rw [S4 hx,S4 hy]
 simp only [Kz]
 obtain ⟨e,d,b,c,a⟩:=Ra hx hy (x1:=x/4294967296) (x0:=x%4294967296) (y1:=y/4294967296) (y0:=y%4294967296) o o o o
 generalize x/4294967296*(y/4294967296)=p11 at *
 generalize x/4294967296*(y%4294967296)=p10 at *
 generalize x%4294967296*(y/4294967296)=p01 at *
 generalize x%4294967296*(y%4294967296)=p00 at *
 rw [B9 (n:=p00) o o,B9 (n:=p10) o o,B9 (n:=p01) o o,B9 (n:=p11) o o]
 rw [B9 (n:=p10+p00/4294967296) o o,S4 o]
 rw [B9 (n:=(p10+p00/4294967296)%4294967296+p01) o o]
 rw [B9 (n:=p11+(p10+p00/4294967296)/4294967296) o o,B9 o o,E9]
 have:p11+(p10+p00/4294967296)/4294967296+((p10+p00/4294967296)%4294967296+p01)/4294967296=x*y/18446744073709551616:=by
  omega
 grind
def L8{h:bD}{K:VP}{x y c:Int}(hx:0<=x/\x<18446744073709551616)(hy:0<=y/\y<18446744073709551616)(hc:0<=c/\c<18446744073709551616)(hK:K (.tuple #[U ((x*y+c)%18446744073709551616),U ((x*y+c)/18446744073709551616)]) h):aW prog 261 #[U x,U y,U c] h K:=by
 have a:0<=x*y/\x*y<=18446744073709551615*18446744073709551615:=⟨aO hx.1 hy.1,dF o o hy.1 dc⟩
 refine (fnk func261) ?_
 refine Ej hx hy ⟨_,_,rfl,?_⟩
 refine U4 o hc o ⟨_,_,rfl,?_⟩
 rw [B9 o o]
 grind
def A4l(a:Array UInt8):({ data:=a }:ByteArray)=bs a.toList:=by simp [bs]
def Yf:List UInt8:=[0,1,2,2,3,3,3,3,4,4,4,4,4,4,4,4,5,5,5,5,5,5,5,5,5,5,5,5,5,5,5,5]++aE 32 6++aE 64 7++aE 128 8
def Us:∀ i,i<256->(Yf[i]?).map UInt8.toNat=some (K3 i):=dc
def Mc{x s:Nat}(h:2^s<=x):K3 x=s+K3 (x/2^s):=by
 have b:0<2^s:=cZ dc
 have a:x/2^s≠0:=by
  simp_all
 have:=Kh (l:=x%2^s) (t:=x/2^s) (j:=s) (fA _ b) a
 rw [Nat.mod_add_div] at this
 exact this
def Tc{h:bD}{K:VP}{x:Nat}(hx:x<18446744073709551616)(hK:K (I (K3 x)) h):aW prog 266 #[U x] h K:=by
 refine A03 _ ?_
 have p:∀ (y s:Nat),s<=64->dG (y:Int) (2^(min ((s:Int)).toNat 64))=((y/2^s:Nat):Int):=by
  grind
 refine ⟨fun l a=>∃ (y n:Nat),l=[U y,I n]/\a=h/\y<4294967296/\K3 x=n+K3 y/\n<=32,B5 (fun d=>?_) (fun d=>?_),?_⟩
 ·refine ⟨x/2^32,32,?_,rfl,o,Mc o,o⟩
  grind
 ·exact ⟨x,0,rfl,rfl,o,o,o⟩
 rintro f b a ⟨y,n,m,rfl,j,e,q⟩
 obtain ⟨rfl,rfl⟩:f=(y:Int)/\b=(n:Int):=gz0
 refine ⟨fun l i=>∃ (y n:Nat),l=[U y,I n]/\i=a/\y<65536/\K3 x=n+K3 y/\n<=48,B5 (fun d=>?_) (fun d=>?_),?_⟩
 ·refine ⟨y/2^16,n+16,?_,rfl,o,by rw [e,Mc (x:=y) (s:=16) o];omega,o⟩
  rw [show (16:Int)=((16:Nat):Int) from rfl,p y 16 o,B6 o o];rfl
 ·grind
 rintro f b a ⟨y,n,m,rfl,j,e,q⟩
 obtain ⟨rfl,rfl⟩:f=(y:Int)/\b=(n:Int):=gz0
 refine ⟨fun l i=>∃ (y n:Nat),l=[U y,I n]/\i=a/\y<256/\K3 x=n+K3 y/\n<=56,B5 (fun d=>?_) (fun d=>?_),?_⟩
 ·refine ⟨y/2^8,n+8,?_,rfl,o,by rw [e,Mc (x:=y) (s:=8) o];omega,o⟩
  rw [show (8:Int)=((8:Nat):Int) from rfl,p y 8 o,B6 o o];rfl
 ·grind
 rintro f b a ⟨y,n,m,rfl,j,e,q⟩
 obtain ⟨rfl,rfl⟩:f=(y:Int)/\b=(n:Int):=gz0
 rw [Js o o,aC]
 have t:=Us y j
 cases hc:Yf[y]? with
 | none=>grind
 | some c=>
  have g:c.toNat=K3 y:=gz0
  refine ⟨c,⟨o,?_⟩,?_⟩
  ·try unfold Ta
   rw [A4l,Pb];exact hc
  ·have r:K3 y<=8:=By (k:=8) o
   rw [g,B6 (n:=((K3 y:Nat):Int)) o o,B6 o o,<- Int.natCast_add,<- e]
   exact hK
def L3{h:bD}{K:VP}{x:Nat}(hx:x<18446744073709551616)(hK:K (I ((64-K3 x:Nat):Int)) h):aW prog 258 #[U x] h K:=by
 refine (fnk func258) ?_
 refine Tc hx ⟨_,rfl,?_⟩
 have a:K3 x<=64:=By (k:=64) o
 rw [B6 o o]
 have:(64:Int)-((K3 x:Nat):Int)=((64-K3 x:Nat):Int):=o
 rw [this];exact hK
def Pc{a b:Int}{s:Nat}(ha:0<=a)(hb:0<=b/\b<2^s)(hab:a*2^s+b<18446744073709551616):bor .u64 (a*2^s) b=a*2^s+b:=by
 have d:0<=a*2^s:=aO ha o
 rw [Ro o o]
 have e:(a*2^s).toNat=2^s*a.toNat:=by
  grind
 have c:b.toNat<2^s:=by
  grind
 rw [e,Sw c,<- e];omega
def Q6{s:Nat}(hs:s<=64):(2:Int)^s*2^(64-s)=18446744073709551616:=by
 rw [<- aS,show s+(64-s)=64 from o];decide
def A0t{x:Int}{s:Nat}(hs:s<=64):dG x (2^(min s 64))=x/2^s:=by
 grind
def Est.exact{B top u2 v1 v2 U V:Int}(e:Est B 1 top u2 0 v1 v2 0 U V){q:Int}(h:q*(v1*B+v2)<=top*B+u2):q*V<=U:=by
 have a:=e.hU
 have b:=e.hV
 grind
section
variable {h:bD} {K:VP}
def Zd{T u2 v1 v2 X Y:Int}{hp:bD}{J:Int->bD->Prop}(es:Est 4294967296 1 T u2 0 v1 v2 0 X Y)(_hT:T<18446744073709551616)
 (hJ:∀ q,0<=q->q*Y<=X->X<(q+1)*Y->J q hp):
 ∃ (Inv:Int->Int->bD->Prop) (mu:Int->Int->bD->Nat),Inv (T/v1) (T%v1) hp/\
  ∀ q r hp1,Inv q r hp1->(q>=4294967296->Inv q r hp1)/\0<=q/\q<=4294967297/\0<=r/\r<4294967296/\hp1=hp/\
   (q<4294967296->¬ (q*v2>4294967296*r+u2)->J q hp1)/\
   ((q>=4294967296\/q*v2>4294967296*r+u2)->1<=q/\(r+v1>=4294967296->J (q-1) hp1)/\(r+v1<4294967296->Inv (q-1) (r+v1) hp1/\mu (q-1) (r+v1) hp1<mu q r hp1)):=by
 obtain ⟨D,E⟩:=es.first
 have m:=es.init
 have B:=es.v1r
 have n:=es.v2r
 have x:=es.u2r
 have c:=es.top0
 have l:0<=T/v1:=bK c o
 have y:=aL T v1
 have k:=aP T (show v1≠0 from o)
 have z:=aK T (show 0<v1 from o)
 refine ⟨fun q r hp1=>hp1=hp/\0<=q/\q<=4294967297/\0<=r/\r<4294967296/\q*v1+r=T/\X<(q+1)*Y,fun q _ _=>q.toNat,⟨rfl,l,o,k,o,gz0,m⟩,?_⟩
 rintro q r hp1 ⟨rfl,f,s,t,p,j,b⟩
 have key:q*(v1*4294967296+v2)=(T-r)*4294967296+q*v2:=gz0
 refine ⟨fun _=>⟨rfl,f,s,t,p,j,b⟩,f,s,t,p,rfl,fun g C=>hJ q f (es.exact o) b,fun e=>?_⟩
 have w:X<q*Y:=by
  rcases e with g|g
  ·exact es.big g
  ·exact es.low f o
 have i:1<=q:=by
  grind
 have a:X<(q-1+1)*Y:=gz0
 have d:(q-1)*v1+(r+v1)=T:=gz0
 refine ⟨i,fun A=>?_,fun A=>⟨⟨rfl,o,o,o,o,d,a⟩,gz0⟩⟩
 have u:(q-1)*(v1*4294967296+v2)=(T-(r+v1))*4294967296+(q-1)*v2:=gz0
 have g:(q-1)*v2<=4294967296*v2:=aD o n.1
 exact hJ (q-1) o (es.exact o) a
def Hn{hi lo:Int}{y:Nat}(hhi:0<=hi/\hi<y)(hlo:0<=lo/\lo<18446744073709551616)(hy:y<18446744073709551616)
 (hK:K (.tuple #[U ((hi*18446744073709551616+lo)/y),U ((hi*18446744073709551616+lo)%y)]) h):aW prog 264 #[U hi,U lo,U y] h K:=by
 refine A04 _ _ _ ?_
 unfold A2x
 refine D5 (fun e=>absurd e o) (fun _=>?_)
 refine B5 (fun e=>absurd e o) (fun _=>?_)
 refine D5 (fun e=>?_) (fun a1=>?_)
 ·refine B5 (fun e=>absurd e o) (fun _=>?_)
  refine B5 (fun e=>absurd e o) (fun _=>?_)
  subst e
  rw [dR,cK] at hK
  rw [aX hlo.1,dE hlo.1,B9 (bK hlo.1 o) (cC (dO _ hlo.1) hlo.2)]
  exact hK
 refine L3 hy ⟨_,rfl,?_⟩
 have al:y≠0:=o
 obtain ⟨be,ba⟩:=Y2 al
 have ay:K3 y<=64:=By (k:=64) o
 have a9:1<=K3 y:=gz0
 obtain ⟨s,hs⟩:∃ s,s=64-K3 y:=⟨_,rfl⟩
 rw [<- hs]
 have az:s<64:=o
 have j:0<(2:Int)^s:=bI dc
 have M:=Q6 (s:=s) o
 have ah:0<(2:Int)^(64-s):=bI dc
 have ag:K3 y=64-s:=o
 have ao:(y:Int)<2^(64-s):=by
  grind
 have ab:(2:Int)^(63-s)<=y:=by
  grind
 have D:(2:Int)^s*2^(63-s)=9223372036854775808:=by
  rw [<- aS,show s+(63-s)=63 from o];decide
 have af:C1 (s:Int)=(s:Int):=B9 o o
 have aa:C1 ((64:Int)-s)=((64-s:Nat):Int):=by rw [B9 o o];omega
 have E:(y:Int)*2^s<18446744073709551616:=by
  rw [<- M,aU];exact bM ao j
 have ax:9223372036854775808<=(y:Int)*2^s:=by
  rw [<- D,aU (y:Int)];exact aG ab o
 have eY:C1 ((y:Int)*2^(min s 64))=(y:Int)*2^s:=by rw [aI o,B9 o E]
 have a7:hi*2^s+2^s<=(y:Int)*2^s:=by
  have:=aD (show hi+1<=(y:Int) from o) (aM j)
  grind
 have Q:0<=hi*2^s:=aO hhi.1 o
 have X:0<=lo/2^(64-s)/\lo/2^(64-s)<2^s:=by
  refine ⟨bK hlo.1 o,aY ah ?_⟩
  omega
 have eT:bor .u64 (C1 (hi*2^(min s 64))) (dG lo (2^(min (64-s) 64)))=hi*2^s+lo/2^(64-s):=by
  rw [aI (show s<=64 from o),B9 Q o,A0t o,Pc hhi.1 X o]
 have eL:C1 (lo*2^(min s 64))=lo*2^s%18446744073709551616:=by rw [aI o,E9]
 have a8:0<=lo*2^s%18446744073709551616/\lo*2^s%18446744073709551616<18446744073709551616:=⟨aP _ dc,aK _ dc⟩
 have hN:(hi*18446744073709551616+lo)*2^s=(hi*2^s+lo/2^(64-s))*18446744073709551616+lo*2^s%18446744073709551616:=by
  have d1:lo*2^s/18446744073709551616=lo/2^(64-s):=by
   rw [<- M,aU lo,Int.mul_ediv_mul_of_pos _ _ j]
  grind
 generalize hTT:hi*2^s+lo/2^(64-s)=T at *
 generalize hLL:lo*2^s%18446744073709551616=L at *
 generalize hYY:(y:Int)*2^s=Y at *
 have t:0<=T/\T<Y:=o
 unfold Pq Ps Pp Pr
 simp only [af,aa,aC,eY,eT,eL,Kz]
 rw [S4 o,S4 o]
 have e1:Est 4294967296 1 T (L/4294967296) 0 (Y/4294967296) (Y%4294967296) 0 (T*4294967296+L/4294967296) Y:=
  ⟨dc,dc,o,o,o,o,o,o,t.1,o,o⟩
 refine B5 (fun e=>absurd e o) (fun _=>?_)
 refine B5 (fun e=>absurd e o) (fun _=>?_)
 refine B5 (fun e=>absurd e o) (fun _=>?_)
 refine B5 (fun e=>absurd e o) (fun _=>?_)
 refine B5 (fun e=>absurd e o) (fun _=>?_)
 have W:∀ {q w:Int},0<=q->q<=4294967296->0<=w->w<4294967296->0<=q*w/\q*w<18446744073709551616:=by
  intro q w a b c d
  refine ⟨aO a c,?_⟩
  have:=dF b (show w<=4294967295 from o) c dc
  omega
 refine ⟨fun l hp=>∃ q,l=[U q]/\hp=h/\0<=q/\q*Y<=T*4294967296+L/4294967296/\T*4294967296+L/4294967296<(q+1)*Y,?_,?_⟩
 ·obtain ⟨Inv,mu,i0,st⟩:=Zd (hp:=h) (J:=fun q hp=>∃ i,[U q]=[U i]/\hp=h/\0<=i/\i*Y<=T*4294967296+L/4294967296/\T*4294967296+L/4294967296<(i+1)*Y) e1 o (fun q a b c=>⟨q,rfl,rfl,a,b,c⟩)
  refine ⟨fun l hp=>∃ q r,l=[U q,U r]/\Inv q r hp,fun l hp=>mu (iAt l 0) (iAt l 1) hp,⟨T/(Y/4294967296),T%(Y/4294967296),?_,i0⟩,?_⟩
  ·have dm:=aL T (Y/4294967296)
   have F:=bK t.1 (show 0<=Y/4294967296 from o)
   have d1:T/(Y/4294967296)<=T:=dO _ t.1
   have d2:=aP T (show Y/4294967296≠0 from o)
   rw [aX t.1,B9 (n:=T/(Y/4294967296)) F o,aU (T/(Y/4294967296))]
   have d3:=aO (show 0<=Y/4294967296 from o) F
   rw [B9 (n:=Y/4294967296*(T/(Y/4294967296))) d3 o,B9 o o]
   have:T-Y/4294967296*(T/(Y/4294967296))=T%(Y/4294967296):=o
   rw [this]
  rintro q r p ⟨i,r',hl,hI⟩
  obtain ⟨rfl,rfl⟩:q=i/\r=r':=by simpa using hl
  obtain ⟨_,f,g,r0,r1,rfl,ok,C⟩:=st q r p hI
  have H:=W (q:=4294967296) (w:=r) o o r0 r1
  refine ⟨fun l hp=>l=[]/\hp=p/\(q>=4294967296\/q*(Y%4294967296)>4294967296*r+L/4294967296),B5 (fun O=>⟨rfl,rfl,.inl O⟩) (fun O=>?_),?_⟩
  ·have N:=W (q:=q) (w:=Y%4294967296) f o o o
   rw [B9 N.1 N.2,B9 H.1 H.2,B9 (n:=4294967296*r+L/4294967296) o o]
   exact B5 (fun B=>⟨rfl,rfl,.inr B⟩) (fun B=>ok o B)
  ·rintro aj ⟨_,rfl,m⟩
   obtain ⟨g1,g2,V⟩:=C m
   rw [B9 (n:=r+Y/4294967296) o o,B9 (n:=q-1) o o]
   exact B5 (fun G=>g2 G) (fun G=>⟨⟨_,_,rfl,(V o).1⟩,(V o).2⟩)
 rintro g x ⟨ad,a6,rfl,ap,a4,bd⟩
 obtain rfl:g=ad:=gz0
 have aw:g<4294967296:=by
  by_cases z:g<4294967296
  ·exact z
  ·have:=aD (show 4294967296<=g from o) (show 0<=Y from o);omega
 have bf:(g+1)*Y=g*Y+Y:=gz0
 have a0:0<=g*Y:=aO ap o
 have ae:C1 (C1 (C1 (T*4294967296)+L/4294967296)-C1 (g*Y))=T*4294967296+L/4294967296-g*Y:=by
  simp only [E9];omega
 simp only [ae]
 generalize hRR:T*4294967296+L/4294967296-g*Y=R at *
 have u:0<=R/\R<Y:=o
 refine B5 (fun e=>absurd e o) (fun _=>?_)
 have e2:Est 4294967296 1 R (L%4294967296) 0 (Y/4294967296) (Y%4294967296) 0 (R*4294967296+L%4294967296) Y:=
  ⟨dc,dc,o,o,o,o,o,o,u.1,o,o⟩
 refine ⟨fun l hp=>∃ q,l=[U q]/\hp=x/\0<=q/\q*Y<=R*4294967296+L%4294967296/\R*4294967296+L%4294967296<(q+1)*Y,?_,?_⟩
 ·obtain ⟨Inv,mu,i0,st⟩:=Zd (hp:=x) (J:=fun q hp=>∃ i,[U q]=[U i]/\hp=x/\0<=i/\i*Y<=R*4294967296+L%4294967296/\R*4294967296+L%4294967296<(i+1)*Y) e2 o (fun q a b c=>⟨q,rfl,rfl,a,b,c⟩)
  refine ⟨fun l hp=>∃ q r,l=[U r,U q]/\Inv q r hp,fun l hp=>mu (iAt l 1) (iAt l 0) hp,⟨R/(Y/4294967296),R%(Y/4294967296),?_,i0⟩,?_⟩
  ·have dm:=aL R (Y/4294967296)
   have F:=bK u.1 (show 0<=Y/4294967296 from o)
   have d1:R/(Y/4294967296)<=R:=dO _ u.1
   have d2:=aP R (show Y/4294967296≠0 from o)
   rw [aX u.1,B9 (n:=R/(Y/4294967296)) F o,aU (R/(Y/4294967296))]
   have d3:=aO (show 0<=Y/4294967296 from o) F
   rw [B9 (n:=Y/4294967296*(R/(Y/4294967296))) d3 o,B9 o o]
   have:R-Y/4294967296*(R/(Y/4294967296))=R%(Y/4294967296):=o
   rw [this]
  rintro r q p ⟨i,r',hl,hI⟩
  obtain ⟨rfl,rfl⟩:r=r'/\q=i:=by simpa using hl
  obtain ⟨_,f,g,r0,r1,rfl,ok,C⟩:=st q r p hI
  have H:=W (q:=4294967296) (w:=r) o o r0 r1
  refine ⟨fun l hp=>l=[]/\hp=p/\(q>=4294967296\/q*(Y%4294967296)>4294967296*r+L%4294967296),B5 (fun O=>⟨rfl,rfl,.inl O⟩) (fun O=>?_),?_⟩
  ·have N:=W (q:=q) (w:=Y%4294967296) f o o o
   rw [B9 N.1 N.2,B9 H.1 H.2,B9 (n:=4294967296*r+L%4294967296) o o]
   exact B5 (fun B=>⟨rfl,rfl,.inr B⟩) (fun B=>ok o B)
  ·rintro aj ⟨_,rfl,m⟩
   obtain ⟨g1,g2,V⟩:=C m
   rw [B9 (n:=r+Y/4294967296) o o,B9 (n:=q-1) o o]
   exact B5 (fun G=>g2 G) (fun G=>⟨⟨_,_,rfl,(V o).1⟩,(V o).2⟩)
 rintro f bc ⟨ai,a2,rfl,an,a5,a3⟩
 obtain rfl:f=ai:=gz0
 refine B5 (fun e=>absurd e o) (fun _=>?_)
 have aq:f<4294967296:=by
  by_cases z:f<4294967296
  ·exact z
  ·have:=aD (show 4294967296<=f from o) (show 0<=Y from o);omega
 have bb:(f+1)*Y=f*Y+Y:=gz0
 have ar:0<=f*Y:=aO an o
 have am:C1 (C1 (C1 (R*4294967296)+L%4294967296)-C1 (f*Y))=R*4294967296+L%4294967296-f*Y:=by
  simp only [E9];omega
 rw [am,B9 (n:=g*4294967296) o o,B9 (n:=g*4294967296+f) o o,A0t o]
 have av:(hi*18446744073709551616+lo)*2^s=(g*4294967296+f)*(y*2^s)+(R*4294967296+L%4294967296-f*Y):=by
  grind
 have A:R*4294967296+L%4294967296-f*Y=(hi*18446744073709551616+lo-(g*4294967296+f)*y)*2^s:=gz0
 rw [A,eD _ (show (2:Int)^s≠0 from o)]
 have ak:0<=hi*18446744073709551616+lo-(g*4294967296+f)*y:=by
  by_cases z:0<=hi*18446744073709551616+lo-(g*4294967296+f)*y
  ·exact z
  ·have:=aD (show hi*18446744073709551616+lo-(g*4294967296+f)*y <= -1 from o) (aM j);omega
 have ac:hi*18446744073709551616+lo-(g*4294967296+f)*y<y:=by
  by_cases z:hi*18446744073709551616+lo-(g*4294967296+f)*y<y
  ·exact z
  ·have:=aD (show (y:Int)<=hi*18446744073709551616+lo-(g*4294967296+f)*y from o) (aM j);omega
 have S:(hi*18446744073709551616+lo)/y=g*4294967296+f:=by
  have:hi*18446744073709551616+lo=(hi*18446744073709551616+lo-(g*4294967296+f)*y)+(g*4294967296+f)*y:=o
  rw [this,dS _ _ o,bG ak ac,cK]
 have au:(hi*18446744073709551616+lo)%y=hi*18446744073709551616+lo-(g*4294967296+f)*y:=by
  rw [Int.emod_def,S,aU (y:Int)]
 grind
end
def J3{xs:List Int}(d:Dig b64 xs)(i:Nat):0<=xs.getD i 0/\xs.getD i 0<18446744073709551616:=d.getD dc i
def W6(c:Int):0<=c%18446744073709551616/\c%18446744073709551616<b64:=⟨aP _ dc,aK _ dc⟩
section
variable {h g:bD} {K:VP} {A B:Option bJ} {ac bc:Nat}
def V3{xs:List Int}(s:SlI .u64 h A xs)(hc:xs.length<=ac)(hl:xs.length<=100000000000000)(hK:∀ m,m<=xs.length->fI (xs.take m)->val b64 (xs.take m)=val b64 xs->K (.slice A m ac) h):aW prog 221 #[.slice A xs.length ac] h K:=by
 refine (fnk func221 [(2,[3],[],[I 0])]) ?_
 refine ⟨fun l d=>∃ m:Nat,l=[I m]/\m<=xs.length/\d=h/\val b64 (xs.take m)=val b64 xs,fun l _=>(iAt l 0).toNat,⟨xs.length,rfl,aV _,rfl,by rw [bO]⟩,?_⟩
 rintro g p ⟨m,f,c,rfl,a⟩
 obtain rfl:g=(m:Int):=gz0
 refine B5 (fun n=>?_) (fun n=>?_)
 ·obtain ⟨j,rfl⟩:∃ j,m=j+1:=⟨m-1,o⟩
  have e:B7 (((j+1:Nat):Int)-1)=(j:Int):=by rw [B6 o o];omega
  rw [e]
  have k:=J0 b64 (xs:=xs) (i:=j) o
  refine s.load rfl o o ?_
  refine D5 (fun b=>?_) (fun b=>?_)
  ·exact ⟨⟨j,rfl,o,rfl,gz0⟩,by simp only [iAt,aF];omega⟩
  ·refine ⟨⟨o,o⟩,?_⟩
   rw [F2,aC,bU,bU]
   refine hK (j+1) c ?_ a
   rw [Hu o];exact Oa b
 ·have:m=0:=o
  subst this
  refine ⟨⟨o,o⟩,?_⟩
  rw [F2,aC,bU,bU]
  exact hK 0 o Norm.nil a
def K4{xs:List Int}(s:SlI .u64 h A xs)(hd:Dig b64 xs)(hc:xs.length<=ac)(hl:xs.length<=100000000000000)(hK:∀ m,m<=xs.length->Mw h A m (val b64 xs)->K (.slice A m ac) h):aW prog 221 #[.slice A xs.length ac] h K:=by
 refine V3 s hc hl ?_
 intro m a d b
 refine hK m a ⟨xs.take m,gz0,?_,hd.take m,d,b⟩
 have:=s.cut (c:=ac) (l:=0) (m:=m) o a hc
 simpa [F2] using this
def S0{w:Int}(hw:0<=w/\w<18446744073709551616)(hK:∀ A m c h',h.le h'->m<=c->Mw h' A m w->K (.slice A m c) h'):aW prog 233 #[U w] h K:=by
 refine (fnk func233) ?_
 refine D5 (fun e=>?_) (fun e=>?_)
 ·subst e;exact hK none 0 0 h (B3 h) (aV _) Mag.zero
 ·refine N9 K0 rfl ?_
  intro b a
  exact ⟨_,_,_,rfl,hK _ _ _ _ (Heap.le_put _ a) (aV _) ⟨[w],rfl,SlI.new h b [w] 230 _,Dig.one hw,by simpa [fI] using e,O5 _ _⟩⟩
def H2{x y:Int}{an bn:Nat}(ma:Mw h A an x)(mb:Mw h B bn y)(hl:an<=100000000000000)(hK:K (I (Jh x y)) h):aW prog 196 #[.slice A an ac,.slice B bn bc] h K:=by
 obtain ⟨a,rfl,p,d,C,rfl⟩:=ma
 obtain ⟨b,rfl,m,c,s,rfl⟩:=mb
 refine (fnk func196 [(4,[5],[],[I 0])]) ?_
 refine K8 (fun u=>?_) (fun u=>?_)
 ·refine Zh ⟨_,rfl,?_⟩
  have:Jh (a.length:Int) (b.length:Int)=Jh (val b64 a) (val b64 b):=by
   unfold Jh
   by_cases g:a.length<b.length
   ·have:=Ci dc d c s g
    omega
   ·have:=Ci dc c d C o
    omega
  grind
 ·have n:a.length=b.length:=o
  refine ⟨fun l q=>∃ k:Nat,l=[I ((k:Int)-1)]/\k<=a.length/\q=h/\a.drop k=b.drop k,fun l _=>(iAt l 0+1).toNat,⟨a.length,?_,aV _,rfl,?_⟩,?_⟩
  ·rw [B6 o o]
  ·grind
  rintro i E ⟨k,z,D,rfl,f⟩
  obtain rfl:i=(k:Int)-1:=gz0
  refine B5 (fun g=>?_) (fun g=>?_)
  ·obtain ⟨j,rfl⟩:∃ j,k=j+1:=⟨k-1,o⟩
   have e:((j+1:Nat):Int)-1=(j:Int):=o
   rw [e]
   refine p.load rfl o o ?_
   refine m.load rfl o o ?_
   rw [aC]
   refine K8 (fun w=>?_) (fun w=>?_)
   ·refine p.load rfl o o ?_
    refine m.load rfl o o ?_
    refine Zg ⟨_,rfl,B3 _,?_⟩
    have:Jh (a.getD j 0) (b.getD j 0)=Jh (val b64 a) (val b64 b):=by
     unfold Jh
     by_cases t:a.getD j 0<b.getD j 0
     ·have:=Ch dc d c (i:=j) o o f t
      omega
     ·have:=Ch dc c d (i:=j) o o f.symm o
      omega
    grind
   ·rw [B6 o o]
    refine ⟨⟨j,rfl,o,rfl,?_⟩,by simp only [iAt,aF];omega⟩
    rw [cL (show j<a.length from o),cL (show j<b.length from o),f]
    grind
  ·have r:k=0:=o
   have:Jh (val b64 a) (val b64 a)=0:=by unfold Jh;omega
   grind
def X6{xs:List Int}{an:Nat}(s:SlI .u64 h A xs)(hn:an=xs.length)(hl:xs.length<=17500000000000)(hK:∀ A' c' h' g',h.le g'->fC h' g' 230 1 A' xs.length c' (xs.map (bL .u64))->K (.slice A' xs.length c') h'):aW prog 229 #[.slice A an ac] h K:=by
 subst hn
 refine (fnk func229) ?_
 refine Br.of (fun e=>?_) (fun e=>?_)
 ·have j:xs=[]:=by
   rcases s with l|⟨a,k,_⟩
   ·simp_all
   grind
  subst j
  exact hK none 0 h h (B3 h) (by simpa using Priv.nil _ _ _ _)
 ·refine Ye K0 ?_
  intro b g
  refine ⟨_,_,_,rfl,?_⟩
  have c:=Heap.le_put (h:=h) (b:=b) (.cells #[] 230) g
  refine Ez K0 (Priv.nil _ _ _ _) (ys:=xs.map (bL .u64)) (by simp) (SlI.mono c s) (fun v f=>?_) o o ?_
  ·obtain ⟨a,_,rfl⟩:=List.mem_map.1 f;rfl
  ·intro A' c' h' g' i d
   simp only [Nat.zero_add,cF] at d ⊢
   exact ⟨_,_,_,rfl,hK _ _ _ _ (A0 c i) d⟩
variable {b:Nat} {e:cD} {pre post:List eA}
def Ca{xs ys:List Int}{an bn:Nat}(w:Win .u64 h g b e A pre xs post)(hn:an=xs.length)(sy:SlI .u64 g B ys)(hm:bn=ys.length)(dx:Dig b64 xs)(dy:Dig b64 ys)(hle:ys.length<=xs.length)(hfit:val b64 xs+val b64 ys<b64^xs.length)(hl:xs.length<=100000000000000)
 (hK:∀ xs' h',xs'.length=xs.length->Dig b64 xs'->val b64 xs'=val b64 xs+val b64 ys->Win .u64 h' g b e A pre xs' post->K (.tuple #[]) h'):aW prog 248 #[.slice A an ac,.slice B bn bc] h K:=by
 subst hn hm
 refine (fnk func248 [(2,[4,10],[],[U 0,I 0]),(7,[4,7],[],[U 0,I 0])]) ?_
 refine ⟨fun l s=>∃ (k:Nat) (c:Int) (zs:List Int),l=[U c,I k]/\k<=ys.length/\zs.length=xs.length/\Dig b64 zs/\(0<=c/\c<=1)/\Win .u64 s g b e A pre zs post/\zs.drop k=xs.drop k/\val b64 (zs.take k)+c*b64^k=val b64 (xs.take k)+val b64 (ys.take k),fun l _=>ys.length-(iAt l 1).toNat,⟨0,0,xs,rfl,o,rfl,dx,o,w,rfl,by rfl⟩,?_⟩
 rintro c i s ⟨k,D,zs,G,M,j,m,y,f,d,x⟩
 obtain ⟨rfl,rfl⟩:c=D/\i=(k:Int):=gz0
 refine B5 (fun F=>?_) (fun F=>?_)
 ·have O:=J3 dy k
  have z:=J3 m k
  have q:=D7 d
  have E:=C2 b64 xs k
  have Q:=C2 b64 ys k
  refine (sy.mono f.le).load rfl o o ?_
  refine f.sl.load j.symm o o ?_
  simp only [aC]
  refine U4 z O y ⟨_,_,rfl,?_⟩
  obtain ⟨a,t,_⟩:=SlV.at f.sl (i:=k) gz0
  refine ⟨a,t,o,o,f.storeN (i:=k) E6 t o ?_⟩
  intro h' C
  rw [B6 (n:=(k:Int)+1) o o]
  refine ⟨⟨k+1,_,_,rfl,o,gz0,m.set (W6 _),o,C,?_,?_⟩,by simp only [iAt,aF,aH];omega⟩
  ·rw [C8 o];exact D0 d
  ·rw [C5 o,D8,aJ,aI o,bB,S3,E,Q,<- q]
   grind
 ·have p:k=ys.length:=o
  subst p
  rw [bO] at x
  refine ⟨fun l s=>∃ (k:Nat) (c:Int) (zs:List Int),l=[U c,I k]/\ys.length<=k/\k<=xs.length/\zs.length=xs.length/\Dig b64 zs/\(0<=c/\c<=1)/\Win .u64 s g b e A pre zs post/\zs.drop k=xs.drop k/\val b64 (zs.take k)+c*b64^k=val b64 (xs.take k)+val b64 ys,fun l _=>xs.length-(iAt l 1).toNat,⟨ys.length,c,zs,rfl,o,o,j,m,y,f,d,x⟩,?_⟩
  rintro c i s ⟨k,D,zs,G,N,M,j,m,y,f,d,x⟩
  obtain ⟨rfl,rfl⟩:c=D/\i=(k:Int):=gz0
  have u:=E5 b64 zs (i:=k) o
  have r:=E5 b64 xs (i:=k) o
  refine K8 (fun L=>B5 (fun F=>?_) (fun F=>?_)) (fun L=>?_)
  ·have z:=J3 m k
   have q:=D7 d
   have E:=C2 b64 xs k
   refine f.sl.load j.symm o o ?_
   simp only [aC]
   refine U4 z o y ⟨_,_,rfl,?_⟩
   obtain ⟨a,t,_⟩:=SlV.at f.sl (i:=k) gz0
   refine ⟨a,t,o,o,f.storeN (i:=k) E6 t o ?_⟩
   intro h' C
   rw [B6 (n:=(k:Int)+1) o o]
   refine ⟨⟨k+1,_,_,rfl,o,o,gz0,m.set (W6 _),o,C,?_,?_⟩,by simp only [iAt,aF,aH];omega⟩
   ·rw [C8 o];exact D0 d
   ·rw [C5 o,D8,aJ,aI o,bB,S3,E,<- q]
    grind
  ·exfalso
   have p:k=xs.length:=o
   subst p
   have H:c=1:=o
   subst H
   rw [bO] at x
   have:=C3 dc (m.take xs.length)
   omega
  grind
def V6{xs ys:List Int}{an bn:Nat}(w:Win .u64 h g b e A pre xs post)(hn:an=xs.length)(sy:SlI .u64 g B ys)(hm:bn=ys.length)(dx:Dig b64 xs)(dy:Dig b64 ys)(hle:ys.length<=xs.length)(hfit:val b64 ys<=val b64 xs)(hl:xs.length<=100000000000000)
 (hK:∀ xs' h',xs'.length=xs.length->Dig b64 xs'->val b64 xs'=val b64 xs-val b64 ys->Win .u64 h' g b e A pre xs' post->K (.tuple #[]) h'):aW prog 249 #[.slice A an ac,.slice B bn bc] h K:=by
 subst hn hm
 refine (fnk func249 [(2,[4,10],[],[U 0,I 0]),(7,[4,7],[],[U 0,I 0])]) ?_
 have key:∀ {z y c:Int},(0<=z/\z<18446744073709551616)->(0<=y/\y<18446744073709551616)->(0<=c/\c<=1)->(z-y-c)%18446744073709551616=z-y-c+18446744073709551616*(if z-y-c<0 then 1 else 0):=by
  omega
 refine ⟨fun l t=>∃ (k:Nat) (c:Int) (zs:List Int),l=[U c,I k]/\k<=ys.length/\zs.length=xs.length/\Dig b64 zs/\(0<=c/\c<=1)/\Win .u64 t g b e A pre zs post/\zs.drop k=xs.drop k/\val b64 (zs.take k)=val b64 (xs.take k)-val b64 (ys.take k)+c*b64^k,fun l _=>ys.length-(iAt l 1).toNat,⟨0,0,xs,rfl,o,rfl,dx,o,w,rfl,by rfl⟩,?_⟩
 rintro c i t ⟨k,E,zs,L,O,j,m,q,f,d,u⟩
 obtain ⟨rfl,rfl⟩:c=E/\i=(k:Int):=gz0
 refine B5 (fun H=>?_) (fun H=>?_)
 ·have M:=J3 dy k
  have s:=J3 m k
  have p:=D7 d
  have F:=C2 b64 xs k
  have R:=C2 b64 ys k
  refine (sy.mono f.le).load rfl o o ?_
  refine f.sl.load j.symm o o ?_
  simp only [aC]
  refine Z1 s M q ⟨_,_,rfl,?_⟩
  obtain ⟨a,x,_⟩:=SlV.at f.sl (i:=k) gz0
  refine ⟨a,x,o,o,f.storeN (i:=k) E6 x o ?_⟩
  intro h' D
  rw [B6 (n:=(k:Int)+1) o o]
  refine ⟨⟨k+1,_,_,rfl,o,by simp_all,m.set (W6 _),o,D,?_,?_⟩,by simp only [iAt,aF,aH];omega⟩
  ·rw [C8 o];exact D0 d
  ·rw [C5 o,D8,aJ,aI o,bB,F,R,<- p,u,key s M q]
   grind
 ·have G:k=ys.length:=o
  subst G
  rw [bO] at u
  refine ⟨fun l t=>∃ (k:Nat) (c:Int) (zs:List Int),l=[U c,I k]/\ys.length<=k/\k<=xs.length/\zs.length=xs.length/\Dig b64 zs/\(0<=c/\c<=1)/\Win .u64 t g b e A pre zs post/\zs.drop k=xs.drop k/\val b64 (zs.take k)=val b64 (xs.take k)-val b64 ys+c*b64^k,fun l _=>xs.length-(iAt l 1).toNat,⟨ys.length,c,zs,rfl,o,o,j,m,q,f,d,u⟩,?_⟩
  rintro c i t ⟨k,E,zs,L,Q,O,j,m,q,f,d,u⟩
  obtain ⟨rfl,rfl⟩:c=E/\i=(k:Int):=gz0
  have C:=E5 b64 zs (i:=k) o
  have r:=E5 b64 xs (i:=k) o
  refine K8 (fun N=>B5 (fun H=>?_) (fun H=>?_)) (fun N=>?_)
  ·have s:=J3 m k
   have p:=D7 d
   have F:=C2 b64 xs k
   refine f.sl.load j.symm o o ?_
   simp only [aC]
   refine Z1 s o q ⟨_,_,rfl,?_⟩
   obtain ⟨a,x,_⟩:=SlV.at f.sl (i:=k) gz0
   refine ⟨a,x,o,o,f.storeN (i:=k) E6 x o ?_⟩
   intro h' D
   rw [B6 (n:=(k:Int)+1) o o]
   refine ⟨⟨k+1,_,_,rfl,o,o,gz0,m.set (W6 _),o,D,?_,?_⟩,by simp only [iAt,aF,aH];omega⟩
   ·rw [C8 o];exact D0 d
   ·rw [C5 o,D8,aJ,aI o,bB,F,<- p,u,key s (y:=0) o q]
    grind
  ·exfalso
   have:=I6 dc (m.take xs.length)
   grind
  grind
def Me{x y:Int}{an bn:Nat}(ma:Mw h A an x)(mb:Mw h B bn y)(hab:bn<=an)(hl:an<=30000000000000)(hb0:bn≠0)(hK:∀ A' m c' h',h.le h'->m<=c'->Mw h' A' m (x+y)->K (.slice A' m c') h'):
 wpH prog (Instr.makeSlice 89 (I (B7 ((an:Int)+1))) (I (B7 ((an:Int)+1)))) (fun v hp1=>∃ (t20A:Option bJ) (t20n:Nat) (t20c:Nat),v= .slice t20A t20n t20c/\∀ ty,wpH prog (dM #[89,89] ty #[.slice t20A t20n t20c,.slice A an ac]) (fun v1 hp2=>∃ (t23:Int),v1=I t23/\aW prog 248 #[.slice t20A t20n t20c,.slice B bn bc] hp2 (fun r hp3=>r= .tuple #[]/\aW prog 221 #[.slice t20A t20n t20c] hp3 (fun r1 hp4=>∃ (t28A:Option bJ) (t28n:Nat) (t28c:Nat),r1= .slice t28A t28n t28c/\K (.slice t28A t28n t28c) hp4))) hp1) h:=by
 obtain ⟨a,rfl,C,p,M,rfl⟩:=ma
 obtain ⟨L,rfl,u,l,G,rfl⟩:=mb
 have E:B7 ((a.length:Int)+1)=((a.length+1:Nat):Int):=by rw [B6 o o];omega
 rw [E]
 refine I0 K0 o o o ?_
 intro b t
 refine ⟨_,_,_,rfl,fun ty=>?_⟩
 have k:=Win.blk .u64 230 t (aE (a.length+1) 0)
 refine Ac K0 k (by simp) (SlI.mono k.le C) rfl (by simp) ?_
 intro H i
 refine ⟨_,rfl,?_⟩
 have c:(aE (a.length+1) (0:Int)).drop a.length=[0]:=by simp_all
 rw [c] at i
 have e:val b64 (a++[0])=val b64 a:=by rw [D8];omega
 have q:=I6 dc p
 have z:=I6 dc l
 have s:=C7 (B:=b64) dc hab
 refine Ca i (by simp) u rfl (p.append (Dig.one dc)) l gz0 ?_ gz0 ?_
 ·grind
 intro zs F w f g n
 refine ⟨rfl,?_⟩
 have d:zs.length=a.length+1:=gz0
 rw [<- d]
 refine K4 n.sl f o o ?_
 intro m D j
 rw [g,e] at j
 exact ⟨_,_,_,rfl,hK _ _ _ _ n.le D j⟩
def O3{x y:Int}{an bn:Nat}(ma:Mw h A an x)(mb:Mw h B bn y)(ha:an<=ac)(hb:bn<=bc)(hl:an<=30000000000000)(hl2:bn<=30000000000000)(hK:∀ A' m c' h',h.le h'->m<=c'->Mw h' A' m (x+y)->K (.slice A' m c') h'):aW prog 198 #[.slice A an ac,.slice B bn bc] h K:=by
 refine (fnk func198 (cs:=[(3,[0,1],[],[.slice none 0 0,.slice none 0 0])]) (wr:=[248])) ?_
 refine ⟨fun l h'=>h'=h/\∃ (A1 B1:Option bJ) (a b c1 c2:Nat) (j k:Int),l=[.slice A1 a c1,.slice B1 b c2]/\Mw h A1 a j/\Mw h B1 b k/\b<=a/\a<=30000000000000/\a<=c1/\j+k=x+y,B5 (fun r=>?_) (fun r=>?_),?_⟩
 ·grind
 ·grind
 ·rintro A1 a c1 B1 b c2 w ⟨rfl,A1',B1',e,d,g,f,j,k,s,q,p,u,i,n,c⟩
  obtain ⟨⟨rfl,rfl,rfl⟩,rfl,rfl,rfl⟩:(A1=A1'/\a=e/\c1=g)/\B1=B1'/\b=d/\c2=f:=gz0
  rw [<- c] at hK
  refine D5 (fun t=>?_) (fun t=>?_)
  ·have:=(p.len_zero dc).2 o
   subst this
   rw [eK] at hK
   exact hK _ _ _ _ (B3 _) n q
  ·refine Cg _ (Me (ac:=c1) (bc:=c2) q p u i o hK) ?_
   grind
def I5{x y:Int}{an bn:Nat}(ma:Mw h A an x)(mb:Mw h B bn y)(ha:an<=ac)(hl:an<=17500000000000)(hxy:y<=x)(hK:∀ A' m c' h',h.le h'->m<=c'->Mw h' A' m (x-y)->K (.slice A' m c') h'):aW prog 199 #[.slice A an ac,.slice B bn bc] h K:=by
 have f:bn<=an:=mb.len_le dc (cC hxy (ma.lt dc))
 refine (fnk func199 (wr:=[249])) ?_
 refine D5 (fun n=>?_) (fun n=>?_)
 ·have:=(mb.len_zero dc).2 o
  subst this
  rw [Int.sub_zero] at hK
  exact hK _ _ _ _ (B3 _) ha ma
 ·obtain ⟨C,rfl,q,s,F,rfl⟩:=ma
  obtain ⟨E,rfl,p,r,u,rfl⟩:=mb
  refine X6 q rfl o ?_
  intro A1 c1 w z j e
  refine ⟨_,_,_,rfl,?_⟩
  obtain ⟨b,i,l⟩:=e.win gz0
  refine V6 l rfl (p.mono j) rfl s r f hxy o ?_
  intro zs t c a d k
  refine ⟨rfl,?_⟩
  rw [<- c]
  refine K4 k.sl a (by have:=e.2.1;omega) o ?_
  intro m D g
  rw [d] at g
  exact ⟨_,_,_,rfl,hK _ _ _ _ (A0 j k.le) (by have:=e.2.1;omega) g⟩
def Bz{zs xs:List Int}{an bn:Nat}{wd:Int}(w:Win .u64 h g b e A pre zs post)(hn:an=zs.length)(sx:SlI .u64 g B xs)(hm:bn=xs.length)(dz:Dig b64 zs)(dx:Dig b64 xs)(hle:zs.length=xs.length)(hw:0<=wd/\wd<18446744073709551616)(hl:xs.length<=100000000000000)
 (hK:∀ zs' c h',zs'.length=zs.length->Dig b64 zs'->(0<=c/\c<18446744073709551616)->val b64 zs'+c*b64^zs.length=val b64 zs+val b64 xs*wd->Win .u64 h' g b e A pre zs' post->K (U c) h'):aW prog 246 #[.slice A an ac,.slice B bn bc,U wd] h K:=by
 subst hn hm
 refine (fnk func246 [(3,[7,16],[],[U 0,I 0])]) ?_
 refine ⟨fun l r=>∃ (k:Nat) (c:Int) (d:List Int),l=[U c,I k]/\k<=xs.length/\d.length=zs.length/\Dig b64 d/\(0<=c/\c<18446744073709551616)/\Win .u64 r g b e A pre d post/\d.drop k=zs.drop k/\val b64 (d.take k)+c*b64^k=val b64 (zs.take k)+val b64 (xs.take k)*wd,fun l _=>xs.length-(iAt l 1).toNat,⟨0,0,zs,rfl,o,rfl,dz,o,w,rfl,by simp [val]⟩,?_⟩
 rintro c i r ⟨k,y,d,E,G,m,q,F,j,f,H⟩
 obtain ⟨rfl,rfl⟩:c=y/\i=(k:Int):=gz0
 refine B5 (fun C=>?_) (fun C=>?_)
 ·have s:=J3 dx k
  have u:=J3 q k
  have p:=D7 f
  have z:=C2 b64 xs k
  have D:=C2 b64 zs k
  have hm:0<=xs.getD k 0*wd/\xs.getD k 0*wd<=18446744073709551615*18446744073709551615:=⟨aO s.1 hw.1,dF o o hw.1 dc⟩
  refine (sx.mono j.le).load rfl o o ?_
  rw [aC]
  refine Ej s hw ⟨_,_,rfl,?_⟩
  generalize hmm:xs.getD k 0*wd=mm at *
  refine U4 o F o ⟨_,_,rfl,?_⟩
  refine j.sl.load m.symm o o ?_
  rw [aC]
  refine U4 u o o ⟨_,_,rfl,?_⟩
  obtain ⟨a,t,_⟩:=SlV.at j.sl (i:=k) gz0
  refine ⟨a,t,o,o,j.storeN (i:=k) E6 t o ?_⟩
  intro h' x
  rw [B6 (n:=(k:Int)+1) o o]
  rw [B9 (n:=mm/18446744073709551616+(mm%18446744073709551616+c+0)/18446744073709551616) o o]
  rw [B9 o o]
  refine ⟨⟨k+1,_,_,rfl,o,gz0,q.set (W6 _),o,x,?_,?_⟩,by simp only [iAt,aF,aH];omega⟩
  ·rw [C8 o];exact D0 f
  ·rw [C5 o,D8,aJ,aI o,bB,z,D,<- p]
   grind
 grind
def Cs{zs xs:List Int}{an bn:Nat}{wd:Int}(w:Win .u64 h g b e A pre zs post)(hn:an=zs.length)(sx:SlI .u64 g B xs)(hm:bn=xs.length)(dz:Dig b64 zs)(dx:Dig b64 xs)(hle:zs.length=xs.length)(hw:0<=wd/\wd<18446744073709551616)(hl:xs.length<=100000000000000)
 (hK:∀ zs' c h',zs'.length=zs.length->Dig b64 zs'->(0<=c/\c<18446744073709551616)->val b64 zs'=val b64 zs-val b64 xs*wd+c*b64^zs.length->Win .u64 h' g b e A pre zs' post->K (U c) h'):aW prog 284 #[.slice A an ac,.slice B bn bc,U wd] h K:=by
 subst hn hm
 refine (fnk func284 [(3,[7,16],[],[U 0,I 0])]) ?_
 refine ⟨fun l r=>∃ (k:Nat) (c:Int) (d:List Int),l=[U c,I k]/\k<=xs.length/\d.length=zs.length/\Dig b64 d/\(0<=c/\c<18446744073709551616)/\Win .u64 r g b e A pre d post/\d.drop k=zs.drop k/\val b64 (d.take k)=val b64 (zs.take k)-val b64 (xs.take k)*wd+c*b64^k,fun l _=>xs.length-(iAt l 1).toNat,⟨0,0,zs,rfl,o,rfl,dz,o,w,rfl,by simp [val]⟩,?_⟩
 rintro c i r ⟨k,y,d,F,H,m,q,G,j,f,E⟩
 obtain ⟨rfl,rfl⟩:c=y/\i=(k:Int):=gz0
 refine B5 (fun C=>?_) (fun C=>?_)
 ·have s:=J3 dx k
  have u:=J3 q k
  have p:=D7 f
  have z:=C2 b64 xs k
  have D:=C2 b64 zs k
  have hm:0<=xs.getD k 0*wd/\xs.getD k 0*wd<=18446744073709551615*18446744073709551615:=⟨aO s.1 hw.1,dF o o hw.1 dc⟩
  refine (sx.mono j.le).load rfl o o ?_
  rw [aC]
  refine Ej s hw ⟨_,_,rfl,?_⟩
  generalize hmm:xs.getD k 0*wd=mm at *
  refine U4 o G o ⟨_,_,rfl,?_⟩
  refine j.sl.load m.symm o o ?_
  rw [aC]
  refine Z1 u o o ⟨_,_,rfl,?_⟩
  obtain ⟨a,t,_⟩:=SlV.at j.sl (i:=k) gz0
  refine ⟨a,t,o,o,j.storeN (i:=k) E6 t o ?_⟩
  intro h' x
  rw [B6 (n:=(k:Int)+1) o o]
  rw [B9 (n:=mm/18446744073709551616+(mm%18446744073709551616+c+0)/18446744073709551616) o o]
  rw [B9 o o]
  refine ⟨⟨k+1,_,_,rfl,o,gz0,q.set (W6 _),o,x,?_,?_⟩,by simp only [iAt,aF,aH];omega⟩
  ·rw [C8 o];exact D0 f
  ·rw [C5 o,D8,aJ,aI o,bB,z,D,<- p,E]
   have key:(d.getD k 0-(mm%18446744073709551616+c+0)%18446744073709551616-0)%18446744073709551616=d.getD k 0-mm-c+18446744073709551616*(mm/18446744073709551616+(mm%18446744073709551616+c+0)/18446744073709551616+(if d.getD k 0-(mm%18446744073709551616+c+0)%18446744073709551616-0<0 then 1 else 0)):=o
   grind
 grind
end
def Jz{x z:Int}{s:Nat}(hs:s<=64)(_hx:0<=x/\x<18446744073709551616)(hz:0<=z/\z<(2:Int)^s):
 bor .u64 z (x*2^s%18446744073709551616)=z+x*2^s%18446744073709551616/\z+x*2^s%18446744073709551616<18446744073709551616/\x*2^s%18446744073709551616=2^s*(x%2^(64-s)):=by
 have g:=Q6 hs
 have c:0<(2:Int)^s:=bI dc
 have k:0<(2:Int)^(64-s):=bI dc
 have a:z<18446744073709551616:=by
  have:(2:Int)^s*1<=2^s*2^(64-s):=aG o o
  omega
 have i:x*2^s%18446744073709551616=2^s*(x%2^(64-s)):=by
  rw [<- g,aU x,Int.mul_emod_mul_of_pos _ _ c]
 have e:=W6 (x*2^s)
 have j:0<=x%2^(64-s):=aP _ o
 have f:(x*2^s%18446744073709551616).toNat=2^s*(x%2^(64-s)).toNat:=by
  grind
 have d:z.toNat<2^s:=by
  grind
 have b:bor .u64 z (x*2^s%18446744073709551616)=z+x*2^s%18446744073709551616:=by
  rw [Ro ⟨hz.1,a⟩ e,f,Nat.or_comm,Sw d,<- f]
  omega
 refine ⟨b,?_,i⟩
 rw [<- b,Ro ⟨hz.1,a⟩ e]
 have:z.toNat ||| (x*2^s%18446744073709551616).toNat<2^64:=Nat.or_lt_two_pow o o
 omega
def Df(k:Nat):b64^k=(2:Int)^(64*k):=by
 rw [show b64=(2:Int)^64 from dc,<- Int.pow_mul]
section
variable {h g:bD} {K:VP} {A B:Option bJ} {ac bc:Nat}
def N5{x:Int}{an s:Nat}(ma:Mw h A an x)(ha:an<=ac)(hl:an<=20000000000000)(hs:s<=100000000000000)(hK:∀ A' m c' h',h.le h'->m<=c'->Mw h' A' m (x*2^s)->K (.slice A' m c') h'):aW prog 276 #[.slice A an ac,U s] h K:=by
 have j:=ma.len_zero dc
 refine (fnk func276 [(6,[31],[],[I 0])]) ?_
 refine D5 (fun C=>?_) (fun C=>D5 (fun g=>?_) (fun g=>?_))
 ·have:=j.2 o
  subst this
  rw [dR] at hK
  exact hK _ _ _ _ (B3 _) ha ma
 ·have:s=0:=o
  subst this
  rw [fP,Int.mul_one] at hK
  exact hK _ _ _ _ (B3 _) ha ma
 ·obtain ⟨a,rfl,V,dx,nx,rfl⟩:=ma
  obtain ⟨k0,hk0⟩:∃ k0,k0=s/64:=⟨_,rfl⟩
  obtain ⟨r,hr⟩:∃ r,r=s%64:=⟨_,rfl⟩
  have X:B7 (C1 (cI (s:Int) 64))=(k0:Int):=by
   rw [aX o,B9 o o,B6 o o];omega
  have R:Int.tmod (s:Int) 64=(r:Int):=gz0
  have z:C1 ((64:Int)-(r:Int))=((64-r:Nat):Int):=by rw [B9 o o];omega
  simp only [X,R,z,aC]
  have e1:B7 (B7 ((a.length:Int)+k0)+1)=((a.length+k0+1:Nat):Int):=by rw [B6 (n:=(a.length:Int)+k0) o o,B6 o o];omega
  rw [e1]
  refine I0 K0 o o o ?_
  intro b D
  rw [aC]
  refine ⟨_,_,_,rfl,?_⟩
  have aa:0<(2:Int)^r:=bI dc
  have p:0<(2:Int)^(64-r):=bI dc
  have L:=Q6 (s:=r) o
  refine ⟨fun l h'=>∃ (k:Nat) (zs:List Int),l=[I k]/\k<=a.length/\zs.length=a.length+k0+1/\Dig b64 zs/\h'=blk .u64 230 h b zs/\zs.drop (k+k0+1)=aE (a.length-k) 0/\zs.getD (k+k0) 0<2^r/\val b64 (zs.take (k+k0+1))=val b64 (a.take k)*2^s,fun l _=>a.length-(iAt l 0).toNat,⟨0,_,rfl,o,by simp,F9 dc _,rfl,?_,?_,?_⟩,?_⟩
  ·grind
  ·grind
  ·rw [cN,S9];simp [val]
  rintro i hp ⟨k,zs,ad,hk,c,d,rfl,q,E,w⟩
  obtain rfl:i=(k:Int):=gz0
  have t:=X9 (k:=.u64) (e:=230) D zs
  refine B5 (fun g=>?_) (fun g=>?_)
  ·have u:=J3 dx k
   have y:=J3 d (k+k0)
   have F:=C2 b64 a k
   have W:=C2 b64 zs (k+k0)
   have O:B7 ((k:Int)+k0)=((k+k0:Nat):Int):=by rw [B6 o o];omega
   have e3:B7 (((k+k0:Nat):Int)+1)=((k+k0+1:Nat):Int):=by rw [B6 o o];omega
   rw [O,e3]
   refine (V.mono t).load rfl o o ?_
   refine (X8 .u64 230 h b zs).load c.symm o o ?_
   simp only [aC]
   refine B5 (fun e=>absurd e o) (fun _=>?_)
   refine ⟨_,rfl,o,o,?_⟩
   obtain ⟨Q,N,o3⟩:=Jz (s:=r) o u ⟨y.1,E⟩
   rw [aI (show r<=64 from o),E9,Q,A0t (show 64-r<=64 from o)]
   have M:=W6 (a.getD k 0*2^r)
   refine X7 (zs:=zs) (i:=k+k0) E6 o ?_
   refine B5 (fun e=>absurd e o) (fun _=>?_)
   refine ⟨_,rfl,o,o,?_⟩
   refine X7 (zs:=zs.set (k+k0) (zs.getD (k+k0) 0+a.getD k 0*2^r%18446744073709551616)) (i:=k+k0+1) E6 gz0 ?_
   have H:0<=a.getD k 0/2^(64-r)/\a.getD k 0/2^(64-r)<2^r:=⟨bK u.1 o,aY p o⟩
   have S:(2:Int)^r<=9223372036854775808:=by
    have:=C7 (B:=2) dc (show r<=63 from o)
    omega
   rw [B6 (n:=(k:Int)+1) o o]
   refine ⟨⟨k+1,(zs.set (k+k0) (zs.getD (k+k0) 0+a.getD k 0*2^r%18446744073709551616)).set (k+k0+1) (a.getD k 0/2^(64-r)),rfl,o,gz0,(d.set ⟨o,N⟩).set ⟨H.1,gz0⟩,rfl,?_,?_,?_⟩,by simp only [iAt,aF];omega⟩
   ·rw [show k+1+k0+1=(k+k0+1)+1 from o,C8 o,C8 o,<- cU,q,bH]
    congr 1
   ·grind
   ·rw [show k+1+k0+1=(k+k0+1)+1 from o,C5 gz0,D8,C5 o,D8]
    simp only [aJ,aR,dX]
    rw [aI (show k+k0<=zs.length from o),bB,F]
    rw [W] at w
    have ab:(2:Int)^s=b64^k0*2^r:=by
     rw [Df,<- aS];congr 1;omega
    have T:b64^(k+k0)=b64^k*b64^k0:=aS _ _ _
    have G:=aL (a.getD k 0) (2^(64-r))
    grind
  ·have f:k=a.length:=o
   subst f
   rw [bO,aN o] at w
   rw [<- c]
   refine K4 (X8 _ _ _ _ _) d (aV _) o ?_
   grind
def Af{x:Int}{an s:Nat}(ma:Mw h A an x)(hl:an<=20000000000000)(hs:s<=1000000000000000)(hK:∀ A' m c' h',h.le h'->m<=c'->Mw h' A' m (x/2^s)->K (.slice A' m c') h'):aW prog 281 #[.slice A an ac,U s] h K:=by
 have M:=ma.nonneg dc
 have T:=ma.lt dc
 refine (fnk func281 [(6,[27],[],[I 0])]) ?_
 obtain ⟨k0,hk0⟩:∃ k0,k0=s/64:=⟨_,rfl⟩
 obtain ⟨r,hr⟩:∃ r,r=s%64:=⟨_,rfl⟩
 have L:C1 (cI (s:Int) 64)=(k0:Int):=by
  rw [aX o,B9 o o];omega
 have w:B7 (k0:Int)=(k0:Int):=B6 o o
 have em:Int.tmod (s:Int) 64=(r:Int):=gz0
 have er:C1 ((64:Int)-(r:Int))=((64-r:Nat):Int):=by rw [B9 o o];omega
 have en:C1 (an:Int)=(an:Int):=B9 o o
 simp only [L,w,em,er,en,aC]
 have j:(2:Int)^s=b64^k0*2^r:=by
  rw [Df,<- aS];grind
 refine B5 (fun h1=>?_) (fun h1=>?_)
 ·have:x/2^s=0:=by
   apply bG M
   rw [j]
   have t1:=C7 (B:=b64) dc (show an<=k0 from o)
   have N:b64^k0*1<=b64^k0*2^r:=aG (by have:0<(2:Int)^r:=bI dc;omega) (aM (C9 dc _))
   omega
  rw [this] at hK
  exact hK _ _ _ _ (B3 _) (aV _) Mag.zero
 ·obtain ⟨a,rfl,R,p,nx,rfl⟩:=ma
  have e1:B7 ((a.length:Int)-k0)=((a.length-k0:Nat):Int):=by rw [B6 o o];omega
  rw [e1]
  refine I0 K0 o o o ?_
  intro b hb
  rw [aC]
  refine ⟨_,_,_,rfl,?_⟩
  have Q:0<(2:Int)^r:=bI dc
  have g:=Q6 (s:=r) o
  have H:0<(2:Int)^(64-r):=bI dc
  have ab:(a.drop k0).length=a.length-k0:=bZ
  have d:∀ i,(a.drop k0).getD i 0=a.getD (k0+i) 0:=fun i=>On
  refine ⟨fun l h'=>∃ (k:Nat) (zs:List Int),l=[I k]/\k<=a.length-k0/\zs.length=a.length-k0/\Dig b64 zs/\h'=blk .u64 230 h b zs/\2^r*val b64 (zs.take k)+(a.drop k0).getD 0 0%2^r=val b64 ((a.drop k0).take k)+b64^k*((a.drop k0).getD k 0%2^r),fun l _=>a.length-(iAt l 0).toNat,⟨0,_,rfl,o,by simp,F9 dc _,rfl,by simp [val]⟩,?_⟩
  rintro i W ⟨k,zs,ag,hk,D,q,rfl,S⟩
  obtain rfl:i=(k:Int):=gz0
  have n:∀ zs,h.le (blk .u64 230 h b zs):=fun zs=>X9 (k:=.u64) (e:=230) hb zs
  have X:=J3 (p.drop k0) k
  refine B5 (fun h2=>?_) (fun h2=>?_)
  ·have e2:B7 ((k:Int)+k0)=((k0+k:Nat):Int):=by rw [B6 o o];omega
   have e3:B7 (((k0+k:Nat):Int)+1)=((k0+(k+1):Nat):Int):=by rw [B6 o o];omega
   rw [e2,e3]
   refine (R.mono (n zs)).load rfl o o ?_
   refine B5 (fun e=>absurd e o) (fun _=>?_)
   refine ⟨_,rfl,o,o,?_⟩
   simp only [aC]
   rw [<- d k,A0t (show r<=64 from o)]
   have f:0<=(a.drop k0).getD k 0/2^r:=bK X.1 o
   have u:(a.drop k0).getD k 0/2^r<2^(64-r):=by
    apply aY Q
    grind
   have O:(2:Int)^(64-r)<=18446744073709551616:=by
    rw [<- g]
    have:=aD (show 1<=(2:Int)^r from o) (aM H);omega
   refine X7 (zs:=zs) (i:=k) E6 o ?_
   have d1:Dig b64 (zs.set k ((a.drop k0).getD k 0/2^r)):=q.set ⟨f,gz0⟩
   have l1:(zs.set k ((a.drop k0).getD k 0/2^r)).length=a.length-k0:=gz0
   have g1:(zs.set k ((a.drop k0).getD k 0/2^r)).getD k 0=(a.drop k0).getD k 0/2^r:=gz0
   have vr:=C2 b64 (a.drop k0) k
   have c:∀ z:Int,2^r*z=(a.drop k0).getD k 0-(a.drop k0).getD k 0%2^r+18446744073709551616*((a.drop k0).getD (k+1) 0%2^r)->
    2^r*val b64 ((zs.set k z).take (k+1))+(a.drop k0).getD 0 0%2^r=val b64 ((a.drop k0).take (k+1))+b64^(k+1)*((a.drop k0).getD (k+1) 0%2^r):=by
    intro z ez
    rw [C5 o,D8,aJ,aI o,vr,bB]
    grind
   have ad:=aL ((a.drop k0).getD k 0) (2^r)
   have C:B7 ((k:Int)+1)=((k+1:Nat):Int):=by rw [B6 o o];omega
   rw [C]
   refine B5 (fun h3=>?_) (fun h3=>?_)
   ·have ld:=(X8 .u64 230 h b (zs.set k ((a.drop k0).getD k 0/2^r)))
    obtain ⟨aa,F,ae⟩:=SlV.at ld (i:=k) gz0
    refine ⟨aa,F,o,o,(a.drop k0).getD k 0/2^r,?_,?_⟩
    ·grind
    refine (R.mono (n _)).load rfl o o ?_
    refine B5 (fun e=>absurd e o) (fun _=>?_)
    refine ⟨_,rfl,o,o,?_⟩
    simp only [aC]
    rw [<- d (k+1)]
    have gr:=J3 (p.drop k0) (k+1)
    obtain ⟨o1,o2,o3⟩:=Jz (s:=64-r) o gr ⟨f,u⟩
    rw [aI (show 64-r<=64 from o),E9,o1]
    refine X7 (zs:=zs.set k ((a.drop k0).getD k 0/2^r)) (i:=k) E6 o ?_
    rw [List.set_set]
    have af:=W6 ((a.drop k0).getD (k+1) 0*2^(64-r))
    refine ⟨⟨k+1,zs.set k ((a.drop k0).getD k 0/2^r+(a.drop k0).getD (k+1) 0*2^(64-r)%18446744073709551616),rfl,o,gz0,q.set ⟨o,o2⟩,rfl,c _ ?_⟩,by simp only [iAt,aF];omega⟩
    rw [o3,show 64-(64-r)=r from o,dB,<- cY,g]
    omega
   ·have t:(a.drop k0).getD (k+1) 0=0:=gz0
    refine ⟨⟨k+1,zs.set k ((a.drop k0).getD k 0/2^r),rfl,o,l1,d1,rfl,c _ ?_⟩,by simp only [iAt,aF];omega⟩
    rw [t,fF,eG,eK];omega
  ·have y:k=a.length-k0:=o
   subst y
   have t:(a.drop k0).getD (a.length-k0) 0=0:=gz0
   rw [t,fF,eG,eK,aN o,aN o] at S
   have E:=aP ((a.drop k0).getD 0 0) (show (2:Int)^r≠0 from o)
   have G:=aK ((a.drop k0).getD 0 0) Q
   have ah:val b64 a/2^s=val b64 zs:=by
    have V:=E5 b64 a (i:=k0) o
    have t1:=I6 dc (p.take k0)
    have N:=C3 dc (p.take k0)
    rw [aJ,aI o] at t1
    rw [j,<- dP (aM (C9 dc _)),V,dZ _ _ o,bG N t1,cK,<- S,eM,dZ _ _ o,bG E G,cK]
   rw [<- D]
   refine K4 (X8 _ _ _ _ _) q (aV _) o ?_
   grind
end
def T8(B:Int)(xs:List Int)(n:Nat):val B (xs++aE n 0)=val B xs:=by rw [F0,S9];omega
def Ei{xs:List Int}{k:Nat}(h:fI xs)(hk:k<xs.length):fI (xs.drop k):=by
 unfold fI at *
 grind
def Mw.of{h:bD}{A:Option bJ}{xs:List Int}(s:SlI .u64 h A xs)(d:Dig b64 xs)(n:fI xs):Mw h A xs.length (val b64 xs):=⟨xs,rfl,s,d,n,rfl⟩
def Lv{k:cW}{h:bD}{A:Option bJ}{xs:List Int}(s:SlI k h A xs){c l:Nat}(hl:l<=xs.length)(hc:xs.length<=c):SlI k h (N3 A c l 1) (xs.drop l):=by
 have:=s.cut (c:=c) (l:=l) (m:=xs.length) hl (aV _) hc
 rwa [aN gz0] at this
def Cp{k:cW}{h:bD}{A:Option bJ}{xs:List Int}(s:SlI k h A xs){c m:Nat}(hm:m<=xs.length)(hc:xs.length<=c):SlI k h A (xs.take m):=by
 have:=s.cut (c:=c) (l:=0) (m:=m) o hm hc
 simpa [F2] using this
def R6{h:bD}{K:VP}{A:Option bJ}{ac n:Nat}{v:Int}{xs:List Int}(s:SlI .u64 h A xs)(hd:Dig b64 xs)(hn:n=xs.length)(hv:val b64 xs=v)(hc:n<=ac)(hl:n<=100000000000000)(hK:∀ m,m<=n->Mw h A m v->K (.slice A m ac) h):aW prog 221 #[.slice A n ac] h K:=by
 subst hn hv
 exact K4 s hd hc hl hK
def A7f(N:Nat):Prop:=∀ {h:bD} {K:VP} {A B:Option bJ} {ac bc an bn:Nat} {x y:Int},an+bn<=N->Mw h A an x->Mw h B bn y->an<=ac->bn<=bc->an<=10000000000000->bn<=10000000000000->
 (∀ A' m c' h',h.le h'->m<=c'->Mw h' A' m (x*y)->K (.slice A' m c') h')->aW prog 197 #[.slice A an ac,.slice B bn bc] h K
section
variable {h g:bD} {K:VP} {A B:Option bJ} {ac bc:Nat}
def A5e{xs ys:List Int}{b:Nat}(hb:h b=none)(sx:SlI .u64 h A xs)(dx:Dig b64 xs)(sy:SlI .u64 h B ys)(dy:Dig b64 ys)(hl:xs.length<=10000000000000)(hl2:ys.length<=10000000000000)
 (hK:∀ A' m c' h',h.le h'->m<=c'->Mw h' A' m (val b64 xs*val b64 ys)->K (.slice A' m c') h'):
 Y6 prog K A xs.length ac B ys.length (some ⟨b,0,none⟩) (xs.length+ys.length) (xs.length+ys.length) (blk .u64 230 h b (aE (xs.length+ys.length) 0)):=by
 refine ⟨fun l u=>∃ (k:Nat) (zs:List Int),l=[I k]/\k<=ys.length/\zs.length=xs.length+ys.length/\Dig b64 zs/\Win .u64 u h b 230 (some ⟨b,0,none⟩) [] zs []/\zs.drop (k+xs.length)=aE (ys.length-k) 0/\val b64 (zs.take (k+xs.length))=val b64 xs*val b64 (ys.take k),fun l _=>ys.length-(iAt l 0).toNat,⟨0,_,rfl,o,by simp,F9 dc _,Win.blk .u64 230 hb _,?_,?_⟩,?_⟩
 ·grind
 ·rw [cN,S9];simp [val]
 rintro i u ⟨k,zs,N,R,p,d,w,q,x⟩
 obtain rfl:i=(k:Int):=gz0
 refine B5 (fun D=>?_) (fun D=>?_)
 ·have E:=J3 dy k
  have H:=C2 b64 ys k
  have M:B7 ((k:Int)+xs.length)=((k+xs.length:Nat):Int):=by rw [B6 o o];omega
  rw [M]
  refine (sy.mono w.le).load rfl o o ?_
  refine ⟨⟨o,o⟩,⟨o,o⟩,?_⟩
  have f:((zs.drop k).take (k+xs.length-k)).length=xs.length:=gz0
  refine Bz (w.sub (l:=k) (m:=k+xs.length) (c:=xs.length+ys.length) o o o) o sx rfl ((d.drop k).take _) dx f E o ?_
  intro e c h' t a Q C z
  have O:=w.whole (l:=k) (m:=k+xs.length) o o o z
  refine ⟨_,rfl,_,rfl,o,o,?_⟩
  have G:(zs.take k++e++zs.drop (k+xs.length)).length=xs.length+ys.length:=by
   grind
  refine O.storeN (i:=k+xs.length) E6 rfl o ?_
  intro S y
  rw [B6 (n:=(k:Int)+1) o o]
  have g:(zs.take k++e++zs.drop (k+xs.length)).take (k+xs.length)=zs.take k++e:=by
   grind
  have r:(zs.take k++e++zs.drop (k+xs.length)).drop (k+xs.length)=zs.drop (k+xs.length):=by
   grind
  refine ⟨⟨k+1,_,rfl,o,gz0,(((d.take k).append a).append (d.drop _)).set Q,y,?_,?_⟩,by simp only [iAt,aF];omega⟩
  ·rw [show k+1+xs.length=(k+xs.length)+1 from o,C8 o,<- cU,r,q,bH]
   congr 1
  ·rw [show k+1+xs.length=(k+xs.length)+1 from o,C5 o,g,D8,F0,H]
   simp only [aR,aJ]
   have F:val b64 (zs.take (k+xs.length))=val b64 (zs.take k)+b64^k*val b64 ((zs.drop k).take (k+xs.length-k)):=by
    rw [show k+xs.length-k=xs.length from o,fE,F0,aJ,aI o]
   grind
 ·have j:k=ys.length:=o
  subst j
  rw [bO,aN o] at x
  rw [<- p]
  refine K4 w.sl d (aV _) o ?_
  intro m L s
  rw [x] at s
  exact ⟨_,_,_,rfl,hK _ _ _ _ w.le L s⟩
def Fs{x y:Int}{an bn N:Nat}(ih:A7f N)(hN:2*bn<=N)(ma:Mw h A an x)(mb:Mw h B bn y)(ha:an<=ac)(hbc:bn<=bc)(hl:an<=10000000000000)(hb0:0<bn)(hba:bn<=an)(hK:∀ A' m c' h',h.le h'->m<=c'->Mw h' A' m (x*y)->K (.slice A' m c') h'):aW prog 247 #[.slice A an ac,.slice B bn bc] h K:=by
 have ab:=mb.nonneg dc
 have D:=mb.lt dc
 obtain ⟨a,rfl,sx,L,nx,rfl⟩:=ma
 refine (fnk func247 [(3,[6],[],[I 0])] (os:=[(6,[0,1,2,3,4,5,6,8,7,9,10])]) (wr:=[248])) ?_
 have e1:B7 ((a.length:Int)+bn)=((a.length+bn:Nat):Int):=by rw [B6 oo oo];omega
 rw [e1]
 refine I0 K0 oo oo oo ?_
 intro b hb
 rw [aC]
 refine ⟨_,_,_,rfl,?_⟩
 refine ⟨fun l F=>∃ (k:Nat) (zs:List Int) (g:bD),l=[I k]/\k<=a.length+bn/\h.le g/\zs.length=a.length+bn/\Dig b64 zs/\Win .u64 F g b 230 (some ⟨b,0,none⟩) [] zs []/\val b64 zs=val b64 (a.take k)*y,fun l _=>a.length+bn-(iAt l 0).toNat,⟨0,_,h,rfl,oo,B3 h,by simp,F9 dc _,Win.blk .u64 230 hb _,by rw [S9];simp [val]⟩,?_⟩
 rintro i F ⟨k,zs,g,ar,hk,H,V,t,w,hv⟩
 obtain rfl:i=(k:Int):=gz0
 refine B5 (fun h1=>?_) (fun h1=>?_)
 ·have e2:B7 ((k:Int)+bn)=((k+bn:Nat):Int):=by rw [B6 oo oo];omega
  rw [e2]
  obtain ⟨en,hen⟩:∃ en,en=min a.length (k+bn):=⟨_,rfl⟩
  have e3:(if (a.length:Int)<((k+bn:Nat):Int) then (a.length:Int) else ((k+bn:Nat):Int))=(en:Int):=oo
  rw [e3]
  simp only [aC]
  refine ⟨⟨oo,oo⟩,⟨oo,oo⟩,⟨oo,oo⟩,?_⟩
  have ai:((a.drop k).take (en-k)).length=en-k:=gz0
  have sp:SlI .u64 g (N3 A ac k 1) ((a.drop k).take (en-k)):=(sx.mono H).cut (c:=ac) (l:=k) (m:=en) oo oo ha
  have dp:Dig b64 ((a.drop k).take (en-k)):=(L.drop k).take _
  have aq:=C3 dc L
  have z:∀ m,m<=en-k->fI (((a.drop k).take (en-k)).take m)->val b64 (((a.drop k).take (en-k)).take m)=val b64 ((a.drop k).take (en-k))->
   aW prog 197 #[.slice (N3 A ac k 1) m (ac-k),.slice B bn bc] F (fun M d=>∃ (t38A:Option bJ) (t38n:Nat) (t38c:Nat),M= .slice t38A t38n t38c/\Heap.le F d/\aW prog 248 #[.slice (N3 (some ⟨b,0,none⟩) (a.length+bn) k 1) (a.length+bn-k) (a.length+bn-k),.slice t38A t38n t38c] d (fun r2 q=>r2= .tuple #[]/\(∃ (k_1:Nat) (zs:List Int) (g:bD),[I ((k+bn:Nat):Int)]=[I k_1]/\k_1<=a.length+bn/\h.le g/\zs.length=a.length+bn/\Dig b64 zs/\Win .u64 q g b 230 (some ⟨b,0,none⟩) [] zs []/\val b64 zs=val b64 (a.take k_1)*y)/\a.length+bn-(iAt [I ((k+bn:Nat):Int)] 0).toNat<a.length+bn-(iAt [I k] 0).toNat)):=by
   intro m hm s n
   have Mp:Mw g (N3 A ac k 1) m (val b64 ((a.drop k).take (en-k))):=⟨((a.drop k).take (en-k)).take m,gz0,Cp sp (c:=ac) oo oo,dp.take m,s,n⟩
   refine w.call ?_
   refine ih oo Mp (mb.mono H) oo hbc oo oo ?_
   intro A' m' c' g2 l2 al M2 h3 O
   refine ⟨_,_,_,rfl,?_,?_⟩
   ·rw [w.eq,O.eq]
    intro kk o e
    by_cases G:kk=b
    ·subst G;rw [B8] at e ⊢;exact e
    ·rw [B4 _ _ G] at e ⊢;exact l2 kk o e
   obtain ⟨f,u,C,E,T,am⟩:=M2
   have ap:=E5 b64 zs (i:=k) oo
   have ah:=C3 dc (t.take k)
   have Q:a.take en=a.take k++(a.drop k).take (en-k):=by
    have:=fE (l:=a) (i:=k) (j:=en-k)
    rwa [show k+(en-k)=en from oo] at this
   have ag:val b64 (a.take en)=val b64 (a.take k)+b64^k*val b64 ((a.drop k).take (en-k)):=by
    rw [Q,F0,aJ,aI oo]
   have ad:val b64 zs+b64^k*val b64 f=val b64 (a.take en)*y:=by
    grind
   have aj:val b64 (a.take en)*y<b64^(a.length+bn):=by
    have t1:=I6 dc (L.take en)
    have t2:=C3 dc (L.take en)
    rw [aJ,aI oo] at t1
    have t3:val b64 (a.take en)*y<=b64^en*y:=aD oo ab
    have t4:b64^en*y<b64^en*b64^bn:=bM D (C9 dc en)
    rw [<- aS] at t4
    have t5:=C7 (B:=b64) dc (show en+bn<=a.length+bn from oo)
    omega
   have ae:val b64 (zs.drop k)+val b64 f<b64^(a.length+bn-k):=by
    have e5:b64^(a.length+bn)=b64^k*b64^(a.length+bn-k):=by rw [<- aS];simp_all
    by_cases hc:val b64 (zs.drop k)+val b64 f<b64^(a.length+bn-k)
    ·exact hc
    ·have:=aG (show b64^(a.length+bn-k)<=val b64 (zs.drop k)+val b64 f from oo) (aM (C9 (B:=b64) dc k))
     grind
   have af:=C3 dc (t.drop k)
   have ao:f.length<=a.length+bn-k:=by
    have Mps:Mw g2 A' f.length (val b64 f):=⟨f,rfl,C,E,T,rfl⟩
    exact Mps.len_le dc oo
   have ws:=O.sub (l:=k) (m:=a.length+bn) (c:=a.length+bn) oo oo oo
   have aa:(zs.drop k).take (a.length+bn-k)=zs.drop k:=aN gz0
   have R:(zs.drop k).length=a.length+bn-k:=gz0
   rw [aa] at ws
   refine Ca ws R.symm C u (t.drop k) E oo gz0 oo ?_
   intro us h5 ak W X w5
   have w6:=O.whole (l:=k) (m:=a.length+bn) oo oo oo w5
   refine ⟨rfl,⟨k+bn,_,g2,rfl,oo,A0 H l2,?_,((t.take k).append W).append (t.drop _),w6,?_⟩,by simp only [iAt,aF];omega⟩
   ·grind
   ·rw [aT oo,bX,F0,aJ,aI oo,X]
    grind
  have tr:=V3 (K:=fun r p=>∃ (t36A:Option bJ) (t36n:Nat) (t36c:Nat),r= .slice t36A t36n t36c/\Heap.le F p/\aW prog 197 #[.slice t36A t36n t36c,.slice B bn bc] p (fun M d=>∃ (t38A:Option bJ) (t38n:Nat) (t38c:Nat),M= .slice t38A t38n t38c/\Heap.le p d/\aW prog 248 #[.slice (N3 (some ⟨b,0,none⟩) (a.length+bn) k 1) (a.length+bn-k) (a.length+bn-k),.slice t38A t38n t38c] d (fun r2 q=>r2= .tuple #[]/\(∃ (k_1:Nat) (zs:List Int) (g:bD),[I ((k+bn:Nat):Int)]=[I k_1]/\k_1<=a.length+bn/\h.le g/\zs.length=a.length+bn/\Dig b64 zs/\Win .u64 q g b 230 (some ⟨b,0,none⟩) [] zs []/\val b64 zs=val b64 (a.take k_1)*y)/\a.length+bn-(iAt [I ((k+bn:Nat):Int)] 0).toNat<a.length+bn-(iAt [I k] 0).toNat))) (ac:=ac-k) (sp.mono w.le) oo oo (fun m hm s n=>⟨_,_,_,rfl,B3 _,z m oo s n⟩)
  grind
 ·have S:a.take k=a:=aN oo
  rw [S] at hv
  rw [<- V]
  refine K4 w.sl t (aV _) oo ?_
  intro m hm hM
  rw [hv] at hM
  exact ⟨_,_,_,rfl,hK _ _ _ _ (A0 H w.le) hm hM⟩
def A9a{X0 X1 Y0 Y1 P:Int}(hx0:0<=X0)(hx1:0<=X1)(hy0:0<=Y0)(hy1:0<=Y1):
 X0*Y0<=(X0+X1)*(Y0+Y1)/\X1*Y1<=(X0+X1)*(Y0+Y1)-X0*Y0/\(X0+P*X1)*(Y0+P*Y1)=X0*Y0+P*((X0+X1)*(Y0+Y1)-X0*Y0-X1*Y1)+P*P*(X1*Y1):=by
 have b:=aO hx0 hy1
 have c:=aO hx1 hy0
 have d:=aO hx1 hy1
 grind
def A8s:∀ N,A7f N:=by
 intro N
 induction N with
 | zero=>
  intro h K A B ac bc an bn x y hN ma mb ha hb hl F D
  have h0:=ma.len_zero dc
  have hx:x=0:=h0.2 o
  subst hx
  rw [dR] at D
  refine Y5 _ _ _ _ _ _ ?_
  unfold U9
  refine ⟨fun l h'=>h'=h/\l=[.slice A an ac,.slice B bn bc],B5 (fun e=>absurd e o) (fun _=>⟨rfl,rfl⟩),?_⟩
  rintro A1 u c1 B1 w c2 hp ⟨rfl,hl⟩
  obtain ⟨⟨rfl,rfl,rfl⟩,rfl,rfl,rfl⟩:(A1=A/\u=an/\c1=ac)/\B1=B/\w=bn/\c2=bc:=gz0
  refine D5 (fun _=>D none 0 0 _ (B3 _) (aV _) Mag.zero) (fun e=>absurd o e)
 | succ N ih=>
  intro h K A B ac bc an bn x y hN ma mb ha hb hl F D
  refine Y5 _ _ _ _ _ _ ?_
  unfold U9
  refine ⟨fun l h'=>h'=h/\∃ (A1 B1:Option bJ) (u w c1 c2:Nat) (x1 y1:Int),l=[.slice A1 u c1,.slice B1 w c2]/\Mw h A1 u x1/\Mw h B1 w y1/\w<=u/\u<=10000000000000/\u<=c1/\w<=c2/\u+w<=N+1/\x1*y1=x*y,B5 (fun h1=>?_) (fun h1=>?_),?_⟩
  ·grind
  ·grind
  clear ma mb ha hb hl F hN
  rintro A1 u c1 B1 w c2 hp ⟨rfl,A1',B1',a9,ba,bz,be,x1,y1,bw,m1,m2,hn,al,M,V,ck,aq⟩
  obtain ⟨⟨rfl,rfl,rfl⟩,rfl,rfl,rfl⟩:(A1=A1'/\u=a9/\c1=bz)/\B1=B1'/\w=ba/\c2=be:=gz0
  rw [<- aq] at D
  clear bw aq
  have hz:=m2.len_zero dc
  refine D5 (fun h0=>?_) (fun h0=>?_)
  ·have:y1=0:=hz.2 o
   subst this
   rw [eG] at D
   exact D none 0 0 _ (B3 _) (aV _) Mag.zero
  ·refine ⟨fun l h'=>∃ t:Bool,h'=hp/\l=[.bool t]/\(t=true->y1=1),D5 (fun h1=>?_) (fun h1=>⟨false,rfl,rfl,fun e=>by cases e⟩),?_⟩
   ·obtain ⟨f,b0,sy,R,ny,bm⟩:=m2
    refine sy.load b0 o o ⟨_,rfl,rfl,fun e=>?_⟩
    have e1:f.getD 0 0=1:=gz0
    obtain ⟨d,rfl⟩:∃ d,f=[d]:=by
     cases f with
     | nil=>grind
     | cons d r=>
      grind
    rw [<- bm,O5];assumption
   rintro tb ab ⟨t',rfl,F,O⟩
   obtain rfl:tb=t':=gz0
   refine Br.of (fun e=>?_) (fun _=>?_)
   ·rw [O e,Int.mul_one] at D
    exact D _ _ _ _ (B3 _) M m1
   clear O F
   have eL:B7 ((u:Int)+w)=((u+w:Nat):Int):=by rw [B6 o o];omega
   refine B5 (fun h2=>?_) (fun h2=>?_)
   ·obtain ⟨g,rfl,sx,W,nx,rfl⟩:=m1
    obtain ⟨f,rfl,sy,R,ny,rfl⟩:=m2
    rw [eL]
    refine I0 K0 o o o ?_
    intro b hb
    rw [aC]
    exact ⟨_,_,_,rfl,A5e hb sx W sy R al o D⟩
   ·obtain ⟨H,hH⟩:∃ H,H=(u+1)/2:=⟨_,rfl⟩
    have eH:B7 (cI (B7 ((u:Int)+1)) 2)=(H:Int):=by
     rw [B6 (n:=(u:Int)+1) o o,aX o,B6 o o];omega
    have bg:B7 ((2:Int)*(H:Int))=((2*H:Nat):Int):=by rw [B6 o o];omega
    simp only [eH,eL,bg,aC]
    refine B5 (fun h3=>?_) (fun h3=>?_)
    ·refine Fs ih o m1 m2 M V al o o ?_
     grind
    ·have a8:=m1.nonneg dc
     have a3:=m1.lt dc
     have ay:=m2.lt dc
     have bx:=m2.nonneg dc
     obtain ⟨g,rfl,sx,W,nx,rfl⟩:=m1
     obtain ⟨f,rfl,sy,R,ny,rfl⟩:=m2
     have bl:H<g.length:=o
     have a6:H<f.length:=o
     have ag:=C3 dc (W.take H)
     have au:=C3 dc (W.drop H)
     have am:=C3 dc (R.take H)
     have a1:=C3 dc (R.drop H)
     have b3:=E5 b64 g (i:=H) o
     have bq:=E5 b64 f (i:=H) o
     have ae:=I6 dc (W.take H)
     have aw:=I6 dc (R.take H)
     rw [aJ,aI o] at ae aw
     have C:Mw ab (N3 A1 c1 H 1) (g.length-H) (val b64 (g.drop H)):=by
      have:=Mw.of (Lv sx (c:=c1) (l:=H) o M) (W.drop H) (Ei nx bl)
      grind
     have z:Mw ab (N3 B1 c2 H 1) (f.length-H) (val b64 (f.drop H)):=by
      have:=Mw.of (Lv sy (c:=c2) (l:=H) o V) (R.drop H) (Ei ny a6)
      grind
     obtain ⟨ka,kb,kc⟩:=A9a (P:=b64^H) ag au am a1
     rw [<- b3,<- bq] at kc
     generalize hX0:val b64 (g.take H)=X0 at *
     generalize hX1:val b64 (g.drop H)=X1 at *
     generalize hY0:val b64 (f.take H)=Y0 at *
     generalize hY1:val b64 (f.drop H)=Y1 at *
     rw [F2,F2,bU,bU,bU]
     refine ⟨⟨o,o⟩,⟨o,o⟩,?_⟩
     refine R6 (Cp sx (c:=c1) (m:=H) o M) (W.take H) gz0 hX0 o o ?_
     intro mx cq MX0
     refine ⟨_,_,_,rfl,B3 _,⟨o,o⟩,⟨o,o⟩,?_⟩
     refine R6 (Cp sy (c:=c2) (m:=H) o V) (R.take H) gz0 hY0 o o ?_
     intro my cg MY0
     refine ⟨_,_,_,rfl,B3 _,?_⟩
     refine ih o MX0 MY0 o o o o ?_
     intro A3 n3 c3 g3 l3 k3 M3
     refine ⟨_,_,_,rfl,?_⟩
     refine ih o (C.mono l3) (z.mono l3) o o o o ?_
     intro A4 n4 c4 g4 l4 k4 M4
     refine ⟨_,_,_,rfl,?_⟩
     have E:=A0 l3 l4
     refine O3 (MX0.mono E) (C.mono E) o o o o ?_
     intro A5 n5 c5 g5 l5 k5 M5
     refine ⟨_,_,_,rfl,?_⟩
     have ar:=A0 E l5
     refine O3 (MY0.mono ar) (z.mono ar) o o o o ?_
     intro A6 n6 c6 g6 l6 k6 M6
     refine ⟨_,_,_,rfl,?_⟩
     have af:=C.lt dc
     have ah:=z.lt dc
     have bv:=C9 (B:=b64) dc H
     have b5:b64^(H+1)=b64^H*18446744073709551616:=bB _ _
     have ce:n5<=H+1:=by
      refine M5.len_le dc ?_
      have:=C7 (B:=b64) dc (show g.length-H<=H from o)
      omega
     have b9:n6<=H+1:=by
      refine M6.len_le dc ?_
      have:=C7 (B:=b64) dc (show f.length-H<=H from o)
      omega
     refine ih o (M5.mono l6) M6 k5 k6 o o ?_
     intro A7 n7 c7 g7 l7 k7 M7
     refine ⟨_,_,_,rfl,?_⟩
     have T:=A0 (A0 l5 l6) l7
     have k:∀ {p q:Int} {i j:Nat},0<=p->p<b64^i->0<=q->q<b64^j->p*q<b64^(i+j):=by
      intro p q i j a b c d
      rw [aS]
      have t1:p*q<=b64^i*q:=aD o c
      have t2:b64^i*q<b64^i*b64^j:=bM d (C9 dc i)
      omega
     have b6:n7<=n5+n6:=M7.len_le dc (k (M5.nonneg dc) (M5.lt dc) (M6.nonneg dc) (M6.lt dc))
     refine I5 M7 (M3.mono (A0 l4 T)) k7 o ka ?_
     intro A8 n8 c8 g8 l8 k8 M8
     refine ⟨_,_,_,rfl,?_⟩
     have b8:n8<=n7:=M8.len_le dc (by have:=M7.lt dc;have:=M3.nonneg dc;omega)
     refine I5 M8 (M4.mono (A0 T l8)) k8 o kb ?_
     intro A9 n9 c9 g9 l9 k9 M9
     refine ⟨_,_,_,rfl,?_⟩
     have S:=A0 T (A0 l8 l9)
     have az:ab.le g9:=A0 E S
     refine I0 K0 o o o ?_
     intro b hb
     rw [aC]
     refine ⟨_,_,_,rfl,?_⟩
     have w0:=Win.blk .u64 230 hb (aE (g.length+f.length) 0)
     have cc:n3<=H+H:=M3.len_le dc (k ag ae am aw)
     have cd:n4<=(g.length-H)+(f.length-H):=M4.len_le dc (k au af a1 ah)
     obtain ⟨s,ak,bk,a5,ct,ai⟩:=M3.mono (A0 l4 S)
     obtain ⟨hi,aj,bf,br,cs,ao⟩:=M4.mono S
     obtain ⟨Q,av,ax,a2,bu,b7⟩:=M9
     refine Ac K0 w0 (by simp) (bk.mono w0.le) ak (by simp;omega) ?_
     intro cm aa
     refine ⟨_,rfl,⟨o,o⟩,?_⟩
     have b2:s++(aE (g.length+f.length) (0:Int)).drop s.length=s++aE (g.length+f.length-s.length) 0:=by rw [bH]
     rw [b2] at aa
     have X:=aa.sub (l:=2*H) (m:=g.length+f.length) (c:=g.length+f.length) o (by simp;omega) (by simp;omega)
     have bp:((s++aE (g.length+f.length-s.length) (0:Int)).drop (2*H)).take (g.length+f.length-2*H)=aE (g.length+f.length-2*H) 0:=by
      rw [eR,aT o,cF,bH,cN]
      congr 1;omega
     rw [bp] at X
     refine Ac K0 X (by simp) (bf.mono X.le) aj (by simp;omega) ?_
     intro co a4
     refine ⟨_,rfl,⟨o,o⟩,?_⟩
     rw [bH] at a4
     have G:=aa.whole (l:=2*H) (m:=g.length+f.length) o (by simp;omega) (by simp;omega) a4
     have a7:(s++aE (g.length+f.length-s.length) (0:Int)).take (2*H)=s++aE (2*H-s.length) 0:=by
      rw [List.take_append,aN o,cN]
      congr 2;omega
     have b4:(s++aE (g.length+f.length-s.length) (0:Int)).drop (g.length+f.length)=[]:=by
      apply aT;simp;omega
     rw [a7,b4,bX] at G
     generalize hzs:s++aE (2*H-s.length) (0:Int)++(hi++aE (g.length+f.length-2*H-hi.length) 0)=zs at G
     have ci:zs.length=g.length+f.length:=by
      rw [<- hzs];simp;omega
     have L:Dig b64 zs:=by
      rw [<- hzs]
      exact (a5.append (F9 dc _)).append (br.append (F9 dc _))
     have cj:val b64 zs=X0*Y0+b64^H*b64^H*(X1*Y1):=by
      rw [<- hzs,F0,T8,T8,ai,ao]
      have:(s++aE (2*H-s.length) (0:Int)).length=H+H:=by simp;omega
      rw [this,aS]
     have a0:=G.sub (l:=H) (m:=g.length+f.length) (c:=g.length+f.length) o o o
     have bd:(zs.drop H).take (g.length+f.length-H)=zs.drop H:=aN (by rw [bZ];omega)
     have bb:(zs.drop H).length=g.length+f.length-H:=by rw [bZ];omega
     rw [bd] at a0
     have bt:=E5 b64 zs (i:=H) o
     have cl:=C3 dc (L.take H)
     have cb:=C3 dc (L.drop H)
     have cf:val b64 g*val b64 f<b64^(g.length+f.length):=k a8 a3 bx ay
     have ap:val b64 zs+b64^H*val b64 Q=val b64 g*val b64 f:=gz0
     have ca:val b64 (zs.drop H)+val b64 Q<b64^(g.length+f.length-H):=by
      have e5:b64^(g.length+f.length)=b64^H*b64^(g.length+f.length-H):=by rw [<- aS];congr 1;omega
      by_cases hc:val b64 (zs.drop H)+val b64 Q<b64^(g.length+f.length-H)
      ·exact hc
      ·have:=aG (show b64^(g.length+f.length-H)<=val b64 (zs.drop H)+val b64 Q from o) (aM bv)
       grind
     have cn:Q.length<=g.length+f.length-H:=by
      have Mmi:Mw g9 A9 Q.length (val b64 Q):=⟨Q,rfl,ax,a2,bu,rfl⟩
      exact Mmi.len_le dc o
     refine Ca a0 bb.symm ax av (L.drop H) a2 o gz0 o ?_
     intro us ch cr bo bj bh
     refine ⟨rfl,?_⟩
     have ad:=G.whole (l:=H) (m:=g.length+f.length) o o o bh
     rw [aT (show zs.length<=g.length+f.length from o),bX] at ad
     have bi:(zs.take H++us).length=g.length+f.length:=by
      simp only [aR,aJ];omega
     rw [<- bi]
     refine K4 ad.sl ((L.take H).append bo) o o ?_
     intro m hm hM
     have b1:val b64 (zs.take H++us)=val b64 g*val b64 f:=by
      rw [F0,aJ,aI o,bj,<- ap,bt];grind
     rw [b1] at hM
     exact ⟨_,_,_,rfl,D _ _ _ _ (A0 az ad.le) hm hM⟩
def F5{x y:Int}{an bn:Nat}(ma:Mw h A an x)(mb:Mw h B bn y)(ha:an<=ac)(hb:bn<=bc)(hl:an<=10000000000000)(hl2:bn<=10000000000000)(hK:∀ A' m c' h',h.le h'->m<=c'->Mw h' A' m (x*y)->K (.slice A' m c') h'):aW prog 197 #[.slice A an ac,.slice B bn bc] h K:=
 A8s _ (aV _) ma mb ha hb hl hl2 hK
end
section
variable {h g:bD} {K:VP} {A B:Option bJ} {ac bc:Nat}
def Zb{hi lo y:Int}(hhi:0<=hi/\hi<y)(hlo:0<=lo/\lo<18446744073709551616)(hy:y<18446744073709551616)
 (hK:K (.tuple #[U ((hi*18446744073709551616+lo)/y),U ((hi*18446744073709551616+lo)%y)]) h):aW prog 264 #[U hi,U lo,U y] h K:=by
 obtain ⟨n,rfl⟩:∃ n:Nat,y=n:=⟨y.toNat,o⟩
 exact Hn hhi hlo o hK
def Ip{x:Int}{an w:Nat}(ma:Mw h A an x)(hw:0<w/\w<18446744073709551616)(hl:an<=20000000000000)(hK:∀ A' m c' h',h.le h'->m<=c'->m<=an->Mw h' A' m (x/w)->K (.tuple #[.slice A' m c',U (x%w)]) h'):aW prog 282 #[.slice A an ac,U w] h K:=by
 obtain ⟨a,rfl,z,E,M,rfl⟩:=ma
 refine (fnk func282 [(4,[7,8],[],[U 0,I 0])]) ?_
 refine I0 K0 o o o ?_
 intro b t
 refine ⟨_,_,_,rfl,?_⟩
 refine ⟨fun l h'=>∃ (k:Nat) (r:Int) (zs:List Int),l=[U r,I ((k:Int)-1)]/\k<=a.length/\zs.length=a.length/\Dig b64 zs/\(0<=r/\r<w)/\h'=blk .u64 230 h b zs/\val b64 (a.drop k)=val b64 (zs.drop k)*w+r,fun l _=>(iAt l 1+1).toNat,⟨a.length,0,_,by rw [B6 o o],o,by simp,F9 dc _,o,rfl,by simp [val]⟩,?_⟩
 rintro r i H ⟨k,s,zs,C,G,g,p,c,rfl,d⟩
 obtain ⟨rfl,rfl⟩:r=s/\i=(k:Int)-1:=gz0
 have n:=X9 (k:=.u64) (e:=230) t zs
 refine B5 (fun y=>?_) (fun y=>?_)
 ·obtain ⟨j,rfl⟩:∃ j,k=j+1:=⟨k-1,o⟩
  have e:((j+1:Nat):Int)-1=(j:Int):=o
  rw [e]
  have B:=J3 E j
  refine (z.mono n).load rfl o o ?_
  refine Hn c B hw.2 ⟨_,_,rfl,?_⟩
  have u:0<=r*18446744073709551616+a.getD j 0:=o
  have q:0<=(r*18446744073709551616+a.getD j 0)/w/\(r*18446744073709551616+a.getD j 0)/w<18446744073709551616:=by
   constructor
   ·exact bK u o
   ·apply aY o
    omega
  refine ⟨_,rfl,o,o,?_⟩
  refine X7 (zs:=zs) (i:=j) E6 o ?_
  rw [B6 o o]
  refine ⟨⟨j,_,zs.set j ((r*18446744073709551616+a.getD j 0)/w),rfl,o,gz0,p.set q,⟨aP _ o,aK _ o⟩,rfl,?_⟩,by simp only [iAt,aF,aH];omega⟩
  rw [O2 o,Dv b64 o,d]
  have:=aL (r*18446744073709551616+a.getD j 0) w
  simp only [val]
  grind
 ·have f:k=0:=o
  subst f
  rw [dD,dD] at d
  rw [<- g]
  refine K4 (X8 _ _ _ _ _) p (aV _) o ?_
  intro m L F
  have q:val b64 a/w=val b64 zs:=by
   rw [d,eM,dS _ _ o,bG c.1 c.2,cK]
  have D:val b64 a%w=r:=by
   rw [d,eM,eZ,eJ c.1 c.2]
  grind
def Ed{x:Int}{an w:Nat}(ma:Mw h A an x)(hw:0<w/\w<18446744073709551616)(hl:an<=20000000000000)(hK:K (U (x%w)) h):aW prog 235 #[.slice A an ac,U w] h K:=by
 obtain ⟨a,rfl,s,q,z,rfl⟩:=ma
 refine (fnk func235 [(3,[5,6],[],[U 0,I 0])]) ?_
 refine ⟨fun l f=>∃ (k:Nat) (r:Int) (Q:Int),l=[U r,I ((k:Int)-1)]/\k<=a.length/\(0<=r/\r<w)/\f=h/\val b64 (a.drop k)=Q*w+r,fun l _=>(iAt l 1+1).toNat,⟨a.length,0,0,by rw [B6 o o],o,o,rfl,by simp [val]⟩,?_⟩
 rintro r i u ⟨k,g,Q,n,y,d,rfl,b⟩
 obtain ⟨rfl,rfl⟩:r=g/\i=(k:Int)-1:=gz0
 refine B5 (fun m=>?_) (fun m=>?_)
 ·obtain ⟨j,rfl⟩:∃ j,k=j+1:=⟨k-1,o⟩
  have e:((j+1:Nat):Int)-1=(j:Int):=o
  rw [e]
  have t:=J3 q j
  refine s.load rfl o o ?_
  refine Hn d t hw.2 ⟨_,_,rfl,?_⟩
  rw [B6 o o]
  refine ⟨⟨j,_,b64*Q+(r*18446744073709551616+a.getD j 0)/w,rfl,o,⟨aP _ o,aK _ o⟩,rfl,?_⟩,by simp only [iAt,aF,aH];omega⟩
  rw [Dv b64 o,b]
  have:=aL (r*18446744073709551616+a.getD j 0) w
  grind
 ·have c:k=0:=o
  subst c
  rw [dD] at b
  have p:val b64 a%w=r:=by
   rw [b,eM,eZ,eJ d.1 d.2]
  grind
def Ls{us vs:List Int}{m wn dn:Nat}{X Y:Int}(su:SlI .u64 h A us)(sv:SlI .u64 h B vs)(hwn:wn=us.length)(hdn:dn=vs.length)(du:Dig b64 us)(dv:Dig b64 vs)(hu:us.length=m+3)(hv:vs.length=m+2)(hl:m<=100000000000000)(h1:b64<=2*vs.getD (m+1) 0)(hX:val b64 us=X)(hY:val b64 vs=Y)(hlt:X<Y*b64)
 (hK:∀ q,0<=q->q<18446744073709551616->X<(q+1)*Y->(q-1)*Y<=X->K (U q) h):aW prog 283 #[.slice A wn ac,.slice B dn bc] h K:=by
 subst hwn hdn
 have a:=A2n (B:=b64) dc du dv hu hv h1 gz0
 rw [hX,hY] at a
 have gu:=J3 du (m+2)
 have u:=J3 du (m+1)
 have D:=J3 dv (m+1)
 have k:=a.v2r
 have E:=a.u2r
 refine (fnk func283 [(6,[8,9],[],[U 0,U 0])]) ?_
 have W:B7 ((vs.length:Int)-1)=((m+1:Nat):Int):=by rw [B6 o o];omega
 have R:B7 ((vs.length:Int)-2)=(m:Int):=by rw [B6 o o];omega
 have e3:((vs.length:Nat):Int)=((m+2:Nat):Int):=o
 rw [W,R,e3]
 refine sv.load o o o ?_
 refine sv.load o o o ?_
 refine su.load rfl o o ?_
 simp only [aC]
 refine B5 (fun C=>?_) (fun C=>?_)
 ·have ht:=a.top (by
   grind)
  grind
 ·refine su.load rfl o o ?_
  refine su.load rfl o o ?_
  simp only [aC]
  refine Zb o u D.2 ⟨_,_,rfl,B3 h,?_⟩
  generalize hT:us.getD (m+2) 0*b64+us.getD (m+1) 0=T at a
  have V:us.getD (m+2) 0*18446744073709551616+us.getD (m+1) 0=T:=hT
  have x:0<=T:=a.top0
  have t:=a.init
  have F:=aL T (vs.getD (m+1) 0)
  have O:=aP T (show vs.getD (m+1) 0≠0 from o)
  have Q:=aK T (show 0<vs.getD (m+1) 0 from o)
  have s:0<=T/vs.getD (m+1) 0:=bK x o
  have e:T/vs.getD (m+1) 0<18446744073709551616:=by
   apply aY o
   omega
  refine ⟨fun l L=>∃ q r:Int,l=[U q,U r]/\L=h/\(0<=q/\q<18446744073709551616)/\(0<=r/\r<18446744073709551616)/\q*vs.getD (m+1) 0+r=T/\X<(q+1)*Y,fun l _=>(iAt l 0).toNat,⟨_,_,rfl,rfl,⟨s,e⟩,o,gz0,t⟩,?_⟩
  rintro q r p ⟨q',z,H,rfl,f,hr,G,j⟩
  obtain ⟨rfl,rfl⟩:q=q'/\r=z:=gz0
  have hm:0<=q*vs.getD m 0/\q*vs.getD m 0<=18446744073709551615*18446744073709551615:=⟨aO f.1 k.1,dF o gz0 k.1 dc⟩
  have b:q*vs.getD m 0<=r*18446744073709551616+us.getD m 0->K (U q) p:=by
   intro S
   refine hK q f.1 f.2 j (a.up gz0 ?_)
   grind
  have c:¬ (q*vs.getD m 0<=r*18446744073709551616+us.getD m 0)->Br (decide (C1 (r+vs.getD (m+1) 0)<vs.getD (m+1) 0)) (K (U (C1 (q-1))) p) ((∃ q_1 r_1:Int,[U (C1 (q-1)),U (C1 (r+vs.getD (m+1) 0))]=[U q_1,U r_1]/\p=p/\(0<=q_1/\q_1<18446744073709551616)/\(0<=r_1/\r_1<18446744073709551616)/\q_1*vs.getD (m+1) 0+r_1=T/\X<(q_1+1)*Y)/\(iAt [U (C1 (q-1)),U (C1 (r+vs.getD (m+1) 0))] 0).toNat<(iAt [U q,U r] 0).toNat):=by
   intro hf
   have y:X<q*Y:=a.low f.1 gz0
   have e:1<=q:=by
    grind
   have d:X<(q-1+1)*Y:=gz0
   have i:(q-1)*vs.getD (m+1) 0+(r+vs.getD (m+1) 0)=T:=gz0
   rw [B9 (n:=q-1) o o]
   refine B5 (fun g=>?_) (fun g=>?_)
   ·rw [E9] at g
    refine hK (q-1) o o d (a.up gz0 ?_)
    grind
   ·have w:r+vs.getD (m+1) 0<18446744073709551616:=by
     by_cases hc:r+vs.getD (m+1) 0<18446744073709551616
     ·exact hc
     ·rw [E9] at g;omega
    rw [B9 (n:=r+vs.getD (m+1) 0) o w]
    exact ⟨⟨q-1,r+vs.getD (m+1) 0,rfl,rfl,o,o,i,d⟩,by simp only [iAt,aF];omega⟩
  refine Ej f o ⟨_,_,rfl,?_⟩
  have aa:0<=us.getD m 0/\us.getD m 0<18446744073709551616:=J3 du m
  refine B5 (fun g=>b o) (fun g=>?_)
  refine D5 (fun M=>?_) (fun M=>c o)
  refine su.load rfl o o ?_
  rw [aC]
  exact B5 (fun N=>b o) (fun N=>c o)
end
section
variable {h g:bD} {K:VP} {bu bq:Nat} {pre qs:List Int} {VA:Option bJ} {vs:List Int}
def A7a{n N:Nat}{ws:List Int}{q:Int}{J:LP}(hu:g bu=none)(hq:g bq=none)(hne:bu≠bq)(sv:SlI .u64 g VA vs)(dv:Dig b64 vs)(hn:n=vs.length)(dw:Dig b64 ws)(hN:N=(pre++ws).length)(hl:n<ws.length)(hbig:N<=40000000000000)
 (hD:val b64 (ws.take n)+val b64 vs<2*b64^n) (hD0:b64^n<=val b64 (ws.take n)+val b64 vs) (htop:ws.getD n 0=18446744073709551615)
 (hJ:∀ ws',ws'.length=ws.length->Dig b64 ws'->ws'.drop (n+1)=ws.drop (n+1)->ws'.getD n 0=0->val b64 (ws'.take n)=val b64 (ws.take n)+val b64 vs-b64^n->J [U (C1 (q-1))] (Q9 .u64 230 g bu (pre++ws') bq qs)):
 Ao prog n VA n (some ⟨bu,0,none⟩) N (pre.length:Int) q J (Q9 .u64 230 g bu (pre++ws) bq qs):=by
 refine ⟨fun l F=>∃ (k:Nat) (c:Int) (zs:List Int),l=[U c,I k]/\k<=n/\zs.length=ws.length/\Dig b64 zs/\(0<=c/\c<=1)/\F=Q9 .u64 230 g bu (pre++zs) bq qs/\zs.drop k=ws.drop k/\val b64 (zs.take k)+c*b64^k=val b64 (ws.take k)+val b64 (vs.take k),fun l _=>n-(iAt l 1).toNat,⟨0,0,ws,rfl,o,rfl,dw,o,rfl,rfl,by rfl⟩,?_⟩
 rintro c i T ⟨k,C,zs,Q,S,H,p,R,rfl,a,O⟩
 obtain ⟨rfl,rfl⟩:c=C/\i=(k:Int):=gz0
 have w:g.le (Q9 .u64 230 g bu (pre++zs) bq qs):=Gb hu hq hne
 have z:SlI .u64 (Q9 .u64 230 g bu (pre++zs) bq qs) (some ⟨bu,0,none⟩) (pre++zs):=Iy hne
 have j:N=(pre++zs).length:=gz0
 have L:N=pre.length+zs.length:=gz0
 have x:B7 ((pre.length:Int)+k)=((k+pre.length:Nat):Int):=by rw [B6 o o];omega
 have s:B7 ((pre.length:Int)+n)=((n+pre.length:Nat):Int):=by rw [B6 o o];omega
 refine B5 (fun G=>?_) (fun G=>?_)
 ·have D:=J3 dv k
  have B:=J3 p k
  have b:=D7 a
  have M:=C2 b64 vs k
  have E:=C2 b64 ws k
  rw [x]
  refine (sv.mono w).load hn o o ?_
  refine z.load j o o ?_
  simp only [aC,Z8]
  refine U4 B D R ⟨_,_,rfl,?_⟩
  refine ⟨_,rfl,o,o,?_⟩
  have m:=J4 (P:=prog) (t:=230) (k:=.u64) (e:=230) (g:=g) (bu:=bu) (bq:=bq) (us:=pre++zs) (qs:=qs) (i:=((k+pre.length:Nat):Int)) (n:=(zs.getD k 0+vs.getD k 0+c)%18446744073709551616) E6 hne o
   (K:=fun _ f=>(∃ (k_1:Nat) (c_1:Int) (zs_1:List Int),[U ((zs.getD k 0+vs.getD k 0+c)/18446744073709551616),I (B7 ((k:Int)+1))]=[U c_1,I k_1]/\k_1<=n/\zs_1.length=ws.length/\Dig b64 zs_1/\(0<=c_1/\c_1<=1)/\f=Q9 .u64 230 g bu (pre++zs_1) bq qs/\zs_1.drop k_1=ws.drop k_1/\val b64 (zs_1.take k_1)+c_1*b64^k_1=val b64 (ws.take k_1)+val b64 (vs.take k_1))/\n-(iAt [U ((zs.getD k 0+vs.getD k 0+c)/18446744073709551616),I (B7 ((k:Int)+1))] 1).toNat<n-(iAt [U c,I k] 1).toNat)
  rw [aC] at m
  refine m ?_
  rw [Dd,B6 (n:=(k:Int)+1) o o]
  refine ⟨⟨k+1,_,zs.set k ((zs.getD k 0+vs.getD k 0+c)%18446744073709551616),rfl,o,gz0,p.set (W6 _),o,rfl,?_,?_⟩,by simp only [iAt,aF,aH];omega⟩
  ·rw [C8 o];exact D0 a
  ·rw [C5 o,D8,aJ,aI o,bB,S3,M,E,<- b]
   grind
 ·have r:k=n:=o
  subst r
  have b:=D7 a
  rw [s]
  refine z.load j o o ?_
  rw [aC,Z8,b,htop]
  refine ⟨_,rfl,o,o,?_⟩
  have u:vs.take k=vs:=gz0
  rw [u] at O
  have A:=I6 dc (p.take k)
  have y:c=1:=by
   grind
  subst y
  have m:=J4 (P:=prog) (t:=230) (k:=.u64) (e:=230) (g:=g) (bu:=bu) (bq:=bq) (us:=pre++zs) (qs:=qs) (i:=((k+pre.length:Nat):Int)) (n:=0) E6 hne o (K:=fun _ d=>J [U (C1 (q-1))] d)
  rw [aC] at m
  refine m ?_
  rw [Dd]
  refine hJ (zs.set k 0) gz0 (p.set dc) (by rw [C8 o];exact D0 a) gz0 ?_
  rw [List.take_set_of_le o]
  omega
end
def A08{g h':bD}{e:cD}{bu bq:Nat}{A:Option bJ}{us qs:List Int}(hne:bu≠bq)(w:Win .u64 h' (blk .u64 e g bq qs) bu e A [] us []):h'=Q9 .u64 e g bu us bq qs:=by
 rw [Bw hne,w.eq]
 simp [blk]
def A1q{g:bD}{e:cD}{bu bq:Nat}{us qs:List Int}(hu:g bu=none)(hne:bu≠bq):Win .u64 (Q9 .u64 e g bu us bq qs) (blk .u64 e g bq qs) bu e (some ⟨bu,0,none⟩) [] us []:=by
 rw [Bw hne]
 refine Win.blk .u64 e ?_ us
 unfold blk;rw [B4 _ _ hne];exact hu
def Pe{P:dN}{t:cD}{k:cW}{e:cD}{g:bD}{bu bq:Nat}{us qs:List Int}(one:P.cellsOf t=1/\(P.info? t).isSome=true)(hne:bu≠bq){n:Int}{i:Nat}(hi:i<us.length){K:Unit->bD->Prop}
 (x:K () (Q9 k e g bu (us.set i n) bq qs)):wpH P (dL t (.pointer (some (eO ⟨bu,0,none⟩ (i*1)))) (.int k n)) K (Q9 k e g bu us bq qs):=by
 have:=J4 (P:=P) (t:=t) (k:=k) (e:=e) (g:=g) (bu:=bu) (bq:=bq) (us:=us) (qs:=qs) (i:=(i:Int)) (n:=n) (K:=K) one hne o (by assumption)
 assumption
def Pf{P:dN}{t:cD}{k:cW}{e:cD}{g:bD}{bu bq:Nat}{us qs:List Int}(one:P.cellsOf t=1/\(P.info? t).isSome=true){n:Int}{i:Nat}(hi:i<qs.length){K:Unit->bD->Prop}
 (x:K () (Q9 k e g bu us bq (qs.set i n))):wpH P (dL t (.pointer (some (eO ⟨bq,0,none⟩ (i*1)))) (.int k n)) K (Q9 k e g bu us bq qs):=by
 have:=Iz (P:=P) (t:=t) (k:=k) (e:=e) (g:=g) (bu:=bu) (bq:=bq) (us:=us) (qs:=qs) (i:=(i:Int)) (n:=n) (K:=K) one o (by assumption)
 assumption
section
variable {h g:bD} {K:VP} {bu bq:Nat} {VA:Option bJ} {vs us0:List Int}
set_option maxHeartbeats 1000000 in
def Qi{s mm N nq vc xn:Nat}{a b Y:Int}(hu:g bu=none)(hq:g bq=none)(hne:bu≠bq)(sv:SlI .u64 g VA vs)(dv:Dig b64 vs)(hn:vs.length=mm+2)(hv1:b64<=2*vs.getD (mm+1) 0)(hs:s<64)(hY:val b64 vs=Y)(hYb:Y=b*2^s)(du:Dig b64 us0)(hN:us0.length=N)(hua:val b64 us0=a*2^s)(hxn:N=xn+1)(hnq:N=nq+(mm+2))(hnq1:1<=nq)(hbig:N<=20000000000001)(htop:val b64 (us0.drop nq)<Y)
 (hK:∀ A1 m1 c1 A2 m2 c2 h',g.le h'->m1<=c1->m2<=c2->Mw h' A1 m1 (a/b)->Mw h' A2 m2 (a%b)->K (.tuple #[.slice A1 m1 c1,.slice A2 m2 c2]) h'):
 R4 prog xn (mm+2) K (s:Int) VA (mm+2) vc (some ⟨bu,0,none⟩) N N (some ⟨bq,0,none⟩) nq nq (Q9 .u64 230 g bu us0 bq (aE nq 0)):=by
 have hp:0<(2:Int)^s:=bI dc
 have a1:Y<b64^(mm+2):=by rw [<- hY,<- hn];exact I6 dc dv
 have a8:0<Y:=by have:=C3 dc (du.drop nq);omega
 have e0:B7 ((xn:Int)-((mm+2:Nat):Int))=(nq:Int)-1:=by rw [B6 o o];omega
 unfold R4
 refine ⟨fun l h'=>∃ (k:Nat) (us qs:List Int),l=[I ((k:Int)-1)]/\k<=nq/\us.length=N/\qs.length=nq/\Dig b64 us/\Dig b64 qs/\h'=Q9 .u64 230 g bu us bq qs/\val b64 (us.drop k)<Y/\val b64 us0=val b64 (qs.drop k)*Y*b64^k+val b64 us,fun l _=>(iAt l 0+1).toNat,⟨nq,us0,_,by rw [e0],o,hN,by simp,du,F9 dc _,rfl,htop,by simp [val]⟩,?_⟩
 rintro j a6 ⟨k,us,qs,av,hk,L,ad,u,ag,rfl,am,hv⟩
 obtain rfl:j=(k:Int)-1:=by simpa using av
 have ab:g.le (Q9 .u64 230 g bu us bq qs):=Gb hu hq hne
 have su:SlI .u64 (Q9 .u64 230 g bu us bq qs) (some ⟨bu,0,none⟩) us:=Iy hne
 unfold As
 refine B5 (fun h1=>?_) (fun h1=>?_)
 ·obtain ⟨j,rfl⟩:∃ j,k=j+1:=⟨k-1,o⟩
  have ej:((j+1:Nat):Int)-1=(j:Int):=o
  rw [ej]
  have e1:B7 ((j:Int)+((mm+2:Nat):Int))=((j+(mm+2):Nat):Int):=by rw [B6 o o];omega
  have e2:B7 (((j+(mm+2):Nat):Int)+1)=((j+(mm+3):Nat):Int):=by rw [B6 o o];omega
  simp only [e1,e2,aC]
  have y:=u.drop j
  have H:(us.drop j).length=N-j:=by rw [bZ,L]
  have x:val b64 ((us.drop j).drop (mm+3))=0:=by
   have:=U5 (B:=b64) dc (n:=mm+2) (u.drop (j+1)) o
   rw [cU] at this ⊢
   rw [show j+(mm+3)=j+1+(mm+2) from o];exact this
  have ah:=Nf b64 us j
  have aq:val b64 (us.drop j)<Y*b64:=by
   have bb:=J3 u j
   rw [ah]
   have t1:b64*(val b64 (us.drop (j+1))+1)<=b64*Y:=aG o dc
   have t2:b64*(val b64 (us.drop (j+1))+1)=b64*val b64 (us.drop (j+1))+18446744073709551616:=by show (18446744073709551616:Int)*_=_;grind
   have t3:Y*b64=b64*Y:=aU _ _
   omega
  have G:=E5 b64 (us.drop j) (i:=mm+3) o
  rw [x,eG,eK] at G
  have au:=F1 b64 (us.drop j) (mm+2)
  have hX:val b64 (us.drop j)=val b64 ((us.drop j).take (mm+2))+b64^(mm+2)*(us.drop j).getD (mm+2) 0:=by rw [G];exact au
  refine ⟨⟨o,o⟩,⟨o,o⟩,?_⟩
  have sw:SlI .u64 (Q9 .u64 230 g bu us bq qs) (N3 (some ⟨bu,0,none⟩) N j 1) ((us.drop j).take (mm+3)):=by
   have:=su.cut (c:=N) (l:=j) (m:=j+(mm+3)) o o o
   rwa [show j+(mm+3)-j=mm+3 from o] at this
  generalize hXX:val b64 (us.drop j)=X at *
  refine Ls (m:=mm) (X:=X) (Y:=Y) sw (sv.mono ab) (by rw [aJ,H];omega) hn.symm (y.take _) dv (by rw [aJ,H];omega) hn o hv1 G.symm hY aq ?_
  intro q q0 q1 q2 q3
  refine ⟨_,rfl,⟨o,o⟩,⟨o,o⟩,?_⟩
  have w0:=A1q (e:=230) (us:=us) (qs:=qs) hu hne
  have aw:SlI .u64 (blk .u64 230 g bq qs) VA vs:=sv.mono (X9 hq qs)
  have hW:(us.drop j).take (j+(mm+2)-j)=(us.drop j).take (mm+2):=by rw [show j+(mm+2)-j=mm+2 from o]
  have w1:=w0.sub (l:=j) (m:=j+(mm+2)) (c:=N) o o o
  rw [hW] at w1
  have M:((us.drop j).take (mm+2)).length=mm+2:=by rw [aJ,H];omega
  refine Cs w1 (by rw [M];omega) aw hn.symm (y.take _) dv (by rw [M,hn]) ⟨q0,q1⟩ o ?_
  intro W c h2 p C w F w2
  rw [M] at p F
  refine ⟨_,rfl,?_⟩
  have w3:=w0.whole (l:=j) (m:=j+(mm+2)) o o o w2
  have V:=A08 hne w3
  have f:(us.take j).length=j:=by rw [aJ,L];omega
  have ai:us.drop (j+(mm+2))=(us.drop j).drop (mm+2):=by rw [cU]
  rw [bY,ai] at V
  subst V
  generalize hws:us.drop j=ws at *
  have r:(W++ws.drop (mm+2)).length=ws.length:=by rw [aR,bZ];omega
  have dW:Dig b64 (W++ws.drop (mm+2)):=C.append (y.drop _)
  have T:(W++ws.drop (mm+2)).getD (mm+2) 0=ws.getD (mm+2) 0:=by
   simp only [eQ]
   rw [List.getElem?_append_right o,p,Nat.sub_self,List.getElem?_drop,eE]
  have S:=J3 y (mm+2)
  have ay:(us.take j++(W++ws.drop (mm+2))).length=N:=by rw [aR,r,f];omega
  have aj:SlI .u64 (Q9 .u64 230 g bu (us.take j++(W++ws.drop (mm+2))) bq qs) (some ⟨bu,0,none⟩) (us.take j++(W++ws.drop (mm+2))):=Iy hne
  have a0:j+(mm+2)=(mm+2)+(us.take j).length:=o
  refine aj.load ay.symm o o ?_
  rw [aC,a0,Z8,T]
  refine ⟨_,rfl,o,o,?_⟩
  refine Pe (i:=mm+2+(us.take j).length) E6 hne o ?_
  rw [Dd]
  have hP:0<b64^(mm+2):=C9 dc _
  have an:=I6 dc C
  have a5:=C3 dc C
  rw [p] at an
  rw [hY] at F
  have hD:X-q*Y=val b64 W+(ws.getD (mm+2) 0-c)*b64^(mm+2):=by rw [F,hX];grind
  have Q:X-q*Y<Y:=by
   have:(q+1)*Y=q*Y+Y:=gz0
   omega
  have a4: -Y<=X-q*Y:=by
   have:(q-1)*Y=q*Y-Y:=gz0
   omega
  have bc:0<=X:=by
   have t1:=C3 dc (y.take (mm+2))
   have t2:=aO (aM hP) S.1
   omega
  have a2:ws.getD (mm+2) 0-c=0\/ws.getD (mm+2) 0-c= -1:=by
   have t2:ws.getD (mm+2) 0-c<1:=by
    by_cases w:ws.getD (mm+2) 0-c<1
    ·exact w
    ·have:=aD (show 1<=ws.getD (mm+2) 0-c from o) (aM hP);omega
   have t3: -2<ws.getD (mm+2) 0-c:=by
    by_cases w: -2<ws.getD (mm+2) 0-c
    ·exact w
    ·have:=aD (show ws.getD (mm+2) 0-c <= -2 from o) (aM hP);omega
   omega
  have z:∀ v,((W++ws.drop (mm+2)).set (mm+2) v).take (mm+2)=W:=by
   intro v
   rw [List.take_set_of_le o,dC p]
  have aa:∀ v,((W++ws.drop (mm+2)).set (mm+2) v).getD (mm+2) 0=v:=by
   intro v
   rw [eQ,List.getElem?_set_self o];rfl
  have af:∀ v,((W++ws.drop (mm+2)).set (mm+2) v).drop (mm+3)=ws.drop (mm+3):=by
   intro v
   rw [C8 o,show mm+3=(mm+2)+1 from o,<- cU,eX p,cU]
  refine ⟨fun l h'=>∃ d t,l=[U t]/\h'=Q9 .u64 230 g bu (us.take j++d) bq qs/\d.length=ws.length/\Dig b64 d/\d.drop (mm+3)=ws.drop (mm+3)/\d.getD (mm+2) 0=0/\val b64 (d.take (mm+2))=X-t*Y/\0<=X-t*Y/\X-t*Y<Y/\0<=t/\t<18446744073709551616,B5 (fun h3=>?_) (fun h3=>?_),?_⟩
  ·have E:ws.getD (mm+2) 0-c= -1:=o
   rw [E] at hD ⊢
   have ae:C1 (-1)=18446744073709551615:=by rw [E9];omega
   rw [ae]
   have ax:1<=q:=by
    by_cases w:1<=q
    ·exact w
    ·have:q=0:=o
     subst this;omega
   have e5:(q-1)*Y=q*Y-Y:=gz0
   have bk:=A7a (g:=g) (bu:=bu) (bq:=bq) (pre:=us.take j) (qs:=qs) (VA:=VA) (vs:=vs) (n:=mm+2) (N:=N) (ws:=(W++ws.drop (mm+2)).set (mm+2) 18446744073709551615) (q:=q)
    (J:=fun l h'=>∃ d t,l=[U t]/\h'=Q9 .u64 230 g bu (us.take j++d) bq qs/\d.length=ws.length/\Dig b64 d/\d.drop (mm+3)=ws.drop (mm+3)/\d.getD (mm+2) 0=0/\val b64 (d.take (mm+2))=X-t*Y/\0<=X-t*Y/\X-t*Y<Y/\0<=t/\t<18446744073709551616)
    hu hq hne sv dv hn.symm (dW.set dc) (by rw [aR,dV,r,f];omega) (by rw [dV,r];omega) o (by rw [z,hY];omega) (by rw [z,hY];omega) (aa _) ?_
   ·rw [f] at bk;exact bk
   ·intro d g1 g2 g3 g4 g5
    rw [z,hY] at g5
    rw [B9 (n:=q-1) o o]
    refine ⟨d,q-1,rfl,rfl,by rw [g1,dV,r],g2,by rw [g3,af],g4,o,o,o,o,o⟩
  ·have D:ws.getD (mm+2) 0-c=0:=o
   rw [D] at hD ⊢
   have ap:C1 0=0:=by rw [E9];omega
   rw [ap]
   exact ⟨(W++ws.drop (mm+2)).set (mm+2) 0,q,rfl,rfl,by rw [dV,r],dW.set dc,af _,aa _,by rw [z];omega,o,Q,q0,q1⟩
  ·rintro q4 a3 ⟨d,t,al,rfl,g1,g2,g3,g4,g5,g6,g7,g8,g9⟩
   obtain rfl:q4=t:=by simpa using al
   refine ⟨_,rfl,o,o,?_⟩
   refine Pf (i:=j) E6 o ?_
   rw [B6 o o]
   have R:val b64 d=X-q4*Y:=by
    have z1:=E5 b64 d (i:=mm+3) o
    rw [g3,x,F1,g4,g5] at z1
    simp at z1
    omega
   refine ⟨⟨j,us.take j++d,qs.set j q4,rfl,o,by rw [aR,g1,f];omega,by simpa using ad,(u.take j).append g2,ag.set ⟨g8,g9⟩,rfl,?_,?_⟩,by simp only [iAt,aF];omega⟩
   ·rw [eX f,R];exact g7
   ·have O:=E5 b64 us (i:=j) o
    rw [hws,hXX] at O
    rw [hv,O2 o,F0,f,R,O,bB]
    simp only [val]
    grind
 ·have ao:k=0:=o
  subst ao
  simp at am hv
  have ba:0<b:=by
   by_cases w:0<b
   ·exact w
   ·have:=aD (show b<=0 from o) (aM hp);omega
  have a7:=C3 dc u
  have hR:val b64 us=(a-val b64 qs*b)*2^s:=by
   rw [hua,hYb] at hv
   grind
  have ar:0<=a-val b64 qs*b:=by
   by_cases w:0<=a-val b64 qs*b
   ·exact w
   ·have:=aD (show a-val b64 qs*b <= -1 from o) (aM hp);omega
  have ak:a-val b64 qs*b<b:=by
   by_cases w:a-val b64 qs*b<b
   ·exact w
   ·have:=aD (show b<=a-val b64 qs*b from o) (aM hp);omega
  have A:a/b=val b64 qs:=by
   have:a=(a-val b64 qs*b)+val b64 qs*b:=o
   rw [this,dS _ _ o,bG ar ak,cK]
  have ac:a%b=a-val b64 qs*b:=by
   have:=Int.emod_def a b
   rw [this,A,aU]
  rw [A,ac] at hK
  rw [<- ad]
  refine K4 A2u ag (aV _) o ?_
  intro m1 ae M1
  refine ⟨_,_,_,rfl,?_⟩
  rw [<- L]
  refine K4 su u (aV _) o ?_
  intro m2 a9 M2
  refine ⟨_,_,_,rfl,?_⟩
  rw [B9 o o]
  refine Af M2 (by have:=M2.len_le dc (j:=mm+2) o;omega) o ?_
  intro A3 m3 c3 h3 l3 k3 M3
  have az:val b64 us/2^s=a-val b64 qs*b:=by rw [hR,eD _ o]
  rw [az] at M3
  exact ⟨_,_,_,rfl,hK _ _ _ _ _ _ _ (A0 ab l3) o k3 (M1.mono l3) M3⟩
end
section
variable {h g:bD} {K:VP} {A B:Option bJ} {ac bc:Nat}
set_option maxHeartbeats 1000000 in
def X3{x y:Int}{an bn:Nat}(ma:Mw h A an x)(mb:Mw h B bn y)(ha:an<=ac)(hbc:bn<=bc)(hy:y≠0)(hl:an<=20000000000000)(hl2:bn<=20000000000000)
 (hK:∀ A1 m1 c1 A2 m2 c2 h',h.le h'->m1<=c1->m2<=c2->Mw h' A1 m1 (x/y)->Mw h' A2 m2 (x%y)->K (.tuple #[.slice A1 m1 c1,.slice A2 m2 c2]) h'):aW prog 260 #[.slice A an ac,.slice B bn bc] h K:=by
 have H:=ma.nonneg dc
 have ao:=mb.nonneg dc
 have a3:=mb.len_zero dc
 have u:=ma.lt dc
 have a7:=mb.lt dc
 refine Hg _ _ _ _ _ _ ?_
 unfold Fc
 refine H2 ma mb o ⟨_,rfl,B5 (fun C=>?_) (fun C=>D5 (fun h2=>?_) (fun h2=>?_))⟩
 ·have L:x<y:=by
   unfold Jh at C
   by_cases c:x<y
   ·exact c
   ·rw [iN c] at C
    by_cases M:x>y
    ·rw [iP M] at C;omega
    ·rw [iN M] at C;omega
  rw [bG H L,eJ H L] at hK
  exact hK none 0 0 _ _ _ _ (B3 h) (aV _) ha Mag.zero ma
 ·obtain ⟨a,rfl,sy,dy,ny,rfl⟩:=mb
  have Q:a.length=1:=o
  obtain ⟨d,rfl⟩:∃ d,a=[d]:=by
   cases a with
   | nil=>simp at Q
   | cons d r=>
    cases r with
    | nil=>exact ⟨d,rfl⟩
    | cons _ _=>simp at Q
  rw [O5] at hy ao hK
  have hd:=dy d (by simp)
  obtain ⟨w,rfl⟩:∃ w:Nat,d=w:=⟨d.toNat,o⟩
  refine sy.load rfl o (by simp) ?_
  show aW _ _ #[_,U (w:Int)] _ _
  have hw:w<18446744073709551616:=by have:=hd.2;have:(w:Int)<18446744073709551616:=this;omega
  refine Ip ma ⟨o,hw⟩ hl ?_
  intro A' m c' h' ai hm a4 hM
  refine ⟨_,_,_,_,rfl,?_⟩
  refine S0 ⟨aP _ o,by have:=aK x (show (0:Int)<w from o);omega⟩ ?_
  intro A2 m2 c2 h3 F k3 M3
  exact ⟨_,_,_,rfl,hK _ _ _ _ _ _ _ (A0 ai F) hm k3 (hM.mono F) M3⟩
 ·have ap:y<=x:=by
   unfold Jh at C
   by_cases c:x<y
   ·rw [iP c] at C;omega
   ·omega
  have a6:bn<=an:=mb.len_le dc (cC ap u)
  have aw:=mb
  have aj:=ma
  obtain ⟨a,rfl,sy,dy,ny,rfl⟩:=mb
  obtain ⟨mm,hmm⟩:∃ mm,a.length=mm+2:=⟨a.length-2,o⟩
  have gt:=J3 dy (mm+1)
  have am:=Nh (m:=mm+1) hmm ny
  obtain ⟨G,p⟩:=S2 (B:=b64) dc dy (m:=mm+1) hmm
  have e1:B7 ((a.length:Int)-1)=((mm+1:Nat):Int):=by rw [B6 o o];omega
  rw [e1]
  refine sy.load rfl o o ?_
  rw [aC]
  obtain ⟨t,ht⟩:∃ t:Nat,a.getD (mm+1) 0=t:=⟨(a.getD (mm+1) 0).toNat,o⟩
  rw [ht] at gt am G p ⊢
  have l:t≠0:=o
  refine L3 o ⟨_,rfl,?_⟩
  obtain ⟨ax,az⟩:=Y2 l
  have a0:K3 t<=64:=By (k:=64) o
  have ay:1<=K3 t:=by unfold K3;rw [iN l];omega
  obtain ⟨s,hs⟩:∃ s,s=64-K3 t:=⟨_,rfl⟩
  rw [<- hs]
  have W:s<64:=o
  have b:0<(2:Int)^s:=bI dc
  have al:=Q6 (s:=s) o
  have z:K3 t=64-s:=o
  have ar:(t:Int)+1<=2^(64-s):=by
   rw [<- z]
   have:((t+1:Nat):Int)<=((2^K3 t:Nat):Int):=o
   simpa using this
  have ak:(2:Int)^(63-s)<=t:=by
   have:((2^(K3 t-1):Nat):Int)<=((t:Nat):Int):=o
   rw [show K3 t-1=63-s from o] at this
   simpa using this
  have E:(2:Int)^s*2^(63-s)=9223372036854775808:=by
   rw [<- aS,show s+(63-s)=63 from o];decide
  have ah:C1 (s:Int)=(s:Int):=B9 o o
  rw [ah]
  have f:=C9 (B:=b64) dc (mm+1)
  have ag:val b64 a*2^s<b64^(mm+2):=by
   have t2:val b64 a*2^s<((t:Int)+1)*b64^(mm+1)*2^s:=bC G b
   have t3:((t:Int)+1)*b64^(mm+1)*2^s=((t:Int)+1)*2^s*b64^(mm+1):=gz0
   have t4:((t:Int)+1)*2^s*b64^(mm+1)<=18446744073709551616*b64^(mm+1):=by
    apply aD _ (aM f)
    rw [<- al,aU (2^s)]
    exact aD ar (aM b)
   have t5:b64^(mm+2)=18446744073709551616*b64^(mm+1):=by rw [bB b64 (mm+1),aU]
   omega
  have a5:9223372036854775808*b64^(mm+1)<=val b64 a*2^s:=by
   have t1:(t:Int)*b64^(mm+1)*2^s<=val b64 a*2^s:=aD p (aM b)
   have t2:9223372036854775808*b64^(mm+1)<=(t:Int)*2^s*b64^(mm+1):=by
    apply aD _ (aM f)
    rw [<- E,aU (t:Int)]
    exact aG ak o
   have t3:(t:Int)*2^s*b64^(mm+1)=(t:Int)*b64^(mm+1)*2^s:=gz0
   omega
  refine N5 aw hbc hl2 o ?_
  intro A1 n1 c1 g1 l1 k1 M1
  refine ⟨_,_,_,rfl,?_⟩
  have aa:n1=mm+2:=by
   have q1:=M1.len_le dc ag
   have q2:=M1.lt dc
   by_cases c:n1=mm+2
   ·exact c
   ·have:=C7 (B:=b64) dc (show n1<=mm+1 from o)
    omega
  subst aa
  obtain ⟨vs,T,sv,dv,nv,X⟩:=M1
  have ae:b64<=2*vs.getD (mm+1) 0:=by
   obtain ⟨q1,q2⟩:=S2 (B:=b64) dc dv (m:=mm+1) T.symm
   rw [X] at q1
   have:9223372036854775808<vs.getD (mm+1) 0+1:=by
    by_cases c:9223372036854775808<vs.getD (mm+1) 0+1
    ·exact c
    ·have:=aD (show vs.getD (mm+1) 0+1<=9223372036854775808 from o) (aM f);omega
   show (18446744073709551616:Int)<=_
   omega
  have eN:B7 ((an:Int)+1)=((an+1:Nat):Int):=by rw [B6 o o];omega
  rw [eN]
  refine I0 K0 o o o ?_
  intro bu aq
  rw [aC]
  refine ⟨_,_,_,rfl,?_⟩
  have w0:=Win.blk .u64 230 aq (aE (an+1) 0)
  refine w0.call ?_
  refine N5 (aj.mono l1) ha hl o ?_
  intro A3 n3 c3 g3 F k3 M3 h4 w4
  refine ⟨_,_,_,rfl,?_⟩
  have au:x*2^s<b64^(an+1):=by
   have t1:x*2^s<b64^an*2^s:=bC u b
   have t2:b64^an*2^s<=b64^an*18446744073709551616:=by
    apply aG _ (aM (C9 dc an))
    have:=C7 (B:=2) dc (show s<=64 from o)
    have e:(2:Int)^64=18446744073709551616:=dc
    omega
   rw [bB];show _<b64^an*(18446744073709551616:Int);omega
  have a2:=M3.len_le dc au
  obtain ⟨us,av,af,ab,a1,R⟩:=M3
  refine Ac K0 w4 (by simp) (af.mono w4.le) av (by simp;omega) ?_
  intro h5 w5
  refine ⟨_,rfl,?_⟩
  rw [bH] at w5
  generalize hu0:us++aE (an+1-us.length) (0:Int)=us0 at w5
  have V:us0.length=an+1:=by rw [<- hu0];simp;omega
  have q:Dig b64 us0:=by rw [<- hu0];exact ab.append (F9 dc _)
  have j:val b64 us0=x*2^s:=by rw [<- hu0,T8];exact R
  obtain ⟨nq,hnq⟩:∃ nq,an+1=nq+(mm+2):=⟨an+1-(mm+2),o⟩
  have eq:B7 (B7 ((an:Int)-(a.length:Int))+1)=(nq:Int):=by
   rw [B6 (n:=(an:Int)-(a.length:Int)) o o,B6 o o];omega
  rw [eq]
  refine I0 K0 o o o ?_
  intro bq g
  rw [aC]
  refine ⟨_,_,_,rfl,?_⟩
  have ad:h5=blk .u64 230 g3 bu us0:=by rw [w5.eq];simp [blk]
  subst ad
  have S:g3 bu=none:=w5.free
  have D:bu≠bq:=by
   rintro rfl
   unfold blk at g
   rw [B8] at g;cases g
  have O:g3 bq=none:=by
   have:=g
   unfold blk at this
   rwa [B4 _ _ D.symm] at this
  rw [hmm]
  refine Qi (us0:=us0) (N:=an+1) (xn:=an) S O D (sv.mono F) dv T.symm ae W X rfl q V j rfl hnq o o ?_ ?_
  ·have s1:=E5 b64 us0 (i:=nq) o
   have s2:=C3 dc (q.take nq)
   have s3:val b64 us0<b64^an*2^s:=by
    rw [j];exact bC u b
   have s4:b64^(mm+1)<=val b64 a:=by
    have:=aD (show 1<=(t:Int) from o) (aM f);omega
   have s5:b64^nq*(b64^(mm+1)*2^s)<=b64^nq*(val b64 a*2^s):=aG (aD s4 (aM b)) (aM (C9 dc nq))
   have s6:b64^nq*(b64^(mm+1)*2^s)=b64^an*2^s:=by
    rw [<- cY,<- aS,show nq+(mm+1)=an from o]
   by_cases c:val b64 (us0.drop nq)<val b64 a*2^s
   ·exact c
   ·have:=aG (show val b64 a*2^s<=val b64 (us0.drop nq) from o) (aM (C9 (B:=b64) dc nq));omega
  ·intro A5 m5 c5 A6 m6 c6 h6 l6 k5 k6 M5 M6
   exact hK _ _ _ _ _ _ _ (A0 l1 (A0 F l6)) k5 k6 M5 M6
end
def Rj{x a b p:Int}(h:a+p*b=x)(h0:0<=a)(h1:a<p):x/p=b/\x%p=a:=(Int.ediv_emod_unique o).2 ⟨h,h0,h1⟩
def Cy{P:dN}{h:bD}{A:Option bJ}{n m c s:Nat}{cs:List eA}(hl:cs.length=n*s)(hc:cs=[]\/∃ a,A=some a/\∀ j v,cs[j]? = some v->h.cell? (a.add j)=some v){K:Array eA->bD->Prop}(x:K cs.toArray h):
 wpH P (Builtin.firstCells s n (.slice A m c)) K h:=by
 cases A with
 | none=>
  rcases hc with rfl|⟨a,e,_⟩
  ·exact x
  ·cases e
 | some a=>
  show wpH P (loadCells a (n*s)) K h
  rcases hc with rfl|⟨b,e,hc⟩
  ·exact N6 (cs:=[]) hl.symm (fun j v e=>by simp at e) x
  ·cases e
   exact N6 hl.symm hc x
def A1m{P:dN}{t e ty:cD}{k:cW}{bytes:Nat}(s:SliceT P t e (.int k 0) 1 bytes){h g:bD}{b:Nat}{A:Option bJ}{pre post:List eA}{xs:List Int}{n c m d:Nat}(w:Win k h g b e A pre xs post)(hn:n=xs.length){B:Option bJ}{ys:List Int}(sy:SlI k h B ys)(hm:min m xs.length=ys.length){K:VP}
 (x:∀ h',Win k h' g b e A pre (ys++xs.drop ys.length) post->K (I ys.length) h'):wpH P (dM #[t,t] ty #[.slice A n c,.slice B m d]) K h:=by
 subst hn
 obtain ⟨i,r,y,l,p⟩:=s.parts
 unfold dM
 simp only [List.getElem?_toArray,aF,aH,C0,D3 s.und,H1 r,F3,Builtin.lenOf,l]
 have f:Nat.min m xs.length=ys.length:=hm
 rw [f]
 refine Cy (s:=1) (cs:=ys.map (bL k)) (by simp) sy ?_
 cases A with
 | none=>
  rcases w.at_ with j|j
  ·have:ys=[]:=aZ gz0
   subst this
   exact x h (by assumption)
  ·cases j
 | some a=>
  simp only [C0]
  rcases w.at_ with j|j
  ·have:ys=[]:=aZ gz0
   subst this
   exact x h (by assumption)
  ·cases j
   rw [w.eq]
   refine G1 (ys.map (bL k)) pre.length 0 (pre++xs.map (bL k)++post) gz0 (fun v q=>?_) ?_
   ·obtain ⟨u,_,rfl⟩:=List.mem_map.1 q;rfl
   ·refine x _ ⟨w.free,?_,?_⟩
    ·congr 3
     unfold H0
     rw [eE,bY pre,dC rfl,eV]
     rw [eR,aT (show pre.length<=pre.length+ys.length from o),fH,cF]
     rw [dA gz0,<- List.map_drop,eU]
     grind
    grind
section
variable {h g:bD} {K:VP} {A B:Option bJ} {ac bc:Nat}
def A2g(a n:Nat):(if (a:Int)<(n:Int) then (a:Int) else (n:Int))=((min n a:Nat):Int):=o
def Du{xs:List Int}(d:Dig b64 xs)(n:Nat):val b64 xs/b64^n=val b64 (xs.drop (min n xs.length))/\val b64 xs%b64^n=val b64 (xs.take (min n xs.length)):=by
 by_cases c:n<=xs.length
 ·rw [aI c]
  have e:=E5 b64 xs c
  have a:=C3 dc (d.take n)
  have b:=I6 dc (d.take n)
  rw [aJ,aI c] at b
  exact Rj e.symm a b
 ·rw [eP o,List.drop_length,bO]
  have a:=C3 dc d
  have b:=I6 dc d
  have f:=C7 (B:=b64) dc (show xs.length<=n from o)
  exact Rj (by simp [val]) a o
def Q5{x:Int}{an n:Nat}(ma:Mw h A an x)(ha:an<=ac)(hK:∀ A' m c',m<=c'->m<=an->Mw h A' m (x/b64^n)->K (.slice A' m c') h):aW prog 278 #[.slice A an ac,I n] h K:=by
 obtain ⟨a,rfl,d,b,e,rfl⟩:=ma
 refine (fnk func278) ?_
 rw [A2g,aC]
 refine ⟨⟨o,o⟩,hK _ _ _ o o ?_⟩
 rw [(Du b n).1,<- bZ]
 refine Mw.of (Lv d o ha) (b.drop _) ?_
 by_cases c:min n a.length<a.length
 ·exact Ei e c
 ·rw [aT o];exact Norm.nil
def Z7{x:Int}{an n:Nat}(ma:Mw h A an x)(ha:an<=ac)(hl:an<=100000000000000)(hK:∀ A' m c',m<=c'->m<=n->m<=an->Mw h A' m (x%b64^n)->K (.slice A' m c') h):aW prog 277 #[.slice A an ac,I n] h K:=by
 obtain ⟨b,rfl,c,a,d,rfl⟩:=ma
 refine (fnk func277) ?_
 rw [A2g,aC,F2,bU,bU]
 refine ⟨⟨o,o⟩,R6 (Cp c (m:=min n b.length) o ha) (a.take _) gz0 (Du a n).2.symm o o ?_⟩
 grind
def Bq{x y:Int}{an bn n:Nat}(ma:Mw h A an x)(mb:Mw h B bn y)(hbn:bn<=n)(hl:n+an<=34000000000000)(hK:∀ A' m c' h',h.le h'->m<=c'->Mw h' A' m (x*b64^n+y)->K (.slice A' m c') h'):aW prog 280 #[.slice A an ac,.slice B bn bc,I n] h K:=by
 obtain ⟨a,rfl,r,z,F,rfl⟩:=ma
 obtain ⟨f,rfl,p,t,D,rfl⟩:=mb
 refine (fnk func280) ?_
 have u:B7 ((n:Int)+a.length)=((n+a.length:Nat):Int):=by rw [B6 o o];omega
 rw [u]
 refine I0 K0 o o o ?_
 intro b k
 rw [aC]
 refine ⟨_,_,_,rfl,?_⟩
 have j:=Win.blk .u64 230 k (aE (n+a.length) 0)
 refine Ac K0 j gz0 (p.mono j.le) rfl gz0 ?_
 intro E d
 refine ⟨_,rfl,⟨o,o⟩,?_⟩
 rw [bH] at d
 generalize hz:f++aE (n+a.length-f.length) (0:Int)=zs at d
 have q:zs.length=n+a.length:=gz0
 have w:=d.sub (l:=n) (m:=n+a.length) (c:=n+a.length) o o o
 refine Ac K0 w gz0 (r.mono d.le) rfl gz0 ?_
 intro C i
 rw [aT gz0,bX] at i
 have e:=d.whole (l:=n) (m:=n+a.length) o o o i
 rw [aT (show zs.length<=n+a.length from o),bX] at e
 have g:zs.take n=f++aE (n-f.length) 0:=by
  rw [<- hz,List.take_append,aN o,cN]
  grind
 rw [g] at e
 refine ⟨_,rfl,R6 e.sl ((t.append (F9 dc _)).append z) gz0 rfl o o ?_⟩
 intro m s M
 refine ⟨_,_,_,rfl,hK _ _ _ _ e.le s ?_⟩
 rw [F0,T8] at M
 grind
def Zk{x y:Int}(hx:0<=x/\x<18446744073709551616)(hy:0<=y/\y<18446744073709551616)(hK:K (.tuple #[U (x*y/18446744073709551616),U (x*y%18446744073709551616)]) h):aW prog 155 #[U x,U y] h K:=by
 refine (fnk func155) ?_
 exact Ej hx hy ⟨_,_,rfl,hK⟩
def Qn{v:Int}{n:Nat}(s:SlI .u64 h A [v])(hn:0<n)(hl:n<=10000000000000)(hK:∀ A' h',h.le h'->SlI .u64 h' A' (aE n v)->K (.slice A' n n) h'):aW prog 287 #[.slice A 1 ac,I n] h K:=by
 refine (fnk func287 [(8,[8],[],[I 0])]) ?_
 refine B5 (fun d=>o) (fun _=>?_)
 rw [B9 (n:=((1:Nat):Int)) o o,B9 (n:=(n:Int)) o o]
 refine Zk o o ⟨_,_,rfl,?_⟩
 have y:((1:Nat):Int)*(n:Int)/18446744073709551616=0:=o
 have x:((1:Nat):Int)*(n:Int)%18446744073709551616=n:=o
 rw [y,x]
 refine B5 (fun d=>o) (fun _=>?_)
 refine B5 (fun d=>o) (fun _=>?_)
 rw [B6 (n:=(n:Int)) o o]
 refine I0 K0 o o o ?_
 intro b q
 refine ⟨_,_,_,rfl,?_⟩
 have j:=Win.blk .u64 230 q (aE n 0)
 refine Ac K0 j (by simp) (s.mono j.le) rfl gz0 ?_
 intro d f
 refine ⟨_,rfl,?_⟩
 rw [bH] at f
 refine ⟨fun l e=>∃ k:Nat,l=[I k]/\0<k/\k<=n/\Win .u64 e h b 230 (some ⟨b,0,none⟩) [] (aE k v++aE (n-k) 0) [],fun l _=>n-(iAt l 0).toNat,⟨1,rfl,o,hn,f⟩,?_⟩
 rintro i e ⟨k,B,t,a,w⟩
 obtain rfl:i=(k:Int):=gz0
 refine B5 (fun p=>?_) (fun p=>?_)
 ·have u:(aE k v++aE (n-k) (0:Int)).length=n:=gz0
  refine ⟨⟨o,o⟩,⟨o,o⟩,?_⟩
  simp only [aC,F2,bU]
  have C:=w.sub (l:=k) (m:=n) (c:=n) o o o
  have r:SlI .u64 e (some ⟨b,0,none⟩) (aE (min k (n-k)) v):=by
   have:=Cp w.sl (c:=n) (m:=min k (n-k)) o o
   grind
  refine A1m K0 C (by simp) r (by simp) ?_
  intro F g
  rw [bW] at g ⊢
  have D:=w.whole (l:=k) (m:=n) o o (by simp;omega) g
  have z:B7 ((k:Int)+(min k (n-k):Nat))=((k+min k (n-k):Nat):Int):=by rw [B6 o o];omega
  refine ⟨_,rfl,?_⟩
  rw [z]
  refine ⟨⟨_,rfl,o,o,?_⟩,?_⟩
  ·have E:(aE k v++aE (n-k) (0:Int)).take k++(aE (min k (n-k)) v++(aE (n-k) (0:Int)).drop (min k (n-k)))++(aE k v++aE (n-k) (0:Int)).drop n=aE (k+min k (n-k)) v++aE (n-(k+min k (n-k))) 0:=by
    rw [dC (by simp),aT (show (aE k v++aE (n-k) (0:Int)).length<=n from o),bX,bH,<- bY,cV]
    grind
   grind
  ·simp only [iAt,aF];omega
 ·have a:k=n:=o
  subst a
  have:=w.sl
  rw [Nat.sub_self,List.replicate_zero,bX] at this
  exact hK _ _ w.le this
end
def Mw.high{h:bD}{A:Option bJ}{an ac k:Nat}{x:Int}(ma:Mw h A an x)(ha:an<=ac)(hk:k<=an):Mw h (N3 A ac k 1) (an-k) (x/b64^k):=by
 obtain ⟨c,rfl,d,b,f,rfl⟩:=ma
 have e:=(Du b k).1
 rw [aI hk] at e
 rw [e,<- bZ]
 refine Mw.of (Lv d hk ha) (b.drop _) ?_
 by_cases a:k<c.length
 ·exact Ei f a
 ·rw [aT o];exact Norm.nil
def A0g{x P X2 yh top:Int}(hP:0<P)(h1:x<P*P*(X2+1))(h2:P*top<=x)(hlt:X2<yh):top<P*yh:=by
 by_cases a:top<P*yh
 ·exact a
 ·have t1:P*(P*yh)<=P*top:=aG o o
  have b:P*P*(X2+1)<=P*P*yh:=aG o (aO o o)
  grind
def A0h{x P X2 yh top:Int}(hP:0<P)(h1:P*P*X2<=x)(h2:x<P*(top+1))(hge:yh<=X2):P*yh<=top:=by
 by_cases a:P*yh<=top
 ·exact a
 ·have t1:P*(top+1)<=P*(P*yh):=aG o o
  have b:P*P*yh<=P*P*X2:=aG o (aO o o)
  grind
def A2w(N:Nat):Prop:=∀ {h:bD} {K:VP} {A B:Option bJ} {ac bc an bn:Nat} {x y:Int},bn<=N->Mw h A an x->Mw h B bn y->an<=ac->bn<=bc->an<=19000000000000->bn<=9300000000000->0<bn->9223372036854775808*b64^(bn-1)<=y->x<b64^bn*y->
 (∀ A1 m1 c1 A2 m2 c2 h',h.le h'->m1<=c1->m2<=c2->Mw h' A1 m1 (x/y)->Mw h' A2 m2 (x%y)->K (.tuple #[.slice A1 m1 c1,.slice A2 m2 c2]) h')->aW prog 279 #[.slice A an ac,.slice B bn bc] h K
section
variable {h g:bD} {K:VP} {A B:Option bJ} {ac bc:Nat}
def Cq{x y:Int}:Jh x y<0↔x<y:=by
 unfold Jh
 omega
set_option maxHeartbeats 1000000 in
def Qe{x y q0 R0 pr:Int}{m bn nq cq np cp nr cr:Nat}{Aq Ap Ar:Option bJ}(hx0:0<=x)(mb:Mw h B bn y)(hb:bn<=bc)(hl2:bn<=9300000000000)(hbm:bn=2*m)(mq:Mw h Aq nq q0)(hq:nq<=cq)(mp:Mw h Ap np pr)(hp2:pr<b64^bn)
 (mr:Mw h Ar nr R0) (hr:nr<=cr) (hq0:q0<b64^m) (hR:R0-pr=x-q0*y) (hy:x-q0*y<y)
 (hK:∀ A1 m1 c1 A2 m2 c2 h',h.le h'->m1<=c1->m2<=c2->Mw h' A1 m1 (x/y)->Mw h' A2 m2 (x%y)->K (.tuple #[.slice A1 m1 c1,.slice A2 m2 c2]) h'):
 R3 prog B bn bc K Aq nq cq Ap np cp Ar nr cr h:=by
 have L:=mb.lt dc
 have N:=mb.nonneg dc
 have G:=mp.nonneg dc
 unfold R3
 refine ⟨fun l c=>∃ (Aq Ar:Option bJ) (nq cq nr cr:Nat) (q R:Int),l=[.slice Aq nq cq,.slice Ar nr cr]/\h.le c/\Mw c Aq nq q/\nq<=cq/\Mw c Ar nr R/\nr<=cr/\q<b64^m/\R-pr=x-q*y/\x-q*y<y,fun l c=>match l with|[.slice A n _,_]=>Xu b64 c A n|_=>0,⟨_,_,_,_,_,_,_,_,rfl,B3 h,mq,hq,mr,hr,hq0,hR,hy⟩,?_⟩
 rintro A1 M c1 A2 O c2 c ⟨Aq,Ar,nq,cq,nr,cr,q,R,t,e,mq,hq,mr,hr,hq0,hR,hy⟩
 simp only [cG,cT,and_true] at t
 obtain ⟨⟨rfl,rfl,rfl⟩,rfl,rfl,rfl⟩:=t
 have C:O<=bn+1:=mr.len_le dc (by
  rw [bB]
  show R<b64^bn*18446744073709551616
  omega)
 have H:M<=m:=mq.len_le dc hq0
 refine H2 mr (mp.mono e) o ⟨_,rfl,?_⟩
 refine B5 (fun g=>?_) (fun g=>?_)
 ·rw [Cq] at g
  have w:=mq.nonneg dc
  have r:1<=q:=by
   by_cases Q:1<=q
   ·exact Q
   ·obtain rfl:q=0:=o
    omega
  refine O3 mr (mb.mono e) hr hb o o ?_
  intro A3 z F j d f M3
  refine ⟨_,_,_,rfl,N9 K0 rfl ?_⟩
  intro b k
  refine ⟨_,_,_,rfl,?_⟩
  have i:=Heap.le_put (.cells #[U 1] 230) k
  have M1:Mw (j.put b (.cells #[U 1] 230)) (some ⟨b,0,none⟩) 1 1:=⟨[1],rfl,SlI.new j b [1] 230 _,Dig.one dc,by simp [fI],O5 _ _⟩
  refine I5 ((mq.mono d).mono i) M1 hq o r ?_
  intro A5 S V T s E M5
  refine ⟨_,_,_,rfl,⟨_,_,_,_,_,_,_,_,rfl,A0 e (A0 d (A0 i s)),M5,E,(M3.mono i).mono s,f,o,?_,?_⟩,?_⟩
  ·rw [Int.sub_mul];omega
  ·rw [Int.sub_mul];omega
  ·simp only [R1 M5,R1 mq];omega
 ·rw [Cq] at g
  refine I5 mr (mp.mono e) hr o o ?_
  intro A3 z F j d f M3
  obtain ⟨D,u⟩:=Rj (x:=x) (a:=R-pr) (b:=q) (p:=y) (by rw [hR,aU y];omega) o o
  refine ⟨_,_,_,rfl,hK _ _ _ _ _ _ _ (A0 e d) hq f ?_ ?_⟩
  ·rw [D];exact mq.mono d
  ·rw [u];exact M3
set_option maxHeartbeats 1000000 in
def Ht{N:Nat}(ih:A2w N){x y:Int}{an bn m:Nat}(hm:0<m)(hN:m<=N)(hbm:bn=2*m)(ma:Mw h A an x)(mb:Mw h B bn y)(ha:an<=ac)(hb:bn<=bc)(hl:an<=19000000000000)(hl2:bn<=9300000000000)(htop:9223372036854775808*b64^(bn-1)<=y)(hxy:x<b64^m*y)
 (hK:∀ A1 m1 c1 A2 m2 c2 h',h.le h'->m1<=c1->m2<=c2->Mw h' A1 m1 (x/y)->Mw h' A2 m2 (x%y)->K (.tuple #[.slice A1 m1 c1,.slice A2 m2 c2]) h'):aW prog 286 #[.slice A an ac,.slice B bn bc] h K:=by
 have ae:=ma.nonneg dc
 have a3:=mb.nonneg dc
 have am:=mb.lt dc
 have i:=C9 (B:=b64) dc m
 have aj:b64^bn=b64^m*b64^m:=by rw [<- aS];congr 1;omega
 have p:b64^(2*m)=b64^m*b64^m:=by rw [<- aS];congr 1;omega
 have ao:b64^(bn-1)=b64^m*b64^(m-1):=by rw [<- aS];congr 1;omega
 have aw:an<=m+bn:=ma.len_le dc (by
  have t1:b64^m*y<b64^m*b64^bn:=bM am i
  rw [aS];omega)
 have a:=mb.high (k:=m) hb o
 rw [show bn-m=m from o] at a
 have d:=a.nonneg dc
 have au:=a.lt dc
 have dy:b64^m*(y/b64^m)+y%b64^m=y:=aL _ _
 have T:=aP y (b:=b64^m) o
 have a0:=aK y i
 have dx:b64^m*(x/b64^m)+x%b64^m=x:=aL _ _
 have a2:=aP x (b:=b64^m) o
 have a9:=aK x i
 have ay:=C9 (B:=b64) dc (m-1)
 have ad:9223372036854775808*b64^(m-1)<=y/b64^m:=by
  by_cases hc:9223372036854775808*b64^(m-1)<=y/b64^m
  ·exact hc
  ·have t1:b64^m*(y/b64^m+1)<=b64^m*(9223372036854775808*b64^(m-1)):=aG o o
   have M:b64^m*(9223372036854775808*b64^(m-1))=9223372036854775808*(b64^m*b64^(m-1)):=gz0
   rw [ao] at htop
   rw [dB] at t1
   omega
 obtain ⟨ys,ak,sy,e,V,rfl⟩:=mb
 have mb:Mw h B bn (val b64 ys):=⟨ys,ak,sy,e,V,rfl⟩
 generalize hyv:val b64 ys=y at *
 refine Hf _ _ _ _ _ _ ?_
 unfold Fb
 have eh:B7 (cI ((bn:Nat):Int) 2)=(m:Int):=by rw [aX o,B6 o o];omega
 have X:B7 (2*(m:Int))=((2*m:Nat):Int):=by rw [B6 o o];omega
 simp only [eh,X,aC,bU,F2]
 rw [show bn-m=m from o]
 refine ⟨⟨o,o⟩,⟨o,o⟩,R6 (Cp sy (m:=m) (c:=bc) o o) (e.take m) (by rw [aJ];omega) rfl o o ?_⟩
 intro yn a6 Myl
 have s:=(Du e m).2
 rw [aI o,hyv] at s
 rw [<- s] at Myl
 refine ⟨_,_,_,rfl,B3 h,Q5 ma ha ?_⟩
 intro A1 n1 c1 k1 a5 M1
 refine ⟨_,_,_,rfl,?_⟩
 have D:=M1.nonneg dc
 refine ⟨fun l R=>∃ (Aq Ar:Option bJ) (Q cq S cr:Nat) (q r:Int),l=[.slice Aq Q cq,.slice Ar S cr]/\h.le R/\Mw R Aq Q q/\Q<=cq/\Mw R Ar S r/\S<=cr/\q<b64^m/\x/b64^m=q*(y/b64^m)+r/\x-q*y<y,?_,?_⟩
 ·refine Q5 ma ha ?_
  intro A2 n2 c2 k2 a4 M2
  refine ⟨_,_,_,rfl,H2 M2 a o ⟨_,rfl,?_⟩⟩
  have aq:b64^(2*m)*(x/b64^(2*m))+x%b64^(2*m)=x:=aL _ _
  have ab:=aP x (b:=b64^(2*m)) (by have:=C9 (B:=b64) dc (2*m);omega)
  have aa:=aK x (C9 (B:=b64) dc (2*m))
  generalize x/b64^(2*m)=X2 at *
  rw [p] at aq ab aa
  refine B5 (fun O=>?_) (fun O=>?_)
  ·rw [Cq] at O
   have W:=A0g (x:=x) (top:=x/b64^m) i (by rw [dB];omega) o O
   refine ih hN M1 a k1 o o o hm ad W ?_
   intro A3 n3 c3 A4 n4 c4 h3 n k3 k4 M3 M4
   have G:0<y/b64^m:=o
   have d1:=aL (x/b64^m) (y/b64^m)
   have d2:=aK (x/b64^m) G
   have d0:=M3.nonneg dc
   refine ⟨_,_,_,_,_,_,rfl,_,_,_,_,_,_,_,_,rfl,n,M3,k3,M4,k4,aY G W,by rw [aU];omega,?_⟩
   generalize (x/b64^m)/(y/b64^m)=q at *
   generalize (x/b64^m)%(y/b64^m)=r at *
   generalize x/b64^m=top at *
   generalize y/b64^m=yh at *
   generalize y%b64^m=yl at *
   generalize x%b64^m=xl at *
   generalize b64^m=P at *
   have t1:P*(r+1)<=P*yh:=aG o o
   have M:x-q*y=P*r+xl-q*yl:=by rw [<- dx,<- dy,<- d1];grind
   have t3:=aO d0 T
   rw [dB] at t1
   omega
  ·rw [Cq] at O
   have W:=A0h (x:=x) (top:=x/b64^m) (yh:=y/b64^m) (X2:=X2) i o (by rw [dB];omega) o
   refine N9 K0 rfl ?_
   intro b ah
   refine ⟨_,_,_,rfl,?_⟩
   have l4:=Heap.le_put (.cells #[U 18446744073709551615] 230) ah
   refine Qn (v:=18446744073709551615) (SlI.new h b [18446744073709551615] 230 _) hm o ?_
   intro A5 h5 u s5
   refine ⟨_,_,_,rfl,?_⟩
   have H:=A0 l4 u
   refine Bq (a.mono H) (Mag.zero (k:=.u64) (B:=b64)) o o ?_
   intro A6 n6 c6 h6 l6 k6 M6
   refine ⟨_,_,_,rfl,?_⟩
   have g:=A0 H l6
   refine I5 (M1.mono g) M6 k1 o (by rw [aU];omega) ?_
   intro A7 n7 c7 h7 t k7 M7
   have a7:n7<=an:=M7.len_le dc (by
    have:=ma.lt dc
    have t1:=aO d (aM i)
    have M:1*(x/b64^m)<=b64^m*(x/b64^m):=aD o D
    omega)
   refine ⟨_,_,_,rfl,?_⟩
   refine O3 M7 ((a.mono g).mono t) k7 o o o ?_
   intro A8 n8 c8 h8 l8 k8 M8
   have C:∀ j:Nat,val b64 (aE j 18446744073709551615)=b64^j-1:=by
    intro j
    induction j with
    | zero=>rfl
    | succ j ihj=>
     rw [List.replicate_succ,val,ihj,bB]
     show (18446744073709551615:Int)+18446744073709551616*(b64^j-1)=b64^j*18446744073709551616-1
     omega
   have M5:Mw h5 A5 m (b64^m-1):=by
    refine ⟨aE m 18446744073709551615,by simp,s5,?_,?_,C m⟩
    ·intro z hz
     have:=List.eq_of_mem_replicate hz
     subst this;decide
    ·obtain ⟨j,rfl⟩:∃ j,m=j+1:=⟨m-1,o⟩
     unfold fI
     rw [List.replicate_succ']
     simp
   refine ⟨_,_,_,rfl,_,_,_,_,_,_,_,_,rfl,A0 g (A0 t l8),((M5.mono l6).mono t).mono l8,aV _,M8,k8,o,?_,?_⟩
   ·grind
   ·have:(b64^m-1)*y=b64^m*y-y:=gz0
    omega
 ·rintro Aq' ag az Ar' ai av R ⟨Aq,Ar,Q,cq,S,cr,q,r,E,lh,L,hq,mr,hr,f,af,al⟩
  simp only [cG,cT,and_true] at E
  obtain ⟨⟨rfl,rfl,rfl⟩,rfl,rfl,rfl⟩:=E
  have w:=L.nonneg dc
  have a1:=mr.nonneg dc
  have a8:ag<=m:=L.len_le dc f
  have ax:ai<=an:=mr.len_le dc (by
   have:=ma.lt dc
   have t1:=aO w d
   have M:1*(x/b64^m)<=b64^m*(x/b64^m):=aD o D
   omega)
  refine F5 L (Myl.mono lh) hq o o o ?_
  intro A3 n3 c3 h3 n k3 M3
  refine ⟨_,_,_,rfl,Z7 (ma.mono (A0 lh n)) ha o ?_⟩
  intro A4 n4 c4 k4 ap ar M4
  refine ⟨_,_,_,rfl,Bq (mr.mono n) M4 ap o ?_⟩
  intro A5 n5 c5 h5 u k5 M5
  have F:=A0 lh (A0 n u)
  refine ⟨_,_,_,rfl,Qe (q0:=q) (m:=m) ae (mb.mono F) hb hl2 hbm ((L.mono n).mono u) hq (M3.mono u) ?_ M5 k5 f ?_ al ?_⟩
  ·rw [aj]
   have t1:q*(y%b64^m)<=q*b64^m:=aG o w
   have M:q*b64^m<b64^m*b64^m:=bC f i
   omega
  ·generalize x/b64^m=top at *
   generalize y/b64^m=yh at *
   generalize y%b64^m=yl at *
   generalize x%b64^m=xl at *
   generalize b64^m=P at *
   rw [<- dx,<- dy,af];grind
  ·intro A6 n6 c6 A7 n7 c7 h7 t k6 k7 M6 M7
   exact hK _ _ _ _ _ _ _ (A0 F t) k6 k7 M6 M7
end
set_option maxHeartbeats 1000000 in
def A6x:∀ N,A2w N:=by
 intro N
 induction N with
 | zero=>intro h K A B T H X d x y V _ _ _ _ _ _ u;omega
 | succ N ih=>
  intro h K A B T H X d x y hN k g C n hl j ad f i W
  have aa:=k.nonneg dc
  have ag:=g.nonneg dc
  have e:0<y:=by
   have:=C9 (B:=b64) dc (d-1);omega
  refine (fnk func279) ?_
  have c:aW prog 260 #[.slice A X T,.slice B d H] h (fun r hp=>∃ (t22aA:Option bJ) (t22an:Nat) (t22ac:Nat) (t22bA:Option bJ) (t22bn:Nat) (t22bc:Nat),r= .tuple #[.slice t22aA t22an t22ac,.slice t22bA t22bn t22bc]/\K (.tuple #[.slice t22aA t22an t22ac,.slice t22bA t22bn t22bc]) hp):=by
   refine X3 k g C n o o o ?_
   intro A1 m1 c1 A2 m2 c2 h' l D M M1 M2
   exact ⟨_,_,_,_,_,_,rfl,W _ _ _ _ _ _ _ l D M M1 M2⟩
  refine B5 (fun V=>c) (fun V=>?_)
  refine K8 (fun u=>c) (fun u=>?_)
  rw [dE o] at u
  obtain ⟨m,hbm⟩:∃ m,d=2*m:=⟨d/2,o⟩
  have eh:B7 (cI ((d:Nat):Int) 2)=(m:Int):=by rw [aX o,B6 o o];omega
  simp only [eh]
  have S:=C9 (B:=b64) dc m
  have w:b64^d=b64^m*b64^m:=by rw [<- aS];congr 1;omega
  have dx:b64^m*(x/b64^m)+x%b64^m=x:=aL _ _
  have af:=aP x (b:=b64^m) o
  have aj:=aK x S
  rw [w] at i
  refine Q5 k C ?_
  intro A1 n1 c1 D ah M1
  refine ⟨_,_,_,rfl,?_⟩
  have G:x/b64^m<b64^m*y:=by
   by_cases hc:x/b64^m<b64^m*y
   ·exact hc
   ·have t1:b64^m*(b64^m*y)<=b64^m*(x/b64^m):=aG o o
    rw [cY] at i
    omega
  refine Ht ih o o hbm M1 g D n o j f G ?_
  intro A2 n2 c2 A3 n3 c3 h3 q M k3 M2 M3
  refine ⟨_,_,_,_,_,_,rfl,Z7 (k.mono q) C o ?_⟩
  intro A4 n4 c4 k4 F Q M4
  have d1:=aL (x/b64^m) y
  have d2:=aK (x/b64^m) e
  have d3:=aP (x/b64^m) (b:=y) o
  have E:x/b64^m/y<b64^m:=aY e G
  have ab:n3<=d:=M3.len_le dc (by have:=g.lt dc;omega)
  have ai:n2<=m:=M2.len_le dc E
  refine ⟨_,_,_,rfl,Bq M3 M4 F o ?_⟩
  intro A5 n5 c5 h5 s k5 M5
  refine ⟨_,_,_,rfl,?_⟩
  have O:(x/b64^m)%y*b64^m+x%b64^m<b64^m*y:=by
   have t1:b64^m*((x/b64^m)%y+1)<=b64^m*y:=aG o o
   rw [dB,aU] at t1
   omega
  have ae:n5<=d+m:=M5.len_le dc (by
   have t1:b64^m*y<b64^m*b64^d:=bM (g.lt dc) S
   rw [Nat.add_comm,aS];omega)
  refine Ht ih o o hbm M5 (g.mono (A0 q s)) k5 n o j f O ?_
  intro A6 n6 c6 A7 n7 c7 h7 L k6 k7 M6 M7
  have z:n6<=m:=M6.len_le dc (aY e O)
  refine ⟨_,_,_,_,_,_,rfl,Bq ((M2.mono s).mono L) M6 z o ?_⟩
  intro A8 n8 c8 h8 R k8 M8
  refine ⟨_,_,_,rfl,?_⟩
  have e1:=aL ((x/b64^m)%y*b64^m+x%b64^m) y
  have e2:=aK ((x/b64^m)%y*b64^m+x%b64^m) e
  have e3:=aP ((x/b64^m)%y*b64^m+x%b64^m) (b:=y) o
  have M7':=M7.mono R
  have t:=A0 q (A0 s (A0 L R))
  generalize ((x/b64^m)%y*b64^m+x%b64^m)/y=q2 at *
  obtain ⟨f1,f2⟩:=Rj (x:=x) (a:=((x/b64^m)%y*b64^m+x%b64^m)%y) (b:=x/b64^m/y*b64^m+q2) (p:=y) (by
   generalize ((x/b64^m)%y*b64^m+x%b64^m)%y=r2 at *
   generalize x/b64^m/y=q1 at *
   generalize x/b64^m%y=r1 at *
   generalize x/b64^m=top at *
   generalize x%b64^m=xl at *
   generalize b64^m=P at *
   grind) e3 e2
  refine W _ _ _ _ _ _ _ t k8 k7 ?_ ?_
  ·rw [f1];exact M8
  ·rw [f2];exact M7'
def Kb{ys:List Int}{k t s:Nat}(dy:Dig b64 ys)(hk:ys.length=k+1)(ht:ys.getD k 0=(t:Int))(ht0:t≠0)(hs:s=64-K3 t):s<64/\val b64 ys*2^s<b64^(k+1)/\9223372036854775808*b64^k<=val b64 ys*2^s:=by
 have u:=J3 dy k
 obtain ⟨d,a⟩:=S2 (B:=b64) dc dy (m:=k) hk
 rw [ht] at u d a
 obtain ⟨p,n⟩:=Y2 ht0
 have l:K3 t<=64:=By (k:=64) o
 have q:1<=K3 t:=gz0
 have f:s<64:=o
 have b:0<(2:Int)^s:=bI dc
 have g:=Q6 (s:=s) o
 have j:(t:Int)+1<=2^(64-s):=by
  grind
 have i:(2:Int)^(63-s)<=t:=by
  grind
 have e:(2:Int)^s*2^(63-s)=9223372036854775808:=by
  rw [<- aS,show s+(63-s)=63 from o];decide
 have c:=C9 (B:=b64) dc k
 refine ⟨f,?_,?_⟩
 ·have r:val b64 ys*2^s<((t:Int)+1)*b64^k*2^s:=bC d b
  have w:((t:Int)+1)*2^s*b64^k<=18446744073709551616*b64^k:=by
   apply aD _ (aM c)
   rw [<- g,aU (2^s)]
   exact aD j (aM b)
  grind
 ·have t1:(t:Int)*b64^k*2^s<=val b64 ys*2^s:=aD a (aM b)
  have r:9223372036854775808*b64^k<=(t:Int)*2^s*b64^k:=by
   apply aD _ (aM c)
   rw [<- e,aU (t:Int)]
   exact aG i o
  grind
section
variable {h g:bD} {K:VP} {A B:Option bJ} {ac bc:Nat}
set_option maxHeartbeats 1000000 in
def Rp{D V a b:Int}{S sh dn dc vc bn bq:Nat}{pieces t46:Int}{DA VA:Option bJ}(hS:B7 ((B7 (cI (B7 ((B7 (((bn:Nat):Int)+pieces))-(1:Int))) pieces))*pieces)=(S:Int))
 (hsh:C1 (B7 ((B7 ((64:Int)*(B7 ((S:Int)-((bn:Nat):Int)))))+t46))=(sh:Int)) (hS0:0<S) (hS2:S<=9300000000000) (hsh2:sh<=100000000000000) (hb:h bq=none) (hD:Mw h DA dn D) (hdc:dn<=dc) (hdn:0<dn) (hdl:dn<=9400000000000) (hV:Mw h VA S V) (hvc:S<=vc) (hVt:9223372036854775808*b64^(S-1)<=V)
 (hDa:D=a*2^sh) (hVb:V=b*2^sh)
 (hK:∀ A1 m1 c1 A2 m2 c2 h',h.le h'->m1<=c1->m2<=c2->Mw h' A1 m1 (a/b)->Mw h' A2 m2 (a%b)->K (.tuple #[.slice A1 m1 c1,.slice A2 m2 c2]) h'):
 R5 prog bn K pieces t46 VA S vc DA dn dc (some ⟨bq,0,none⟩) (dn+S) (dn+S) (blk .u64 230 h bq (aE (dn+S) 0)):=by
 have M:=hD.nonneg (by decide)
 have aj:=hD.lt (by decide)
 have L:=hV.lt (by decide)
 have q:0<V:=by have:=C9 (B:=b64) (by decide) (S-1);omega
 have hp:0<(2:Int)^sh:=bI (by decide)
 have hQ:=C9 (B:=b64) (by decide) S
 unfold R5
 simp only [hS,hsh]
 obtain ⟨nb,hnb⟩:∃ nb,nb=(dn-1)/S:=⟨_,rfl⟩
 have al:nb*S<=dn-1:=by rw [hnb];exact Nat.div_mul_le_self _ _
 have ak:dn-1<nb*S+S:=by
  have R:=dU (dn-1) S
  have h2:=fA (dn-1) hS0
  rw [<- hnb,fK] at R
  omega
 have e1:B7 (B7 (cI (B7 ((dn:Int)-1)) (S:Int))*(S:Int))=((nb+1:Nat):Int)*S-S:=by
  rw [B6 (n:=(dn:Int)-1) o o,show (dn:Int)-1=((dn-1:Nat):Int) from o,<- Int.ofNat_tdiv,<- hnb]
  have:nb<=dn-1:=by rw [hnb];exact dT _ _
  have T:(nb:Int)*(S:Int)=((nb*S:Nat):Int):=by simp
  rw [B6 (n:=(nb:Int)) o o,T,B6 o o,Int.natCast_add,Int.add_mul,T]
  omega
 refine ⟨fun l hp=>∃ (j n c:Nat) (A:Option bJ) (d:List Int) (r:Int) (g:bD),l=[.slice A n c,I ((j:Int)*S-S)]/\h.le g/\j*S+d.length=dn+S/\Dig b64 d/\Win .u64 hp g bq 230 (some ⟨bq,0,none⟩) [] (aE (j*S) 0++d) []/\Mw g A n r/\n<=c/\r=(D/b64^(j*S))%V/\val b64 d=(D/b64^(j*S))/V,fun l _=>(iAt l 1+S).toNat,⟨nb+1,0,0,none,aE (dn-1+1-nb*S) 0,0,h,by rw [e1],B3 h,?_,F9 (by decide) _,?_,Mag.zero,aV _,?_,?_⟩,?_⟩
 ·rw [bW,dI,dH];omega
 ·rw [cV,show (nb+1)*S+(dn-1+1-nb*S)=dn+S by rw [dI,dH];omega]
  exact Win.blk .u64 230 hb _
 ·have:=C7 (B:=b64) (by decide) (show dn<=(nb+1)*S by rw [dI,dH];omega)
  rw [bG M o,fF]
 ·have:=C7 (B:=b64) (by decide) (show dn<=(nb+1)*S by rw [dI,dH];omega)
  rw [bG M o,Int.zero_ediv,S9]
 rintro A1 n1 c1 st a0 ⟨j,n,c,A',d,r,g,N,lg,t,H,w,Mr,av,y,f⟩
 simp only [cG,cT,eS,and_true,true_and] at N
 obtain ⟨⟨rfl,rfl,rfl⟩,rfl⟩:=N
 refine B5 (fun R=>?_) (fun R=>?_)
 ·obtain ⟨i,rfl⟩:∃ i,j=i+1:=⟨j-1,by
   rcases j with _|j
   ·simp at R;omega
   ·rfl⟩
  obtain ⟨e,he⟩:∃ e,e=i*S:=⟨_,rfl⟩
  have C:(i+1)*S=e+S:=by rw [he,dI,dH]
  have ae:((i+1:Nat):Int)*(S:Int)-(S:Int)=(e:Int):=by rw [<- bV,C];omega
  rw [C] at t w y f
  rw [ae]
  have a1:=C9 (B:=b64) (by decide) e
  refine w.call (Q5 (hD.mono lg) hdc ?_)
  intro A2 n2 c2 k2 az M2 h2 w2
  refine ⟨_,_,_,rfl,w2.call (Z7 M2 k2 o ?_)⟩
  intro A3 n3 c3 k3 ag ai M3 T w3
  have au:=Mr.nonneg (by decide)
  have am:r<V:=by rw [y];exact aK _ q
  have an:n1<=S:=Mr.len_le (by decide) o
  refine ⟨_,_,_,rfl,w3.call (Bq Mr M3 ag o ?_)⟩
  intro A4 n4 c4 g4 l4 k4 M4 h4 w4
  have ab:D/b64^(e+S)=D/b64^e/b64^S:=by rw [aS,dP o]
  rw [ab] at y f
  have dm:=aL (D/b64^e) (b64^S)
  have ar:=aP (D/b64^e) (b:=b64^S) o
  have ax:=aK (D/b64^e) hQ
  generalize hD1:D/b64^e=D1 at *
  have s:r*b64^S+D1%b64^S<b64^S*V:=by
   have t1:b64^S*(r+1)<=b64^S*V:=aG o o
   rw [dB,aU] at t1
   omega
  have ay:n4<=S+S:=M4.len_le (by decide) (by
   have t1:b64^S*V<b64^S*b64^S:=bM L hQ
   rw [aS];omega)
  have z:=A0 lg l4
  refine ⟨_,_,_,rfl,w4.call (A6x S (aV _) M4 (hV.mono z) k4 hvc o hS2 hS0 hVt s ?_)⟩
  intro A5 n5 c5 A6 n6 c6 g6 l6 k5 k6 M5 M6 h6 X
  have aq:n5<=S:=M5.len_le (by decide) (aY q s)
  refine ⟨_,_,_,_,_,_,rfl,⟨o,o⟩,?_⟩
  rw [aC]
  have ac:aE (e+S) (0:Int)++d=aE e 0++(aE S 0++d):=by rw [<- bY,cV]
  rw [ac] at X
  have ao:(aE e (0:Int)++(aE S 0++d)).length=dn+S:=by simp only [aR,bW];omega
  have w7:=X.sub (l:=e) (m:=dn+S) (c:=dn+S) o o o
  have e7:((aE e (0:Int)++(aE S 0++d)).drop e).take (dn+S-e)=aE S 0++d:=by
   rw [eX (by simp),aN (by simp only [aR,bW];omega)]
  rw [e7] at w7
  obtain ⟨u,E,ad,ah,aw,G⟩:=M5
  refine Ac K0 w7 (by simp only [aR,bW];omega) (ad.mono X.le) E (by simp only [aR,bW];omega) ?_
  intro h8 w8
  rw [dA (by simp;omega),bH,<- bY u] at w8
  have k:(u++aE (S-u.length) (0:Int)).length=S:=by simp;omega
  have w9:=X.whole (l:=e) (m:=dn+S) o o (by rw [aR,k];omega) w8
  rw [dC (by simp),aT (show (aE e (0:Int)++(aE S 0++d)).length<=dn+S from o),bX] at w9
  have e8:B7 ((e:Int)-(S:Int))=((i:Nat):Int)*S-S:=by
   rw [B6 o o,he,bV]
  have ap:=aL (r*b64^S+D1%b64^S) V
  have F:=aP (r*b64^S+D1%b64^S) (b:=V) o
  have O:=aK (r*b64^S+D1%b64^S) q
  have aa:=aL (D1/b64^S) V
  rw [<- y,<- f] at aa
  obtain ⟨f1,f2⟩:=Rj (x:=D1) (a:=(r*b64^S+D1%b64^S)%V) (b:=val b64 u+b64^S*val b64 d) (p:=V) (by
   rw [G]
   generalize (r*b64^S+D1%b64^S)%V=r2 at *
   generalize hq2:(r*b64^S+D1%b64^S)/V=q2 at *
   generalize D1%b64^S=bl at *
   generalize D1/b64^S=D2 at *
   generalize b64^S=Q at *
   generalize val b64 d=W at *
   grind) F O
  refine ⟨_,rfl,?_⟩
  rw [e8]
  refine ⟨⟨i,_,_,_,(u++aE (S-u.length) 0)++d,_,g6,rfl,A0 z l6,?_,?_,?_,M6,k6,?_,?_⟩,?_⟩
  ·rw [aR,k];omega
  ·exact (ah.append (F9 (by decide) _)).append H
  ·rw [<- he];exact w9
  ·rw [<- he,hD1,f2]
  ·rw [<- he,hD1,f1,F0,k,T8]
  ·simp only [iAt,aH,aF]
   rw [<- bV,<- he]
   omega
 ·obtain rfl:j=0:=by
   rcases j with _|j
   ·rfl
   ·rw [<- bV,dI,dH] at R
    omega
  rw [fJ,List.replicate_zero,cF] at w
  rw [fJ,fP,Int.ediv_one] at y f
  rw [fJ,Nat.zero_add] at t
  have af:0<b:=by
   by_cases hc:0<b
   ·exact hc
   ·have:=aD (show b<=0 from o) (aM hp);omega
  obtain ⟨f1,f2⟩:=Rj (x:=D) (a:=(a%b)*2^sh) (b:=a/b) (p:=V) (by
   have:=aL a b
   rw [hDa,hVb]
   conv=>rhs;rw [<- this]
   grind) (aO (aP _ o) o) (by rw [hVb];exact bC (aK _ af) hp)
  refine R6 w.sl H t.symm f o o ?_
  intro m2 k2 M2
  refine ⟨_,_,_,rfl,?_⟩
  refine Af (Mr.mono w.le) (by have:=Mr.len_le (j:=S) (by decide) (by have:=aK D q;omega);omega) o ?_
  intro A3 n3 c3 T l3 k3 M3
  rw [y,f2,eD _ o] at M3
  rw [f1] at M2
  exact ⟨_,_,_,rfl,hK _ _ _ _ _ _ _ (A0 lg (A0 w.le l3)) k2 k3 (M2.mono l3) M3⟩
set_option maxHeartbeats 1000000 in
def Fz{x y:Int}{an bn:Nat}(ma:Mw h A an x)(mb:Mw h B bn y)(ha:an<=ac)(hbc:bn<=bc)(hl:an<=9000000000000)(hl2:bn<=9000000000000)(ha0:0<an)(hb0:0<bn)
 (hK:∀ A1 m1 c1 A2 m2 c2 h',h.le h'->m1<=c1->m2<=c2->Mw h' A1 m1 (x/y)->Mw h' A2 m2 (x%y)->K (.tuple #[.slice A1 m1 c1,.slice A2 m2 c2]) h'):aW prog 259 #[.slice A an ac,.slice B bn bc] h K:=by
 have ah:=ma.nonneg dc
 have ad:=ma.len_zero dc
 have j:=ma.lt dc
 refine Hh _ _ _ _ _ _ ?_
 unfold Fd Cd
 refine ⟨fun l hp=>hp=h/\∃ p:Nat,l=[I p]/\0<p/\p<=bn/\(p=1\/39*p<=bn),fun l _=>bn-(iAt l 0).toNat,⟨rfl,1,rfl,o,o,.inl rfl⟩,?_⟩
 rintro w hp ⟨rfl,p,T,m,aa,W⟩
 obtain rfl:=sI1 T
 have e1:B7 (cI (B7 (B7 ((bn:Int)+(p:Int))-1)) (p:Int))=(((bn+p-1)/p:Nat):Int):=by
  rw [B6 (n:=(bn:Int)+p) o o,B6 (n:=(bn:Int)+p-1) o o,show (bn:Int)+p-1=((bn+p-1:Nat):Int) from o,<- Int.ofNat_tdiv]
  have:(bn+p-1)/p<=bn+p-1:=dT _ _
  generalize (bn+p-1)/p=q at *
  rw [B6 o o]
 refine B5 (fun d=>o) (fun _=>?_)
 obtain ⟨S,hS⟩:∃ S,S=(bn+p-1)/p*p:=⟨_,rfl⟩
 have ae:bn<=S/\S<=bn+p-1:=by
  have d:=dU (bn+p-1) p
  have z:=fA (bn+p-1) m
  rw [fK,<- hS] at d
  omega
 have e2:B7 ((B7 (cI (B7 (B7 ((bn:Int)+(p:Int))-1)) (p:Int)))*(p:Int))=(S:Int):=by
  rw [e1,<- bV,<- hS,B6 o o]
 refine B5 (fun d=>?_) (fun d=>?_)
 ·rw [e1] at d
  have z:80<=(bn+p-1)/p:=o
  rw [Nat.le_div_iff_mul_le m] at z
  have N:B7 ((p:Int)*2)=((p*2:Nat):Int):=by rw [B6 o o];omega
  rw [N]
  exact ⟨⟨rfl,_,rfl,o,o,.inr o⟩,by simp only [iAt,aF];omega⟩
 ·refine B5 (fun d=>o) (fun _=>?_)
  obtain ⟨k,hk⟩:∃ k,bn=k+1:=⟨bn-1,o⟩
  have Q:=mb
  obtain ⟨a,L,sy,dy,ny,rfl⟩:=mb
  have c:a.length=k+1:=o
  have gt:=J3 dy k
  have O:=Nh c ny
  have N:B7 ((bn:Int)-1)=(k:Int):=by rw [B6 o o];omega
  rw [N]
  subst L
  refine sy.load rfl o o ?_
  rw [aC]
  obtain ⟨t,ht⟩:∃ t:Nat,a.getD k 0=t:=⟨(a.getD k 0).toNat,o⟩
  rw [ht] at gt O ⊢
  refine L3 o ⟨_,rfl,?_⟩
  obtain ⟨s,hs⟩:∃ s,s=64-K3 t:=⟨_,rfl⟩
  rw [<- hs]
  obtain ⟨X,M,H⟩:=Kb dy c ht o hs
  simp only [e2]
  obtain ⟨sh,hsh⟩:∃ sh,sh=64*(S-a.length)+s:=⟨_,rfl⟩
  have e4:C1 (B7 (B7 (64*B7 ((S:Int)-(a.length:Int)))+(s:Int)))=(sh:Int):=by
   rw [B6 (n:=(S:Int)-(a.length:Int)) o o,B6 (n:=64*((S:Int)-(a.length:Int))) o o,B6 o o,B9 o o]
   omega
  simp only [e4]
  have f:(2:Int)^sh=2^s*b64^(S-a.length):=by rw [hsh,aS,Df,aU]
  have g:=C9 (B:=b64) dc (S-a.length)
  have ag:0<(2:Int)^s:=bI dc
  have i:0<(2:Int)^sh:=bI dc
  have ab:val b64 a*2^sh=val b64 a*2^s*b64^(S-a.length):=by rw [f,cY]
  have C:val b64 a*2^sh<b64^S:=by
   have t1:val b64 a*2^s*b64^(S-a.length)<b64^(k+1)*b64^(S-a.length):=bC M g
   rw [<- aS,show k+1+(S-a.length)=S from o] at t1
   omega
  have R:9223372036854775808*b64^(S-1)<=val b64 a*2^sh:=by
   have t1:9223372036854775808*b64^k*b64^(S-a.length)<=val b64 a*2^s*b64^(S-a.length):=aD H (aM g)
   rw [cY,<- aS,show k+(S-a.length)=S-1 from o] at t1
   omega
  refine N5 Q hbc o o ?_
  intro A1 b c1 d l1 k1 M1
  refine ⟨_,_,_,rfl,?_⟩
  have F:b=S:=by
   have q1:=M1.len_le dc C
   have q2:=M1.lt dc
   by_cases hc:b=S
   ·exact hc
   ·have:=C7 (B:=b64) dc (show b<=S-1 from o)
    have:=C9 (B:=b64) dc (S-1)
    omega
  subst F
  refine N5 (ma.mono l1) ha o o ?_
  intro A2 u c2 z l2 k2 M2
  refine ⟨_,_,_,rfl,?_⟩
  have af:u<=an+(1+(b-a.length)):=M2.len_le dc (by
   have t1:x*2^sh<b64^an*2^sh:=bC j i
   have t2:(2:Int)^sh<=b64^(1+(b-a.length)):=by
    rw [f,aS]
    apply aD _ (aM g)
    have:=C7 (B:=2) dc (show s<=64 from o)
    have e:(2:Int)^64=18446744073709551616:=dc
    show (2:Int)^s<=b64^1
    rw [bB,fP]
    show (2:Int)^s<=1*18446744073709551616
    omega
   have t3:b64^an*2^sh<=b64^an*b64^(1+(b-a.length)):=aG t2 (aM (C9 dc an))
   rw [aS b64 an]
   omega)
  have r:0<u:=by
   rcases Nat.eq_zero_or_pos u with E|E
   ·have:=(M2.len_zero dc).2 E
    rcases Int.mul_eq_zero.1 this with h3|h3<;>omega
   ·exact E
  have e5:B7 ((u:Int)+(b:Int))=((u+b:Nat):Int):=by rw [B6 o o];omega
  rw [e5]
  refine I0 K0 o o o ?_
  intro bq G
  rw [aC]
  refine ⟨_,_,_,rfl,?_⟩
  refine B5 (fun d=>o) (fun _=>?_)
  refine Rp (D:=x*2^sh) (V:=val b64 a*2^sh) (sh:=sh) (S:=b) e2 e4 o o o G M2 k2 r o (M1.mono l2) k1 R rfl rfl ?_
  intro A3 n3 c3 A4 n4 c4 h4 l4 k3 k4 M3 M4
  exact hK _ _ _ _ _ _ _ (A0 l1 (A0 l2 l4)) k3 k4 M3 M4
def M0{x y:Int}{an bn:Nat}(ma:Mw h A an x)(mb:Mw h B bn y)(ha:an<=ac)(hbc:bn<=bc)(hy:y≠0)(hl:an<=9000000000000)(hl2:bn<=9000000000000)
 (hK:∀ A1 m1 c1 A2 m2 c2 h',h.le h'->m1<=c1->m2<=c2->Mw h' A1 m1 (x/y)->Mw h' A2 m2 (x%y)->K (.tuple #[.slice A1 m1 c1,.slice A2 m2 c2]) h'):aW prog 231 #[.slice A an ac,.slice B bn bc] h K:=by
 refine (fnk func231) ?_
 have a:aW prog 260 #[.slice A an ac,.slice B bn bc] h (fun r c=>∃ (t22aA:Option bJ) (t22an:Nat) (t22ac:Nat) (t22bA:Option bJ) (t22bn:Nat) (t22bc:Nat),r= .tuple #[.slice t22aA t22an t22ac,.slice t22bA t22bn t22bc]/\K (.tuple #[.slice t22aA t22an t22ac,.slice t22bA t22bn t22bc]) c):=by
  refine X3 ma mb ha hbc hy o o ?_
  grind
 refine B5 (fun d=>B5 (fun b=>?_) (fun _=>a)) (fun _=>a)
 rw [B6 o o] at b
 refine Fz ma mb ha hbc hl hl2 o o ?_
 grind
end
def TZ(x k:Nat):Prop:=∃ m,x=2^k*(2*m+1)
def TZ.ex:∀ {x:Nat},x≠0->∃ k,TZ x k:=by
 intro x
 induction x using Nat.strongRecOn with
 | _ x ih=>
  intro h
  rcases Nat.mod_two_eq_zero_or_one x with b|b
  ·obtain ⟨k,m,a⟩:=ih (x/2) o o
   refine ⟨k+1,m,?_⟩
   rw [dQ,fK (2^k),dJ,<- a];omega
  ·exact ⟨0,x/2,o⟩
def TZ.lt{x k n:Nat}(h:TZ x k)(hx:x<2^n):k<n:=by
 obtain ⟨m,rfl⟩:=h
 have b:2^k*1<=2^k*(2*m+1):=eC _ o
 exact (fD (a:=2) dc).1 o
def Xl{a u v:Nat}:(2^a*u) ||| (2^a*v)=2^a*(u ||| v):=by
 apply Nat.eq_of_testBit_eq
 grind
def A2d{u v:Nat}(h:u%2=1\/v%2=1):(u ||| v)%2=1:=by simp_all
def TZ.or'{x y a b:Nat}(hx:TZ x a)(hy:TZ y b)(hab:a<=b):TZ (x ||| y) a/\TZ (y ||| x) a:=by
 obtain ⟨m,rfl⟩:=hx
 obtain ⟨n,rfl⟩:=hy
 obtain ⟨d,rfl⟩:∃ d,b=a+d:=⟨b-a,o⟩
 rw [eB,dJ,Xl,Xl]
 have c:=A2d (u:=2*m+1) (v:=2^d*(2*n+1)) (.inl o)
 have e:=A2d (u:=2^d*(2*n+1)) (v:=2*m+1) (.inr o)
 exact ⟨⟨_/2,by rw [<- dU (_ ||| _) 2,c]⟩,⟨_/2,by rw [<- dU (_ ||| _) 2,e]⟩⟩
def TZ.or{x y a b:Nat}(hx:TZ x a)(hy:TZ y b):TZ (x ||| y) (min a b):=by
 by_cases h:a<=b
 ·rw [aI h];exact (hx.or' hy h).1
 ·rw [eP o];exact (hy.or' hx o).2
def TZ.bit{x k:Nat}(h:TZ x k)(hx:x<2^64):x &&& (2^64-x)=2^k:=by
 obtain ⟨m,rfl⟩:=h
 have f:0<2^k:=cZ dc
 have a:2^k*(2*m+1)=2^k*(2*m)+(2^k-1)+1:=gz0
 apply Nat.eq_of_testBit_eq
 intro i
 rw [Nat.testBit_and]
 have e:(2^64-2^k*(2*m+1)).testBit i=(decide (i<64) && !(2^k*(2*m)+(2^k-1)).testBit i):=by
  rw [a];exact Nat.testBit_two_pow_sub_succ o i
 rw [e,Nat.testBit_two_pow_mul_add _ o,Nat.testBit_two_pow_mul,Nat.testBit_two_pow]
 by_cases g:i<k
 ·grind
 ·by_cases b:i=k
  ·subst b
   have c:i<64:=TZ.lt ⟨m,rfl⟩ hx
   grind
  ·obtain ⟨d,hd⟩:∃ d,i-k=d+1:=⟨i-k-1,o⟩
   grind
def Kr{o k:Nat}(h:o%2=1):Nat.Coprime (2^k) o:=Nat.Coprime.pow_left k (by unfold Nat.Coprime;rw [Nat.gcd_rec,h];rfl)
def A48{x y a b m:Nat}(hx:x=2^a*(2*m+1))(hy:TZ y b):cX x y=2^(min a b)*cX (2*m+1) y:=by
 obtain ⟨n,rfl⟩:=hy
 subst hx
 have c:cX (2*m+1) (2^b*(2*n+1))=cX (2*m+1) (2*n+1):=cJ (2*n+1) (Kr o)
 rw [c]
 by_cases h:a<=b
 ·obtain ⟨d,rfl⟩:∃ d,b=a+d:=⟨b-a,o⟩
  rw [aI h,eB,dJ,Nat.gcd_mul_left,cJ _ (Kr o)]
 ·obtain ⟨d,rfl⟩:∃ d,a=b+d:=⟨a-b,o⟩
  rw [eP o,eB,dJ,Nat.gcd_mul_left,Nat.Coprime.gcd_mul_left_cancel _ (Kr o)]
def Qd(k:Nat):Nat:=(2^k*285870213051353865%18446744073709551616)/2^58
def Gtz(h:bD):Prop:=∀ k,k<64->h.cell? (eO ⟨1,0,none⟩ (Qd k*1))=some (Y k)
def Gtz.mono{h h':bD}(g:Gtz h)(l:h.le h'):Gtz h':=fun k a=>C4 l (g k a)
section
variable {h g:bD} {K:VP} {A B:Option bJ} {ac bc:Nat}
def Dc{x k:Nat}(gl:Gtz h)(tz:TZ x k)(hx:x<18446744073709551616)(hK:K (I k) h):aW prog 263 #[U x] h K:=by
 have a:=tz.lt (n:=64) hx
 have d:x≠0:=by
  obtain ⟨m,rfl⟩:=tz
  grind
 refine Do _ ?_
 refine D5 (fun e=>o) (fun _=>?_)
 have b:C1 (0-(x:Int))=((2^64-x:Nat):Int):=by
  rw [E9];omega
 have f:Mq .u64 (x:Int) ((2^64-x:Nat):Int)=((2^k:Nat):Int):=by
  rw [Zn o o,aC,aC,tz.bit hx]
 have c:dG (C1 (((2^k:Nat):Int)*285870213051353865)) (2^(min ((58:Int)).toNat 64))=((Qd k:Nat):Int):=by
  show dG _ (2^(min 58 64))=_
  rw [A0t dc,E9]
  rfl
 rw [b,f,c,aC]
 have g:Qd k<64:=by
  unfold Qd
  omega
 refine ⟨⟨o,o⟩,_,gl k a,?_⟩
 rw [B6 o o]
 exact hK
def Oo{x y:Nat}(gl:Gtz h)(hx:x<18446744073709551616)(hy:y<18446744073709551616)(hK:K (U (cX x y:Nat)) h):aW prog 234 #[U x,U y] h K:=by
 refine (fnk func234 [(5,[0,1],[],[U 0,U 0])]) ?_
 refine D5 (fun e=>?_) (fun e=>?_)
 ·obtain rfl:x=0:=o
  rw [Ro o o]
  grind
 refine D5 (fun D=>?_) (fun D=>?_)
 ·obtain rfl:y=0:=o
  rw [Ro o o]
  grind
 obtain ⟨a,j⟩:=TZ.ex (x:=x) o
 obtain ⟨b,w⟩:=TZ.ex (x:=y) o
 have R:=j.lt (n:=64) hx
 rw [Ro o o,aC,aC]
 have p:x ||| y<18446744073709551616:=Nat.or_lt_two_pow (n:=64) hx hy
 refine Dc gl (j.or w) p ⟨_,rfl,?_⟩
 refine Dc gl j hx ⟨_,rfl,?_⟩
 refine B5 (fun i=>o) (fun _=>?_)
 obtain ⟨m,r⟩:=j
 have C:=A48 r w
 have M:dG (x:Int) (2^(min ((a:Int)).toNat 64))=((2*m+1:Nat):Int):=by
  rw [aC,A0t o,show ((2:Int)^a)=((2^a:Nat):Int) by simp,<- Int.natCast_ediv,r,fG _ (cZ dc)]
 rw [M]
 have t:2*m+1<=x:=by
  rw [r];exact fL _ (cZ dc)
 refine ⟨fun l G=>G=h/\∃ u v:Nat,l=[U u,U v]/\u%2=1/\u<18446744073709551616/\v<18446744073709551616/\cX u v=cX (2*m+1) y,fun l _=>(iAt l 0+iAt l 1).toNat,⟨rfl,2*m+1,y,rfl,o,o,hy,rfl⟩,?_⟩
 rintro S Q F ⟨rfl,u,v,H,L,B,f,d⟩
 obtain ⟨rfl,rfl⟩:=H
 refine K8 (fun i=>?_) (fun i=>?_)
 ·obtain ⟨c,k⟩:=TZ.ex (x:=v) o
  have T:=k.lt (n:=64) f
  refine Dc gl k f ⟨_,rfl,?_⟩
  refine B5 (fun i=>o) (fun _=>?_)
  obtain ⟨n,q⟩:=k
  have E:dG (v:Int) (2^(min ((c:Int)).toNat 64))=((2*n+1:Nat):Int):=by
   rw [aC,A0t o,show ((2:Int)^c)=((2^c:Nat):Int) by simp,<- Int.natCast_ediv,q,fG _ (cZ dc)]
  have z:2*n+1<=v:=by
   rw [q];exact fL _ (cZ dc)
  have g:cX u (2*n+1)=cX u v:=by
   rw [q,cJ _ (Kr L)]
  rw [E]
  refine B5 (fun A=>?_) (fun A=>?_)
  ·have s:C1 ((u:Int)-((2*n+1:Nat):Int))=((u-(2*n+1):Nat):Int):=by rw [B9 o o];omega
   rw [s]
   refine ⟨⟨rfl,_,_,rfl,o,o,o,?_⟩,?_⟩
   ·rw [fM o,fN,g,d]
   ·simp only [iAt,aF,aH];omega
  ·have s:C1 (((2*n+1:Nat):Int)-(u:Int))=((2*n+1-u:Nat):Int):=by rw [B9 o o];omega
   rw [s]
   refine ⟨⟨rfl,_,_,rfl,o,o,o,?_⟩,?_⟩
   ·rw [fM o,g,d]
   ·simp only [iAt,aF,aH];omega
 ·refine B5 (fun i=>o) (fun _=>?_)
  obtain rfl:v=0:=o
  rw [aC,aI (show min a b<=64 from o)]
  have N:(u:Int)*2^(min a b)=((cX x y:Nat):Int):=by
   rw [C,<- d,bV,aU];simp
  have O:cX x y<=x:=Nat.le_of_dvd o (Nat.gcd_dvd_left x y)
  rw [N,B9 o o]
  exact hK
end
def We{xs:List Int}(d:Dig b64 xs){k s:Nat}(hl:xs.length<=k+2)(hs:s<=64):val b64 xs/(b64^k*2^(64-s))=xs.getD (k+1) 0*2^s+xs.getD k 0/2^(64-s):=by
 have g:=C2 b64 xs (k+1)
 have j:=C2 b64 xs k
 rw [aN (show xs.length<=k+1+1 from o)] at g
 have c:=C9 (B:=b64) dc k
 have f:0<(2:Int)^(64-s):=bI dc
 have b:=Q6 (s:=s) hs
 have i:=C3 dc (d.take k)
 have l:=I6 dc (d.take k)
 have m:=C7 (B:=b64) dc (show (xs.take k).length<=k from gz0)
 rw [<- dP (aM c)]
 have e:val b64 xs/b64^k=xs.getD k 0+18446744073709551616*xs.getD (k+1) 0:=by
  refine (Rj (a:=val b64 (xs.take k)) ?_ i o).1
  grind
 rw [e,<- b,aU (2^s),cY,dZ _ _ o,aU (2^s)]
 omega
section
variable {h g:bD} {K:VP} {A B:Option bJ} {ac bc:Nat}
def A4p(a b u0 u1 v0 v1:Int)(odd:Bool):Prop:=(0<=u0/\u0<18446744073709551616)/\(0<=u1/\u1<18446744073709551616)/\(0<=v0/\v0<18446744073709551616)/\(0<=v1/\v1<18446744073709551616)/\(v0≠0->Leh a b u0 v0 u1 v1 (Fv a b u0 v0 odd) (Fu a b u1 v1 odd))
def A0s{a b F S W t20 t26 t33:Int}(hF:F=bor .u64 (C1 (t26*2^(min (C1 t20).toNat 64))) (dG t33 (2^(min (C1 ((64:Int)-(C1 t20))).toNat 64))))(hW:0<W)(hFa:F=a/W)(hSb:S=b/W)(hb0:0<=b)(hba:b<=a)(hF64:F<18446744073709551616)
 (hK:∀ u0 u1 v0 v1 odd,A4p a b u0 u1 v0 v1 odd->K (.agg #[U u0,U u1,U v0,U v1,.bool odd]) h):Cc prog K t20 t26 t33 S h:=by
 have da:=aL a W
 have db:=aL b W
 have t:=aP a (b:=W) o
 have w:=aK a hW
 have x:=aP b (b:=W) o
 have y:=aK b hW
 have u:0<=S:=by rw [hSb];exact bK hb0 o
 have s:S<=F:=by rw [hSb,hFa];exact Int.ediv_le_ediv hW hba
 unfold Cc
 rw [<- hF]
 refine ⟨fun l A=>A=h/\∃ (first c g d u0 u1 v0 v1:Int) (odd:Bool),l=[U first,U c,U g,U d,U u0,U u1,U v0,U v1,.bool odd]/\LS F S first c u0 v0 u1 v1 g d odd/\A4p a b u0 u1 v0 v1 odd/\g<=F/\d<=(if F=0 then 1 else F),fun l _=>(iAt l 1).toNat,⟨rfl,_,_,_,_,_,_,_,_,_,rfl,LS.init u s,⟨o,o,o,o,fun e=>absurd rfl e⟩,o,o⟩,?_⟩
 rintro first c g d u0 u1 v0 v1 odd A ⟨rfl,q,k,E,M,O,aa,T,X,B,R,i,r,H,L⟩
 obtain ⟨rfl,rfl,rfl,rfl,rfl,rfl,rfl,rfl,rfl⟩:=R
 have z:=i.v2pos
 have m:=i.ord
 have Q:=i.hF
 refine B5 (fun h1=>?_) (fun _=>hK _ _ _ _ _ r)
 have p:1<=c:=o
 have V:=i.bound2 p
 have G:first<=F:=by
  have t1:1*first<=d*first:=aD o o
  have t2:=aO (show 0<=v1 from o) m.1
  omega
 rw [B9 (n:=first-c) o o,B9 (n:=v1+d) o o]
 refine B5 (fun h2=>?_) (fun _=>hK _ _ _ _ _ r)
 refine B5 (fun e=>o) (fun _=>?_)
 refine B5 (fun e=>o) (fun _=>?_)
 rw [dE o,aX o]
 have f:=i.step o o
 have ab:=f.bound p
 have j:0<=first/c:=bK o o
 have D:first/c<=first:=dO _ o
 have C:=aO j (show 0<=g from o)
 have N:=aO j (show 0<=d from o)
 rw [B9 (n:=first/c) o o,B9 (n:=first/c*g) o o,B9 (n:=first/c*d) o o,B9 (n:=u1+first/c*g) o o,B9 (n:=v1+first/c*d) o o]
 refine ⟨⟨rfl,_,_,_,_,_,_,_,_,_,rfl,f,⟨⟨o,r.2.1.2⟩,⟨o,o⟩,⟨o,r.2.2.2.1.2⟩,⟨o,o⟩,fun e=>f.leh e hW (al:=a%W) (bl:=b%W) ?_ ?_ ⟨t,w⟩ ⟨x,y⟩⟩,o,o⟩,?_⟩
 ·grind
 ·grind
 ·have:=aK first (show 0<c from o)
  simp only [iAt,aH,aF];omega
set_option maxHeartbeats 1000000 in
def Ky{a b:Int}{an bn:Nat}(ma:Mw h A an a)(mb:Mw h B bn b)(hba:b<=a)(hb2:2<=bn)(hl:an<=100000000000000)
 (hK:∀ u0 u1 v0 v1 odd,A4p a b u0 u1 v0 v1 odd->K (.agg #[U u0,U u1,U v0,U v1,.bool odd]) h):aW prog 230 #[.slice A an ac,.slice B bn bc] h K:=by
 have R:=mb.nonneg dc
 have af:bn<=an:=mb.len_le dc (cC hba (ma.lt dc))
 obtain ⟨k,rfl⟩:∃ k,an=k+2:=⟨an-2,o⟩
 obtain ⟨w,g,T,G,nx,rfl⟩:=ma
 obtain ⟨f,n,M,W,ny,rfl⟩:=mb
 refine Pk _ _ _ _ _ _ ?_
 unfold Pm
 have e1:B7 (((k+2:Nat):Int)-1)=((k+1:Nat):Int):=by rw [B6 o o];omega
 have e2:B7 (((k+2:Nat):Int)-2)=(k:Int):=by rw [B6 o o];omega
 simp only [e1,e2]
 have gt:=J3 G (k+1)
 have Q:=J3 G k
 have X:=Nh (m:=k+1) g.symm nx
 obtain ⟨t,ht⟩:∃ t:Nat,w.getD (k+1) 0=t:=⟨(w.getD (k+1) 0).toNat,o⟩
 rw [g]
 refine T.load rfl o o ?_
 rw [aC,ht]
 rw [ht] at gt X
 refine L3 o ⟨_,rfl,?_⟩
 obtain ⟨s,hs⟩:∃ s,s=64-K3 t:=⟨_,rfl⟩
 rw [<- hs]
 obtain ⟨aa,r,ae⟩:=Kb G g.symm ht o hs
 refine T.load rfl o o ?_
 simp only [aC,ht]
 have i:C1 (s:Int)=s:=B9 o o
 have d:C1 (64-(s:Int))=((64-s:Nat):Int):=by rw [B9 o o];omega
 refine B5 (fun e=>by rw [i] at e;omega) (fun _=>?_)
 refine T.load rfl o o ?_
 simp only [aC]
 refine B5 (fun e=>by rw [i,d] at e;omega) (fun _=>?_)
 have V:0<(2:Int)^s:=bI dc
 have q:0<(2:Int)^(64-s):=bI dc
 have y:=Q6 (s:=s) o
 have S:=C9 (B:=b64) dc k
 have O:0<b64^k*2^(64-s):=Int.mul_pos S q
 have j:=We G (k:=k) (s:=s) o o
 have c:=We W (k:=k) (s:=s) o o
 have C:val b64 w/(b64^k*2^(64-s))<18446744073709551616:=by
  apply aY O
  have t1:18446744073709551616*(b64^k*2^(64-s))*2^s=18446744073709551616*b64^k*(2^s*2^(64-s)):=gz0
  rw [y] at t1
  have H:b64^(k+1+1)=18446744073709551616*b64^k*18446744073709551616:=by
   rw [bB,bB]
   show b64^k*18446744073709551616*18446744073709551616=_
   grind
  rw [H,<- t1] at r
  exact Int.lt_of_mul_lt_mul_right r o
 have ad:val b64 f/(b64^k*2^(64-s))<=val b64 w/(b64^k*2^(64-s)):=Int.ediv_le_ediv O hba
 have q1:∀ z:Int,0<=z/\z<18446744073709551616->0<=z/2^(64-s)/\z/2^(64-s)<2^s:=fun z E=>
  ⟨bK E.1 o,aY q (by rw [y];exact E.2)⟩
 have x:∀ u z:Int,0<=u->0<=z/\z<18446744073709551616->u*2^s+z/2^(64-s)<18446744073709551616->bor .u64 (C1 (u*2^(min (C1 (s:Int)).toNat 64))) (dG z (2^(min (C1 (64-C1 (s:Int))).toNat 64)))=u*2^s+z/2^(64-s):=by
  intro u z hu E L
  have:=q1 z E
  have:=aO hu (aM V)
  rw [i,d,aC,aC,A0t o,aI (show s<=64 from o),B9 o o,Pc hu o L]
 have gy:=J3 W (k+1)
 have N:=J3 W k
 rw [ht] at j
 refine ⟨fun l hp=>hp=h/\l=[U (val b64 f/(b64^k*2^(64-s)))],?_,?_⟩
 ·refine D5 (fun e=>?_) (fun e=>?_)
  ·rw [n]
   refine M.load rfl o o ?_
   simp only [aC]
   refine B5 (fun e=>by rw [i] at e;omega) (fun _=>?_)
   refine M.load rfl o o ?_
   simp only [aC]
   refine B5 (fun e=>by rw [i,d] at e;omega) (fun _=>?_)
   rw [x _ _ gy.1 N o,c]
   first|exact ⟨rfl,rfl⟩|exact ⟨trivial,rfl⟩
  ·refine D5 (fun e=>?_) (fun e=>?_)
   ·rw [n]
    refine M.load rfl o o ?_
    simp only [aC]
    refine B5 (fun e=>by rw [i,d] at e;omega) (fun _=>?_)
    have:f.getD (k+1) 0=0:=by simp [eQ,dY (show f.length<=k+1 from o)]
    rw [this,dR,cK] at c
    rw [i,d,aC,A0t o,c]
    first|exact ⟨rfl,rfl⟩|exact ⟨trivial,rfl⟩
   ·have t1:f.getD (k+1) 0=0:=by simp [eQ,dY (show f.length<=k+1 from o)]
    have H:f.getD k 0=0:=by simp [eQ,dY (show f.length<=k from o)]
    rw [t1,H,dR,cK,Int.zero_ediv] at c
    rw [c]
    exact ⟨rfl,rfl⟩
 ·rintro D ab ⟨rfl,p⟩
  simp only [cG,eS,and_true,true_and] at p
  subst p
  exact A0s (F:=val b64 w/(b64^k*2^(64-s))) (by rw [x _ _ o Q o,j]) O rfl rfl R hba C hK
end
def Win.swap{k k':cW}{h g1 g:bD}{ba bb:Nat}{e e':cD}{A B:Option bJ}{pa qa pb qb:List eA}{us bs:List Int}(wa:Win k h g1 ba e A pa us qa)(wb:Win k' g1 g bb e' B pb bs qb):∃ g2,Win k' h g2 bb e' B pb bs qb/\Win k g2 g ba e A pa us qa:=by
 have a:ba≠bb:=by
  rintro rfl
  have:=wa.free
  rw [wb.eq,B8] at this
  cases this
 have b:g ba=none:=by
  have:=wa.free
  rwa [wb.eq,B4 _ _ a] at this
 refine ⟨g.put ba (.cells (pa++us.map (bL k)++qa).toArray e),⟨?_,?_,wb.at_⟩,⟨b,rfl,wa.at_⟩⟩
 ·rw [B4 _ _ a.symm];exact wb.free
 ·rw [wa.eq,wb.eq];exact Heap.put_comm _ _ _ a.symm
def Kv{z y c:Int}(hz:0<=z/\z<18446744073709551616)(hy:0<=y/\y<18446744073709551616)(hc:0<=c/\c<=1):(z-y-c)%18446744073709551616=z-y-c+18446744073709551616*(if z-y-c<0 then 1 else 0):=by
 omega
def Og(z:Int):z%18446744073709551616=z-18446744073709551616*(z/18446744073709551616):=o
def Em{x y c:Int}(hx:0<=x/\x<18446744073709551616)(hy:0<=y/\y<18446744073709551616)(hc:0<=c/\c<18446744073709551616):0<=(x*y+c)/18446744073709551616/\(x*y+c)/18446744073709551616<18446744073709551616:=by
 have b:=aO hx.1 hy.1
 have a:x*y<=18446744073709551615*y:=aD o hy.1
 omega
def pin{v w B m:Int}(h:v=w+B*m)(hv:0<=v/\v<B)(hw:0<=w/\w<B):v=w:=by
 have a:0<B:=o
 by_cases c:m <= -1
 ·have:=aG c (aM a);omega
 ·by_cases b:1<=m
  ·have:=aG b (aM a);omega
  grind
section
variable {h g g1:bD} {K:VP} {A B:Option bJ} {ac bc an bn ba bb:Nat} {e:cD} {qa qb:List eA}
set_option maxHeartbeats 1000000 in
def Vh{us bs:List Int}{u0 u1 v0 v1:Int}{odd:Bool}(wa:Win .u64 h g1 ba e A [] us qa)(wb:Win .u64 g1 g bb e B [] bs qb)(ha:an=us.length)(hb:bn=bs.length)(hab:us.length=bs.length)(da:Dig b64 us)(db:Dig b64 bs)(hl:us.length<=100000000000000)(hu0:0<=u0/\u0<18446744073709551616)(hu1:0<=u1/\u1<18446744073709551616)(hv0:0<=v0/\v0<18446744073709551616)(hv1:0<=v1/\v1<18446744073709551616)
 (hX0:0<=Fv (val b64 us) (val b64 bs) u0 v0 odd/\Fv (val b64 us) (val b64 bs) u0 v0 odd<b64^us.length) (hX1:0<=Fu (val b64 us) (val b64 bs) u1 v1 odd/\Fu (val b64 us) (val b64 bs) u1 v1 odd<b64^us.length)
 (hK:∀ us' bs' h' g1',us'.length=us.length->bs'.length=us.length->Dig b64 us'->Dig b64 bs'->val b64 us'=Fv (val b64 us) (val b64 bs) u0 v0 odd->val b64 bs'=Fu (val b64 us) (val b64 bs) u1 v1 odd->Win .u64 h' g1' ba e A [] us' qa->Win .u64 g1' g bb e B [] bs' qb->K (.tuple #[]) h'):
 aW prog 232 #[.agg #[U u0,U u1,U v0,U v1,.bool odd],.slice A an ac,.slice B bn bc] h K:=by
 subst ha hb
 refine (fnk func232 [(4,[6,7,8,9,10,11,21],[],[U 0,U 0,U 0,U 0,U 0,U 0,I 0])] (own:=[3])) ?_
 refine ⟨fun l hp=>∃ (k:Nat) (b c d f V X:Int) (z C:List Int) (g1:bD),l=[U b,U c,U d,U f,U V,U X,I k]/\k<=us.length/\z.length=us.length/\C.length=us.length/\Dig b64 z/\Dig b64 C/\(0<=b/\b<18446744073709551616)/\(0<=c/\c<18446744073709551616)/\(0<=d/\d<18446744073709551616)/\(0<=f/\f<18446744073709551616)/\(0<=V/\V<=1)/\(0<=X/\X<=1)/\Win .u64 hp g1 ba e A [] z qa/\Win .u64 g1 g bb e B [] C qb/\z.drop k=us.drop k/\C.drop k=bs.drop k/\
  val b64 (z.take k)=Fv (val b64 (us.take k)) (val b64 (bs.take k)) u0 v0 odd+b64^k*((if odd then c-b else b-c)+V)/\val b64 (C.take k)=Fu (val b64 (us.take k)) (val b64 (bs.take k)) u1 v1 odd+b64^k*((if odd then f-d else d-f)+X),fun l _=>us.length-(iAt l 6).toNat,⟨0,0,0,0,0,0,0,us,bs,g1,rfl,o,rfl,hab.symm,da,db,o,o,o,o,o,o,wa,wb,rfl,rfl,by simp [val,Fv],by simp [val,Fu]⟩,?_⟩
 rintro b c d f V X i hp ⟨k,ad,ah,ab,ae,af,ai,z,C,g1,W,hk,a,m,R,Q,hP,hQ,hR,hT,j,D,O,S,F,L,n,E⟩
 simp only [cG,eS,and_true,true_and] at W
 obtain ⟨rfl,rfl,rfl,rfl,rfl,rfl,rfl⟩:=W
 refine B5 (fun h1=>?_) (fun h1=>?_)
 ·have gx:=J3 R k
  have gy:=J3 Q k
  have u:=D7 F
  have s:=D7 L
  have vx:=C2 b64 us k
  have vy:=C2 b64 bs k
  obtain ⟨g2,aa,ag⟩:=O.swap S
  refine O.sl.load a.symm o o ?_
  refine aa.sl.load o o o ?_
  simp only [aC]
  obtain ⟨aA,hA,_⟩:=SlV.at O.sl (i:=k) (by simp;omega)
  obtain ⟨aB,hB,_⟩:=SlV.at S.sl (i:=k) (by simp;omega)
  generalize hx0:z.getD k 0=x at *
  generalize hy0:C.getD k 0=y at *
  refine L8 gx hu0 hP ⟨_,_,rfl,?_⟩
  refine L8 gy hv0 hQ ⟨_,_,rfl,?_⟩
  refine L8 gy hv1 hR ⟨_,_,rfl,?_⟩
  refine L8 gx hu1 hT ⟨_,_,rfl,?_⟩
  have bP:=Em gx hu0 hP
  have bQ:=Em gy hv0 hQ
  have bR:=Em gy hv1 hR
  have bT:=Em gx hu1 hT
  have mP:=W6 (x*u0+b)
  have mQ:=W6 (y*v0+c)
  have mR:=W6 (y*v1+d)
  have mT:=W6 (x*u1+f)
  have kP:=Og (x*u0+b)
  have kQ:=Og (y*v0+c)
  have kR:=Og (y*v1+d)
  have kT:=Og (x*u1+f)
  have ek:B7 ((k:Int)+1)=((k+1:Nat):Int):=by rw [B6 o o];omega
  rw [ek]
  generalize (x*u0+b)/18446744073709551616=cP2 at *
  generalize (y*v0+c)/18446744073709551616=cQ2 at *
  generalize (y*v1+d)/18446744073709551616=cR2 at *
  generalize (x*u1+f)/18446744073709551616=cT2 at *
  generalize (x*u0+b)%18446744073709551616=p at *
  generalize (y*v0+c)%18446744073709551616=q at *
  generalize (y*v1+d)%18446744073709551616=r at *
  generalize (x*u1+f)%18446744073709551616=t at *
  have w:b64^(k+1)=b64^k*18446744073709551616:=bB _ _
  cases odd with
  | true=>
   refine Br.of (fun _=>?_) (fun e=>by cases e)
   refine Z1 mP mQ j ⟨_,_,rfl,aA,hA,o,o,O.storeN (i:=k) E6 hA o ?_⟩
   intro h2 w2
   refine Z1 mR mT D ⟨_,_,rfl,aB,hB,o,o,?_⟩
   obtain ⟨g3,G,N⟩:=w2.swap S
   refine G.storeN (i:=k) E6 hB o ?_
   intro h4 w4
   obtain ⟨g5,H,M⟩:=w4.swap N
   refine ⟨⟨k+1,_,_,_,_,_,_,_,_,g5,rfl,o,by simpa using a,by simpa using m,R.set (W6 _),Q.set (W6 _),bP,bQ,bR,bT,by split<;>omega,by split<;>omega,H,M,?_,?_,?_,?_⟩,by simp only [iAt,aF,aH];omega⟩
   ·rw [C8 o];exact D0 F
   ·rw [C8 o];exact D0 L
   ·rw [C5 o,D8,aJ,aI o,w,vx,vy,<- u,<- s,n,Kv mP mQ j]
    simp only [Fv,if_true]
    grind
   ·rw [C5 o,D8,aJ,aI o,w,vx,vy,<- u,<- s,E,Kv mR mT D]
    simp only [Fu,if_true]
    grind
  | false=>
   refine Br.of (fun e=>by cases e) (fun _=>?_)
   refine Z1 mQ mP j ⟨_,_,rfl,aA,hA,o,o,O.storeN (i:=k) E6 hA o ?_⟩
   intro h2 w2
   refine Z1 mT mR D ⟨_,_,rfl,aB,hB,o,o,?_⟩
   obtain ⟨g3,G,N⟩:=w2.swap S
   refine G.storeN (i:=k) E6 hB o ?_
   intro h4 w4
   obtain ⟨g5,H,M⟩:=w4.swap N
   refine ⟨⟨k+1,_,_,_,_,_,_,_,_,g5,rfl,o,by simpa using a,by simpa using m,R.set (W6 _),Q.set (W6 _),bP,bQ,bR,bT,by split<;>omega,by split<;>omega,H,M,?_,?_,?_,?_⟩,by simp only [iAt,aF,aH];omega⟩
   ·rw [C8 o];exact D0 F
   ·rw [C8 o];exact D0 L
   ·rw [C5 o,D8,aJ,aI o,w,vx,vy,<- u,<- s,n,Kv mQ mP j]
    simp only [Fv,Bool.false_eq_true,if_false]
    grind
   ·rw [C5 o,D8,aJ,aI o,w,vx,vy,<- u,<- s,E,Kv mT mR D]
    simp only [Fu,Bool.false_eq_true,if_false]
    grind
 ·obtain rfl:k=us.length:=o
  rw [aN (show z.length<=us.length from o),bO,aN (show bs.length<=us.length from o)] at n
  rw [aN (show C.length<=us.length from o),bO,aN (show bs.length<=us.length from o)] at E
  have bx:=I6 dc R
  have T:=I6 dc Q
  rw [a] at bx
  rw [m] at T
  exact hK z C hp g1 a m R Q (pin n ⟨C3 dc R,bx⟩ hX0) (pin E ⟨C3 dc Q,T⟩ hX1) O S
end
def Win.priv{k:cW}{h g:bD}{b m c:Nat}{e:cD}{A:Option bJ}{xs:List Int}{post:List eA}(w:Win k h g b e A [] xs post)(hx:xs≠[])(hc:c=xs.length+post.length)(hm:m<=xs.length):fC h g e 1 A m c ((xs.take m).map (bL k)):=by
 refine ⟨gz0,o,.inr ⟨b,xs.map (bL k)++post,?_,w.free,?_,gz0,?_⟩⟩
 ·rcases w.at_ with a|a
  ·grind
  omega
 ·have:=w.eq
  assumption
 ·rw [Nat.mul_one,List.take_append_of_le_length gz0,List.map_take]
def Y8{k:cW}{h g:bD}{n c:Nat}{e:cD}{A:Option bJ}{xs:List Int}(p:fC h g e 1 A n c (xs.map (bL k)))(hx:xs≠[]):∃ b post,Win k h g b e A [] xs post/\c=xs.length+post.length:=by
 obtain ⟨q,l,f⟩:=p
 rcases f with ⟨r,rfl⟩|⟨b,a,j,i,rfl,m,d⟩
 ·simp_all
 ·refine ⟨b,a.drop (n*1),⟨i,?_,.inr j⟩,?_⟩
  ·rw [cF,<- d,cH]
  grind
def Priv.swap{h g1 g:bD}{e e':cD}{s s' n c m d:Nat}{A B:Option bJ}{xs ys:List eA}(pa:fC h g1 e s A n c xs)(pb:fC g1 g e' s' B m d ys):∃ g2,fC h g2 e' s' B m d ys/\fC g2 g e s A n c xs:=by
 obtain ⟨q,r,z⟩:=pa
 obtain ⟨j,p,u⟩:=pb
 rcases z with ⟨E,rfl⟩|⟨i,f,w,a,rfl,x⟩
 ·exact ⟨g,⟨j,p,u⟩,⟨q,r,.inl ⟨E,rfl⟩⟩⟩
 ·rcases u with ⟨y,rfl⟩|⟨t,l,D,k,rfl,C⟩
  ·exact ⟨_,⟨j,p,.inl ⟨y,rfl⟩⟩,⟨q,r,.inr ⟨i,f,w,a,rfl,x⟩⟩⟩
  ·have b:i≠t:=by
    rintro rfl
    rw [B8] at a;cases a
   rw [B4 _ _ b] at a
   refine ⟨g.put i (.cells f.toArray e),⟨j,p,.inr ⟨t,l,D,?_,Heap.put_comm _ _ _ b.symm,C⟩⟩,⟨q,r,.inr ⟨i,f,w,a,rfl,x⟩⟩⟩
   rw [B4 _ _ b.symm];exact k
abbrev Pw(h g:bD)(A:Option bJ)(n c:Nat)(us:List Int):Prop:=fC h g 230 1 A n c (us.map (bL .u64))
def GI(h:bD)(G:Nat)(hp:bD)(A:Option bJ)(n c:Nat)(B:Option bJ)(m d:Nat):Prop:=∃ (us vs:List Int) (g1 g:bD),h.le g/\Pw hp g1 A n c us/\Pw g1 g B m d vs/\Dig b64 us/\Dig b64 vs/\fI us/\fI vs/\n=us.length/\m=vs.length/\val b64 vs<=val b64 us/\eI (val b64 us) (val b64 vs)=G/\us.length<=9000000000000
def Yi{a b:Int}(ha:0<=a)(hb:0<=b):eI b (a%b)=eI a b:=by
 obtain ⟨x,rfl⟩:=cR ha
 obtain ⟨y,rfl⟩:=cR hb
 rw [<- Int.natCast_emod,cQ,cQ,fN x,fN y,<- Nat.gcd_rec]
section
variable {h g:bD} {K:VP} {A B:Option bJ} {ac bc:Nat}
set_option maxHeartbeats 1000000 in
def A1f{G an bn:Nat}{hp:bD}(gl:Gtz h)(gi:GI h G hp A an ac B bn bc)(hK:∀ A' m c' h',h.le h'->m<=c'->Mw h' A' m (G:Int)->K (.slice A' m c') h'):Dn prog K A an ac B bn bc hp:=by
 unfold Dn
 refine ⟨fun l hp=>∃ (A B:Option bJ) (n c m d:Nat),l=[.slice A n c,.slice B m d]/\GI h G hp A n c B m d,fun l hp=>match l with|[_,.slice B n _]=>Xu b64 hp B n|_=>0,⟨_,_,_,_,_,_,rfl,gi⟩,?_⟩
 rintro A1 X c1 B1 m1 d1 hp ⟨A,B,n,c,m,d,hl,s,k,g1,g,lg,R,pb,du,dv,nu,nv,hn,W,V,a,br⟩
 simp only [cG,cT,and_true] at hl
 obtain ⟨⟨rfl,rfl,rfl⟩,rfl,rfl,rfl⟩:=hl
 have Ma:Mw hp A1 X (val b64 s):=⟨s,hn,R.slV,du,nu,rfl⟩
 have Mb:Mw hp B1 m1 (val b64 k):=⟨k,W,SlV.mono R.le pb.slV,dv,nv,rfl⟩
 have aa:=R.2.1
 have a7:=pb.2.1
 have M:=C3 dc du
 have bf:=C3 dc dv
 have a1:m1<=X:=Mb.len_le dc (cC V (Ma.lt dc))
 have T:h.le hp:=A0 lg (A0 pb.le R.le)
 have av:=Mb.len_zero dc
 refine B5 (fun h1=>?_) (fun h1=>?_)
 ·refine Ky Ma Mb V o o ?_
  intro u0 u1 v0 v1 bo st
  refine ⟨_,_,_,_,_,rfl,D5 (fun e=>?_) (fun e=>?_)⟩
  ·refine M0 Ma Mb aa a7 o o o ?_
   intro A2 m2 c2 A3 m3 c3 h6 l6 q k3 M2 M3
   refine ⟨_,_,_,_,_,_,rfl,?_⟩
   have bt:m3<=m1:=M3.len_le dc (by have:=aK (val b64 s) (show 0<val b64 k from o);have:=Mb.lt dc;omega)
   obtain ⟨ws,a9,a2,N,aq,a5⟩:=M3
   refine X6 a2 a9 o ?_
   intro A4 c4 h7 g7 l7 p7
   obtain ⟨g2,Q,F⟩:=R.swap pb
   obtain ⟨g8,l8,a0⟩:=Q.after (A0 l6 l7)
   obtain ⟨g9,au,a6⟩:=Priv.swap p7 a0
   have bl:=aK (val b64 s) (show 0<val b64 k from o)
   have Mn:Mw h7 A4 ws.length (val b64 ws):=⟨ws,rfl,p7.slV,N,aq,rfl⟩
   refine ⟨_,_,_,rfl,⟨_,_,_,_,_,_,rfl,k,ws,g9,g8,A0 lg (A0 F.le l8),au,a6,dv,N,nv,aq,W,rfl,o,?_,o⟩,?_⟩
   ·rw [a5,Yi M bf];exact a
   ·simp only [R1 Mn,R1 Mb]
    have:=C3 dc N
    omega
  ·obtain ⟨af,ao,ak,al,lh⟩:=st
   have lh:=lh e
   unfold Gv
   obtain ⟨g2,Q,F⟩:=R.swap pb
   refine ⟨fun l hp=>∃ (B:Option bJ) (m d j:Nat) (g1 g:bD),l=[.slice B m d]/\h.le g/\Pw hp g1 B m d (k++aE j 0)/\Pw g1 g A1 X c1 s/\m=k.length+j/\m<=X,fun l _=>match l with|[.slice _ m _]=>X-m|_=>0,⟨B1,m1,d1,0,g2,g,rfl,lg,by simpa using Q,F,o,a1⟩,?_⟩
   rintro B2 m2 d2 bq ⟨B',m',d',j,g3,g4,aj,ab,ah,ar,bm,bg⟩
   simp only [cG,cT,and_true] at aj
   obtain ⟨rfl,rfl,rfl⟩:=aj
   refine B5 (fun h2=>?_) (fun h2=>?_)
   ·refine U6 K0 ah rfl rfl o o ?_
    intro A5 c5 h5 g5 l5 p5
    obtain ⟨g6,l6,bd⟩:=ar.after l5
    refine ⟨⟨A5,m2+1,c5,j+1,g5,g6,rfl,A0 ab l6,?_,bd,o,o⟩,by simp only;omega⟩
    have p6:=p5
    rw [<- List.map_singleton (f:=bL .u64),<- eU,bY,<- List.replicate_succ'] at p6
    exact p6
   ·obtain ⟨g5,ay,a4⟩:=ah.swap ar
    have y:(k++aE j (0:Int)).length=s.length:=by simp;omega
    have i:s≠[]:=by rintro rfl;simp at hn;omega
    have ai:k++aE j (0:Int)≠[]:=by intro h0;rw [h0] at y;simp at y;exact i (aZ y.symm)
    obtain ⟨ba,qa,wa,bk⟩:=Y8 ay i
    obtain ⟨bb,qb,wb,bp⟩:=Y8 a4 ai
    have ax:=lh.gcd
    have bh:=lh.ord
    have a3:=lh.le
    have bi:val b64 k<b64^s.length:=by rw [<- hn];exact cC V (Ma.lt dc)
    refine Vh wa wb hn o y.symm du (dv.append (F9 dc _)) o af ao ak al (by rw [T8];omega) (by rw [T8];omega) ?_
    intro x p h6 g6 z C aw ad S u H ag
    rw [T8] at S u
    have D:x≠[]:=by rintro rfl;simp at z;exact i (aZ z.symm)
    have E:p≠[]:=by rintro rfl;simp at C;exact i (aZ C.symm)
    refine ⟨rfl,?_⟩
    rw [show X=x.length from o]
    refine V3 H.sl o o ?_
    intro k1 a8 be ae
    refine ⟨_,_,_,rfl,?_⟩
    rw [show m2=p.length from o]
    refine V3 (SlV.mono H.le ag.sl) o o ?_
    intro q az ap L
    have pA:=H.priv (m:=k1) (c:=c1) D o a8
    have pB:=ag.priv (m:=q) (c:=d2) E o az
    have e1:(x.take k1).length=k1:=by rw [aJ];omega
    have e2:(p.take q).length=q:=by rw [aJ];omega
    have Mn:Mw h6 B2 q (val b64 (p.take q)):=⟨p.take q,e2.symm,SlV.mono pA.le pB.slV,ad.take _,ap,rfl⟩
    refine ⟨_,_,_,rfl,⟨_,_,_,_,_,_,rfl,x.take k1,p.take q,_,_,ab,pA,pB,aw.take _,ad.take _,be,ap,e1.symm,e2.symm,?_,?_,o⟩,?_⟩
    ·rw [ae,L,S,u];omega
    ·rw [ae,L,S,u,ax];exact a
    ·simp only [R1 Mn,R1 Mb]
     rw [L,u];omega
 ·refine D5 (fun h2=>?_) (fun h2=>?_)
  ·have h0:val b64 k=0:=av.2 o
   rw [h0,Int.gcd_zero_right] at a
   refine hK _ _ _ _ T aa ?_
   rw [<- a,Int.natAbs_of_nonneg M];exact Ma
  ·have bu:m1=1:=o
   obtain ⟨w,rfl⟩:∃ w,k=[w]:=by
    rcases k with _|⟨w,_|⟨w',r⟩⟩
    ·simp at W;omega
    ·exact ⟨w,rfl⟩
    ·simp at W;omega
   have hw:=dv w (by simp)
   rw [O5] at *
   obtain ⟨t,rfl⟩:∃ t:Nat,w=(t:Int):=cR hw.1
   have bj:(t:Int)<18446744073709551616:=hw.2
   have am:0<t:=o
   have sb:SlI .u64 hp B1 [(t:Int)]:=SlV.mono R.le pb.slV
   refine sb.load W o o ?_
   refine sb.load W o o ?_
   show aW _ _ #[_,U ((t:Nat):Int)] _ _
   refine Ed Ma ⟨am,o⟩ o ⟨_,rfl,B3 _,?_⟩
   have r0:=aP (val b64 s) (b:=(t:Int)) o
   have r1:=aK (val b64 s) (show (0:Int)<(t:Int) from o)
   have O:=Yi M (show (0:Int)<=(t:Int) from o)
   obtain ⟨r,hr⟩:=cR r0
   rw [hr] at r1 O ⊢
   show aW _ _ #[U ((t:Nat):Int),_] _ _
   refine Oo (gl.mono T) o o ⟨_,rfl,B3 _,?_⟩
   rw [cQ] at O
   have a3:cX t r<=t:=Nat.le_of_dvd am (Nat.gcd_dvd_left t r)
   refine S0 o ?_
   intro A2 m2 c2 h2 l2 q M2
   rw [O,a] at M2
   exact ⟨_,_,_,rfl,l2,hK _ _ _ _ (A0 T l2) q M2⟩
def Et{x y:Int}{an bn:Nat}(gl:Gtz h)(ma:Mw h A an x)(mb:Mw h B bn y)(ha:an<=ac)(hb:bn<=bc)(hl:an<=9000000000000)(hl2:bn<=9000000000000)(hK:∀ A' m c' h',h.le h'->m<=c'->Mw h' A' m (eI x y:Int)->K (.slice A' m c') h'):aW prog 186 #[.slice A an ac,.slice B bn bc] h K:=by
 refine Po _ _ _ _ _ _ ?_
 refine ⟨fun l r=>r=h/\∃ (A B:Option bJ) (n c m d:Nat) (e a:Int),l=[.slice A n c,.slice B m d]/\Mw h A n e/\Mw h B m a/\a<=e/\n<=c/\m<=d/\n<=9000000000000/\m<=9000000000000/\eI e a=eI x y,?_,?_⟩
 ·refine H2 ma mb o ⟨_,rfl,B5 (fun b=>?_) (fun b=>?_)⟩
  ·rw [Cq] at b
   exact ⟨rfl,_,_,_,_,_,_,_,_,rfl,mb,ma,o,hb,ha,hl2,hl,Int.gcd_comm _ _⟩
  ·rw [Cq] at b
   grind
 ·rintro A1 n1 c1 B1 X S r ⟨rfl,A2,B2,n,c,m,d,e,a,j,M1,M2,i,s,k2,l1,l2,p⟩
  obtain ⟨⟨rfl,rfl,rfl⟩,rfl,rfl,rfl⟩:=j
  refine D5 (fun b=>?_) (fun b=>?_)
  ·have:a=0:=(M2.len_zero dc).2 o
   subst this
   rw [Int.gcd_zero_right] at p
   refine hK _ _ _ _ (B3 _) s ?_
   grind
  ·obtain ⟨O,g,C,t,L,rfl⟩:=M1
   obtain ⟨F,f,M,D,nv,rfl⟩:=M2
   refine X6 C g o ?_
   intro A3 V W g3 q k
   refine ⟨_,_,_,rfl,?_⟩
   refine X6 (SlV.mono (A0 q k.le) M) f o ?_
   intro A4 c4 R T H u
   refine ⟨_,_,_,rfl,?_⟩
   obtain ⟨N,E,w⟩:=k.after H
   obtain ⟨z,Q,G⟩:=Priv.swap u w
   exact A1f gl ⟨O,F,z,N,A0 q E,Q,G,t,D,L,nv,rfl,rfl,i,p,o⟩ hK
end
structure ZI (h:bD) (s:Bool) (A:Option bJ) (n c:Nat) (z:Int):Prop where
 cap:n<=c
 mag:Mw h A n (z.natAbs:Int)
 sgn:s=decide (z<0)
def ZI.mono{h h':bD}{s:Bool}{A:Option bJ}{n c:Nat}{z:Int}(i:ZI h s A n c z)(l:h.le h'):ZI h' s A n c z:=⟨i.cap,i.mag.mono l,i.sgn⟩
def ZI.zero{h:bD}{A:Option bJ}:ZI h false A 0 0 0:=⟨aV _,Mag.zero,rfl⟩
def ZI.lenG{h:bD}{s:Bool}{A:Option bJ}{n c m k:Nat}{z:Int}(i:ZI h s A n c z)(hz:ZB m z)(hm:m<=64*k):n<=k:=by
 refine i.mag.len_le dc ?_
 rw [Df]
 have a:(z.natAbs:Int)<2^m:=by
  have:((z.natAbs:Nat):Int)<((2^m:Nat):Int):=Int.ofNat_lt.2 hz
  simpa using this
 have b:=C7 (B:=2) dc hm
 exact Int.lt_of_lt_of_le a b
def ZI.len{h:bD}{s:Bool}{A:Option bJ}{n c m:Nat}{z:Int}(i:ZI h s A n c z)(hz:ZB m z)(hm:m<=6400000000):n<=100000000:=i.lenG hz o
def ZI.zeroIff{h:bD}{s:Bool}{A:Option bJ}{n c:Nat}{z:Int}(i:ZI h s A n c z):z=0↔n=0:=by
 have:=i.mag.len_zero dc
 omega
section
variable {h g:bD} {K:VP} {A B:Option bJ} {s s':Bool} {an ac bn bc m:Nat} {x y:Int}
def O9{v:Nat}{n c:Nat}{neg:Bool}(M:Mw h A n (v:Int))(hc:n<=c)(hK:∀ s,ZI h s A n c (if neg then -(v:Int) else v)->K (.agg #[.bool s,.slice A n c]) h):aW prog 188 #[.bool neg,.slice A n c] h K:=by
 have a:=M.len_zero dc
 refine (fnk func188 (own:=[4])) ?_
 cases neg with
 | true=>
  refine Br.of (fun _=>hK _ ⟨hc,?_,?_⟩) (fun e=>by cases e)
  ·simpa using M
  ·simp only [if_true,decide_eq_decide];omega
 | false=>
  refine Br.of (fun e=>by cases e) (fun _=>hK _ ⟨hc,?_,?_⟩)
  ·simpa using M
  ·simp
def S7(i:ZI h s A an ac x)(hK:∀ s',ZI h s' A an ac (-x)->K (.agg #[.bool s',.slice A an ac]) h):aW prog 125 #[.agg #[.bool s,.slice A an ac]] h K:=by
 refine (fnk func125 (own:=[1,2])) ?_
 refine O9 (neg:= !s) i.mag i.cap ?_
 intro c a
 have e:(if (!s)=true then -(x.natAbs:Int) else x.natAbs)= -x:=by
  have:=i.sgn
  by_cases b:x<0
  ·simp only [b,decide_true] at this;subst this;simp;omega
  ·simp only [b,decide_false] at this;subst this;simp;omega
 rw [e] at a
 exact ⟨_,_,_,_,rfl,hK _ a⟩
def Bf(i:ZI h s A an ac x)(j:ZI h s' B bn bc y)(hx:ZB m x)(hy:ZB m y)(hm:m<=576000000000000)(hK:∀ s1 A' n' c' h',h.le h'->ZI h' s1 A' n' c' (x*y)->K (.agg #[.bool s1,.slice A' n' c']) h'):aW prog 137 #[.agg #[.bool s,.slice A an ac],.agg #[.bool s',.slice B bn bc]] h K:=by
 have l:=i.lenG (k:=9000000000000) hx o
 have p:=j.lenG (k:=9000000000000) hy o
 have b:=i.sgn
 have a:=j.sgn
 refine (fnk func137 (own:=[2,3,4])) ?_
 refine F5 i.mag j.mag i.cap j.cap o o ?_
 intro A1 n c1 g d e M1
 refine ⟨_,_,_,rfl,d,?_⟩
 rw [<- bV] at M1
 refine O9 (neg:= !(s==s')) M1 e ?_
 intro s1 c
 refine ⟨_,_,_,_,rfl,B3 _,hK _ _ _ _ _ d ?_⟩
 have f:(if (!(s==s'))=true then -((x.natAbs*y.natAbs:Nat):Int) else ((x.natAbs*y.natAbs:Nat):Int))=x*y:=by
  rw [bV]
  cases s with
  | true=>cases s' with
   | true=>rw [show (x.natAbs:Int)= -x by have:=of_decide_eq_true b.symm;omega,show (y.natAbs:Int)= -y by have:=of_decide_eq_true a.symm;omega];show -x * -y=x*y;exact Int.neg_mul_neg x y
   | false=>rw [show (x.natAbs:Int)= -x by have:=of_decide_eq_true b.symm;omega,show (y.natAbs:Int)=y by have:=of_decide_eq_false a.symm;omega];show -(-x*y)=x*y;rw [Int.neg_mul,Int.neg_neg]
  | false=>cases s' with
   | true=>rw [show (x.natAbs:Int)=x by have:=of_decide_eq_false b.symm;omega,show (y.natAbs:Int)= -y by have:=of_decide_eq_true a.symm;omega];show -(x * -y)=x*y;rw [Int.mul_neg,Int.neg_neg]
   | false=>rw [show (x.natAbs:Int)=x by have:=of_decide_eq_false b.symm;omega,show (y.natAbs:Int)=y by have:=of_decide_eq_false a.symm;omega];rfl
 rw [f] at c
 exact c
def Bg(gl:Gtz h)(i:ZI h s A an ac x)(j:ZI h s' B bn bc y)(hx:ZB m x)(hy:ZB m y)(hm:m<=576000000000000)(hK:∀ A' n' c' h',h.le h'->ZI h' false A' n' c' (eI x y:Int)->K (.agg #[.bool false,.slice A' n' c']) h'):aW prog 117 #[.agg #[.bool s,.slice A an ac],.agg #[.bool s',.slice B bn bc]] h K:=by
 have c:=i.lenG (k:=9000000000000) hx o
 have d:=j.lenG (k:=9000000000000) hy o
 refine (fnk func117 (own:=[2,3,4])) ?_
 refine Et gl i.mag j.mag i.cap j.cap c d ?_
 intro A1 f c1 e b a M1
 refine ⟨_,_,_,rfl,hK _ _ _ _ b ⟨a,?_,?_⟩⟩
 ·rw [cQ] at M1
  rw [cP]
  exact M1
 ·simp
def Jr(i:ZI h s A an ac x)(hK:K (I (Int.sign x)) h):aW prog 122 #[.agg #[.bool s,.slice A an ac]] h K:=by
 have c:=i.zeroIff
 have b:=i.sgn
 refine (fnk func122 (own:=[1])) ?_
 refine D5 (fun e=>?_) (fun e=>?_)
 ·obtain rfl:x=0:=o
  simpa using hK
 ·refine Br.of (fun a=>?_) (fun a=>?_)
  ·subst a
   have:=of_decide_eq_true b.symm
   rw [Int.sign_eq_neg_one_of_neg this] at hK;exact hK
  ·subst a
   have:=of_decide_eq_false b.symm
   rw [Int.sign_eq_one_of_pos o] at hK;exact hK
end
