/- A part. -/
import Derived.Test.YtkfhdoblhajcbaaGreatDoorG16
import Derived.Test.YtkfhdoblhajcbaaGreatDoorG17
import Derived.Test.YtkfhdoblhajcbaaGreatDoorG10
open Go.Proofs.Tryz
set_option linter.all false
open _root_.Go.Addr renaming add->eU
open _root_.Go.Builtin renaming copy_->dO
open _root_.Go.Extern.MathBitsCarry renaming m64->aQ,pair->fJ
open _root_.Go.Instr renaming storeAt->dN
open Int renaming toNat_natCast->aC,mul_le_mul_of_nonneg_right->aD,mul_le_mul_of_nonneg_left->aG,emod_lt_of_pos->aK,mul_ediv_add_emod->aL,le_of_lt->aM,mul_nonneg->aO,emod_nonneg->aP,mul_comm->aT,pow_add->aU,tdiv_eq_ediv_of_nonneg->aX,ediv_lt_of_lt_mul->aY,pow_succ->bC,mul_lt_mul_of_pos_right->bD,ediv_eq_zero_of_lt->bG,pow_pos->bI,ediv_nonneg->bJ,natCast_mul->bU,mul_lt_mul_of_pos_left->bV,lt_of_le_of_lt->cC,tdiv->cI,zero_add->cK,gcd_natCast_natCast->cN,eq_ofNat_of_zero_le->cO,mul_assoc->cV,mul_add->cY,tmod_eq_emod_of_nonneg->dF,natAbs_natCast->dG,mul_le_mul->dH,fdiv->dI,ediv_le_self->dQ,ediv_ediv_of_nonneg->dR,zero_mul->dT,add_mul_ediv_right->dU,add_mul_ediv_left->eC,mul_ediv_cancel->eG,mul_zero->eK,gcd->eM,emod_eq_of_lt->eO,add_zero->eQ,add_comm->eR,natCast_add->fG,add_mul_emod_self_right->fH,zero_emod->fN,pow_zero->fX
open List renaming replicate->aE,getElem?_cons_zero->aF,getElem?_cons_succ->aH,length_take->aJ,take_of_length_le->aN,length_append->aR,drop_of_length_le->aS,eq_nil_of_length_eq_zero->aZ,drop_replicate->bH,take_length->bN,length_replicate->bW,append_nil->bX,append_assoc->bY,length_drop->bZ,nil_append->cF,take_append_drop->cH,drop_eq_getElem_cons->cL,take_replicate->cM,drop_drop->cQ,replicate_append_replicate->cR,drop_append_of_le_length->cX,take_left'->cZ,drop_zero->dE,getElem?_eq_getElem->dM,length_set->dY,length_singleton->dZ,getElem?_eq_none->eB,take_succ_eq_append_getElem->eJ,getD->fA,drop_append->fB,map_append->fD,length_map->fE,drop_left'->fF,take_add->fM
open List.cons renaming injEq->cG
open Nat renaming min_eq_left->aI,le_refl->aV,pow_le_pow_right->bM,sub_zero->bO,gcd->cU,pow_pos->cW,pow_le_pow_left->dB,lt_of_lt_of_le->dC,one_mul->dJ,add_mul->dK,mul_assoc->dL,pow_succ->dS,div_le_self->dV,div_add_mod->dX,pow_add->eE,mul_le_mul_left->eF,add_zero->eI,min_eq_right->eZ,mod_lt->fI,pow_lt_pow_iff_right->fL,mul_div_cancel_left->fO,add_sub_cancel_left->fP,zero_mul->fR,mul_comm->fS,le_mul_of_pos_left->fT,gcd_sub_self_right->fU,gcd_comm->fV,div_div_eq_div_mul->fW
open Nat.Coprime renaming gcd_mul_left_cancel_right->cJ
open _root_.Go.Value renaming int->bL
open _root_.Go.Value.int renaming injEq->fC
open _root_.Go.Value.slice renaming injEq->cP
open _root_.Go renaming Addr->bK,TypeId->cD,IntKind->cT,Program->dP,Value->eD
open _root_.Go.Proofs.YtkfhdoblhajcbaaGreatDoor renaming FCall->aW,Heap->bF,Priv->fK,Norm->fQ
namespace Go.Proofs.YtkfhdoblhajcbaaGreatDoor
set_option maxRecDepth 20000
open Go
def Cc:prog.underlying 5=some (.int .u8):=by kernel_rfl
def V1:prog.underlying 9=some .string:=by kernel_rfl
def pv:List Nat->Nat
 | []=>0
 | d::r=>d+1000000000*pv r
def B6j(ps:List Nat)(d:Nat):pv (ps++[d])=pv ps+10^(9*ps.length)*d:=by
 induction ps with
 | nil=>simp [pv]
 | cons p ps ih=>
  simp only [List.cons_append,pv,ih,List.length_cons]
  grind
def A6w(ps:List Nat)(k:Nat):pv (ps.drop k)<=pv ps:=by
 induction ps generalizing k with
 | nil=>simp
 | cons p ps ih=>
  cases k with
  | zero=>simp
  | succ k=>have:=ih k;simp only [List.drop_succ_cons,pv];omega
def B6k{ps:List Nat}{k:Nat}(h:k<ps.length):pv (ps.drop k)=ps[k]+1000000000*pv (ps.drop (k+1)):=by
 rw [cL h];rfl
def pw(e:Nat):Nat:=if e=0 then 0 else 10^(e-1)
def Xt(e:Nat):pw (e+1)=10^e:=by simp [pw]
def A9k(e:Nat):pw (e+1)/10=pw e:=by
 rw [Xt]
 cases e with
 | zero=>simp [pw]
 | succ e=>rw [Xt,dS,Nat.mul_div_cancel _ dc]
def B7h(V d:Nat)(hd:d<10):dd (10*V+d)=if V≠0\/d≠0 then dd V++[dch d] else dd V:=by
 by_cases h:10*V+d=0
 ·grind
 ·rw [iP o,Eu h,show (10*V+d)/10=V from o,show (10*V+d)%10=d from o]
def A7w(n:Nat):(dd n).length=0↔n=0:=by
 constructor
 ·intro h
  by_cases a:n=0
  ·exact a
  ·exact absurd (aZ h) (B40 a)
 ·rintro rfl;rw [K9];rfl
section
variable {h h':bF} {K:VP} {A B:Option bK} {n c n' c':Nat} {s s':Bool} {x y z:Int} {m:Nat} {p q:Rat} {a b w:QV}
def Tl(i:NI h s A n c z)(hz:ZB m z)(hm:m<=1000000000)(hK:K (.string (bs (Q8 z.natAbs))) h):aW prog 95 #[.agg #[.bool s,.slice A n c]] h K:=by
 have h0:=i.zero_iff
 have W:=i.len hz hm
 refine FCall.pure ((fnk func95 [(5,[3,4],[],[.slice none 0 0,.slice none 0 0]),(11,[7,8],[],[.slice none 0 0,I 0]),(14,[7,9],[],[.slice none 0 0,U32 0])] (cs:=[(15,[7],[],[.slice none 0 0]),(18,[56],[],[.bool false])]) (own:=[1])) ?_)
 refine D5 (fun e=>?_) (fun e=>?_)
 ·have:z=0:=h0.1 o
  subst this
  exact ⟨B7 h,hK⟩
 ·generalize hZ:z.natAbs=Z at *
  have a8:Z<2^m:=by rw [<- hZ];exact hz
  rw [Db (show Z≠0 from o)] at hK
  have r:=i.mag
  rw [hZ] at r
  refine ⟨fun l p=>∃ (ps:List Nat) (X:Nat) (A B:Option bK) (c w mc:Nat) (g:bF),l=[.slice A ps.length c,.slice B w mc]/\h.le g/\fK p g 197 1 A ps.length c (ps.map fun (d:Nat)=>U32 (d:Int))/\Mg g B w X/\w<=100000000/\(∀ d∈ps,d<1000000000)/\Z=pv ps+10^(9*ps.length)*X/\29*ps.length<=m+29,fun l p=>match l with|[_,.slice B n _]=>B0e b32 p B n|_=>0,⟨[],Z,none,A,0,n,c,h,rfl,B7 h,Priv.nil _ _ _ _,r,W,by simp,by simp [pv],by simp⟩,?_⟩
  rintro A1 n1 c1 B1 w mc p ⟨ps,X,A1',B1',au,ag,am,g,hl,y,P1,M1,q1,ak,u,az⟩
  obtain ⟨⟨rfl,rfl,rfl⟩,rfl,rfl,rfl⟩:(A1=A1'/\n1=ps.length/\c1=au)/\B1=B1'/\w=ag/\mc=am:=gz0
  have a5:=M1.len_zero dc
  refine C0 (fun h1=>?_) (fun h1=>?_)
  ·have ay:29*ps.length<m:=by
    have h2:2^(29*ps.length)<=10^(9*ps.length):=by
     rw [Nat.pow_mul,Nat.pow_mul]
     exact dB dc _
    have h3:10^(9*ps.length)*1<=10^(9*ps.length)*X:=eF _ o
    exact (fL (a:=2) dc).1 o
   refine P1.call ?_
   refine Lh M1 dc q1 ?_
   intro A2 m2 c2 h2 l2 k2 k3 M2 h3 P3
   refine ⟨_,_,_,_,rfl,?_⟩
   refine Dl Oa P3 rfl rfl o o ?_
   intro A4 c4 N O l4 P4
   have M4:Mg O A2 m2 ((X/1000000000:Nat):Int):=M2.mono l4
   refine ⟨⟨ps++[X%1000000000],X/1000000000,A4,A2,c4,m2,c2,O,by simp,B0 y (B0 l2 l4),gz0,M4,o,?_,?_,?_⟩,?_⟩
   ·grind
   ·rw [B6j,aR,dZ,Nat.mul_add,eE,u,Nat.add_assoc,dL,<- Nat.mul_add,show 10^(9*1)=1000000000 from dc,Nat.mod_add_div]
   ·grind
   ·show B0e b32 N A2 m2<B0e b32 p B1 w
    rw [Be (M4.mono P4.le),Be (M1.mono P1.le)]
    omega
  ·have hX:X=0:=o
   subst hX
   rw [Nat.mul_zero,eI] at u
   have ao:SlV p A1 (ps.map fun (d:Nat)=>U32 (d:Int)):=P1.slV
   have ax:∀ V,V<=Z->(dd V).length<=m:=by
    intro V hV
    apply T1.2
    have:2^m<=10^m:=dB dc _
    omega
   have e1:C4 ((ps.length:Int)-1)=(ps.length:Int)-1:=C1 o o
   rw [e1]
   refine ⟨fun l N=>∃ (k:Nat) (A:Option bK) (n c:Nat) (g:bF),l=[.slice A n c,I ((k:Int)-1)]/\k<=ps.length/\p.le g/\n=(dd (pv (ps.drop k))).length/\fK N g 5 1 A n c (yv (dd (pv (ps.drop k)))),fun l _=>(iAt l 1+1).toNat,⟨ps.length,none,0,0,p,rfl,aV _,B7 p,by simp [pv,K9],by simpa [pv,K9,yv] using Priv.nil _ _ _ _⟩,?_⟩
   rintro A2 n2 c2 i2 N ⟨k,A2',ac,ah,O,a3,hk,lg,F,P2⟩
   obtain ⟨⟨rfl,rfl,rfl⟩,rfl⟩:(A2=A2'/\n2=ac/\c2=ah)/\i2=(k:Int)-1:=gz0
   refine C0 (fun h2=>?_) (fun h2=>?_)
   ·obtain ⟨j,rfl⟩:∃ j,k=j+1:=⟨k-1,o⟩
    have ej:((j+1:Nat):Int)-1=(j:Int):=o
    rw [ej]
    have hj:j<ps.length:=o
    have a2:=B6k hj
    have ap:ps[j]<1000000000:=ak _ (List.getElem_mem hj)
    have a0:=A6w ps j
    refine ⟨fun l M=>∃ (e:Nat) (A:Option bK) (n c:Nat) (g:bF),l=[.slice A n c,U32 (pw e:Int)]/\e<=9/\p.le g/\n=(dd (pv (ps.drop (j+1))*10^(9-e)+ps[j]/10^e)).length/\fK M g 5 1 A n c (yv (dd (pv (ps.drop (j+1))*10^(9-e)+ps[j]/10^e))),fun l _=>(iAt l 1).toNat,⟨9,A2,n2,c2,O,rfl,o,lg,?_,?_⟩,?_⟩
    ·grind
    ·grind
    rintro A5 n5 c5 d M ⟨e,A5',al,aj,g5,a7,he,t,C,P5⟩
    obtain ⟨⟨rfl,rfl,rfl⟩,rfl⟩:(A5=A5'/\n5=al/\c5=aj)/\d=(pw e:Int):=gz0
    generalize hV:pv (ps.drop (j+1))*10^(9-e)+ps[j]/10^e=V at *
    refine C0 (fun G=>?_) (fun G=>?_)
    ·obtain ⟨f,rfl⟩:∃ f,e=f+1:=by
      cases e with
      | zero=>simp [pw] at G
      | succ f=>grind
     have an:pw (f+1)=10^f:=Xt f
     have ae:0<10^f:=cW dc
     have a1:10^f<=100000000:=by
      have:10^f<=10^8:=bM dc o
      omega
     have a6:pv (ps.drop (j+1))*10^(9-f)+ps[j]/10^f=10*V+ps[j]/10^f%10:=by
      rw [<- hV,show 9-f=(9-(f+1))+1 from o,dS,dS,<- fW,Nat.mul_add]
      grind
     have H:10*V+ps[j]/10^f%10<=Z:=by
      have t1:10^(9-f)*10^f=1000000000:=by rw [<- eE,show 9-f+f=9 from o]
      have t2:10^(9-f)<=1000000000:=by rw [<- t1];exact Nat.le_mul_of_pos_right _ ae
      have t3:pv (ps.drop (j+1))*10^(9-f)<=pv (ps.drop (j+1))*1000000000:=eF _ t2
      have t4:=dV ps[j] (10^f)
      omega
     have ec:wu8 (I6 ((48:Int)+Int.tmod (I6 (cI (ps[j]:Int) ((pw (f+1):Nat):Int))) 10))=((48+ps[j]/10^f%10:Nat):Int):=by
      rw [an]
      have t1:cI (ps[j]:Int) ((10^f:Nat):Int)=((ps[j]/10^f:Nat):Int):=by rfl
      rw [t1]
      have t2:ps[j]/10^f<1000000000:=Nat.lt_of_le_of_lt (dV _ _) ap
      generalize ps[j]/10^f=D at t2 ⊢
      rw [Q3 (n:=(D:Int)) o o]
      have t3:Int.tmod (D:Int) 10=((D%10:Nat):Int):=by
       rfl
      rw [t3,Q3 o o,Vg o o];omega
     have q:ps[j]/10^f%10<10:=fI _ dc
     have E:SlV M A1 (ps.map fun (d:Nat)=>U32 (d:Int)):=ao.mono (B0 t P5.le)
     refine ⟨fun l G=>∃ (A:Option bK) (n c:Nat) (g:bF),l=[.slice A n c]/\p.le g/\n=(dd (10*V+ps[j]/10^f%10)).length/\fK G g 5 1 A n c (yv (dd (10*V+ps[j]/10^f%10))),?_,?_⟩
     ·obtain ⟨ad,aa,ai⟩:=SlV.at E (i:=j) gz0
      refine ⟨ad,aa,o,o,(ps[j]:Int),by simp_all,?_⟩
      refine C0 (fun e0=>absurd e0 o) (fun _=>?_)
      rw [ec]
      have b:=B7h V (ps[j]/10^f%10) q
      have av:=A7w V
      refine ⟨fun l Q=>l=[.bool (decide (V≠0\/ps[j]/10^f%10≠0))]/\Q=M,C0 (fun Q=>⟨?_,rfl⟩) (fun Q=>⟨?_,rfl⟩),?_⟩
      ·grind
      ·have e2:∀ D:Nat,(((48+D:Nat):Int) != 48)=decide (V≠0\/D≠0):=by
        grind
       rw [e2]
      rintro tb Q ⟨a4,rfl⟩
      obtain rfl:tb=decide (V≠0\/ps[j]/10^f%10≠0):=gz0
      refine C0 (fun h8=>?_) (fun h8=>?_)
      ·rw [iP h8] at b
       have S:=ax _ H
       rw [b,aR,dZ] at S
       refine Dl Ee P5 rfl rfl o o ?_
       intro A9 L h9 g9 l9 P9
       refine ⟨A9,n5+1,L,g9,rfl,B0 t l9,gz0,?_⟩
       rw [b,V9]
       have:yv [dch (ps[j]/10^f%10)]=[Y ((48+ps[j]/10^f%10:Nat):Int)]:=by
        simp only [yv,List.map_cons,List.map_nil,Ev q]
       grind
      grind
     ·rintro A9 n9 L h9 ⟨A9',aw,T,g9,a9,aq,ba,P9⟩
      obtain ⟨rfl,rfl,rfl⟩:A9=A9'/\n9=aw/\L=T:=gz0
      have ed:I6 (cI ((pw (f+1):Nat):Int) 10)=((pw f:Nat):Int):=by
       have t1:cI ((pw (f+1):Nat):Int) 10=((pw (f+1)/10:Nat):Int):=by rfl
       rw [t1,A9k,Q3 o (by have:=A9k f;omega)]
      rw [ed]
      refine ⟨⟨f,A9,n9,L,g9,rfl,o,aq,gz0,gz0⟩,?_⟩
      simp only [iAt,aF,aH,aC]
      have:=A9k f
      omega
    ·have R:e=0:=by
      cases e with
      | zero=>rfl
      | succ f=>rw [Xt] at G;grind
     subst R
     have ar:V=pv (ps.drop j):=o
     rw [ar] at P5 C
     rw [C1 o o]
     exact ⟨⟨j,A5,n5,c5,g5,rfl,o,t,C,P5⟩,by simp only [iAt,aF,aH];omega⟩
   ·have af:k=0:=o
    subst af
    rw [dE,<- u] at P2 F
    refine Il Ee.und Cc V1 P2.slV F ?_
    exact ⟨_,rfl,B0 y (B0 P1.le (B0 lg P2.le)),hK⟩
end
def Wl(a:Array UInt8):({ data:=a }:ByteArray)=bs a.toList:=by simp [bs]
def Cj{l:List UInt8}(h:∀ c∈l,I4 c):K3 l<2^(4*l.length):=by
 have a:=Fx h
 have b:10^l.length<=16^l.length:=dB dc _
 have d:16^l.length=2^(4*l.length):=by rw [Nat.pow_mul]
 omega
def B53{h:bF}{A:Option bK}{n m:Nat}{X:Nat}(M:Mg h A n X)(hx:X<2^m)(hm:m<=1000000000):n<=100000000:=by
 have:=B0k (j:=32) dc M (m:=m) gz0
 omega
section
variable {h h':bF} {K:VP} {A B:Option bK} {n c n' c':Nat} {s s':Bool} {x y z:Int} {m:Nat} {p q:Rat} {a b w:QV} {l:List UInt8}
def Hp(hl:l.length<=200000000)(hK:∀ s A n c ok h',h.le h'->(ok=true->(∀ c∈l,I4 c)/\l≠[]/\NI h' s A n c (K3 l))->(ok=false->¬ ((∀ c∈l,I4 c)/\l≠[]))->K (.tuple #[.agg #[.bool s,.slice A n c],.bool ok]) h'):aW prog 120 #[.string (bs l)] h K:=by
 refine (fnk func120 [(3,[4,5],[(2,2)],[.slice none 0 0,I 0,.bool false,.slice none 0 0]),(6,[5,6,7,8],[(2,2)],[I 0,U32 0,U32 0,I 0,.bool false,.slice none 0 0])] (cs:=[(12,[5,6,7],[(2,2)],[I 0,U32 0,U32 0,.bool false,.slice none 0 0])]) (own:=[2])) ?_
 simp only [I9]
 refine ⟨fun L u=>∃ (i:Nat) (A:Option bK) (n c:Nat),L=[.slice A n c,I i,.bool false,.slice none 0 0]/\i<=l.length/\h.le u/\(∀ c∈l.take i,I4 c)/\Mg u A n (K3 (l.take i))/\n<=c,fun L _=>l.length-(iAt L 1).toNat,⟨0,none,0,0,rfl,o,B7 h,by simp,Mag.zero,aV _⟩,?_⟩
 rintro A1 n1 c1 i1 V A2 n2 c2 u ⟨i,A1',ad,Q,hL,hi,ac,r,M,hc⟩
 obtain ⟨⟨rfl,rfl,rfl⟩,rfl,rfl,rfl,rfl,rfl⟩:(A1=A1'/\n1=ad/\c1=Q)/\i1=(i:Int)/\V=false/\A2=none/\n2=0/\c2=0:=gz0
 refine C0 (fun h1=>?_) (fun h1=>?_)
 ·refine ⟨fun L R=>∃ (k:Nat),L=[I ((i+k:Nat):Int),U32 (K3 ((l.drop i).take k):Nat),U32 ((10^k:Nat):Int),.bool false,.slice none 0 0]/\0<k/\k<=9/\i+k<=l.length/\R=u/\(∀ c∈(l.drop i).take k,I4 c),?_,?_⟩
  ·refine ⟨fun L R=>∃ (k:Nat),L=[I ((i+k:Nat):Int),U32 (K3 ((l.drop i).take k):Nat),U32 ((10^k:Nat):Int),I k,.bool false,.slice none 0 0]/\k<=9/\i+k<=l.length/\R=u/\(∀ c∈(l.drop i).take k,I4 c),fun L _=>9-(iAt L 3).toNat,⟨0,by rfl,o,o,rfl,by simp⟩,?_⟩
   rintro H v f k2 y A3 O c3 F ⟨k,ae,T,t,rfl,g⟩
   obtain ⟨rfl,rfl,rfl,rfl,rfl,rfl,rfl,rfl⟩:H=((i+k:Nat):Int)/\v=((K3 ((l.drop i).take k):Nat):Int)/\f=((10^k:Nat):Int)/\k2=(k:Int)/\y=false/\A3=none/\O=0/\c3=0:=gz0
   refine C0 (fun h2=>C0 (fun h3=>?_) (fun h3=>?_)) (fun h2=>?_)
   ·have E:i+k<l.length:=o
    have a:(bs l)[((i+k:Nat):Int).toNat]? = some l[i+k]:=by rw [aC,Wm,dM E]
    have d:¬ I4 l[i+k]->∀ s A n c,K (.tuple #[.agg #[.bool s,.slice A n c],.bool false]) F:=by
     grind
    refine ⟨l[i+k],⟨o,a⟩,C0 (fun z=>?_) (fun z=>?_)⟩
    ·exact d (fun C=>by unfold I4 at C;omega) _ _ _ _
    ·refine ⟨l[i+k],⟨o,a⟩,C0 (fun h5=>?_) (fun h5=>?_)⟩
     ·exact d (fun C=>by unfold I4 at C;omega) _ _ _ _
     ·have ag:I4 l[i+k]:=by unfold I4;omega
      refine ⟨l[i+k],⟨o,a⟩,?_⟩
      have j:(l.drop i).take (k+1)=(l.drop i).take k++[l[i+k]]:=by
       rw [eJ gz0];simp
      have S:K3 ((l.drop i).take k)<10^k:=by
       have:=Fx g
       grind
      have W:10^k<=100000000:=by
       have:10^k<=10^8:=bM dc o
       omega
      have e1:C4 (((i+k:Nat):Int)+1)=((i+(k+1):Nat):Int):=by rw [C1 o o];omega
      have e2:C4 ((k:Int)+1)=((k+1:Nat):Int):=by rw [C1 o o];omega
      have e3:I6 (((10^k:Nat):Int)*10)=((10^(k+1):Nat):Int):=by rw [dS,Q3 o o];omega
      have e4:I6 (I6 (((K3 ((l.drop i).take k):Nat):Int)*10)+I6 (wu8 ((l[i+k].toNat:Int)-48)))=((K3 ((l.drop i).take (k+1)):Nat):Int):=by
       rw [j,Hs,Vg o o,Q3 (n:=(l[i+k].toNat:Int)-48) o o,Q3 (n:=((K3 ((l.drop i).take k):Nat):Int)*10) o o,Q3 o o];omega
      rw [e1,e2,e3,e4]
      refine ⟨⟨k+1,rfl,o,o,rfl,?_⟩,by simp only [iAt,aF,aH];omega⟩
      grind
   ·grind
   grind
  ·rintro H v f w A3 O c3 p ⟨k,ae,af,T,t,rfl,g⟩
   obtain ⟨rfl,rfl,rfl,rfl,rfl,rfl,rfl⟩:H=((i+k:Nat):Int)/\v=((K3 ((l.drop i).take k):Nat):Int)/\f=((10^k:Nat):Int)/\w=false/\A3=none/\O=0/\c3=0:=gz0
   have S:K3 ((l.drop i).take k)<10^k:=by
    have:=Fx g
    grind
   have W:0<10^k/\10^k<=1000000000:=by
    have:10^k<=10^9:=bM dc o
    omega
   have aa:((l.drop i).take k).length=k:=gz0
   have j:l.take (i+k)=l.take i++(l.drop i).take k:=fM
   have q:∀ c∈l.take (i+k),I4 c:=by
    grind
   have ah:K3 (l.take (i+k))=K3 (l.take i)*10^k+K3 ((l.drop i).take k):=by rw [j,Fy,aa]
   have G:K3 (l.take i)<2^(4*l.length):=dC (Cj r) (bM dc gz0)
   have ai:K3 (l.take (i+k))<2^(4*l.length):=dC (Cj q) (bM dc gz0)
   have X:=B53 M G o
   refine Q7 Oa rfl ?_
   intro B D
   refine ⟨_,_,_,rfl,?_⟩
   have lf:=Heap.le_put (h:=p) (b:=B) (.cells #[U32 ((10^k:Nat):Int)] 197) D
   have Mf:Mg (p.put B (.cells #[U32 ((10^k:Nat):Int)] 197)) (some ⟨B,0,none⟩) 1 ((10^k:Nat):Int):=
    ⟨[((10^k:Nat):Int)],rfl,SlI.new p B [((10^k:Nat):Int)] 197 _,Dig.one ⟨o,gz0⟩,by simp only [fQ,List.getLast?_singleton,ne_eq,Option.some.injEq];omega,Z1 _ _⟩
   refine Sh (M.mono lf) Mf X o ?_
   intro A4 m4 c4 z l4 k4 M4
   refine ⟨_,_,_,rfl,?_⟩
   refine Q7 Oa rfl ?_
   intro bv N
   refine ⟨_,_,_,rfl,?_⟩
   have lv:=Heap.le_put (h:=z) (b:=bv) (.cells #[U32 ((K3 ((l.drop i).take k):Nat):Int)] 197) N
   refine Ai (xs:=[((K3 ((l.drop i).take k):Nat):Int)]) (SlI.new z bv _ 197 _) (Dig.one ⟨o,gz0⟩) (aV _) (by simp) ?_
   intro m5 k5 M5
   refine ⟨_,_,_,rfl,?_⟩
   rw [Z1] at M5
   have e4:((K3 (l.take i):Nat):Int)*((10^k:Nat):Int)=((K3 (l.take i)*10^k:Nat):Int):=by rw [bU]
   rw [e4] at M4
   refine Ua (M4.mono lv) M5 (B53 M4 (m:=4*l.length) o o) gz0 ?_
   intro A6 m6 c6 h6 l6 k6 M6
   have e6:((K3 (l.take i)*10^k:Nat):Int)+((K3 ((l.drop i).take k):Nat):Int)=((K3 (l.take (i+k)):Nat):Int):=o
   rw [e6] at M6
   exact ⟨_,_,_,rfl,⟨i+k,A6,m6,c6,rfl,t,B0 ac (B0 lf (B0 l4 (B0 lv l6))),q,M6,k6⟩,by simp only [iAt,aF,aH];omega⟩
 ·refine N4 M hc ?_
  intro s1 i1
  refine ⟨_,_,_,_,rfl,?_⟩
  have e:(!((bs l).toList==({ data:=#[] }:ByteArray).toList))=decide (l≠[]):=by
   rw [Wl,Jl];simp
  grind
def Ck{n m:Nat}(h:n<2^m):(Q8 n).length<=m+1:=by
 rw [Nb o]
 have:2^m<=10^(m+1):=Nat.le_trans (dB dc m) (bM dc o)
 omega
def A0a(i:NQ h w q)(hq:Sz m q)(hm:m<=1000000000)(hK:K (.string (bs (E8 q))) h):aW prog 54 #[w.v] h K:=by
 have r:=i.num.sg
 have d:=i.den_zero
 refine (fnk func54 (cs:=[(4,[3],[],[.string ⟨#[]⟩])]) (own:=[1])) ?_
 have j:=Ck hq.num
 have k:=Ck (n:=q.den) (m:=m) (by have:=hq.den;assumption)
 refine Tl i.num hq.num hm ⟨_,rfl,?_⟩
 refine ⟨fun l c=>l=[.string (bs (Ny q.num))]/\c=h,Br.of (fun e=>?_) (fun e=>?_),?_⟩
 ·refine ⟨?_,?_,rfl⟩
  ·rw [Wl,I9,I9];grind
  ·rw [Wl,Ni];unfold Ny;grind
 ·exact ⟨by unfold Ny;grind,rfl⟩
 rintro t p ⟨g,rfl⟩
 obtain rfl:t=bs (Ny q.num):=gz0
 have s:(Ny q.num).length<=m+2:=by
  unfold Ny;grind
 refine C0 (fun e=>?_) (fun e=>?_)
 ·have b:¬ q.den=1:=fun f=>by omega
  have a:=i.den
  rw [iN b] at a
  refine Tl a hq.den hm ⟨_,rfl,?_,?_,?_⟩
  ·rw [Wl,I9,I9,dG];grind
  ·rw [Wl,Ni,I9,I9,dG];grind
  ·rw [Wl,Ni,Ni,dG]
   unfold E8 at hK
   grind
 ·unfold E8 at hK
  grind
def B5s{t a r a' r':List UInt8}(h1:t=a++r)(h2:∀ c∈a,c≠47)(h3:r=[]\/r.head? = some 47)(g1:t=a'++r')(g2:∀ c∈a',c≠47)(g3:r'=[]\/r'.head? = some 47):a=a'/\r=r':=by
 induction a generalizing t a' with
 | nil=>
  cases a' with
  | nil=>grind
  | cons c a'=>
   grind
 | cons c a ih=>
  cases a' with
  | nil=>
   grind
  | cons c' a'=>
   grind
def A8k(q:Rat):E8 q=(if q.num<0 then [45] else [])++(Q8 q.num.natAbs++(if q.den=1 then [] else 47::Q8 q.den)):=by
 unfold E8 Ny;grind
def B17(n:Nat):∀ c∈Q8 n,c≠47:=fun c a=>(A5r (Nd n c a)).2
def Tc{neg:Bool}{q:Rat}(h:neg=decide (q.num<0)):Rat.divInt (if neg=true then -((q.num.natAbs:Nat):Int) else ((q.num.natAbs:Nat):Int)) q.den=q:=by
 have:(if neg=true then -((q.num.natAbs:Nat):Int) else ((q.num.natAbs:Nat):Int))=q.num:=by
  grind
 simp_all
def A9a(hl:l.length<=100000000)(hK1:∀ q,l=E8 q->∀ w h',h.le h'->NQ h' w q->K (.tuple #[w.v,.bool true]) h')(hK0:¬ IsNum l->∀ (w:QV) h',h.le h'->K (.tuple #[w.v,.bool false]) h'):aW prog 67 #[.string (bs l)] h K:=by
 refine (fnk func67 [(7,[6,7],[],[I 0,I 0])] (cs:=[(3,[5],[],[.bool false]),(5,[4],[],[.string ⟨#[]⟩]),(11,[6],[],[I 0])]) (os:=[(20,[0,1,3,2,4,5,6])]) (own:=[2,8,10,11])) ?_
 simp only [I9]
 refine ⟨fun L h'=>L=[.bool (l.head? == some 45)]/\h'=h,C0 (fun C=>?_) (fun C=>?_),?_⟩
 ·cases l with
  | nil=>grind
  | cons c r=>
   refine ⟨c,⟨o,by rfl⟩,?_,rfl⟩
   have:((c.toNat:Int)==45)=((c::r).head? == some 45):=by
    rw [Bool.eq_iff_iff,beq_iff_eq,beq_iff_eq,List.head?_cons,Option.some.injEq]
    constructor
    ·intro e;apply UInt8.toNat_inj.1;grind
    simp_all
   rw [this]
 ·simp_all
 rintro neg hp ⟨hL,rfl⟩
 obtain rfl:neg=(l.head? == some 45):=gz0
 refine ⟨fun L h'=>L=[.string (bs (if (l.head? == some 45) then l.drop 1 else l))]/\h'=hp,Br.of (fun e=>?_) (fun e=>?_),?_⟩
 ·have ad:1<=l.length:=by
   grind
  refine ⟨⟨o,o⟩,?_,rfl⟩
  rw [iP e,N5,aN gz0];rfl
 ·grind
 rintro t0 z ⟨ai,rfl⟩
 generalize ht:(if (l.head? == some 45) then l.drop 1 else l)=t at *
 obtain rfl:t0=bs t:=gz0
 have ah:t.length<=l.length:=gz0
 have M:l=(if (l.head? == some 45) then [45] else [])++t:=by
  rw [<- ht]
  cases l with
  | nil=>simp
  | cons c r=>
   grind
 have k:∀ q,l=E8 q->(l.head? == some 45)=decide (q.num<0)/\t=Q8 q.num.natAbs++(if q.den=1 then [] else 47::Q8 q.den):=by
  intro q e
  have f:=Ec q
  rw [<- e] at f
  have hh:=f.head
  refine ⟨hh.symm,?_⟩
  have D:=M
  rw [<- hh,e,A8k q] at D
  grind
 refine ⟨fun L h'=>∃ a:Nat,L=[I a]/\h'=z/\a<=t.length/\(∀ c∈t.take a,c≠47)/\(t.drop a=[]\/(t.drop a).head? = some 47),?_,?_⟩
 ·simp only [I9]
  refine ⟨fun L h'=>∃ i:Nat,L=[I t.length,I i]/\h'=z/\i<=t.length/\(∀ c∈t.take i,c≠47),fun L _=>t.length-(iAt L 1).toNat,⟨0,rfl,rfl,o,by simp⟩,?_⟩
  rintro aa i1 ak ⟨i,an,rfl,hi,u⟩
  obtain ⟨rfl,rfl⟩:aa=(t.length:Int)/\i1=(i:Int):=gz0
  refine C0 (fun C=>?_) (fun C=>?_)
  ·have y:i<t.length:=o
   refine ⟨t[i],⟨o,by rw [aC,Wm,dM y]⟩,D5 (fun h2=>?_) (fun h2=>?_)⟩
   ·refine ⟨i,rfl,rfl,hi,u,.inr ?_⟩
    rw [List.head?_drop,dM y]
    congr 1
    apply UInt8.toNat_inj.1
    grind
   ·rw [C1 o o]
    refine ⟨⟨i+1,rfl,rfl,o,?_⟩,by simp only [iAt,aF,aH];omega⟩
    rw [eJ y]
    intro c hc
    rcases List.mem_append.1 hc with V|V
    ·grind
    ·rw [List.mem_singleton.1 V]
     intro e;rw [e] at h2;grind
  grind
 rintro O S ⟨a,aj,rfl,ag,u,j⟩
 obtain rfl:O=(a:Int):=gz0
 simp only [I9,N5,aC,dE,bO]
 refine ⟨⟨o,o⟩,?_⟩
 have g:t=t.take a++t.drop a:=(cH a t).symm
 have b:∀ q,l=E8 q->t.take a=Q8 q.num.natAbs/\t.drop a=(if q.den=1 then [] else 47::Q8 q.den):=by
  intro q e
  refine B5s g u j (k q e).2 (B17 _) ?_
  split
  ·left;rfl
  grind
 refine Hp gz0 ?_
 intro s1 A1 n1 c1 al C G k1 k0
 refine ⟨_,_,_,_,_,rfl,Br.not (Br.of (fun e=>?_) (fun e=>?_))⟩
 ·obtain ⟨dg,ae,iN⟩:=k1 e
  have W:ZB (4*l.length) (K3 (t.take a):Int):=by
   exact dC (Cj dg) (bM dc gz0)
  have im:=iN.mag
  refine N4 im iN.cap ?_
  intro s2 i2
  refine ⟨_,_,_,_,rfl,?_⟩
  have d:ZB (4*l.length) (if (l.head? == some 45)=true then -((K3 (t.take a):Nat):Int) else ((K3 (t.take a):Nat):Int)):=by
   split
   ·exact W.neg
   omega
  have B:∀ (A:Rat) (w:QV) (n:bF),S.le n->NQ n w A->Sz (4*l.length+1) A->(∀ q,l=E8 q->q=A)->
   aW prog 54 #[w.v] n (fun r5 F=>∃ (t79:ByteArray),r5= .string t79/\Heap.le n F/\K (.tuple #[w.v,.bool (ByteArray.toList t79==ByteArray.toList (bs l))]) F):=by
   intro A w n Q X T am
   refine A0a X T o ⟨_,rfl,B7 _,?_⟩
   rw [Jl]
   by_cases hc:E8 A=l
   ·grind
   ·rw [decide_eq_false hc]
    refine hK0 ?_ w n Q
    rintro ⟨q,e⟩
    grind
  refine C0 (fun D=>?_) (fun D=>?_)
  ·have e3:C4 ((a:Int)+1)=((a+1:Nat):Int):=by rw [C1 o o];omega
   rw [e3]
   refine ⟨⟨o,o⟩,?_⟩
   rw [aC,aN (show (t.drop (a+1)).length<=t.length-(a+1) from gz0)]
   have hb:t.drop a=47::t.drop (a+1):=by
    rcases j with h0|h0
    ·grind
    ·rw [List.head?_drop] at h0
     have E:a<t.length:=o
     rw [cL E]
     grind
   refine Hp gz0 ?_
   intro s3 A3 n3 c3 af V H j1 j0
   have m:∀ q,l=E8 q->q.den≠1/\t.drop (a+1)=Q8 q.den:=by
    intro q e
    by_cases hd:q.den=1
    ·grind
    grind
   refine ⟨_,_,_,_,_,rfl,Br.not (Br.of (fun e4=>?_) (fun e4=>?_))⟩
   ·obtain ⟨R,ac,iD⟩:=j1 e4
    refine A0i iD ⟨_,rfl,D5 (fun N=>?_) (fun N=>?_)⟩
    ·refine hK0 ?_ ⟨false,none,0,0,false,none,0,0⟩ _ (B0 G H)
     rintro ⟨q,e⟩
     have h6:=(m q e).2
     have h7:((K3 (t.drop (a+1)):Nat):Int)=0:=Int.sign_eq_zero_iff_zero.1 N
     rw [h6,At] at h7
     exact q.den_nz o
    ·have p:((K3 (t.drop (a+1)):Nat):Int)≠0:=fun e6=>N (by rw [e6];rfl)
     have s:ZB (4*l.length) (K3 (t.drop (a+1)):Int):=by
      exact dC (Cj R) (bM dc gz0)
     refine Hq (i2.mono H) iD p d s o ?_
     intro w n Q X
     refine ⟨_,_,_,_,_,_,_,_,rfl,?_⟩
     refine B _ w n (B0 G (B0 H Q)) X ((T3 p d s).mono o) ?_
     intro q e
     rw [(b q e).1,(m q e).2,At,At]
     exact (Tc (k q e).1).symm
   ·refine hK0 ?_ ⟨false,none,0,0,false,none,0,0⟩ _ (B0 G H)
    rintro ⟨q,e⟩
    exact j0 e4 (by rw [(m q e).2];exact ⟨Nd _,Tk _⟩)
  ·refine B _ ⟨s2,A1,n1,c1,false,none,0,0⟩ C G (NQ.whole i2) (Sz.int (d.mono o) o) ?_
   intro q e
   have hd:q.den=1:=by
    grind
   rw [(b q e).1,At]
   have:=Tc (k q e).1
   rw [hd] at this
   rw [<- Is]
   exact this.symm
 ·refine hK0 ?_ ⟨false,none,0,0,false,none,0,0⟩ _ G
  rintro ⟨q,D⟩
  exact k0 e (by rw [(b q D).1];exact ⟨Nd _,Tk _⟩)
end
def ndg(x:Nat):Nat:=x*78913/262144
def B50:∀ x,x<65->2^x<=10^(ndg x+1)/\(ndg x=0\/10^(ndg x-1)<=2^(x-1))/\ndg x<=19:=dc
def A25{n k:Nat}(h1:10^k<=n)(h2:n<10^(k+1)):(dd n).length=k+1:=by
 have a:=(T1 (n:=n) (k:=k+1)).2 h2
 have b:¬ (dd n).length<=k:=fun e=>by have:=T1.1 e;omega
 omega
def C08{d:Nat}(h0:d≠0)(h:d<2^64):(dd d).length=ndg (S0 d)+(if 10^ndg (S0 d)<=d then 1 else 0):=by
 have g:=Hv h
 obtain ⟨c,f⟩:=Ey h0
 obtain ⟨e,a,i⟩:=B50 (S0 d) o
 split
 ·rename_i b
  exact A25 b o
 ·rename_i b
  rcases a with a|a
  ·grind
  ·obtain ⟨k,hk⟩:∃ k,ndg (S0 d)=k+1:=by
    by_cases j:ndg (S0 d)=0
    ·grind
    ·exact ⟨ndg (S0 d)-1,o⟩
   rw [hk] at b a ⊢
   rw [Nat.add_sub_cancel] at a
   exact A25 o o
def B6n(w n:Nat):pad (w+2) n=pad w (n/100)++[dch (n/10%10),dch (n%10)]:=by
 rw [Qx,Qx,fW];simp
def A9w(n:Nat)(h:n=0):pad 0 n=[]:=by subst h;simp [pad,K9]
abbrev b64:Int:=18446744073709551616
abbrev Mw(h:bF)(A:Option bK)(len:Nat)(n:Int):Prop:=Mag .u64 b64 h A len n
structure Win (k:cT) (h g:bF) (b:Nat) (e:cD) (A:Option bK) (pre:List eD) (xs:List Int) (post:List eD):Prop where
 free:g b=none
 eq:h=g.put b (.cells (pre++xs.map (bL k)++post).toArray e)
 at_:xs=[]\/A=some ⟨b,pre.length,none⟩
section
variable {k:cT} {h g:bF} {b:Nat} {e:cD} {A:Option bK} {pre post:List eD} {xs:List Int}
def Win.le(w:Win k h g b e A pre xs post):g.le h:=by rw [w.eq];exact Heap.le_put _ w.free
def Win.sl(w:Win k h g b e A pre xs post):SlI k h A xs:=by
 rcases w.at_ with rfl|a
 ·exact SlI.nil
 ·right
  refine ⟨_,a,fun i v c=>?_⟩
  rw [w.eq,D4,D7]
  grind
def Win.store{P:dP}{t:cD}(one:P.cellsOf t=1/\(P.info? t).isSome=true)(w:Win k h g b e A pre xs post){a:bK}(ha:A=some a){i v:Int}(h0:0<=i)(h1:i<xs.length){K:Unit->bF->Prop}
 (x:∀ h',Win k h' g b e A pre (xs.set i.toNat v) post->K () h'):wpH P (dN t (.pointer (some (eU a (i.toNat*1)))) (.int k v)) K h:=by
 have c:A=some ⟨b,pre.length,none⟩:=by
  rcases w.at_ with rfl|c
  ·grind
  ·exact c
 rw [ha] at c
 cases c
 rw [w.eq,D4,Nat.mul_one]
 refine Am one.1 one.2 rfl rfl gz0 ?_
 refine x _ ⟨w.free,?_,.inr ha⟩
 simp_all
def Win.storeN{P:dP}{t:cD}(one:P.cellsOf t=1/\(P.info? t).isSome=true)(w:Win k h g b e A pre xs post){a:bK}(ha:A=some a){i:Nat}{v:Int}(h1:i<xs.length){K:Unit->bF->Prop}
 (x:∀ h',Win k h' g b e A pre (xs.set i v) post->K () h'):wpH P (dN t (.pointer (some (eU a (i*1)))) (.int k v)) K h:=by
 have:=w.store one ha (i:=(i:Int)) (v:=v) (K:=K) o o (by assumption)
 assumption
def Win.call{P:dP}{f:FuncId}{args:Array eD}(w:Win k h g b e A pre xs post){K:VP}(x:aW P f args g (fun r h0=>∀ h',Win k h' h0 b e A pre xs post->K r h')):aW P f args h K:=by
 rw [w.eq]
 exact FCall.frame w.free x fun r h0 a c=>c _ ⟨a,rfl,w.at_⟩
def Win.blk(k:cT)(e:cD){g:bF}{b:Nat}(hb:g b=none)(zs:List Int):Win k (Go.Proofs.YtkfhdoblhajcbaaGreatDoor.blk k e g b zs) g b e (some ⟨b,0,none⟩) [] zs []:=
 ⟨hb,by simp [Go.Proofs.YtkfhdoblhajcbaaGreatDoor.blk],.inr rfl⟩
def Win.sub(w:Win k h g b e A pre xs post){l m c:Nat}(hl:l<=m)(hm:m<=xs.length)(hc:xs.length<=c):
 Win k h g b e (T9 A c l 1) (pre++(xs.take l).map (bL k)) ((xs.drop l).take (m-l)) ((xs.drop m).map (bL k)++post):=by
 refine ⟨w.free,?_,?_⟩
 ·rw [w.eq]
  congr 3
  have:xs=xs.take l++((xs.drop l).take (m-l)++xs.drop m):=by
   have d:xs.drop m=(xs.drop l).drop (m-l):=by simp_all
   rw [d,cH,cH]
  grind
 ·by_cases f:m-l=0
  ·grind
  ·right
   rcases w.at_ with rfl|a
   ·grind
   ·unfold T9
    rw [iN o,a]
    simp only [Option.map_some,D4,Nat.mul_one,aR,fE,aJ]
    grind
def Win.whole{h' g':bF}(w:Win k h g b e A pre xs post){l m:Nat}(hl:l<=m)(hm:m<=xs.length){B:Option bK}{ys:List Int}(hy:ys.length=m-l)(v:Win k h' g' b e B (pre++(xs.take l).map (bL k)) ys ((xs.drop m).map (bL k)++post)):
 Win k h' g' b e A pre (xs.take l++ys++xs.drop m) post:=by
 refine ⟨v.free,?_,?_⟩
 ·rw [v.eq]
  grind
 ·rcases w.at_ with rfl|a
  ·grind
  grind
def Priv.win{n c:Nat}(p:fK h g e 1 A n c (xs.map (bL k)))(hx:xs≠[]):∃ b post,Win k h g b e A [] xs post:=by
 obtain ⟨q,l,f⟩:=p
 rcases f with ⟨r,rfl⟩|⟨b,a,j,i,rfl,m,d⟩
 ·simp_all
 ·refine ⟨b,a.drop (n*1),i,?_,.inr j⟩
  rw [cF,<- d,cH]
end
def V7{P:dP}{t:cD}(one:P.cellsOf t=1/\(P.info? t).isSome=true){k:cT}{n:Int}{i:Nat}{g:bF}{b:Nat}{e:cD}{zs:List Int}(hi:i<zs.length){K:Unit->bF->Prop}
 (x:K () (blk k e g b (zs.set i n))):wpH P (dN t (.pointer (some (eU ⟨b,0,none⟩ (i*1)))) (.int k n)) K (blk k e g b zs):=by
 have:=T2 (P:=P) (t:=t) one (k:=k) (n:=n) (i:=(i:Int)) (g:=g) (b:=b) (e:=e) (zs:=zs) (K:=K) o (by assumption)
 assumption
def Dr{P:dP}{t e e' ty:cD}{k:cT}{bytes:Nat}(s:SliceT P t e' (.int k 0) 1 bytes){h g:bF}{b:Nat}{A:Option bK}{pre post:List eD}{xs:List Int}{n c m d:Nat}(w:Win k h g b e A pre xs post)(hn:n=xs.length){B:Option bK}{ys:List Int}(sy:SlI k h B ys)(hm:m=ys.length)(hle:ys.length<=xs.length){K:VP}
 (x:∀ h',Win k h' g b e A pre (ys++xs.drop ys.length) post->K (I ys.length) h'):wpH P (dO #[t,t] ty #[.slice A n c,.slice B m d]) K h:=by
 subst hn hm
 obtain ⟨i,r,y,l,p⟩:=s.parts
 unfold dO
 simp only [List.getElem?_toArray,aF,aH,C9,F0 s.und,J3 r,H2,Builtin.lenOf,l]
 have f:Nat.min ys.length xs.length=ys.length:=aI hle
 rw [f]
 refine M0 (s:=1) (cs:=ys.map (bL k)) (by simp) sy ?_
 cases A with
 | none=>
  rcases w.at_ with j|j
  ·have:ys=[]:=aZ gz0
   subst this
   exact x h (by assumption)
  ·cases j
 | some a=>
  simp only [C9]
  rcases w.at_ with j|j
  ·have:ys=[]:=aZ gz0
   subst this
   exact x h (by assumption)
  ·cases j
   rw [w.eq]
   refine G8 (ys.map (bL k)) pre.length 0 (pre++xs.map (bL k)++post) gz0 (fun v q=>?_) ?_
   ·obtain ⟨u,_,rfl⟩:=List.mem_map.1 q;rfl
   ·refine x _ ⟨w.free,?_,?_⟩
    ·congr 3
     unfold H9
     rw [eI,bY pre,cZ rfl,fE]
     rw [fB,aS (show pre.length<=pre.length+ys.length from o),fP,cF]
     rw [cX gz0,<- List.map_drop,fD]
     grind
    grind
def A4z{P:dP}{nm:String}{x y c:Int}(hc:0<=c/\c<=1){f:Nat × Nat × Nat->eD}:Og P (Extern.MathBitsCarry.three nm #[U x,U y,U c] >>= fun p=>pure (f p))=some (f (x.toNat,y.toNat,c.toNat)):=by
 obtain rfl|rfl:c=0\/c=1:=o
 ·rfl
 ·rfl
def B0l:aQ=18446744073709551616:=dc
def De{h:bF}{K:VP}{x y c:Int}(hx:0<=x/\x<18446744073709551616)(hy:0<=y/\y<18446744073709551616)(hc:0<=c/\c<=1)(hK:K (.tuple #[U ((x+y+c)%18446744073709551616),U ((x+y+c)/18446744073709551616)]) h):ECall prog 295 #[U x,U y,U c] h K:=by
 refine B57 A86 (A4z (P:=prog) hc (f:=fun p=>fJ ((p.1+p.2.1+p.2.2)%aQ) ((p.1+p.2.1+p.2.2)/aQ))) ?_
 have b:((x.toNat+y.toNat+c.toNat)%aQ:Nat)=(((x+y+c)%18446744073709551616:Int)):=by
  rw [B0l]
  omega
 have a:((x.toNat+y.toNat+c.toNat)/aQ:Nat)=(((x+y+c)/18446744073709551616:Int)):=by
  rw [B0l]
  omega
 show K (.tuple #[U ((x.toNat+y.toNat+c.toNat)%aQ:Nat),U ((x.toNat+y.toNat+c.toNat)/aQ:Nat)]) h
 grind
def Fl{h:bF}{K:VP}{x y c:Int}(hx:0<=x/\x<18446744073709551616)(hy:0<=y/\y<18446744073709551616)(hc:0<=c/\c<=1)(hK:K (.tuple #[U ((x-y-c)%18446744073709551616),U (if x-y-c<0 then 1 else 0)]) h):ECall prog 279 #[U x,U y,U c] h K:=by
 refine B57 A85 (A4z (P:=prog) hc (f:=fun p=>fJ ((p.1+aQ-p.2.1-p.2.2)%aQ) (if p.1<p.2.1+p.2.2 then 1 else 0))) ?_
 have a:((x.toNat+aQ-y.toNat-c.toNat)%aQ:Nat)=(((x-y-c)%18446744073709551616:Int)):=by
  rw [B0l]
  omega
 show K (.tuple #[U ((x.toNat+aQ-y.toNat-c.toNat)%aQ:Nat),U ((if x.toNat<y.toNat+c.toNat then 1 else 0:Nat):Nat)]) h
 grind
def Ki(x y:Int):Int:=if x<y then -1 else if x>y then 1 else 0
def B0a{h:bF}{K:VP}{x:Int}(hK:K (.bool false) h):aW prog 294 #[I x] h K:=by
 refine (fnk func294) ?_
 grind
def B09{h:bF}{K:VP}{x:Int}(hK:K (.bool false) h):aW prog 296 #[U x] h K:=by
 refine (fnk func296) ?_
 grind
def Tq{h:bF}{K:VP}{x y:Int}(hK:K (I (Ki x y)) h):aW prog 267 #[I x,I y] h K:=by
 refine (fnk func267) ?_
 refine B0a ⟨_,rfl,B0a ⟨_,rfl,?_⟩⟩
 unfold Ki at hK
 refine C0 (fun a=>?_) (fun a=>C0 (fun b=>?_) (fun b=>?_))
 ·grind
 ·grind
 grind
def B1e{h:bF}{K:VP}{x y:Int}(hK:K (I (Ki x y)) h):aW prog 274 #[U x,U y] h K:=by
 refine (fnk func274) ?_
 refine B09 ⟨_,rfl,B09 ⟨_,rfl,?_⟩⟩
 unfold Ki at hK
 refine C0 (fun a=>?_) (fun a=>C0 (fun b=>?_) (fun b=>?_))
 ·grind
 ·grind
 grind
def Ly{h:bF}{K:VP}{x y:Int}(hx:0<=x/\x<18446744073709551616)(hy:0<=y/\y<18446744073709551616)(hK:K (.tuple #[U (x*y/18446744073709551616),U (x*y%18446744073709551616)]) h):aW prog 215 #[U x,U y] h K:=by
 refine (fnk func215) ?_
 rw [Bw hx,Bw hy]
 simp only [Uo]
 obtain ⟨e,d,b,c,a⟩:=A41 hx hy (x1:=x/4294967296) (x0:=x%4294967296) (y1:=y/4294967296) (y0:=y%4294967296) o o o o
 generalize x/4294967296*(y/4294967296)=p11 at *
 generalize x/4294967296*(y%4294967296)=p10 at *
 generalize x%4294967296*(y/4294967296)=p01 at *
 generalize x%4294967296*(y%4294967296)=p00 at *
 rw [C6 (n:=p00) o o,C6 (n:=p10) o o,C6 (n:=p01) o o,C6 (n:=p11) o o]
 rw [C6 (n:=p10+p00/4294967296) o o,Bw o]
 rw [C6 (n:=(p10+p00/4294967296)%4294967296+p01) o o]
 rw [C6 (n:=p11+(p10+p00/4294967296)/4294967296) o o,C6 o o,F2]
 have:p11+(p10+p00/4294967296)/4294967296+((p10+p00/4294967296)%4294967296+p01)/4294967296=x*y/18446744073709551616:=by
  omega
 grind
def U3{h:bF}{K:VP}{x y c:Int}(hx:0<=x/\x<18446744073709551616)(hy:0<=y/\y<18446744073709551616)(hc:0<=c/\c<18446744073709551616)(hK:K (.tuple #[U ((x*y+c)%18446744073709551616),U ((x*y+c)/18446744073709551616)]) h):aW prog 278 #[U x,U y,U c] h K:=by
 have a:0<=x*y/\x*y<=18446744073709551615*18446744073709551615:=⟨aO hx.1 hy.1,dH o o hy.1 dc⟩
 refine (fnk func278) ?_
 refine Ly hx hy ⟨_,_,rfl,?_⟩
 refine De o hc o ⟨_,_,rfl,?_⟩
 rw [C6 o o]
 grind
def B7j(a:Array UInt8):({ data:=a }:ByteArray)=bs a.toList:=by simp [bs]
def B0m:List UInt8:=[0,1,2,2,3,3,3,3,4,4,4,4,4,4,4,4,5,5,5,5,5,5,5,5,5,5,5,5,5,5,5,5]++aE 32 6++aE 64 7++aE 128 8
def A7g:∀ i,i<256->(B0m[i]?).map UInt8.toNat=some (S0 i):=dc
def Zh{x s:Nat}(h:2^s<=x):S0 x=s+S0 (x/2^s):=by
 have b:0<2^s:=cW dc
 have a:x/2^s≠0:=by
  simp_all
 have:=Wn (l:=x%2^s) (t:=x/2^s) (j:=s) (fI _ b) a
 rw [Nat.mod_add_div] at this
 exact this
def A5o{h:bF}{K:VP}{x:Nat}(hx:x<18446744073709551616)(hK:K (I (S0 x)) h):aW prog 297 #[U x] h K:=by
 refine B20 _ ?_
 have p:∀ (y s:Nat),s<=64->dI (y:Int) (2^(min ((s:Int)).toNat 64))=((y/2^s:Nat):Int):=by
  grind
 refine ⟨fun l a=>∃ (y n:Nat),l=[U y,I n]/\a=h/\y<4294967296/\S0 x=n+S0 y/\n<=32,C0 (fun d=>?_) (fun d=>?_),?_⟩
 ·refine ⟨x/2^32,32,?_,rfl,o,Zh o,o⟩
  grind
 ·exact ⟨x,0,rfl,rfl,o,o,o⟩
 rintro f b a ⟨y,n,m,rfl,j,e,q⟩
 obtain ⟨rfl,rfl⟩:f=(y:Int)/\b=(n:Int):=gz0
 refine ⟨fun l i=>∃ (y n:Nat),l=[U y,I n]/\i=a/\y<65536/\S0 x=n+S0 y/\n<=48,C0 (fun d=>?_) (fun d=>?_),?_⟩
 ·refine ⟨y/2^16,n+16,?_,rfl,o,by rw [e,Zh (x:=y) (s:=16) o];omega,o⟩
  rw [show (16:Int)=((16:Nat):Int) from rfl,p y 16 o,C1 o o];rfl
 ·grind
 rintro f b a ⟨y,n,m,rfl,j,e,q⟩
 obtain ⟨rfl,rfl⟩:f=(y:Int)/\b=(n:Int):=gz0
 refine ⟨fun l i=>∃ (y n:Nat),l=[U y,I n]/\i=a/\y<256/\S0 x=n+S0 y/\n<=56,C0 (fun d=>?_) (fun d=>?_),?_⟩
 ·refine ⟨y/2^8,n+8,?_,rfl,o,by rw [e,Zh (x:=y) (s:=8) o];omega,o⟩
  rw [show (8:Int)=((8:Nat):Int) from rfl,p y 8 o,C1 o o];rfl
 ·grind
 rintro f b a ⟨y,n,m,rfl,j,e,q⟩
 obtain ⟨rfl,rfl⟩:f=(y:Int)/\b=(n:Int):=gz0
 rw [Vg o o,aC]
 have t:=A7g y j
 cases hc:B0m[y]? with
 | none=>grind
 | some c=>
  have g:c.toNat=S0 y:=gz0
  refine ⟨c,⟨o,?_⟩,?_⟩
  ·try unfold A5n
   rw [B7j,Wm];exact hc
  ·have r:S0 y<=8:=Hv (k:=8) o
   rw [g,C1 (n:=((S0 y:Nat):Int)) o o,C1 o o,<- fG,<- e]
   exact hK
def T4{h:bF}{K:VP}{x:Nat}(hx:x<18446744073709551616)(hK:K (I ((64-S0 x:Nat):Int)) h):aW prog 275 #[U x] h K:=by
 refine (fnk func275) ?_
 refine A5o hx ⟨_,rfl,?_⟩
 have a:S0 x<=64:=Hv (k:=64) o
 rw [C1 o o]
 have:(64:Int)-((S0 x:Nat):Int)=((64-S0 x:Nat):Int):=o
 rw [this];exact hK
def A28{a b:Int}{s:Nat}(ha:0<=a)(hb:0<=b/\b<2^s)(hab:a*2^s+b<18446744073709551616):bor .u64 (a*2^s) b=a*2^s+b:=by
 have d:0<=a*2^s:=aO ha o
 rw [A4h o o]
 have e:(a*2^s).toNat=2^s*a.toNat:=by
  grind
 have c:b.toNat<2^s:=by
  grind
 rw [e,A5j c,<- e];omega
def Al{s:Nat}(hs:s<=64):(2:Int)^s*2^(64-s)=18446744073709551616:=by
 rw [<- aU,show s+(64-s)=64 from o];decide
def B2r{x:Int}{s:Nat}(hs:s<=64):dI x (2^(min s 64))=x/2^s:=by
 grind
def Est.exact{B top u2 v1 v2 U V:Int}(e:Est B 1 top u2 0 v1 v2 0 U V){q:Int}(h:q*(v1*B+v2)<=top*B+u2):q*V<=U:=by
 have a:=e.hU
 have b:=e.hV
 grind
section
variable {h:bF} {K:VP}
def B18{T u2 v1 v2 X Y:Int}{hp:bF}{J:Int->bF->Prop}(es:Est 4294967296 1 T u2 0 v1 v2 0 X Y)(_hT:T<18446744073709551616)
 (hJ:∀ q,0<=q->q*Y<=X->X<(q+1)*Y->J q hp):
 ∃ (Inv:Int->Int->bF->Prop) (mu:Int->Int->bF->Nat),Inv (T/v1) (T%v1) hp/\
  ∀ q r hp1,Inv q r hp1->(q>=4294967296->Inv q r hp1)/\0<=q/\q<=4294967297/\0<=r/\r<4294967296/\hp1=hp/\
   (q<4294967296->¬ (q*v2>4294967296*r+u2)->J q hp1)/\
   ((q>=4294967296\/q*v2>4294967296*r+u2)->1<=q/\(r+v1>=4294967296->J (q-1) hp1)/\(r+v1<4294967296->Inv (q-1) (r+v1) hp1/\mu (q-1) (r+v1) hp1<mu q r hp1)):=by
 obtain ⟨E,F⟩:=es.first
 have m:=es.init
 have C:=es.v1r
 have n:=es.v2r
 have y:=es.u2r
 have c:=es.top0
 have l:0<=T/v1:=bJ c o
 have z:=aL T v1
 have k:=aP T (show v1≠0 from o)
 have A:=aK T (show 0<v1 from o)
 refine ⟨fun q r hp1=>hp1=hp/\0<=q/\q<=4294967297/\0<=r/\r<4294967296/\q*v1+r=T/\X<(q+1)*Y,fun q _ _=>q.toNat,⟨rfl,l,o,k,o,gz0,m⟩,?_⟩
 rintro q r hp1 ⟨rfl,f,s,t,p,j,b⟩
 have key:q*(v1*4294967296+v2)=(T-r)*4294967296+q*v2:=gz0
 refine ⟨fun _=>⟨rfl,f,s,t,p,j,b⟩,f,s,t,p,rfl,fun g D=>hJ q f (es.exact o) b,fun e=>?_⟩
 have w:X<q*Y:=by
  rcases e with g|g
  ·exact es.big g
  ·exact es.low f o
 have i:1<=q:=by
  grind
 have a:X<(q-1+1)*Y:=gz0
 have d:(q-1)*v1+(r+v1)=T:=gz0
 refine ⟨i,fun B=>?_,fun B=>⟨⟨rfl,o,o,o,o,d,a⟩,gz0⟩⟩
 have u:(q-1)*(v1*4294967296+v2)=(T-(r+v1))*4294967296+(q-1)*v2:=gz0
 have g:(q-1)*v2<=4294967296*v2:=aD o n.1
 exact hJ (q-1) o (es.exact o) a
def Ra{hi lo:Int}{y:Nat}(hhi:0<=hi/\hi<y)(hlo:0<=lo/\lo<18446744073709551616)(hy:y<18446744073709551616)
 (hK:K (.tuple #[U ((hi*18446744073709551616+lo)/y),U ((hi*18446744073709551616+lo)%y)]) h):aW prog 281 #[U hi,U lo,U y] h K:=by
 refine B21 _ _ _ ?_
 unfold B5i
 refine D5 (fun e=>absurd e o) (fun _=>?_)
 refine C0 (fun e=>absurd e o) (fun _=>?_)
 refine D5 (fun e=>?_) (fun a3=>?_)
 ·refine C0 (fun e=>absurd e o) (fun _=>?_)
  refine C0 (fun e=>absurd e o) (fun _=>?_)
  subst e
  rw [dT,cK] at hK
  rw [aX hlo.1,dF hlo.1,C6 (bJ hlo.1 o) (cC (dQ _ hlo.1) hlo.2)]
  exact hK
 refine T4 hy ⟨_,rfl,?_⟩
 have an:y≠0:=o
 obtain ⟨bg,bc⟩:=Ey an
 have a0:S0 y<=64:=Hv (k:=64) o
 have bb:1<=S0 y:=gz0
 obtain ⟨s,hs⟩:∃ s,s=64-S0 y:=⟨_,rfl⟩
 rw [<- hs]
 have a1:s<64:=o
 have j:0<(2:Int)^s:=bI dc
 have N:=Al (s:=s) o
 have aj:0<(2:Int)^(64-s):=bI dc
 have ai:S0 y=64-s:=o
 have aq:(y:Int)<2^(64-s):=by
  grind
 have ad:(2:Int)^(63-s)<=y:=by
  grind
 have E:(2:Int)^s*2^(63-s)=9223372036854775808:=by
  rw [<- aU,show s+(63-s)=63 from o];decide
 have ah:C8 (s:Int)=(s:Int):=C6 o o
 have ac:C8 ((64:Int)-s)=((64-s:Nat):Int):=by rw [C6 o o];omega
 have F:(y:Int)*2^s<18446744073709551616:=by
  rw [<- N,aT];exact bV aq j
 have az:9223372036854775808<=(y:Int)*2^s:=by
  rw [<- E,aT (y:Int)];exact aG ad o
 have eY:C8 ((y:Int)*2^(min s 64))=(y:Int)*2^s:=by rw [aI o,C6 o F]
 have a9:hi*2^s+2^s<=(y:Int)*2^s:=by
  have:=aD (show hi+1<=(y:Int) from o) (aM j)
  grind
 have S:0<=hi*2^s:=aO hhi.1 o
 have aa:0<=lo/2^(64-s)/\lo/2^(64-s)<2^s:=by
  refine ⟨bJ hlo.1 o,aY aj ?_⟩
  omega
 have eT:bor .u64 (C8 (hi*2^(min s 64))) (dI lo (2^(min (64-s) 64)))=hi*2^s+lo/2^(64-s):=by
  rw [aI (show s<=64 from o),C6 S o,B2r o,A28 hhi.1 aa o]
 have eL:C8 (lo*2^(min s 64))=lo*2^s%18446744073709551616:=by rw [aI o,F2]
 have ba:0<=lo*2^s%18446744073709551616/\lo*2^s%18446744073709551616<18446744073709551616:=⟨aP _ dc,aK _ dc⟩
 have hN:(hi*18446744073709551616+lo)*2^s=(hi*2^s+lo/2^(64-s))*18446744073709551616+lo*2^s%18446744073709551616:=by
  have d1:lo*2^s/18446744073709551616=lo/2^(64-s):=by
   rw [<- N,aT lo,Int.mul_ediv_mul_of_pos _ _ j]
  grind
 generalize hTT:hi*2^s+lo/2^(64-s)=T at *
 generalize hLL:lo*2^s%18446744073709551616=L at *
 generalize hYY:(y:Int)*2^s=Y at *
 have t:0<=T/\T<Y:=o
 unfold A2n A2p A2m A2o
 simp only [ah,ac,aC,eY,eT,eL,Uo]
 rw [Bw o,Bw o]
 have e1:Est 4294967296 1 T (L/4294967296) 0 (Y/4294967296) (Y%4294967296) 0 (T*4294967296+L/4294967296) Y:=
  ⟨dc,dc,o,o,o,o,o,o,t.1,o,o⟩
 refine C0 (fun e=>absurd e o) (fun _=>?_)
 refine C0 (fun e=>absurd e o) (fun _=>?_)
 refine C0 (fun e=>absurd e o) (fun _=>?_)
 refine C0 (fun e=>absurd e o) (fun _=>?_)
 refine C0 (fun e=>absurd e o) (fun _=>?_)
 have X:∀ {q w:Int},0<=q->q<=4294967296->0<=w->w<4294967296->0<=q*w/\q*w<18446744073709551616:=by
  intro q w a b c d
  refine ⟨aO a c,?_⟩
  have:=dH b (show w<=4294967295 from o) c dc
  omega
 refine ⟨fun l hp=>∃ q,l=[U q]/\hp=h/\0<=q/\q*Y<=T*4294967296+L/4294967296/\T*4294967296+L/4294967296<(q+1)*Y,?_,?_⟩
 ·obtain ⟨Inv,mu,i0,st⟩:=B18 (hp:=h) (J:=fun q hp=>∃ i,[U q]=[U i]/\hp=h/\0<=i/\i*Y<=T*4294967296+L/4294967296/\T*4294967296+L/4294967296<(i+1)*Y) e1 o (fun q a b c=>⟨q,rfl,rfl,a,b,c⟩)
  refine ⟨fun l hp=>∃ q r,l=[U q,U r]/\Inv q r hp,fun l hp=>mu (iAt l 0) (iAt l 1) hp,⟨T/(Y/4294967296),T%(Y/4294967296),?_,i0⟩,?_⟩
  ·have dm:=aL T (Y/4294967296)
   have G:=bJ t.1 (show 0<=Y/4294967296 from o)
   have d1:T/(Y/4294967296)<=T:=dQ _ t.1
   have d2:=aP T (show Y/4294967296≠0 from o)
   rw [aX t.1,C6 (n:=T/(Y/4294967296)) G o,aT (T/(Y/4294967296))]
   have d3:=aO (show 0<=Y/4294967296 from o) G
   rw [C6 (n:=Y/4294967296*(T/(Y/4294967296))) d3 o,C6 o o]
   have:T-Y/4294967296*(T/(Y/4294967296))=T%(Y/4294967296):=o
   rw [this]
  rintro q r p ⟨i,r',hl,hI⟩
  obtain ⟨rfl,rfl⟩:q=i/\r=r':=by simpa using hl
  obtain ⟨_,f,g,r0,r1,rfl,ok,D⟩:=st q r p hI
  have M:=X (q:=4294967296) (w:=r) o o r0 r1
  refine ⟨fun l hp=>l=[]/\hp=p/\(q>=4294967296\/q*(Y%4294967296)>4294967296*r+L/4294967296),C0 (fun Q=>⟨rfl,rfl,.inl Q⟩) (fun Q=>?_),?_⟩
  ·have O:=X (q:=q) (w:=Y%4294967296) f o o o
   rw [C6 O.1 O.2,C6 M.1 M.2,C6 (n:=4294967296*r+L/4294967296) o o]
   exact C0 (fun C=>⟨rfl,rfl,.inr C⟩) (fun C=>ok o C)
  ·rintro al ⟨_,rfl,m⟩
   obtain ⟨g1,g2,W⟩:=D m
   rw [C6 (n:=r+Y/4294967296) o o,C6 (n:=q-1) o o]
   exact C0 (fun H=>g2 H) (fun H=>⟨⟨_,_,rfl,(W o).1⟩,(W o).2⟩)
 rintro g z ⟨af,a8,rfl,ar,a6,bf⟩
 obtain rfl:g=af:=gz0
 have ay:g<4294967296:=by
  by_cases A:g<4294967296
  ·exact A
  ·have:=aD (show 4294967296<=g from o) (show 0<=Y from o);omega
 have bh:(g+1)*Y=g*Y+Y:=gz0
 have a2:0<=g*Y:=aO ar o
 have ag:C8 (C8 (C8 (T*4294967296)+L/4294967296)-C8 (g*Y))=T*4294967296+L/4294967296-g*Y:=by
  simp only [F2];omega
 simp only [ag]
 generalize hRR:T*4294967296+L/4294967296-g*Y=R at *
 have u:0<=R/\R<Y:=o
 refine C0 (fun e=>absurd e o) (fun _=>?_)
 have e2:Est 4294967296 1 R (L%4294967296) 0 (Y/4294967296) (Y%4294967296) 0 (R*4294967296+L%4294967296) Y:=
  ⟨dc,dc,o,o,o,o,o,o,u.1,o,o⟩
 refine ⟨fun l hp=>∃ q,l=[U q]/\hp=z/\0<=q/\q*Y<=R*4294967296+L%4294967296/\R*4294967296+L%4294967296<(q+1)*Y,?_,?_⟩
 ·obtain ⟨Inv,mu,i0,st⟩:=B18 (hp:=z) (J:=fun q hp=>∃ i,[U q]=[U i]/\hp=z/\0<=i/\i*Y<=R*4294967296+L%4294967296/\R*4294967296+L%4294967296<(i+1)*Y) e2 o (fun q a b c=>⟨q,rfl,rfl,a,b,c⟩)
  refine ⟨fun l hp=>∃ q r,l=[U r,U q]/\Inv q r hp,fun l hp=>mu (iAt l 1) (iAt l 0) hp,⟨R/(Y/4294967296),R%(Y/4294967296),?_,i0⟩,?_⟩
  ·have dm:=aL R (Y/4294967296)
   have G:=bJ u.1 (show 0<=Y/4294967296 from o)
   have d1:R/(Y/4294967296)<=R:=dQ _ u.1
   have d2:=aP R (show Y/4294967296≠0 from o)
   rw [aX u.1,C6 (n:=R/(Y/4294967296)) G o,aT (R/(Y/4294967296))]
   have d3:=aO (show 0<=Y/4294967296 from o) G
   rw [C6 (n:=Y/4294967296*(R/(Y/4294967296))) d3 o,C6 o o]
   have:R-Y/4294967296*(R/(Y/4294967296))=R%(Y/4294967296):=o
   rw [this]
  rintro r q p ⟨i,r',hl,hI⟩
  obtain ⟨rfl,rfl⟩:r=r'/\q=i:=by simpa using hl
  obtain ⟨_,f,g,r0,r1,rfl,ok,D⟩:=st q r p hI
  have M:=X (q:=4294967296) (w:=r) o o r0 r1
  refine ⟨fun l hp=>l=[]/\hp=p/\(q>=4294967296\/q*(Y%4294967296)>4294967296*r+L%4294967296),C0 (fun Q=>⟨rfl,rfl,.inl Q⟩) (fun Q=>?_),?_⟩
  ·have O:=X (q:=q) (w:=Y%4294967296) f o o o
   rw [C6 O.1 O.2,C6 M.1 M.2,C6 (n:=4294967296*r+L%4294967296) o o]
   exact C0 (fun C=>⟨rfl,rfl,.inr C⟩) (fun C=>ok o C)
  ·rintro al ⟨_,rfl,m⟩
   obtain ⟨g1,g2,W⟩:=D m
   rw [C6 (n:=r+Y/4294967296) o o,C6 (n:=q-1) o o]
   exact C0 (fun H=>g2 H) (fun H=>⟨⟨_,_,rfl,(W o).1⟩,(W o).2⟩)
 rintro f be ⟨ak,a4,rfl,ap,a7,a5⟩
 obtain rfl:f=ak:=gz0
 refine C0 (fun e=>absurd e o) (fun _=>?_)
 have au:f<4294967296:=by
  by_cases A:f<4294967296
  ·exact A
  ·have:=aD (show 4294967296<=f from o) (show 0<=Y from o);omega
 have bd:(f+1)*Y=f*Y+Y:=gz0
 have av:0<=f*Y:=aO ap o
 have ao:C8 (C8 (C8 (R*4294967296)+L%4294967296)-C8 (f*Y))=R*4294967296+L%4294967296-f*Y:=by
  simp only [F2];omega
 rw [ao,C6 (n:=g*4294967296) o o,C6 (n:=g*4294967296+f) o o,B2r o]
 have ax:(hi*18446744073709551616+lo)*2^s=(g*4294967296+f)*(y*2^s)+(R*4294967296+L%4294967296-f*Y):=by
  grind
 have B:R*4294967296+L%4294967296-f*Y=(hi*18446744073709551616+lo-(g*4294967296+f)*y)*2^s:=gz0
 rw [B,eG _ (show (2:Int)^s≠0 from o)]
 have am:0<=hi*18446744073709551616+lo-(g*4294967296+f)*y:=by
  by_cases A:0<=hi*18446744073709551616+lo-(g*4294967296+f)*y
  ·exact A
  ·have:=aD (show hi*18446744073709551616+lo-(g*4294967296+f)*y <= -1 from o) (aM j);omega
 have ae:hi*18446744073709551616+lo-(g*4294967296+f)*y<y:=by
  by_cases A:hi*18446744073709551616+lo-(g*4294967296+f)*y<y
  ·exact A
  ·have:=aD (show (y:Int)<=hi*18446744073709551616+lo-(g*4294967296+f)*y from o) (aM j);omega
 have V:(hi*18446744073709551616+lo)/y=g*4294967296+f:=by
  have:hi*18446744073709551616+lo=(hi*18446744073709551616+lo-(g*4294967296+f)*y)+(g*4294967296+f)*y:=o
  rw [this,dU _ _ o,bG am ae,cK]
 have aw:(hi*18446744073709551616+lo)%y=hi*18446744073709551616+lo-(g*4294967296+f)*y:=by
  rw [Int.emod_def,V,aT (y:Int)]
 grind
end
def O6{xs:List Int}(d:Dig b64 xs)(i:Nat):0<=xs.getD i 0/\xs.getD i 0<18446744073709551616:=d.getD dc i
def Eo(c:Int):0<=c%18446744073709551616/\c%18446744073709551616<b64:=⟨aP _ dc,aK _ dc⟩
section
variable {h g:bF} {K:VP} {A B:Option bK} {ac bc:Nat}
def Dz{xs:List Int}(s:SlI .u64 h A xs)(hc:xs.length<=ac)(hl:xs.length<=10000000000)(hK:∀ m,m<=xs.length->fQ (xs.take m)->val b64 (xs.take m)=val b64 xs->K (.slice A m ac) h):aW prog 239 #[.slice A xs.length ac] h K:=by
 refine (fnk func239 [(2,[3],[],[I 0])]) ?_
 refine ⟨fun l d=>∃ m:Nat,l=[I m]/\m<=xs.length/\d=h/\val b64 (xs.take m)=val b64 xs,fun l _=>(iAt l 0).toNat,⟨xs.length,rfl,aV _,rfl,by rw [bN]⟩,?_⟩
 rintro g p ⟨m,f,c,rfl,a⟩
 obtain rfl:g=(m:Int):=gz0
 refine C0 (fun n=>?_) (fun n=>?_)
 ·obtain ⟨j,rfl⟩:∃ j,m=j+1:=⟨m-1,o⟩
  have e:C4 (((j+1:Nat):Int)-1)=(j:Int):=by rw [C1 o o];omega
  rw [e]
  have k:=O0 b64 (xs:=xs) (i:=j) o
  refine s.load rfl o o ?_
  refine D5 (fun b=>?_) (fun b=>?_)
  ·exact ⟨⟨j,rfl,o,rfl,gz0⟩,by simp only [iAt,aF];omega⟩
  ·refine ⟨⟨o,o⟩,?_⟩
   rw [H1,aC,bO,bO]
   refine hK (j+1) c ?_ a
   rw [Rj o];exact A17 b
 ·have:m=0:=o
  subst this
  refine ⟨⟨o,o⟩,?_⟩
  rw [H1,aC,bO,bO]
  exact hK 0 o Norm.nil a
def S4{xs:List Int}(s:SlI .u64 h A xs)(hd:Dig b64 xs)(hc:xs.length<=ac)(hl:xs.length<=10000000000)(hK:∀ m,m<=xs.length->Mw h A m (val b64 xs)->K (.slice A m ac) h):aW prog 239 #[.slice A xs.length ac] h K:=by
 refine Dz s hc hl ?_
 intro m a d b
 refine hK m a ⟨xs.take m,gz0,?_,hd.take m,d,b⟩
 have:=s.cut (c:=ac) (l:=0) (m:=m) o a hc
 simpa [H1] using this
def Bo{w:Int}(hw:0<=w/\w<18446744073709551616)(hK:∀ A m c h',h.le h'->m<=c->Mw h' A m w->K (.slice A m c) h'):aW prog 240 #[U w] h K:=by
 refine (fnk func240) ?_
 refine D5 (fun e=>?_) (fun e=>?_)
 ·subst e;exact hK none 0 0 h (B7 h) (aV _) Mag.zero
 ·refine Q7 R8 rfl ?_
  intro b a
  exact ⟨_,_,_,rfl,hK _ _ _ _ (Heap.le_put _ a) (aV _) ⟨[w],rfl,SlI.new h b [w] 195 _,Dig.one hw,by simpa [fQ] using e,Z1 _ _⟩⟩
def J1{x y:Int}{an bn:Nat}(ma:Mw h A an x)(mb:Mw h B bn y)(hl:an<=10000000000)(hK:K (I (Ki x y)) h):aW prog 234 #[.slice A an ac,.slice B bn bc] h K:=by
 obtain ⟨a,rfl,p,d,C,rfl⟩:=ma
 obtain ⟨b,rfl,m,c,s,rfl⟩:=mb
 refine (fnk func234 [(4,[5],[],[I 0])]) ?_
 refine D9 (fun u=>?_) (fun u=>?_)
 ·refine Tq ⟨_,rfl,?_⟩
  have:Ki (a.length:Int) (b.length:Int)=Ki (val b64 a) (val b64 b):=by
   unfold Ki
   by_cases g:a.length<b.length
   ·have:=Ik dc d c s g
    omega
   ·have:=Ik dc c d C o
    omega
  grind
 ·have n:a.length=b.length:=o
  refine ⟨fun l q=>∃ k:Nat,l=[I ((k:Int)-1)]/\k<=a.length/\q=h/\a.drop k=b.drop k,fun l _=>(iAt l 0+1).toNat,⟨a.length,?_,aV _,rfl,?_⟩,?_⟩
  ·rw [C1 o o]
  ·grind
  rintro i E ⟨k,z,D,rfl,f⟩
  obtain rfl:i=(k:Int)-1:=gz0
  refine C0 (fun g=>?_) (fun g=>?_)
  ·obtain ⟨j,rfl⟩:∃ j,k=j+1:=⟨k-1,o⟩
   have e:((j+1:Nat):Int)-1=(j:Int):=o
   rw [e]
   refine p.load rfl o o ?_
   refine m.load rfl o o ?_
   rw [aC]
   refine D9 (fun w=>?_) (fun w=>?_)
   ·refine p.load rfl o o ?_
    refine m.load rfl o o ?_
    refine B1e ⟨_,rfl,B7 _,?_⟩
    have:Ki (a.getD j 0) (b.getD j 0)=Ki (val b64 a) (val b64 b):=by
     unfold Ki
     by_cases t:a.getD j 0<b.getD j 0
     ·have:=Ij dc d c (i:=j) o o f t
      omega
     ·have:=Ij dc c d (i:=j) o o f.symm o
      omega
    grind
   ·rw [C1 o o]
    refine ⟨⟨j,rfl,o,rfl,?_⟩,by simp only [iAt,aF];omega⟩
    rw [cL (show j<a.length from o),cL (show j<b.length from o),f]
    grind
  ·have r:k=0:=o
   have:Ki (val b64 a) (val b64 a)=0:=by unfold Ki;omega
   grind
def Ew{xs:List Int}{an:Nat}(s:SlI .u64 h A xs)(hn:an=xs.length)(hl:xs.length<=10000000000)(hK:∀ A' c' h' g',h.le g'->fK h' g' 195 1 A' xs.length c' (xs.map (bL .u64))->K (.slice A' xs.length c') h'):aW prog 235 #[.slice A an ac] h K:=by
 subst hn
 refine (fnk func235) ?_
 refine Br.of (fun e=>?_) (fun e=>?_)
 ·have j:xs=[]:=by
   rcases s with l|⟨a,k,_⟩
   ·simp_all
   grind
  subst j
  exact hK none 0 h h (B7 h) (by simpa using Priv.nil _ _ _ _)
 ·refine Om R8 ?_
  intro b g
  refine ⟨_,_,_,rfl,?_⟩
  have c:=Heap.le_put (h:=h) (b:=b) (.cells #[] 195) g
  refine Ay R8 (Priv.nil _ _ _ _) (ys:=xs.map (bL .u64)) (by simp) (SlI.mono c s) (fun v f=>?_) o o ?_
  ·obtain ⟨a,_,rfl⟩:=List.mem_map.1 f;rfl
  ·intro A' c' h' g' i d
   simp only [Nat.zero_add,cF] at d ⊢
   exact ⟨_,_,_,rfl,hK _ _ _ _ (B0 c i) d⟩
variable {b:Nat} {e:cD} {pre post:List eD}
def Hz{xs ys:List Int}{an bn:Nat}(w:Win .u64 h g b e A pre xs post)(hn:an=xs.length)(sy:SlI .u64 g B ys)(hm:bn=ys.length)(dx:Dig b64 xs)(dy:Dig b64 ys)(hle:ys.length<=xs.length)(hfit:val b64 xs+val b64 ys<b64^xs.length)(hl:xs.length<=10000000000)
 (hK:∀ xs' h',xs'.length=xs.length->Dig b64 xs'->val b64 xs'=val b64 xs+val b64 ys->Win .u64 h' g b e A pre xs' post->K (.tuple #[]) h'):aW prog 272 #[.slice A an ac,.slice B bn bc] h K:=by
 subst hn hm
 refine (fnk func272 [(2,[4,10],[],[U 0,I 0]),(7,[4,7],[],[U 0,I 0])]) ?_
 refine ⟨fun l s=>∃ (k:Nat) (c:Int) (zs:List Int),l=[U c,I k]/\k<=ys.length/\zs.length=xs.length/\Dig b64 zs/\(0<=c/\c<=1)/\Win .u64 s g b e A pre zs post/\zs.drop k=xs.drop k/\val b64 (zs.take k)+c*b64^k=val b64 (xs.take k)+val b64 (ys.take k),fun l _=>ys.length-(iAt l 1).toNat,⟨0,0,xs,rfl,o,rfl,dx,o,w,rfl,by rfl⟩,?_⟩
 rintro c i s ⟨k,D,zs,G,M,j,m,z,f,d,y⟩
 obtain ⟨rfl,rfl⟩:c=D/\i=(k:Int):=gz0
 refine C0 (fun F=>?_) (fun F=>?_)
 ·have O:=O6 dy k
  have gz:=O6 m k
  have q:=F1 d
  have E:=C7 b64 xs k
  have Q:=C7 b64 ys k
  refine (sy.mono f.le).load rfl o o ?_
  refine f.sl.load j.symm o o ?_
  simp only [aC]
  refine De gz O z ⟨_,_,rfl,?_⟩
  obtain ⟨a,t,_⟩:=SlV.at f.sl (i:=k) gz0
  refine ⟨a,t,o,o,f.storeN (i:=k) F8 t o ?_⟩
  intro h' C
  rw [C1 (n:=(k:Int)+1) o o]
  refine ⟨⟨k+1,_,_,rfl,o,gz0,m.set (Eo _),o,C,?_,?_⟩,by simp only [iAt,aF,aH];omega⟩
  ·rw [E5 o];exact E7 d
  ·rw [D3 o,F3,aJ,aI o,bC,Bv,E,Q,<- q]
   grind
 ·have p:k=ys.length:=o
  subst p
  rw [bN] at y
  refine ⟨fun l s=>∃ (k:Nat) (c:Int) (zs:List Int),l=[U c,I k]/\ys.length<=k/\k<=xs.length/\zs.length=xs.length/\Dig b64 zs/\(0<=c/\c<=1)/\Win .u64 s g b e A pre zs post/\zs.drop k=xs.drop k/\val b64 (zs.take k)+c*b64^k=val b64 (xs.take k)+val b64 ys,fun l _=>xs.length-(iAt l 1).toNat,⟨ys.length,c,zs,rfl,o,o,j,m,z,f,d,y⟩,?_⟩
  rintro c i s ⟨k,D,zs,G,N,M,j,m,z,f,d,y⟩
  obtain ⟨rfl,rfl⟩:c=D/\i=(k:Int):=gz0
  have u:=F7 b64 zs (i:=k) o
  have r:=F7 b64 xs (i:=k) o
  refine D9 (fun L=>C0 (fun F=>?_) (fun F=>?_)) (fun L=>?_)
  ·have gz:=O6 m k
   have q:=F1 d
   have E:=C7 b64 xs k
   refine f.sl.load j.symm o o ?_
   simp only [aC]
   refine De gz o z ⟨_,_,rfl,?_⟩
   obtain ⟨a,t,_⟩:=SlV.at f.sl (i:=k) gz0
   refine ⟨a,t,o,o,f.storeN (i:=k) F8 t o ?_⟩
   intro h' C
   rw [C1 (n:=(k:Int)+1) o o]
   refine ⟨⟨k+1,_,_,rfl,o,o,gz0,m.set (Eo _),o,C,?_,?_⟩,by simp only [iAt,aF,aH];omega⟩
   ·rw [E5 o];exact E7 d
   ·rw [D3 o,F3,aJ,aI o,bC,Bv,E,<- q]
    grind
  ·exfalso
   have p:k=xs.length:=o
   subst p
   have H:c=1:=o
   subst H
   rw [bN] at y
   have:=D0 dc (m.take xs.length)
   omega
  grind
def Ef{xs ys:List Int}{an bn:Nat}(w:Win .u64 h g b e A pre xs post)(hn:an=xs.length)(sy:SlI .u64 g B ys)(hm:bn=ys.length)(dx:Dig b64 xs)(dy:Dig b64 ys)(hle:ys.length<=xs.length)(hfit:val b64 ys<=val b64 xs)(hl:xs.length<=10000000000)
 (hK:∀ xs' h',xs'.length=xs.length->Dig b64 xs'->val b64 xs'=val b64 xs-val b64 ys->Win .u64 h' g b e A pre xs' post->K (.tuple #[]) h'):aW prog 291 #[.slice A an ac,.slice B bn bc] h K:=by
 subst hn hm
 refine (fnk func291 [(2,[4,10],[],[U 0,I 0]),(7,[4,7],[],[U 0,I 0])]) ?_
 have key:∀ {z y c:Int},(0<=z/\z<18446744073709551616)->(0<=y/\y<18446744073709551616)->(0<=c/\c<=1)->(z-y-c)%18446744073709551616=z-y-c+18446744073709551616*(if z-y-c<0 then 1 else 0):=by
  omega
 refine ⟨fun l s=>∃ (k:Nat) (c:Int) (zs:List Int),l=[U c,I k]/\k<=ys.length/\zs.length=xs.length/\Dig b64 zs/\(0<=c/\c<=1)/\Win .u64 s g b e A pre zs post/\zs.drop k=xs.drop k/\val b64 (zs.take k)=val b64 (xs.take k)-val b64 (ys.take k)+c*b64^k,fun l _=>ys.length-(iAt l 1).toNat,⟨0,0,xs,rfl,o,rfl,dx,o,w,rfl,by rfl⟩,?_⟩
 rintro c i s ⟨k,E,zs,L,O,j,m,q,f,d,t⟩
 obtain ⟨rfl,rfl⟩:c=E/\i=(k:Int):=gz0
 refine C0 (fun H=>?_) (fun H=>?_)
 ·have M:=O6 dy k
  have gz:=O6 m k
  have p:=F1 d
  have F:=C7 b64 xs k
  have R:=C7 b64 ys k
  refine (sy.mono f.le).load rfl o o ?_
  refine f.sl.load j.symm o o ?_
  simp only [aC]
  refine Fl gz M q ⟨_,_,rfl,?_⟩
  obtain ⟨a,u,_⟩:=SlV.at f.sl (i:=k) gz0
  refine ⟨a,u,o,o,f.storeN (i:=k) F8 u o ?_⟩
  intro h' D
  rw [C1 (n:=(k:Int)+1) o o]
  refine ⟨⟨k+1,_,_,rfl,o,by simp_all,m.set (Eo _),o,D,?_,?_⟩,by simp only [iAt,aF,aH];omega⟩
  ·rw [E5 o];exact E7 d
  ·rw [D3 o,F3,aJ,aI o,bC,F,R,<- p,t,key gz M q]
   grind
 ·have G:k=ys.length:=o
  subst G
  rw [bN] at t
  refine ⟨fun l s=>∃ (k:Nat) (c:Int) (zs:List Int),l=[U c,I k]/\ys.length<=k/\k<=xs.length/\zs.length=xs.length/\Dig b64 zs/\(0<=c/\c<=1)/\Win .u64 s g b e A pre zs post/\zs.drop k=xs.drop k/\val b64 (zs.take k)=val b64 (xs.take k)-val b64 ys+c*b64^k,fun l _=>xs.length-(iAt l 1).toNat,⟨ys.length,c,zs,rfl,o,o,j,m,q,f,d,t⟩,?_⟩
  rintro c i s ⟨k,E,zs,L,Q,O,j,m,q,f,d,t⟩
  obtain ⟨rfl,rfl⟩:c=E/\i=(k:Int):=gz0
  have C:=F7 b64 zs (i:=k) o
  have r:=F7 b64 xs (i:=k) o
  refine D9 (fun N=>C0 (fun H=>?_) (fun H=>?_)) (fun N=>?_)
  ·have gz:=O6 m k
   have p:=F1 d
   have F:=C7 b64 xs k
   refine f.sl.load j.symm o o ?_
   simp only [aC]
   refine Fl gz o q ⟨_,_,rfl,?_⟩
   obtain ⟨a,u,_⟩:=SlV.at f.sl (i:=k) gz0
   refine ⟨a,u,o,o,f.storeN (i:=k) F8 u o ?_⟩
   intro h' D
   rw [C1 (n:=(k:Int)+1) o o]
   refine ⟨⟨k+1,_,_,rfl,o,o,gz0,m.set (Eo _),o,D,?_,?_⟩,by simp only [iAt,aF,aH];omega⟩
   ·rw [E5 o];exact E7 d
   ·rw [D3 o,F3,aJ,aI o,bC,F,<- p,t,key gz (y:=0) o q]
    grind
  ·exfalso
   have:=L9 dc (m.take xs.length)
   grind
  grind
def Zj{x y:Int}{an bn:Nat}(ma:Mw h A an x)(mb:Mw h B bn y)(hab:bn<=an)(hl:an<=4000000000)(hb0:bn≠0)(hK:∀ A' m c' h',h.le h'->m<=c'->Mw h' A' m (x+y)->K (.slice A' m c') h'):
 wpH prog (Instr.makeSlice 217 (I (C4 ((an:Int)+1))) (I (C4 ((an:Int)+1)))) (fun v hp1=>∃ (t20A:Option bK) (t20n:Nat) (t20c:Nat),v= .slice t20A t20n t20c/\∀ ty,wpH prog (dO #[217,217] ty #[.slice t20A t20n t20c,.slice A an ac]) (fun v1 hp2=>∃ (t23:Int),v1=I t23/\aW prog 272 #[.slice t20A t20n t20c,.slice B bn bc] hp2 (fun r hp3=>r= .tuple #[]/\aW prog 239 #[.slice t20A t20n t20c] hp3 (fun r1 hp4=>∃ (t28A:Option bK) (t28n:Nat) (t28c:Nat),r1= .slice t28A t28n t28c/\K (.slice t28A t28n t28c) hp4))) hp1) h:=by
 obtain ⟨a,rfl,C,p,M,rfl⟩:=ma
 obtain ⟨L,rfl,u,l,G,rfl⟩:=mb
 have E:C4 ((a.length:Int)+1)=((a.length+1:Nat):Int):=by rw [C1 o o];omega
 rw [E]
 refine J9 R8 o o o ?_
 intro b t
 refine ⟨_,_,_,rfl,fun ty=>?_⟩
 have k:=Win.blk .u64 195 t (aE (a.length+1) 0)
 refine Dr R8 k (by simp) (SlI.mono k.le C) rfl (by simp) ?_
 intro H i
 refine ⟨_,rfl,?_⟩
 have c:(aE (a.length+1) (0:Int)).drop a.length=[0]:=by simp_all
 rw [c] at i
 have e:val b64 (a++[0])=val b64 a:=by rw [F3];omega
 have q:=L9 dc p
 have z:=L9 dc l
 have s:=D8 (B:=b64) dc hab
 refine Hz i (by simp) u rfl (p.append (Dig.one dc)) l gz0 ?_ gz0 ?_
 ·grind
 intro zs F w f g n
 refine ⟨rfl,?_⟩
 have d:zs.length=a.length+1:=gz0
 rw [<- d]
 refine S4 n.sl f o o ?_
 intro m D j
 rw [g,e] at j
 exact ⟨_,_,_,rfl,hK _ _ _ _ n.le D j⟩
def T6{x y:Int}{an bn:Nat}(ma:Mw h A an x)(mb:Mw h B bn y)(ha:an<=ac)(hb:bn<=bc)(hl:an<=4000000000)(hl2:bn<=4000000000)(hK:∀ A' m c' h',h.le h'->m<=c'->Mw h' A' m (x+y)->K (.slice A' m c') h'):aW prog 264 #[.slice A an ac,.slice B bn bc] h K:=by
 refine (fnk func264 (cs:=[(3,[0,1],[],[.slice none 0 0,.slice none 0 0])]) (wr:=[272])) ?_
 refine ⟨fun l h'=>h'=h/\∃ (A1 B1:Option bK) (a b c1 c2:Nat) (j k:Int),l=[.slice A1 a c1,.slice B1 b c2]/\Mw h A1 a j/\Mw h B1 b k/\b<=a/\a<=4000000000/\a<=c1/\j+k=x+y,C0 (fun r=>?_) (fun r=>?_),?_⟩
 ·grind
 ·grind
 ·rintro A1 a c1 B1 b c2 w ⟨rfl,A1',B1',e,d,g,f,j,k,s,q,p,u,i,n,c⟩
  obtain ⟨⟨rfl,rfl,rfl⟩,rfl,rfl,rfl⟩:(A1=A1'/\a=e/\c1=g)/\B1=B1'/\b=d/\c2=f:=gz0
  rw [<- c] at hK
  refine D5 (fun t=>?_) (fun t=>?_)
  ·have:=(p.len_zero dc).2 o
   subst this
   rw [eQ] at hK
   exact hK _ _ _ _ (B7 _) n q
  ·refine Ig _ (Zj (ac:=c1) (bc:=c2) q p u i o hK) ?_
   grind
def H8{x y:Int}{an bn:Nat}(ma:Mw h A an x)(mb:Mw h B bn y)(ha:an<=ac)(hl:an<=4000000000)(hxy:y<=x)(hK:∀ A' m c' h',h.le h'->m<=c'->Mw h' A' m (x-y)->K (.slice A' m c') h'):aW prog 265 #[.slice A an ac,.slice B bn bc] h K:=by
 have f:bn<=an:=mb.len_le dc (cC hxy (ma.lt dc))
 refine (fnk func265 (wr:=[291])) ?_
 refine D5 (fun n=>?_) (fun n=>?_)
 ·have:=(mb.len_zero dc).2 o
  subst this
  rw [Int.sub_zero] at hK
  exact hK _ _ _ _ (B7 _) ha ma
 ·obtain ⟨C,rfl,q,s,F,rfl⟩:=ma
  obtain ⟨E,rfl,p,r,u,rfl⟩:=mb
  refine Ew q rfl o ?_
  intro A1 c1 w z j e
  refine ⟨_,_,_,rfl,?_⟩
  obtain ⟨b,i,l⟩:=e.win gz0
  refine Ef l rfl (p.mono j) rfl s r f hxy o ?_
  intro zs t c a d k
  refine ⟨rfl,?_⟩
  rw [<- c]
  refine S4 k.sl a (by have:=e.2.1;omega) o ?_
  intro m D g
  rw [d] at g
  exact ⟨_,_,_,rfl,hK _ _ _ _ (B0 j k.le) (by have:=e.2.1;omega) g⟩
def Hy{zs xs:List Int}{an bn:Nat}{wd:Int}(w:Win .u64 h g b e A pre zs post)(hn:an=zs.length)(sx:SlI .u64 g B xs)(hm:bn=xs.length)(dz:Dig b64 zs)(dx:Dig b64 xs)(hle:zs.length=xs.length)(hw:0<=wd/\wd<18446744073709551616)(hl:xs.length<=10000000000)
 (hK:∀ zs' c h',zs'.length=zs.length->Dig b64 zs'->(0<=c/\c<18446744073709551616)->val b64 zs'+c*b64^zs.length=val b64 zs+val b64 xs*wd->Win .u64 h' g b e A pre zs' post->K (U c) h'):aW prog 270 #[.slice A an ac,.slice B bn bc,U wd] h K:=by
 subst hn hm
 refine (fnk func270 [(3,[7,16],[],[U 0,I 0])]) ?_
 refine ⟨fun l r=>∃ (k:Nat) (c:Int) (d:List Int),l=[U c,I k]/\k<=xs.length/\d.length=zs.length/\Dig b64 d/\(0<=c/\c<18446744073709551616)/\Win .u64 r g b e A pre d post/\d.drop k=zs.drop k/\val b64 (d.take k)+c*b64^k=val b64 (zs.take k)+val b64 (xs.take k)*wd,fun l _=>xs.length-(iAt l 1).toNat,⟨0,0,zs,rfl,o,rfl,dz,o,w,rfl,by simp [val]⟩,?_⟩
 rintro c i r ⟨k,y,d,C,G,m,q,D,j,f,H⟩
 obtain ⟨rfl,rfl⟩:c=y/\i=(k:Int):=gz0
 refine C0 (fun z=>?_) (fun z=>?_)
 ·have s:=O6 dx k
  have gz:=O6 q k
  have p:=F1 f
  have E:=C7 b64 xs k
  have F:=C7 b64 zs k
  have hm:0<=xs.getD k 0*wd/\xs.getD k 0*wd<=18446744073709551615*18446744073709551615:=⟨aO s.1 hw.1,dH o o hw.1 dc⟩
  refine (sx.mono j.le).load rfl o o ?_
  rw [aC]
  refine Ly s hw ⟨_,_,rfl,?_⟩
  generalize hmm:xs.getD k 0*wd=mm at *
  refine De o D o ⟨_,_,rfl,?_⟩
  refine j.sl.load m.symm o o ?_
  rw [aC]
  refine De gz o o ⟨_,_,rfl,?_⟩
  obtain ⟨a,t,_⟩:=SlV.at j.sl (i:=k) gz0
  refine ⟨a,t,o,o,j.storeN (i:=k) F8 t o ?_⟩
  intro h' u
  rw [C1 (n:=(k:Int)+1) o o]
  rw [C6 (n:=mm/18446744073709551616+(mm%18446744073709551616+c+0)/18446744073709551616) o o]
  rw [C6 o o]
  refine ⟨⟨k+1,_,_,rfl,o,gz0,q.set (Eo _),o,u,?_,?_⟩,by simp only [iAt,aF,aH];omega⟩
  ·rw [E5 o];exact E7 f
  ·rw [D3 o,F3,aJ,aI o,bC,E,F,<- p]
   grind
 grind
def Iz{zs xs:List Int}{an bn:Nat}{wd:Int}(w:Win .u64 h g b e A pre zs post)(hn:an=zs.length)(sx:SlI .u64 g B xs)(hm:bn=xs.length)(dz:Dig b64 zs)(dx:Dig b64 xs)(hle:zs.length=xs.length)(hw:0<=wd/\wd<18446744073709551616)(hl:xs.length<=10000000000)
 (hK:∀ zs' c h',zs'.length=zs.length->Dig b64 zs'->(0<=c/\c<18446744073709551616)->val b64 zs'=val b64 zs-val b64 xs*wd+c*b64^zs.length->Win .u64 h' g b e A pre zs' post->K (U c) h'):aW prog 306 #[.slice A an ac,.slice B bn bc,U wd] h K:=by
 subst hn hm
 refine (fnk func306 [(3,[7,16],[],[U 0,I 0])]) ?_
 refine ⟨fun l r=>∃ (k:Nat) (c:Int) (d:List Int),l=[U c,I k]/\k<=xs.length/\d.length=zs.length/\Dig b64 d/\(0<=c/\c<18446744073709551616)/\Win .u64 r g b e A pre d post/\d.drop k=zs.drop k/\val b64 (d.take k)=val b64 (zs.take k)-val b64 (xs.take k)*wd+c*b64^k,fun l _=>xs.length-(iAt l 1).toNat,⟨0,0,zs,rfl,o,rfl,dz,o,w,rfl,by simp [val]⟩,?_⟩
 rintro c i r ⟨k,z,d,D,H,m,q,E,j,f,y⟩
 obtain ⟨rfl,rfl⟩:c=z/\i=(k:Int):=gz0
 refine C0 (fun C=>?_) (fun C=>?_)
 ·have s:=O6 dx k
  have gz:=O6 q k
  have p:=F1 f
  have F:=C7 b64 xs k
  have G:=C7 b64 zs k
  have hm:0<=xs.getD k 0*wd/\xs.getD k 0*wd<=18446744073709551615*18446744073709551615:=⟨aO s.1 hw.1,dH o o hw.1 dc⟩
  refine (sx.mono j.le).load rfl o o ?_
  rw [aC]
  refine Ly s hw ⟨_,_,rfl,?_⟩
  generalize hmm:xs.getD k 0*wd=mm at *
  refine De o E o ⟨_,_,rfl,?_⟩
  refine j.sl.load m.symm o o ?_
  rw [aC]
  refine Fl gz o o ⟨_,_,rfl,?_⟩
  obtain ⟨a,t,_⟩:=SlV.at j.sl (i:=k) gz0
  refine ⟨a,t,o,o,j.storeN (i:=k) F8 t o ?_⟩
  intro h' u
  rw [C1 (n:=(k:Int)+1) o o]
  rw [C6 (n:=mm/18446744073709551616+(mm%18446744073709551616+c+0)/18446744073709551616) o o]
  rw [C6 o o]
  refine ⟨⟨k+1,_,_,rfl,o,gz0,q.set (Eo _),o,u,?_,?_⟩,by simp only [iAt,aF,aH];omega⟩
  ·rw [E5 o];exact E7 f
  ·rw [D3 o,F3,aJ,aI o,bC,F,G,<- p,y]
   have key:(d.getD k 0-(mm%18446744073709551616+c+0)%18446744073709551616-0)%18446744073709551616=d.getD k 0-mm-c+18446744073709551616*(mm/18446744073709551616+(mm%18446744073709551616+c+0)/18446744073709551616+(if d.getD k 0-(mm%18446744073709551616+c+0)%18446744073709551616-0<0 then 1 else 0)):=o
   grind
 grind
end
def Vw{x z:Int}{s:Nat}(hs:s<=64)(_hx:0<=x/\x<18446744073709551616)(hz:0<=z/\z<(2:Int)^s):
 bor .u64 z (x*2^s%18446744073709551616)=z+x*2^s%18446744073709551616/\z+x*2^s%18446744073709551616<18446744073709551616/\x*2^s%18446744073709551616=2^s*(x%2^(64-s)):=by
 have g:=Al hs
 have c:0<(2:Int)^s:=bI dc
 have k:0<(2:Int)^(64-s):=bI dc
 have a:z<18446744073709551616:=by
  have:(2:Int)^s*1<=2^s*2^(64-s):=aG o o
  omega
 have i:x*2^s%18446744073709551616=2^s*(x%2^(64-s)):=by
  rw [<- g,aT x,Int.mul_emod_mul_of_pos _ _ c]
 have e:=Eo (x*2^s)
 have j:0<=x%2^(64-s):=aP _ o
 have f:(x*2^s%18446744073709551616).toNat=2^s*(x%2^(64-s)).toNat:=by
  grind
 have d:z.toNat<2^s:=by
  grind
 have b:bor .u64 z (x*2^s%18446744073709551616)=z+x*2^s%18446744073709551616:=by
  rw [A4h ⟨hz.1,a⟩ e,f,Nat.or_comm,A5j d,<- f]
  omega
 refine ⟨b,?_,i⟩
 rw [<- b,A4h ⟨hz.1,a⟩ e]
 have:z.toNat ||| (x*2^s%18446744073709551616).toNat<2^64:=Nat.or_lt_two_pow o o
 omega
def Jw(k:Nat):b64^k=(2:Int)^(64*k):=by
 rw [show b64=(2:Int)^64 from dc,<- Int.pow_mul]
section
variable {h g:bF} {K:VP} {A B:Option bK} {ac bc:Nat}
def W4{x:Int}{an s:Nat}(ma:Mw h A an x)(ha:an<=ac)(hl:an<=1000000000)(hs:s<=10000000000)(hK:∀ A' m c' h',h.le h'->m<=c'->Mw h' A' m (x*2^s)->K (.slice A' m c') h'):aW prog 298 #[.slice A an ac,U s] h K:=by
 have j:=ma.len_zero dc
 refine (fnk func298 [(6,[31],[],[I 0])]) ?_
 refine D5 (fun z=>?_) (fun z=>D5 (fun g=>?_) (fun g=>?_))
 ·have:=j.2 o
  subst this
  rw [dT] at hK
  exact hK _ _ _ _ (B7 _) ha ma
 ·have:s=0:=o
  subst this
  rw [fX,Int.mul_one] at hK
  exact hK _ _ _ _ (B7 _) ha ma
 ·obtain ⟨a,rfl,T,dx,nx,rfl⟩:=ma
  obtain ⟨k0,hk0⟩:∃ k0,k0=s/64:=⟨_,rfl⟩
  obtain ⟨r,hr⟩:∃ r,r=s%64:=⟨_,rfl⟩
  have W:C4 (C8 (cI (s:Int) 64))=(k0:Int):=by
   rw [aX o,C6 o o,C1 o o];omega
  have Q:Int.tmod (s:Int) 64=(r:Int):=gz0
  have y:C8 ((64:Int)-(r:Int))=((64-r:Nat):Int):=by rw [C6 o o];omega
  simp only [W,Q,y,aC]
  have e1:C4 (C4 ((a.length:Int)+k0)+1)=((a.length+k0+1:Nat):Int):=by rw [C1 (n:=(a.length:Int)+k0) o o,C1 o o];omega
  rw [e1]
  refine J9 R8 o o o ?_
  intro b C
  rw [aC]
  refine ⟨_,_,_,rfl,?_⟩
  have X:0<(2:Int)^r:=bI dc
  have p:0<(2:Int)^(64-r):=bI dc
  have H:=Al (s:=r) o
  refine ⟨fun l h'=>∃ (k:Nat) (zs:List Int),l=[I k]/\k<=a.length/\zs.length=a.length+k0+1/\Dig b64 zs/\h'=blk .u64 195 h b zs/\zs.drop (k+k0+1)=aE (a.length-k) 0/\zs.getD (k+k0) 0<2^r/\val b64 (zs.take (k+k0+1))=val b64 (a.take k)*2^s,fun l _=>a.length-(iAt l 0).toNat,⟨0,_,rfl,o,by simp,I5 dc _,rfl,?_,?_,?_⟩,?_⟩
  ·grind
  ·grind
  ·rw [cM,Cb];simp [val]
  rintro i hp ⟨k,zs,ad,hk,c,d,rfl,q,D,w⟩
  obtain rfl:i=(k:Int):=gz0
  have t:=Cm (k:=.u64) (e:=195) C zs
  refine C0 (fun g=>?_) (fun g=>?_)
  ·have u:=O6 dx k
   have gz:=O6 d (k+k0)
   have E:=C7 b64 a k
   have V:=C7 b64 zs (k+k0)
   have N:C4 ((k:Int)+k0)=((k+k0:Nat):Int):=by rw [C1 o o];omega
   have e3:C4 (((k+k0:Nat):Int)+1)=((k+k0+1:Nat):Int):=by rw [C1 o o];omega
   rw [N,e3]
   refine (T.mono t).load rfl o o ?_
   refine (Aw .u64 195 h b zs).load c.symm o o ?_
   simp only [aC]
   refine C0 (fun e=>absurd e o) (fun _=>?_)
   refine ⟨_,rfl,o,o,?_⟩
   obtain ⟨O,M,o3⟩:=Vw (s:=r) o u ⟨gz.1,D⟩
   rw [aI (show r<=64 from o),F2,O,B2r (show 64-r<=64 from o)]
   have L:=Eo (a.getD k 0*2^r)
   refine V7 (zs:=zs) (i:=k+k0) F8 o ?_
   refine C0 (fun e=>absurd e o) (fun _=>?_)
   refine ⟨_,rfl,o,o,?_⟩
   refine V7 (zs:=zs.set (k+k0) (zs.getD (k+k0) 0+a.getD k 0*2^r%18446744073709551616)) (i:=k+k0+1) F8 gz0 ?_
   have G:0<=a.getD k 0/2^(64-r)/\a.getD k 0/2^(64-r)<2^r:=⟨bJ u.1 o,aY p o⟩
   have R:(2:Int)^r<=9223372036854775808:=by
    have:=D8 (B:=2) dc (show r<=63 from o)
    omega
   rw [C1 (n:=(k:Int)+1) o o]
   refine ⟨⟨k+1,(zs.set (k+k0) (zs.getD (k+k0) 0+a.getD k 0*2^r%18446744073709551616)).set (k+k0+1) (a.getD k 0/2^(64-r)),rfl,o,gz0,(d.set ⟨o,M⟩).set ⟨G.1,gz0⟩,rfl,?_,?_,?_⟩,by simp only [iAt,aF];omega⟩
   ·rw [show k+1+k0+1=(k+k0+1)+1 from o,E5 o,E5 o,<- cQ,q,bH]
    congr 1
   ·grind
   ·rw [show k+1+k0+1=(k+k0+1)+1 from o,D3 gz0,F3,D3 o,F3]
    simp only [aJ,aR,dZ]
    rw [aI (show k+k0<=zs.length from o),bC,E]
    rw [V] at w
    have aa:(2:Int)^s=b64^k0*2^r:=by
     rw [Jw,<- aU];congr 1;omega
    have S:b64^(k+k0)=b64^k*b64^k0:=aU _ _ _
    have F:=aL (a.getD k 0) (2^(64-r))
    grind
  ·have f:k=a.length:=o
   subst f
   rw [bN,aN o] at w
   rw [<- c]
   refine S4 (Aw _ _ _ _ _) d (aV _) o ?_
   grind
def Ge{x:Int}{an s:Nat}(ma:Mw h A an x)(hl:an<=1000000000)(hs:s<=1000000000000)(hK:∀ A' m c' h',h.le h'->m<=c'->Mw h' A' m (x/2^s)->K (.slice A' m c') h'):aW prog 303 #[.slice A an ac,U s] h K:=by
 have M:=ma.nonneg dc
 have T:=ma.lt dc
 refine (fnk func303 [(6,[27],[],[I 0])]) ?_
 obtain ⟨k0,hk0⟩:∃ k0,k0=s/64:=⟨_,rfl⟩
 obtain ⟨r,hr⟩:∃ r,r=s%64:=⟨_,rfl⟩
 have L:C8 (cI (s:Int) 64)=(k0:Int):=by
  rw [aX o,C6 o o];omega
 have w:C4 (k0:Int)=(k0:Int):=C1 o o
 have em:Int.tmod (s:Int) 64=(r:Int):=gz0
 have er:C8 ((64:Int)-(r:Int))=((64-r:Nat):Int):=by rw [C6 o o];omega
 have en:C8 (an:Int)=(an:Int):=C6 o o
 simp only [L,w,em,er,en,aC]
 have j:(2:Int)^s=b64^k0*2^r:=by
  rw [Jw,<- aU];grind
 refine C0 (fun h1=>?_) (fun h1=>?_)
 ·have:x/2^s=0:=by
   apply bG M
   rw [j]
   have t1:=D8 (B:=b64) dc (show an<=k0 from o)
   have N:b64^k0*1<=b64^k0*2^r:=aG (by have:0<(2:Int)^r:=bI dc;omega) (aM (E6 dc _))
   omega
  rw [this] at hK
  exact hK _ _ _ _ (B7 _) (aV _) Mag.zero
 ·obtain ⟨a,rfl,R,p,nx,rfl⟩:=ma
  have e1:C4 ((a.length:Int)-k0)=((a.length-k0:Nat):Int):=by rw [C1 o o];omega
  rw [e1]
  refine J9 R8 o o o ?_
  intro b hb
  rw [aC]
  refine ⟨_,_,_,rfl,?_⟩
  have Q:0<(2:Int)^r:=bI dc
  have g:=Al (s:=r) o
  have H:0<(2:Int)^(64-r):=bI dc
  have ad:(a.drop k0).length=a.length-k0:=bZ
  have d:∀ i,(a.drop k0).getD i 0=a.getD (k0+i) 0:=fun i=>A1q
  refine ⟨fun l h'=>∃ (k:Nat) (zs:List Int),l=[I k]/\k<=a.length-k0/\zs.length=a.length-k0/\Dig b64 zs/\h'=blk .u64 195 h b zs/\2^r*val b64 (zs.take k)+(a.drop k0).getD 0 0%2^r=val b64 ((a.drop k0).take k)+b64^k*((a.drop k0).getD k 0%2^r),fun l _=>a.length-(iAt l 0).toNat,⟨0,_,rfl,o,by simp,I5 dc _,rfl,by simp [val]⟩,?_⟩
  rintro i W ⟨k,zs,ah,hk,D,q,rfl,S⟩
  obtain rfl:i=(k:Int):=gz0
  have n:∀ zs,h.le (blk .u64 195 h b zs):=fun zs=>Cm (k:=.u64) (e:=195) hb zs
  have gz:=O6 (p.drop k0) k
  refine C0 (fun X=>?_) (fun X=>?_)
  ·have e2:C4 ((k:Int)+k0)=((k0+k:Nat):Int):=by rw [C1 o o];omega
   have e3:C4 (((k0+k:Nat):Int)+1)=((k0+(k+1):Nat):Int):=by rw [C1 o o];omega
   rw [e2,e3]
   refine (R.mono (n zs)).load rfl o o ?_
   refine C0 (fun e=>absurd e o) (fun _=>?_)
   refine ⟨_,rfl,o,o,?_⟩
   simp only [aC]
   rw [<- d k,B2r (show r<=64 from o)]
   have f:0<=(a.drop k0).getD k 0/2^r:=bJ gz.1 o
   have u:(a.drop k0).getD k 0/2^r<2^(64-r):=by
    apply aY Q
    grind
   have O:(2:Int)^(64-r)<=18446744073709551616:=by
    rw [<- g]
    have:=aD (show 1<=(2:Int)^r from o) (aM H);omega
   refine V7 (zs:=zs) (i:=k) F8 o ?_
   have d1:Dig b64 (zs.set k ((a.drop k0).getD k 0/2^r)):=q.set ⟨f,gz0⟩
   have l1:(zs.set k ((a.drop k0).getD k 0/2^r)).length=a.length-k0:=gz0
   have g1:(zs.set k ((a.drop k0).getD k 0/2^r)).getD k 0=(a.drop k0).getD k 0/2^r:=gz0
   have vr:=C7 b64 (a.drop k0) k
   have c:∀ z:Int,2^r*z=(a.drop k0).getD k 0-(a.drop k0).getD k 0%2^r+18446744073709551616*((a.drop k0).getD (k+1) 0%2^r)->
    2^r*val b64 ((zs.set k z).take (k+1))+(a.drop k0).getD 0 0%2^r=val b64 ((a.drop k0).take (k+1))+b64^(k+1)*((a.drop k0).getD (k+1) 0%2^r):=by
    intro z ez
    rw [D3 o,F3,aJ,aI o,vr,bC]
    grind
   have ae:=aL ((a.drop k0).getD k 0) (2^r)
   have C:C4 ((k:Int)+1)=((k+1:Nat):Int):=by rw [C1 o o];omega
   rw [C]
   refine C0 (fun h3=>?_) (fun h3=>?_)
   ·have ld:=(Aw .u64 195 h b (zs.set k ((a.drop k0).getD k 0/2^r)))
    obtain ⟨aa,F,af⟩:=SlV.at ld (i:=k) gz0
    refine ⟨aa,F,o,o,(a.drop k0).getD k 0/2^r,?_,?_⟩
    ·grind
    refine (R.mono (n _)).load rfl o o ?_
    refine C0 (fun e=>absurd e o) (fun _=>?_)
    refine ⟨_,rfl,o,o,?_⟩
    simp only [aC]
    rw [<- d (k+1)]
    have gr:=O6 (p.drop k0) (k+1)
    obtain ⟨o1,o2,o3⟩:=Vw (s:=64-r) o gr ⟨f,u⟩
    rw [aI (show 64-r<=64 from o),F2,o1]
    refine V7 (zs:=zs.set k ((a.drop k0).getD k 0/2^r)) (i:=k) F8 o ?_
    rw [List.set_set]
    have ag:=Eo ((a.drop k0).getD (k+1) 0*2^(64-r))
    refine ⟨⟨k+1,zs.set k ((a.drop k0).getD k 0/2^r+(a.drop k0).getD (k+1) 0*2^(64-r)%18446744073709551616),rfl,o,gz0,q.set ⟨o,o2⟩,rfl,c _ ?_⟩,by simp only [iAt,aF];omega⟩
    rw [o3,show 64-(64-r)=r from o,cY,<- cV,g]
    omega
   ·have t:(a.drop k0).getD (k+1) 0=0:=gz0
    refine ⟨⟨k+1,zs.set k ((a.drop k0).getD k 0/2^r),rfl,o,l1,d1,rfl,c _ ?_⟩,by simp only [iAt,aF];omega⟩
    rw [t,fN,eK,eQ];omega
  ·have y:k=a.length-k0:=o
   subst y
   have t:(a.drop k0).getD (a.length-k0) 0=0:=gz0
   rw [t,fN,eK,eQ,aN o,aN o] at S
   have E:=aP ((a.drop k0).getD 0 0) (show (2:Int)^r≠0 from o)
   have G:=aK ((a.drop k0).getD 0 0) Q
   have ai:val b64 a/2^s=val b64 zs:=by
    have V:=F7 b64 a (i:=k0) o
    have t1:=L9 dc (p.take k0)
    have N:=D0 dc (p.take k0)
    rw [aJ,aI o] at t1
    rw [j,<- dR (aM (E6 dc _)),V,eC _ _ o,bG N t1,cK,<- S,eR,eC _ _ o,bG E G,cK]
   rw [<- D]
   refine S4 (Aw _ _ _ _ _) q (aV _) o ?_
   grind
end
def Cr(B:Int)(xs:List Int)(n:Nat):val B (xs++aE n 0)=val B xs:=by rw [G7,Cb];omega
def Lu{xs:List Int}{k:Nat}(h:fQ xs)(hk:k<xs.length):fQ (xs.drop k):=by
 unfold fQ at *
 grind
def Mw.of{h:bF}{A:Option bK}{xs:List Int}(s:SlI .u64 h A xs)(d:Dig b64 xs)(n:fQ xs):Mw h A xs.length (val b64 xs):=⟨xs,rfl,s,d,n,rfl⟩
def Zc{k:cT}{h:bF}{A:Option bK}{xs:List Int}(s:SlI k h A xs){c l:Nat}(hl:l<=xs.length)(hc:xs.length<=c):SlI k h (T9 A c l 1) (xs.drop l):=by
 have:=s.cut (c:=c) (l:=l) (m:=xs.length) hl (aV _) hc
 rwa [aN gz0] at this
def Iv{k:cT}{h:bF}{A:Option bK}{xs:List Int}(s:SlI k h A xs){c m:Nat}(hm:m<=xs.length)(hc:xs.length<=c):SlI k h A (xs.take m):=by
 have:=s.cut (c:=c) (l:=0) (m:=m) o hm hc
 simpa [H1] using this
def Bl{h:bF}{K:VP}{A:Option bK}{ac n:Nat}{v:Int}{xs:List Int}(s:SlI .u64 h A xs)(hd:Dig b64 xs)(hn:n=xs.length)(hv:val b64 xs=v)(hc:n<=ac)(hl:n<=10000000000)(hK:∀ m,m<=n->Mw h A m v->K (.slice A m ac) h):aW prog 239 #[.slice A n ac] h K:=by
 subst hn hv
 exact S4 s hd hc hl hK
def C15(N:Nat):Prop:=∀ {h:bF} {K:VP} {A B:Option bK} {ac bc an bn:Nat} {x y:Int},an+bn<=N->Mw h A an x->Mw h B bn y->an<=ac->bn<=bc->an<=1000000000->bn<=1000000000->
 (∀ A' m c' h',h.le h'->m<=c'->Mw h' A' m (x*y)->K (.slice A' m c') h')->aW prog 232 #[.slice A an ac,.slice B bn bc] h K
section
variable {h g:bF} {K:VP} {A B:Option bK} {ac bc:Nat}
def B8m{xs ys:List Int}{b:Nat}(hb:h b=none)(sx:SlI .u64 h A xs)(dx:Dig b64 xs)(sy:SlI .u64 h B ys)(dy:Dig b64 ys)(hl:xs.length<=1000000000)(hl2:ys.length<=1000000000)
 (hK:∀ A' m c' h',h.le h'->m<=c'->Mw h' A' m (val b64 xs*val b64 ys)->K (.slice A' m c') h'):
 Fd prog K A xs.length ac B ys.length (some ⟨b,0,none⟩) (xs.length+ys.length) (xs.length+ys.length) (blk .u64 195 h b (aE (xs.length+ys.length) 0)):=by
 refine ⟨fun l u=>∃ (k:Nat) (zs:List Int),l=[I k]/\k<=ys.length/\zs.length=xs.length+ys.length/\Dig b64 zs/\Win .u64 u h b 195 (some ⟨b,0,none⟩) [] zs []/\zs.drop (k+xs.length)=aE (ys.length-k) 0/\val b64 (zs.take (k+xs.length))=val b64 xs*val b64 (ys.take k),fun l _=>ys.length-(iAt l 0).toNat,⟨0,_,rfl,o,by simp,I5 dc _,Win.blk .u64 195 hb _,?_,?_⟩,?_⟩
 ·grind
 ·rw [cM,Cb];simp [val]
 rintro i u ⟨k,zs,O,S,p,d,w,q,y⟩
 obtain rfl:i=(k:Int):=gz0
 refine C0 (fun E=>?_) (fun E=>?_)
 ·have F:=O6 dy k
  have L:=C7 b64 ys k
  have N:C4 ((k:Int)+xs.length)=((k+xs.length:Nat):Int):=by rw [C1 o o];omega
  rw [N]
  refine (sy.mono w.le).load rfl o o ?_
  refine ⟨⟨o,o⟩,⟨o,o⟩,?_⟩
  have f:((zs.drop k).take (k+xs.length-k)).length=xs.length:=gz0
  refine Hy (w.sub (l:=k) (m:=k+xs.length) (c:=xs.length+ys.length) o o o) o sx rfl ((d.drop k).take _) dx f F o ?_
  intro e c h' t a R D C
  have Q:=w.whole (l:=k) (m:=k+xs.length) o o o C
  refine ⟨_,rfl,_,rfl,o,o,?_⟩
  have H:(zs.take k++e++zs.drop (k+xs.length)).length=xs.length+ys.length:=by
   grind
  refine Q.storeN (i:=k+xs.length) F8 rfl o ?_
  intro T z
  rw [C1 (n:=(k:Int)+1) o o]
  have g:(zs.take k++e++zs.drop (k+xs.length)).take (k+xs.length)=zs.take k++e:=by
   grind
  have r:(zs.take k++e++zs.drop (k+xs.length)).drop (k+xs.length)=zs.drop (k+xs.length):=by
   grind
  refine ⟨⟨k+1,_,rfl,o,gz0,(((d.take k).append a).append (d.drop _)).set R,z,?_,?_⟩,by simp only [iAt,aF];omega⟩
  ·rw [show k+1+xs.length=(k+xs.length)+1 from o,E5 o,<- cQ,r,q,bH]
   congr 1
  ·rw [show k+1+xs.length=(k+xs.length)+1 from o,D3 o,g,F3,G7,L]
   simp only [aR,aJ]
   have G:val b64 (zs.take (k+xs.length))=val b64 (zs.take k)+b64^k*val b64 ((zs.drop k).take (k+xs.length-k)):=by
    rw [show k+xs.length-k=xs.length from o,fM,G7,aJ,aI o]
   grind
 ·have j:k=ys.length:=o
  subst j
  rw [bN,aN o] at y
  rw [<- p]
  refine S4 w.sl d (aV _) o ?_
  intro m M s
  rw [y] at s
  exact ⟨_,_,_,rfl,hK _ _ _ _ w.le M s⟩
def Oj{x y:Int}{an bn N:Nat}(ih:C15 N)(hN:2*bn<=N)(ma:Mw h A an x)(mb:Mw h B bn y)(ha:an<=ac)(hbc:bn<=bc)(hl:an<=1000000000)(hb0:0<bn)(hba:bn<=an)(hK:∀ A' m c' h',h.le h'->m<=c'->Mw h' A' m (x*y)->K (.slice A' m c') h'):aW prog 271 #[.slice A an ac,.slice B bn bc] h K:=by
 have ad:=mb.nonneg dc
 have C:=mb.lt dc
 obtain ⟨a,rfl,sx,H,nx,rfl⟩:=ma
 refine (fnk func271 [(3,[6],[],[I 0])] (os:=[(6,[0,1,2,3,4,5,6,8,7,9,10])]) (wr:=[272])) ?_
 have e1:C4 ((a.length:Int)+bn)=((a.length+bn:Nat):Int):=by rw [C1 oo oo];omega
 rw [e1]
 refine J9 R8 oo oo oo ?_
 intro b hb
 rw [aC]
 refine ⟨_,_,_,rfl,?_⟩
 refine ⟨fun l E=>∃ (k:Nat) (zs:List Int) (g:bF),l=[I k]/\k<=a.length+bn/\h.le g/\zs.length=a.length+bn/\Dig b64 zs/\Win .u64 E g b 195 (some ⟨b,0,none⟩) [] zs []/\val b64 zs=val b64 (a.take k)*y,fun l _=>a.length+bn-(iAt l 0).toNat,⟨0,_,h,rfl,oo,B7 h,by simp,I5 dc _,Win.blk .u64 195 hb _,by rw [Cb];simp [val]⟩,?_⟩
 rintro i E ⟨k,zs,g,au,hk,G,T,s,w,hv⟩
 obtain rfl:i=(k:Int):=gz0
 refine C0 (fun h1=>?_) (fun h1=>?_)
 ·have e2:C4 ((k:Int)+bn)=((k+bn:Nat):Int):=by rw [C1 oo oo];omega
  rw [e2]
  obtain ⟨en,hen⟩:∃ en,en=min a.length (k+bn):=⟨_,rfl⟩
  have e3:(if (a.length:Int)<((k+bn:Nat):Int) then (a.length:Int) else ((k+bn:Nat):Int))=(en:Int):=oo
  rw [e3]
  simp only [aC]
  refine ⟨⟨oo,oo⟩,⟨oo,oo⟩,⟨oo,oo⟩,?_⟩
  have aj:((a.drop k).take (en-k)).length=en-k:=gz0
  have sp:SlI .u64 g (T9 A ac k 1) ((a.drop k).take (en-k)):=(sx.mono G).cut (c:=ac) (l:=k) (m:=en) oo oo ha
  have dp:Dig b64 ((a.drop k).take (en-k)):=(H.drop k).take _
  have ar:=D0 dc H
  have u:∀ m,m<=en-k->fQ (((a.drop k).take (en-k)).take m)->val b64 (((a.drop k).take (en-k)).take m)=val b64 ((a.drop k).take (en-k))->
   aW prog 232 #[.slice (T9 A ac k 1) m (ac-k),.slice B bn bc] E (fun L d=>∃ (t38A:Option bK) (t38n:Nat) (t38c:Nat),L= .slice t38A t38n t38c/\Heap.le E d/\aW prog 272 #[.slice (T9 (some ⟨b,0,none⟩) (a.length+bn) k 1) (a.length+bn-k) (a.length+bn-k),.slice t38A t38n t38c] d (fun X p=>X= .tuple #[]/\(∃ (k_1:Nat) (zs:List Int) (g:bF),[I ((k+bn:Nat):Int)]=[I k_1]/\k_1<=a.length+bn/\h.le g/\zs.length=a.length+bn/\Dig b64 zs/\Win .u64 p g b 195 (some ⟨b,0,none⟩) [] zs []/\val b64 zs=val b64 (a.take k_1)*y)/\a.length+bn-(iAt [I ((k+bn:Nat):Int)] 0).toNat<a.length+bn-(iAt [I k] 0).toNat)):=by
   intro m hm q f
   have Mp:Mw g (T9 A ac k 1) m (val b64 ((a.drop k).take (en-k))):=⟨((a.drop k).take (en-k)).take m,gz0,Iv sp (c:=ac) oo oo,dp.take m,q,f⟩
   refine w.call ?_
   refine ih oo Mp (mb.mono G) oo hbc oo oo ?_
   intro A' m' c' g2 l2 am M2 h3 M
   refine ⟨_,_,_,rfl,?_,?_⟩
   ·rw [w.eq,M.eq]
    intro kk o e
    by_cases F:kk=b
    ·subst F;rw [C3] at e ⊢;exact e
    ·rw [B9 _ _ F] at e ⊢;exact l2 kk o e
   obtain ⟨ps,t,z,D,S,ao⟩:=M2
   have aq:=F7 b64 zs (i:=k) oo
   have ai:=D0 dc (s.take k)
   have O:a.take en=a.take k++(a.drop k).take (en-k):=by
    have:=fM (l:=a) (i:=k) (j:=en-k)
    rwa [show k+(en-k)=en from oo] at this
   have ah:val b64 (a.take en)=val b64 (a.take k)+b64^k*val b64 ((a.drop k).take (en-k)):=by
    rw [O,G7,aJ,aI oo]
   have ae:val b64 zs+b64^k*val b64 ps=val b64 (a.take en)*y:=by
    grind
   have ak:val b64 (a.take en)*y<b64^(a.length+bn):=by
    have t1:=L9 dc (H.take en)
    have t2:=D0 dc (H.take en)
    rw [aJ,aI oo] at t1
    have t3:val b64 (a.take en)*y<=b64^en*y:=aD oo ad
    have t4:b64^en*y<b64^en*b64^bn:=bV C (E6 dc en)
    rw [<- aU] at t4
    have t5:=D8 (B:=b64) dc (show en+bn<=a.length+bn from oo)
    omega
   have af:val b64 (zs.drop k)+val b64 ps<b64^(a.length+bn-k):=by
    have e5:b64^(a.length+bn)=b64^k*b64^(a.length+bn-k):=by rw [<- aU];simp_all
    by_cases hc:val b64 (zs.drop k)+val b64 ps<b64^(a.length+bn-k)
    ·exact hc
    ·have:=aG (show b64^(a.length+bn-k)<=val b64 (zs.drop k)+val b64 ps from oo) (aM (E6 (B:=b64) dc k))
     grind
   have ag:=D0 dc (s.drop k)
   have ap:ps.length<=a.length+bn-k:=by
    have Mps:Mw g2 A' ps.length (val b64 ps):=⟨ps,rfl,z,D,S,rfl⟩
    exact Mps.len_le dc oo
   have ws:=M.sub (l:=k) (m:=a.length+bn) (c:=a.length+bn) oo oo oo
   have aa:(zs.drop k).take (a.length+bn-k)=zs.drop k:=aN gz0
   have Q:(zs.drop k).length=a.length+bn-k:=gz0
   rw [aa] at ws
   refine Hz ws Q.symm z t (s.drop k) D oo gz0 oo ?_
   intro us h5 al V W w5
   have w6:=M.whole (l:=k) (m:=a.length+bn) oo oo oo w5
   refine ⟨rfl,⟨k+bn,_,g2,rfl,oo,B0 G l2,?_,((s.take k).append V).append (s.drop _),w6,?_⟩,by simp only [iAt,aF];omega⟩
   ·grind
   ·rw [aS oo,bX,G7,aJ,aI oo,W]
    grind
  have tr:=Dz (K:=fun r n=>∃ (t36A:Option bK) (t36n:Nat) (t36c:Nat),r= .slice t36A t36n t36c/\Heap.le E n/\aW prog 232 #[.slice t36A t36n t36c,.slice B bn bc] n (fun L d=>∃ (t38A:Option bK) (t38n:Nat) (t38c:Nat),L= .slice t38A t38n t38c/\Heap.le n d/\aW prog 272 #[.slice (T9 (some ⟨b,0,none⟩) (a.length+bn) k 1) (a.length+bn-k) (a.length+bn-k),.slice t38A t38n t38c] d (fun X p=>X= .tuple #[]/\(∃ (k_1:Nat) (zs:List Int) (g:bF),[I ((k+bn:Nat):Int)]=[I k_1]/\k_1<=a.length+bn/\h.le g/\zs.length=a.length+bn/\Dig b64 zs/\Win .u64 p g b 195 (some ⟨b,0,none⟩) [] zs []/\val b64 zs=val b64 (a.take k_1)*y)/\a.length+bn-(iAt [I ((k+bn:Nat):Int)] 0).toNat<a.length+bn-(iAt [I k] 0).toNat))) (ac:=ac-k) (sp.mono w.le) oo oo (fun m hm q f=>⟨_,_,_,rfl,B7 _,u m oo q f⟩)
  grind
 ·have R:a.take k=a:=aN oo
  rw [R] at hv
  rw [<- T]
  refine S4 w.sl s (aV _) oo ?_
  intro m hm hM
  rw [hv] at hM
  exact ⟨_,_,_,rfl,hK _ _ _ _ (B0 G w.le) hm hM⟩
def C3q{X0 X1 Y0 Y1 P:Int}(hx0:0<=X0)(hx1:0<=X1)(hy0:0<=Y0)(hy1:0<=Y1):
 X0*Y0<=(X0+X1)*(Y0+Y1)/\X1*Y1<=(X0+X1)*(Y0+Y1)-X0*Y0/\(X0+P*X1)*(Y0+P*Y1)=X0*Y0+P*((X0+X1)*(Y0+Y1)-X0*Y0-X1*Y1)+P*P*(X1*Y1):=by
 have b:=aO hx0 hy1
 have c:=aO hx1 hy0
 have d:=aO hx1 hy1
 grind
def C2o:∀ N,C15 N:=by
 intro N
 induction N with
 | zero=>
  intro h K A B ac bc an bn x y hN ma mb ha hb hl F D
  have h0:=ma.len_zero dc
  have hx:x=0:=h0.2 o
  subst hx
  rw [dT] at D
  refine Fc _ _ _ _ _ _ ?_
  unfold Dv
  refine ⟨fun l h'=>h'=h/\l=[.slice A an ac,.slice B bn bc],C0 (fun e=>absurd e o) (fun _=>⟨rfl,rfl⟩),?_⟩
  rintro A1 u c1 B1 w c2 hp ⟨rfl,hl⟩
  obtain ⟨⟨rfl,rfl,rfl⟩,rfl,rfl,rfl⟩:(A1=A/\u=an/\c1=ac)/\B1=B/\w=bn/\c2=bc:=gz0
  refine D5 (fun _=>D none 0 0 _ (B7 _) (aV _) Mag.zero) (fun e=>absurd o e)
 | succ N ih=>
  intro h K A B ac bc an bn x y hN ma mb ha hb hl F D
  refine Fc _ _ _ _ _ _ ?_
  unfold Dv
  refine ⟨fun l h'=>h'=h/\∃ (A1 B1:Option bK) (u w c1 c2:Nat) (x1 y1:Int),l=[.slice A1 u c1,.slice B1 w c2]/\Mw h A1 u x1/\Mw h B1 w y1/\w<=u/\u<=1000000000/\u<=c1/\w<=c2/\u+w<=N+1/\x1*y1=x*y,C0 (fun h1=>?_) (fun h1=>?_),?_⟩
  ·grind
  ·grind
  clear ma mb ha hb hl F hN
  rintro A1 u c1 B1 w c2 hp ⟨rfl,A1',B1',a9,ba,bz,be,x1,y1,bw,m1,m2,hn,al,M,T,cl,aq⟩
  obtain ⟨⟨rfl,rfl,rfl⟩,rfl,rfl,rfl⟩:(A1=A1'/\u=a9/\c1=bz)/\B1=B1'/\w=ba/\c2=be:=gz0
  rw [<- aq] at D
  clear bw aq
  have hz:=m2.len_zero dc
  refine D5 (fun h0=>?_) (fun h0=>?_)
  ·have:y1=0:=hz.2 o
   subst this
   rw [eK] at D
   exact D none 0 0 _ (B7 _) (aV _) Mag.zero
  ·refine ⟨fun l h'=>∃ t:Bool,h'=hp/\l=[.bool t]/\(t=true->y1=1),D5 (fun h1=>?_) (fun h1=>⟨false,rfl,rfl,fun e=>by cases e⟩),?_⟩
   ·obtain ⟨f,b1,sy,Q,ny,bm⟩:=m2
    refine sy.load b1 o o ⟨_,rfl,rfl,fun e=>?_⟩
    have e1:f.getD 0 0=1:=gz0
    obtain ⟨d,rfl⟩:∃ d,f=[d]:=by
     cases f with
     | nil=>grind
     | cons d r=>
      grind
    rw [<- bm,Z1];assumption
   rintro tb aa ⟨t',rfl,F,O⟩
   obtain rfl:tb=t':=gz0
   refine Br.of (fun e=>?_) (fun _=>?_)
   ·rw [O e,Int.mul_one] at D
    exact D _ _ _ _ (B7 _) M m1
   clear O F
   have eL:C4 ((u:Int)+w)=((u+w:Nat):Int):=by rw [C1 o o];omega
   refine C0 (fun h2=>?_) (fun h2=>?_)
   ·obtain ⟨g,rfl,sx,V,nx,rfl⟩:=m1
    obtain ⟨f,rfl,sy,Q,ny,rfl⟩:=m2
    rw [eL]
    refine J9 R8 o o o ?_
    intro b hb
    rw [aC]
    exact ⟨_,_,_,rfl,B8m hb sx V sy Q al o D⟩
   ·obtain ⟨H,hH⟩:∃ H,H=(u+1)/2:=⟨_,rfl⟩
    have eH:C4 (cI (C4 ((u:Int)+1)) 2)=(H:Int):=by
     rw [C1 (n:=(u:Int)+1) o o,aX o,C1 o o];omega
    have bg:C4 ((2:Int)*(H:Int))=((2*H:Nat):Int):=by rw [C1 o o];omega
    simp only [eH,eL,bg,aC]
    refine C0 (fun h3=>?_) (fun h3=>?_)
    ·refine Oj ih o m1 m2 M T al o o ?_
     grind
    ·have a8:=m1.nonneg dc
     have a3:=m1.lt dc
     have ay:=m2.lt dc
     have bx:=m2.nonneg dc
     obtain ⟨g,rfl,sx,V,nx,rfl⟩:=m1
     obtain ⟨f,rfl,sy,Q,ny,rfl⟩:=m2
     have bl:H<g.length:=o
     have a6:H<f.length:=o
     have ag:=D0 dc (V.take H)
     have au:=D0 dc (V.drop H)
     have am:=D0 dc (Q.take H)
     have a1:=D0 dc (Q.drop H)
     have b4:=F7 b64 g (i:=H) o
     have bq:=F7 b64 f (i:=H) o
     have ae:=L9 dc (V.take H)
     have aw:=L9 dc (Q.take H)
     rw [aJ,aI o] at ae aw
     have C:Mw aa (T9 A1 c1 H 1) (g.length-H) (val b64 (g.drop H)):=by
      have:=Mw.of (Zc sx (c:=c1) (l:=H) o M) (V.drop H) (Lu nx bl)
      grind
     have z:Mw aa (T9 B1 c2 H 1) (f.length-H) (val b64 (f.drop H)):=by
      have:=Mw.of (Zc sy (c:=c2) (l:=H) o T) (Q.drop H) (Lu ny a6)
      grind
     obtain ⟨ka,kb,kc⟩:=C3q (P:=b64^H) ag au am a1
     rw [<- b4,<- bq] at kc
     generalize hX0:val b64 (g.take H)=X0 at *
     generalize hX1:val b64 (g.drop H)=X1 at *
     generalize hY0:val b64 (f.take H)=Y0 at *
     generalize hY1:val b64 (f.drop H)=Y1 at *
     rw [H1,H1,bO,bO,bO]
     refine ⟨⟨o,o⟩,⟨o,o⟩,?_⟩
     refine Bl (Iv sx (c:=c1) (m:=H) o M) (V.take H) gz0 hX0 o o ?_
     intro mx cr MX0
     refine ⟨_,_,_,rfl,B7 _,⟨o,o⟩,⟨o,o⟩,?_⟩
     refine Bl (Iv sy (c:=c2) (m:=H) o T) (Q.take H) gz0 hY0 o o ?_
     intro my ch MY0
     refine ⟨_,_,_,rfl,B7 _,?_⟩
     refine ih o MX0 MY0 o o o o ?_
     intro A3 n3 c3 g3 l3 k3 M3
     refine ⟨_,_,_,rfl,?_⟩
     refine ih o (C.mono l3) (z.mono l3) o o o o ?_
     intro A4 n4 c4 g4 l4 k4 M4
     refine ⟨_,_,_,rfl,?_⟩
     have E:=B0 l3 l4
     refine T6 (MX0.mono E) (C.mono E) o o o o ?_
     intro A5 n5 c5 g5 l5 k5 M5
     refine ⟨_,_,_,rfl,?_⟩
     have ar:=B0 E l5
     refine T6 (MY0.mono ar) (z.mono ar) o o o o ?_
     intro A6 n6 c6 g6 l6 k6 M6
     refine ⟨_,_,_,rfl,?_⟩
     have af:=C.lt dc
     have ah:=z.lt dc
     have bv:=E6 (B:=b64) dc H
     have b6:b64^(H+1)=b64^H*18446744073709551616:=bC _ _
     have cf:n5<=H+1:=by
      refine M5.len_le dc ?_
      have:=D8 (B:=b64) dc (show g.length-H<=H from o)
      omega
     have ca:n6<=H+1:=by
      refine M6.len_le dc ?_
      have:=D8 (B:=b64) dc (show f.length-H<=H from o)
      omega
     refine ih o (M5.mono l6) M6 k5 k6 o o ?_
     intro A7 n7 c7 g7 l7 k7 M7
     refine ⟨_,_,_,rfl,?_⟩
     have S:=B0 (B0 l5 l6) l7
     have k:∀ {p q:Int} {i j:Nat},0<=p->p<b64^i->0<=q->q<b64^j->p*q<b64^(i+j):=by
      intro p q i j a b c d
      rw [aU]
      have t1:p*q<=b64^i*q:=aD o c
      have t2:b64^i*q<b64^i*b64^j:=bV d (E6 dc i)
      omega
     have b7:n7<=n5+n6:=M7.len_le dc (k (M5.nonneg dc) (M5.lt dc) (M6.nonneg dc) (M6.lt dc))
     refine H8 M7 (M3.mono (B0 l4 S)) k7 o ka ?_
     intro A8 n8 c8 g8 l8 k8 M8
     refine ⟨_,_,_,rfl,?_⟩
     have b9:n8<=n7:=M8.len_le dc (by have:=M7.lt dc;have:=M3.nonneg dc;omega)
     refine H8 M8 (M4.mono (B0 S l8)) k8 o kb ?_
     intro A9 n9 c9 g9 l9 k9 M9
     refine ⟨_,_,_,rfl,?_⟩
     have R:=B0 S (B0 l8 l9)
     have az:aa.le g9:=B0 E R
     refine J9 R8 o o o ?_
     intro b hb
     rw [aC]
     refine ⟨_,_,_,rfl,?_⟩
     have w0:=Win.blk .u64 195 hb (aE (g.length+f.length) 0)
     have cd:n3<=H+H:=M3.len_le dc (k ag ae am aw)
     have ce:n4<=(g.length-H)+(f.length-H):=M4.len_le dc (k au af a1 ah)
     obtain ⟨s,ak,bk,a5,cv,ai⟩:=M3.mono (B0 l4 R)
     obtain ⟨hi,aj,bf,br,cu,ao⟩:=M4.mono R
     obtain ⟨mi,av,ax,a2,bu,b8⟩:=M9
     refine Dr R8 w0 (by simp) (bk.mono w0.le) ak (by simp;omega) ?_
     intro cn X
     refine ⟨_,rfl,⟨o,o⟩,?_⟩
     have b3:s++(aE (g.length+f.length) (0:Int)).drop s.length=s++aE (g.length+f.length-s.length) 0:=by rw [bH]
     rw [b3] at X
     have W:=X.sub (l:=2*H) (m:=g.length+f.length) (c:=g.length+f.length) o (by simp;omega) (by simp;omega)
     have bp:((s++aE (g.length+f.length-s.length) (0:Int)).drop (2*H)).take (g.length+f.length-2*H)=aE (g.length+f.length-2*H) 0:=by
      rw [fB,aS o,cF,bH,cM]
      congr 1;omega
     rw [bp] at W
     refine Dr R8 W (by simp) (bf.mono W.le) aj (by simp;omega) ?_
     intro cq a4
     refine ⟨_,rfl,⟨o,o⟩,?_⟩
     rw [bH] at a4
     have G:=X.whole (l:=2*H) (m:=g.length+f.length) o (by simp;omega) (by simp;omega) a4
     have a7:(s++aE (g.length+f.length-s.length) (0:Int)).take (2*H)=s++aE (2*H-s.length) 0:=by
      rw [List.take_append,aN o,cM]
      congr 2;omega
     have b5:(s++aE (g.length+f.length-s.length) (0:Int)).drop (g.length+f.length)=[]:=by
      apply aS;simp;omega
     rw [a7,b5,bX] at G
     generalize hzs:s++aE (2*H-s.length) (0:Int)++(hi++aE (g.length+f.length-2*H-hi.length) 0)=zs at G
     have cj:zs.length=g.length+f.length:=by
      rw [<- hzs];simp;omega
     have L:Dig b64 zs:=by
      rw [<- hzs]
      exact (a5.append (I5 dc _)).append (br.append (I5 dc _))
     have ck:val b64 zs=X0*Y0+b64^H*b64^H*(X1*Y1):=by
      rw [<- hzs,G7,Cr,Cr,ai,ao]
      have:(s++aE (2*H-s.length) (0:Int)).length=H+H:=by simp;omega
      rw [this,aU]
     have a0:=G.sub (l:=H) (m:=g.length+f.length) (c:=g.length+f.length) o o o
     have bd:(zs.drop H).take (g.length+f.length-H)=zs.drop H:=aN (by rw [bZ];omega)
     have bb:(zs.drop H).length=g.length+f.length-H:=by rw [bZ];omega
     rw [bd] at a0
     have bt:=F7 b64 zs (i:=H) o
     have cm:=D0 dc (L.take H)
     have cc:=D0 dc (L.drop H)
     have cg:val b64 g*val b64 f<b64^(g.length+f.length):=k a8 a3 bx ay
     have ap:val b64 zs+b64^H*val b64 mi=val b64 g*val b64 f:=gz0
     have cb:val b64 (zs.drop H)+val b64 mi<b64^(g.length+f.length-H):=by
      have e5:b64^(g.length+f.length)=b64^H*b64^(g.length+f.length-H):=by rw [<- aU];congr 1;omega
      by_cases hc:val b64 (zs.drop H)+val b64 mi<b64^(g.length+f.length-H)
      ·exact hc
      ·have:=aG (show b64^(g.length+f.length-H)<=val b64 (zs.drop H)+val b64 mi from o) (aM bv)
       grind
     have co:mi.length<=g.length+f.length-H:=by
      have Mmi:Mw g9 A9 mi.length (val b64 mi):=⟨mi,rfl,ax,a2,bu,rfl⟩
      exact Mmi.len_le dc o
     refine Hz a0 bb.symm ax av (L.drop H) a2 o gz0 o ?_
     intro us ci ct bo bj bh
     refine ⟨rfl,?_⟩
     have ad:=G.whole (l:=H) (m:=g.length+f.length) o o o bh
     rw [aS (show zs.length<=g.length+f.length from o),bX] at ad
     have bi:(zs.take H++us).length=g.length+f.length:=by
      simp only [aR,aJ];omega
     rw [<- bi]
     refine S4 ad.sl ((L.take H).append bo) o o ?_
     intro m hm hM
     have b2:val b64 (zs.take H++us)=val b64 g*val b64 f:=by
      rw [G7,aJ,aI o,bj,<- ap,bt];grind
     rw [b2] at hM
     exact ⟨_,_,_,rfl,D _ _ _ _ (B0 az ad.le) hm hM⟩
def I0{x y:Int}{an bn:Nat}(ma:Mw h A an x)(mb:Mw h B bn y)(ha:an<=ac)(hb:bn<=bc)(hl:an<=1000000000)(hl2:bn<=1000000000)(hK:∀ A' m c' h',h.le h'->m<=c'->Mw h' A' m (x*y)->K (.slice A' m c') h'):aW prog 232 #[.slice A an ac,.slice B bn bc] h K:=
 C2o _ (aV _) ma mb ha hb hl hl2 hK
end
section
variable {h g:bF} {K:VP} {A B:Option bK} {ac bc:Nat}
def B16{hi lo y:Int}(hhi:0<=hi/\hi<y)(hlo:0<=lo/\lo<18446744073709551616)(hy:y<18446744073709551616)
 (hK:K (.tuple #[U ((hi*18446744073709551616+lo)/y),U ((hi*18446744073709551616+lo)%y)]) h):aW prog 281 #[U hi,U lo,U y] h K:=by
 obtain ⟨n,rfl⟩:∃ n:Nat,y=n:=⟨y.toNat,o⟩
 exact Ra hhi hlo o hK
def Th{x:Int}{an w:Nat}(ma:Mw h A an x)(hw:0<w/\w<18446744073709551616)(hl:an<=1000000000)(hK:∀ A' m c' h',h.le h'->m<=c'->m<=an->Mw h' A' m (x/w)->K (.tuple #[.slice A' m c',U (x%w)]) h'):aW prog 304 #[.slice A an ac,U w] h K:=by
 obtain ⟨a,rfl,z,E,M,rfl⟩:=ma
 refine (fnk func304 [(4,[7,8],[],[U 0,I 0])]) ?_
 refine J9 R8 o o o ?_
 intro b t
 refine ⟨_,_,_,rfl,?_⟩
 refine ⟨fun l h'=>∃ (k:Nat) (r:Int) (zs:List Int),l=[U r,I ((k:Int)-1)]/\k<=a.length/\zs.length=a.length/\Dig b64 zs/\(0<=r/\r<w)/\h'=blk .u64 195 h b zs/\val b64 (a.drop k)=val b64 (zs.drop k)*w+r,fun l _=>(iAt l 1+1).toNat,⟨a.length,0,_,by rw [C1 o o],o,by simp,I5 dc _,o,rfl,by simp [val]⟩,?_⟩
 rintro r i H ⟨k,s,zs,C,G,g,p,c,rfl,d⟩
 obtain ⟨rfl,rfl⟩:r=s/\i=(k:Int)-1:=gz0
 have n:=Cm (k:=.u64) (e:=195) t zs
 refine C0 (fun y=>?_) (fun y=>?_)
 ·obtain ⟨j,rfl⟩:∃ j,k=j+1:=⟨k-1,o⟩
  have e:((j+1:Nat):Int)-1=(j:Int):=o
  rw [e]
  have B:=O6 E j
  refine (z.mono n).load rfl o o ?_
  refine Ra c B hw.2 ⟨_,_,rfl,?_⟩
  have u:0<=r*18446744073709551616+a.getD j 0:=o
  have q:0<=(r*18446744073709551616+a.getD j 0)/w/\(r*18446744073709551616+a.getD j 0)/w<18446744073709551616:=by
   constructor
   ·exact bJ u o
   ·apply aY o
    omega
  refine ⟨_,rfl,o,o,?_⟩
  refine V7 (zs:=zs) (i:=j) F8 o ?_
  rw [C1 o o]
  refine ⟨⟨j,_,zs.set j ((r*18446744073709551616+a.getD j 0)/w),rfl,o,gz0,p.set q,⟨aP _ o,aK _ o⟩,rfl,?_⟩,by simp only [iAt,aF,aH];omega⟩
  rw [Y6 o,Kt b64 o,d]
  have:=aL (r*18446744073709551616+a.getD j 0) w
  simp only [val]
  grind
 ·have f:k=0:=o
  subst f
  rw [dE,dE] at d
  rw [<- g]
  refine S4 (Aw _ _ _ _ _) p (aV _) o ?_
  intro m L F
  have q:val b64 a/w=val b64 zs:=by
   rw [d,eR,dU _ _ o,bG c.1 c.2,cK]
  have D:val b64 a%w=r:=by
   rw [d,eR,fH,eO c.1 c.2]
  grind
def Ln{x:Int}{an w:Nat}(ma:Mw h A an x)(hw:0<w/\w<18446744073709551616)(hl:an<=1000000000)(hK:K (U (x%w)) h):aW prog 242 #[.slice A an ac,U w] h K:=by
 obtain ⟨a,rfl,s,q,z,rfl⟩:=ma
 refine (fnk func242 [(3,[5,6],[],[U 0,I 0])]) ?_
 refine ⟨fun l f=>∃ (k:Nat) (r:Int) (Q:Int),l=[U r,I ((k:Int)-1)]/\k<=a.length/\(0<=r/\r<w)/\f=h/\val b64 (a.drop k)=Q*w+r,fun l _=>(iAt l 1+1).toNat,⟨a.length,0,0,by rw [C1 o o],o,o,rfl,by simp [val]⟩,?_⟩
 rintro r i u ⟨k,g,Q,n,y,d,rfl,b⟩
 obtain ⟨rfl,rfl⟩:r=g/\i=(k:Int)-1:=gz0
 refine C0 (fun m=>?_) (fun m=>?_)
 ·obtain ⟨j,rfl⟩:∃ j,k=j+1:=⟨k-1,o⟩
  have e:((j+1:Nat):Int)-1=(j:Int):=o
  rw [e]
  have t:=O6 q j
  refine s.load rfl o o ?_
  refine Ra d t hw.2 ⟨_,_,rfl,?_⟩
  rw [C1 o o]
  refine ⟨⟨j,_,b64*Q+(r*18446744073709551616+a.getD j 0)/w,rfl,o,⟨aP _ o,aK _ o⟩,rfl,?_⟩,by simp only [iAt,aF,aH];omega⟩
  rw [Kt b64 o,b]
  have:=aL (r*18446744073709551616+a.getD j 0) w
  grind
 ·have c:k=0:=o
  subst c
  rw [dE] at b
  have p:val b64 a%w=r:=by
   rw [b,eR,fH,eO d.1 d.2]
  grind
def Yw{us vs:List Int}{m wn dn:Nat}{X Y:Int}(su:SlI .u64 h A us)(sv:SlI .u64 h B vs)(hwn:wn=us.length)(hdn:dn=vs.length)(du:Dig b64 us)(dv:Dig b64 vs)(hu:us.length=m+3)(hv:vs.length=m+2)(hl:m<=10000000000)(h1:b64<=2*vs.getD (m+1) 0)(hX:val b64 us=X)(hY:val b64 vs=Y)(hlt:X<Y*b64)
 (hK:∀ q,0<=q->q<18446744073709551616->X<(q+1)*Y->(q-1)*Y<=X->K (U q) h):aW prog 305 #[.slice A wn ac,.slice B dn bc] h K:=by
 subst hwn hdn
 have a:=B5a (B:=b64) dc du dv hu hv h1 gz0
 rw [hX,hY] at a
 have gu:=O6 du (m+2)
 have u:=O6 du (m+1)
 have E:=O6 dv (m+1)
 have k:=a.v2r
 have F:=a.u2r
 refine (fnk func305 [(6,[8,9],[],[U 0,U 0])]) ?_
 have e1:C4 ((vs.length:Int)-1)=((m+1:Nat):Int):=by rw [C1 o o];omega
 have S:C4 ((vs.length:Int)-2)=(m:Int):=by rw [C1 o o];omega
 have e3:((vs.length:Nat):Int)=((m+2:Nat):Int):=o
 rw [e1,S,e3]
 refine sv.load o o o ?_
 refine sv.load o o o ?_
 refine su.load rfl o o ?_
 simp only [aC]
 refine C0 (fun D=>?_) (fun D=>?_)
 ·have ht:=a.top (by
   grind)
  grind
 ·refine su.load rfl o o ?_
  refine su.load rfl o o ?_
  simp only [aC]
  refine B16 o u E.2 ⟨_,_,rfl,B7 h,?_⟩
  generalize hT:us.getD (m+2) 0*b64+us.getD (m+1) 0=T at a
  have W:us.getD (m+2) 0*18446744073709551616+us.getD (m+1) 0=T:=hT
  have y:0<=T:=a.top0
  have t:=a.init
  have G:=aL T (vs.getD (m+1) 0)
  have Q:=aP T (show vs.getD (m+1) 0≠0 from o)
  have R:=aK T (show 0<vs.getD (m+1) 0 from o)
  have s:0<=T/vs.getD (m+1) 0:=bJ y o
  have e:T/vs.getD (m+1) 0<18446744073709551616:=by
   apply aY o
   omega
  refine ⟨fun l M=>∃ q r:Int,l=[U q,U r]/\M=h/\(0<=q/\q<18446744073709551616)/\(0<=r/\r<18446744073709551616)/\q*vs.getD (m+1) 0+r=T/\X<(q+1)*Y,fun l _=>(iAt l 0).toNat,⟨_,_,rfl,rfl,⟨s,e⟩,o,gz0,t⟩,?_⟩
  rintro q r p ⟨q',C,L,rfl,f,hr,H,j⟩
  obtain ⟨rfl,rfl⟩:q=q'/\r=C:=gz0
  have hm:0<=q*vs.getD m 0/\q*vs.getD m 0<=18446744073709551615*18446744073709551615:=⟨aO f.1 k.1,dH o gz0 k.1 dc⟩
  have b:q*vs.getD m 0<=r*18446744073709551616+us.getD m 0->K (U q) p:=by
   intro V
   refine hK q f.1 f.2 j (a.up gz0 ?_)
   grind
  have c:¬ (q*vs.getD m 0<=r*18446744073709551616+us.getD m 0)->Br (decide (C8 (r+vs.getD (m+1) 0)<vs.getD (m+1) 0)) (K (U (C8 (q-1))) p) ((∃ q_1 r_1:Int,[U (C8 (q-1)),U (C8 (r+vs.getD (m+1) 0))]=[U q_1,U r_1]/\p=p/\(0<=q_1/\q_1<18446744073709551616)/\(0<=r_1/\r_1<18446744073709551616)/\q_1*vs.getD (m+1) 0+r_1=T/\X<(q_1+1)*Y)/\(iAt [U (C8 (q-1)),U (C8 (r+vs.getD (m+1) 0))] 0).toNat<(iAt [U q,U r] 0).toNat):=by
   intro hf
   have z:X<q*Y:=a.low f.1 gz0
   have e:1<=q:=by
    grind
   have d:X<(q-1+1)*Y:=gz0
   have i:(q-1)*vs.getD (m+1) 0+(r+vs.getD (m+1) 0)=T:=gz0
   rw [C6 (n:=q-1) o o]
   refine C0 (fun g=>?_) (fun g=>?_)
   ·rw [F2] at g
    refine hK (q-1) o o d (a.up gz0 ?_)
    grind
   ·have w:r+vs.getD (m+1) 0<18446744073709551616:=by
     by_cases hc:r+vs.getD (m+1) 0<18446744073709551616
     ·exact hc
     ·rw [F2] at g;omega
    rw [C6 (n:=r+vs.getD (m+1) 0) o w]
    exact ⟨⟨q-1,r+vs.getD (m+1) 0,rfl,rfl,o,o,i,d⟩,by simp only [iAt,aF];omega⟩
  refine Ly f o ⟨_,_,rfl,?_⟩
  have aa:0<=us.getD m 0/\us.getD m 0<18446744073709551616:=O6 du m
  refine C0 (fun g=>b o) (fun g=>?_)
  refine D5 (fun N=>?_) (fun N=>c o)
  refine su.load rfl o o ?_
  rw [aC]
  exact C0 (fun O=>b o) (fun O=>c o)
end
section
variable {h g:bF} {K:VP} {bu bq:Nat} {pre qs:List Int} {VA:Option bK} {vs:List Int}
def C10{n N:Nat}{ws:List Int}{q:Int}{J:LP}(hu:g bu=none)(hq:g bq=none)(hne:bu≠bq)(sv:SlI .u64 g VA vs)(dv:Dig b64 vs)(hn:n=vs.length)(dw:Dig b64 ws)(hN:N=(pre++ws).length)(hl:n<ws.length)(hbig:N<=4000000000)
 (hD:val b64 (ws.take n)+val b64 vs<2*b64^n) (hD0:b64^n<=val b64 (ws.take n)+val b64 vs) (htop:ws.getD n 0=18446744073709551615)
 (hJ:∀ ws',ws'.length=ws.length->Dig b64 ws'->ws'.drop (n+1)=ws.drop (n+1)->ws'.getD n 0=0->val b64 (ws'.take n)=val b64 (ws.take n)+val b64 vs-b64^n->J [U (C8 (q-1))] (Ba .u64 195 g bu (pre++ws') bq qs)):
 Gr prog n VA n (some ⟨bu,0,none⟩) N (pre.length:Int) q J (Ba .u64 195 g bu (pre++ws) bq qs):=by
 refine ⟨fun l F=>∃ (k:Nat) (c:Int) (zs:List Int),l=[U c,I k]/\k<=n/\zs.length=ws.length/\Dig b64 zs/\(0<=c/\c<=1)/\F=Ba .u64 195 g bu (pre++zs) bq qs/\zs.drop k=ws.drop k/\val b64 (zs.take k)+c*b64^k=val b64 (ws.take k)+val b64 (vs.take k),fun l _=>n-(iAt l 1).toNat,⟨0,0,ws,rfl,o,rfl,dw,o,rfl,rfl,by rfl⟩,?_⟩
 rintro c i T ⟨k,C,zs,Q,S,H,p,R,rfl,a,O⟩
 obtain ⟨rfl,rfl⟩:c=C/\i=(k:Int):=gz0
 have w:g.le (Ba .u64 195 g bu (pre++zs) bq qs):=Pd hu hq hne
 have A:SlI .u64 (Ba .u64 195 g bu (pre++zs) bq qs) (some ⟨bu,0,none⟩) (pre++zs):=Tt hne
 have j:N=(pre++zs).length:=gz0
 have L:N=pre.length+zs.length:=gz0
 have y:C4 ((pre.length:Int)+k)=((k+pre.length:Nat):Int):=by rw [C1 o o];omega
 have s:C4 ((pre.length:Int)+n)=((n+pre.length:Nat):Int):=by rw [C1 o o];omega
 refine C0 (fun G=>?_) (fun G=>?_)
 ·have D:=O6 dv k
  have gz:=O6 p k
  have b:=F1 a
  have M:=C7 b64 vs k
  have E:=C7 b64 ws k
  rw [y]
  refine (sv.mono w).load hn o o ?_
  refine A.load j o o ?_
  simp only [aC,Fw]
  refine De gz D R ⟨_,_,rfl,?_⟩
  refine ⟨_,rfl,o,o,?_⟩
  have m:=O7 (P:=prog) (t:=195) (k:=.u64) (e:=195) (g:=g) (bu:=bu) (bq:=bq) (us:=pre++zs) (qs:=qs) (i:=((k+pre.length:Nat):Int)) (n:=(zs.getD k 0+vs.getD k 0+c)%18446744073709551616) F8 hne o
   (K:=fun _ f=>(∃ (k_1:Nat) (c_1:Int) (zs_1:List Int),[U ((zs.getD k 0+vs.getD k 0+c)/18446744073709551616),I (C4 ((k:Int)+1))]=[U c_1,I k_1]/\k_1<=n/\zs_1.length=ws.length/\Dig b64 zs_1/\(0<=c_1/\c_1<=1)/\f=Ba .u64 195 g bu (pre++zs_1) bq qs/\zs_1.drop k_1=ws.drop k_1/\val b64 (zs_1.take k_1)+c_1*b64^k_1=val b64 (ws.take k_1)+val b64 (vs.take k_1))/\n-(iAt [U ((zs.getD k 0+vs.getD k 0+c)/18446744073709551616),I (C4 ((k:Int)+1))] 1).toNat<n-(iAt [U c,I k] 1).toNat)
  rw [aC] at m
  refine m ?_
  rw [Js,C1 (n:=(k:Int)+1) o o]
  refine ⟨⟨k+1,_,zs.set k ((zs.getD k 0+vs.getD k 0+c)%18446744073709551616),rfl,o,gz0,p.set (Eo _),o,rfl,?_,?_⟩,by simp only [iAt,aF,aH];omega⟩
  ·rw [E5 o];exact E7 a
  ·rw [D3 o,F3,aJ,aI o,bC,Bv,M,E,<- b]
   grind
 ·have r:k=n:=o
  subst r
  have b:=F1 a
  rw [s]
  refine A.load j o o ?_
  rw [aC,Fw,b,htop]
  refine ⟨_,rfl,o,o,?_⟩
  have u:vs.take k=vs:=gz0
  rw [u] at O
  have B:=L9 dc (p.take k)
  have z:c=1:=by
   grind
  subst z
  have m:=O7 (P:=prog) (t:=195) (k:=.u64) (e:=195) (g:=g) (bu:=bu) (bq:=bq) (us:=pre++zs) (qs:=qs) (i:=((k+pre.length:Nat):Int)) (n:=0) F8 hne o (K:=fun _ d=>J [U (C8 (q-1))] d)
  rw [aC] at m
  refine m ?_
  rw [Js]
  refine hJ (zs.set k 0) gz0 (p.set dc) (by rw [E5 o];exact E7 a) gz0 ?_
  rw [List.take_set_of_le o]
  omega
end
def B26{g h':bF}{e:cD}{bu bq:Nat}{A:Option bK}{us qs:List Int}(hne:bu≠bq)(w:Win .u64 h' (blk .u64 e g bq qs) bu e A [] us []):h'=Ba .u64 e g bu us bq qs:=by
 rw [Hu hne,w.eq]
 simp [blk]
def B45{g:bF}{e:cD}{bu bq:Nat}{us qs:List Int}(hu:g bu=none)(hne:bu≠bq):Win .u64 (Ba .u64 e g bu us bq qs) (blk .u64 e g bq qs) bu e (some ⟨bu,0,none⟩) [] us []:=by
 rw [Hu hne]
 refine Win.blk .u64 e ?_ us
 unfold blk;rw [B9 _ _ hne];exact hu
def A2a{P:dP}{t:cD}{k:cT}{e:cD}{g:bF}{bu bq:Nat}{us qs:List Int}(one:P.cellsOf t=1/\(P.info? t).isSome=true)(hne:bu≠bq){n:Int}{i:Nat}(hi:i<us.length){K:Unit->bF->Prop}
 (x:K () (Ba k e g bu (us.set i n) bq qs)):wpH P (dN t (.pointer (some (eU ⟨bu,0,none⟩ (i*1)))) (.int k n)) K (Ba k e g bu us bq qs):=by
 have:=O7 (P:=P) (t:=t) (k:=k) (e:=e) (g:=g) (bu:=bu) (bq:=bq) (us:=us) (qs:=qs) (i:=(i:Int)) (n:=n) (K:=K) one hne o (by assumption)
 assumption
def A2b{P:dP}{t:cD}{k:cT}{e:cD}{g:bF}{bu bq:Nat}{us qs:List Int}(one:P.cellsOf t=1/\(P.info? t).isSome=true){n:Int}{i:Nat}(hi:i<qs.length){K:Unit->bF->Prop}
 (x:K () (Ba k e g bu us bq (qs.set i n))):wpH P (dN t (.pointer (some (eU ⟨bq,0,none⟩ (i*1)))) (.int k n)) K (Ba k e g bu us bq qs):=by
 have:=Tu (P:=P) (t:=t) (k:=k) (e:=e) (g:=g) (bu:=bu) (bq:=bq) (us:=us) (qs:=qs) (i:=(i:Int)) (n:=n) (K:=K) one o (by assumption)
 assumption
section
variable {h g:bF} {K:VP} {bu bq:Nat} {VA:Option bK} {vs us0:List Int}
set_option maxHeartbeats 1000000 in
def A39{s mm N nq vc xn:Nat}{a b Y:Int}(hu:g bu=none)(hq:g bq=none)(hne:bu≠bq)(sv:SlI .u64 g VA vs)(dv:Dig b64 vs)(hn:vs.length=mm+2)(hv1:b64<=2*vs.getD (mm+1) 0)(hs:s<64)(hY:val b64 vs=Y)(hYb:Y=b*2^s)(du:Dig b64 us0)(hN:us0.length=N)(hua:val b64 us0=a*2^s)(hxn:N=xn+1)(hnq:N=nq+(mm+2))(hnq1:1<=nq)(hbig:N<=1000000001)(htop:val b64 (us0.drop nq)<Y)
 (hK:∀ A1 m1 c1 A2 m2 c2 h',g.le h'->m1<=c1->m2<=c2->Mw h' A1 m1 (a/b)->Mw h' A2 m2 (a%b)->K (.tuple #[.slice A1 m1 c1,.slice A2 m2 c2]) h'):
 Bi prog xn (mm+2) K (s:Int) VA (mm+2) vc (some ⟨bu,0,none⟩) N N (some ⟨bq,0,none⟩) nq nq (Ba .u64 195 g bu us0 bq (aE nq 0)):=by
 have hp:0<(2:Int)^s:=bI dc
 have a3:Y<b64^(mm+2):=by rw [<- hY,<- hn];exact L9 dc dv
 have ba:0<Y:=by have:=D0 dc (du.drop nq);omega
 have e0:C4 ((xn:Int)-((mm+2:Nat):Int))=(nq:Int)-1:=by rw [C1 o o];omega
 unfold Bi
 refine ⟨fun l h'=>∃ (k:Nat) (us qs:List Int),l=[I ((k:Int)-1)]/\k<=nq/\us.length=N/\qs.length=nq/\Dig b64 us/\Dig b64 qs/\h'=Ba .u64 195 g bu us bq qs/\val b64 (us.drop k)<Y/\val b64 us0=val b64 (qs.drop k)*Y*b64^k+val b64 us,fun l _=>(iAt l 0+1).toNat,⟨nq,us0,_,by rw [e0],o,hN,by simp,du,I5 dc _,rfl,htop,by simp [val]⟩,?_⟩
 rintro j a8 ⟨k,us,qs,ax,hk,M,af,u,ai,rfl,ao,hv⟩
 obtain rfl:j=(k:Int)-1:=by simpa using ax
 have ad:g.le (Ba .u64 195 g bu us bq qs):=Pd hu hq hne
 have su:SlI .u64 (Ba .u64 195 g bu us bq qs) (some ⟨bu,0,none⟩) us:=Tt hne
 unfold Gs
 refine C0 (fun h1=>?_) (fun h1=>?_)
 ·obtain ⟨j,rfl⟩:∃ j,k=j+1:=⟨k-1,o⟩
  have ej:((j+1:Nat):Int)-1=(j:Int):=o
  rw [ej]
  have e1:C4 ((j:Int)+((mm+2:Nat):Int))=((j+(mm+2):Nat):Int):=by rw [C1 o o];omega
  have e2:C4 (((j+(mm+2):Nat):Int)+1)=((j+(mm+3):Nat):Int):=by rw [C1 o o];omega
  simp only [e1,e2,aC]
  have z:=u.drop j
  have L:(us.drop j).length=N-j:=by rw [bZ,M]
  have y:val b64 ((us.drop j).drop (mm+3))=0:=by
   have:=Dh (B:=b64) dc (n:=mm+2) (u.drop (j+1)) o
   rw [cQ] at this ⊢
   rw [show j+(mm+3)=j+1+(mm+2) from o];exact this
  have aj:=A01 b64 us j
  have au:val b64 (us.drop j)<Y*b64:=by
   have bd:=O6 u j
   rw [aj]
   have t1:b64*(val b64 (us.drop (j+1))+1)<=b64*Y:=aG o dc
   have t2:b64*(val b64 (us.drop (j+1))+1)=b64*val b64 (us.drop (j+1))+18446744073709551616:=by show (18446744073709551616:Int)*_=_;grind
   have t3:Y*b64=b64*Y:=aT _ _
   omega
  have H:=F7 b64 (us.drop j) (i:=mm+3) o
  rw [y,eK,eQ] at H
  have aw:=G9 b64 (us.drop j) (mm+2)
  have hX:val b64 (us.drop j)=val b64 ((us.drop j).take (mm+2))+b64^(mm+2)*(us.drop j).getD (mm+2) 0:=by rw [H];exact aw
  refine ⟨⟨o,o⟩,⟨o,o⟩,?_⟩
  have sw:SlI .u64 (Ba .u64 195 g bu us bq qs) (T9 (some ⟨bu,0,none⟩) N j 1) ((us.drop j).take (mm+3)):=by
   have:=su.cut (c:=N) (l:=j) (m:=j+(mm+3)) o o o
   rwa [show j+(mm+3)-j=mm+3 from o] at this
  generalize hXX:val b64 (us.drop j)=X at *
  refine Yw (m:=mm) (X:=X) (Y:=Y) sw (sv.mono ad) (by rw [aJ,L];omega) hn.symm (z.take _) dv (by rw [aJ,L];omega) hn o hv1 H.symm hY au ?_
  intro q q0 q1 q2 q3
  refine ⟨_,rfl,⟨o,o⟩,⟨o,o⟩,?_⟩
  have w0:=B45 (e:=195) (us:=us) (qs:=qs) hu hne
  have ay:SlI .u64 (blk .u64 195 g bq qs) VA vs:=sv.mono (Cm hq qs)
  have hW:(us.drop j).take (j+(mm+2)-j)=(us.drop j).take (mm+2):=by rw [show j+(mm+2)-j=mm+2 from o]
  have w1:=w0.sub (l:=j) (m:=j+(mm+2)) (c:=N) o o o
  rw [hW] at w1
  have O:((us.drop j).take (mm+2)).length=mm+2:=by rw [aJ,L];omega
  refine Iz w1 (by rw [O];omega) ay hn.symm (z.take _) dv (by rw [O,hn]) ⟨q0,q1⟩ o ?_
  intro W c h2 p D w G w2
  rw [O] at p G
  refine ⟨_,rfl,?_⟩
  have w3:=w0.whole (l:=j) (m:=j+(mm+2)) o o o w2
  have aa:=B26 hne w3
  have f:(us.take j).length=j:=by rw [aJ,M];omega
  have ak:us.drop (j+(mm+2))=(us.drop j).drop (mm+2):=by rw [cQ]
  rw [bY,ak] at aa
  subst aa
  generalize hws:us.drop j=ws at *
  have r:(W++ws.drop (mm+2)).length=ws.length:=by rw [aR,bZ];omega
  have dW:Dig b64 (W++ws.drop (mm+2)):=D.append (z.drop _)
  have V:(W++ws.drop (mm+2)).getD (mm+2) 0=ws.getD (mm+2) 0:=by
   simp only [fA]
   rw [List.getElem?_append_right o,p,Nat.sub_self,List.getElem?_drop,eI]
  have T:=O6 z (mm+2)
  have a0:(us.take j++(W++ws.drop (mm+2))).length=N:=by rw [aR,r,f];omega
  have al:SlI .u64 (Ba .u64 195 g bu (us.take j++(W++ws.drop (mm+2))) bq qs) (some ⟨bu,0,none⟩) (us.take j++(W++ws.drop (mm+2))):=Tt hne
  have a2:j+(mm+2)=(mm+2)+(us.take j).length:=o
  refine al.load a0.symm o o ?_
  rw [aC,a2,Fw,V]
  refine ⟨_,rfl,o,o,?_⟩
  refine A2a (i:=mm+2+(us.take j).length) F8 hne o ?_
  rw [Js]
  have hP:0<b64^(mm+2):=E6 dc _
  have ap:=L9 dc D
  have a7:=D0 dc D
  rw [p] at ap
  rw [hY] at G
  have hD:X-q*Y=val b64 W+(ws.getD (mm+2) 0-c)*b64^(mm+2):=by rw [G,hX];grind
  have R:X-q*Y<Y:=by
   have:(q+1)*Y=q*Y+Y:=gz0
   omega
  have a6: -Y<=X-q*Y:=by
   have:(q-1)*Y=q*Y-Y:=gz0
   omega
  have be:0<=X:=by
   have t1:=D0 dc (z.take (mm+2))
   have t2:=aO (aM hP) T.1
   omega
  have a4:ws.getD (mm+2) 0-c=0\/ws.getD (mm+2) 0-c= -1:=by
   have t2:ws.getD (mm+2) 0-c<1:=by
    by_cases w:ws.getD (mm+2) 0-c<1
    ·exact w
    ·have:=aD (show 1<=ws.getD (mm+2) 0-c from o) (aM hP);omega
   have t3: -2<ws.getD (mm+2) 0-c:=by
    by_cases w: -2<ws.getD (mm+2) 0-c
    ·exact w
    ·have:=aD (show ws.getD (mm+2) 0-c <= -2 from o) (aM hP);omega
   omega
  have A:∀ v,((W++ws.drop (mm+2)).set (mm+2) v).take (mm+2)=W:=by
   intro v
   rw [List.take_set_of_le o,cZ p]
  have ac:∀ v,((W++ws.drop (mm+2)).set (mm+2) v).getD (mm+2) 0=v:=by
   intro v
   rw [fA,List.getElem?_set_self o];rfl
  have ah:∀ v,((W++ws.drop (mm+2)).set (mm+2) v).drop (mm+3)=ws.drop (mm+3):=by
   intro v
   rw [E5 o,show mm+3=(mm+2)+1 from o,<- cQ,fF p,cQ]
  refine ⟨fun l h'=>∃ d t,l=[U t]/\h'=Ba .u64 195 g bu (us.take j++d) bq qs/\d.length=ws.length/\Dig b64 d/\d.drop (mm+3)=ws.drop (mm+3)/\d.getD (mm+2) 0=0/\val b64 (d.take (mm+2))=X-t*Y/\0<=X-t*Y/\X-t*Y<Y/\0<=t/\t<18446744073709551616,C0 (fun h3=>?_) (fun h3=>?_),?_⟩
  ·have F:ws.getD (mm+2) 0-c= -1:=o
   rw [F] at hD ⊢
   have ag:C8 (-1)=18446744073709551615:=by rw [F2];omega
   rw [ag]
   have az:1<=q:=by
    by_cases w:1<=q
    ·exact w
    ·have:q=0:=o
     subst this;omega
   have e5:(q-1)*Y=q*Y-Y:=gz0
   have bk:=C10 (g:=g) (bu:=bu) (bq:=bq) (pre:=us.take j) (qs:=qs) (VA:=VA) (vs:=vs) (n:=mm+2) (N:=N) (ws:=(W++ws.drop (mm+2)).set (mm+2) 18446744073709551615) (q:=q)
    (J:=fun l h'=>∃ d t,l=[U t]/\h'=Ba .u64 195 g bu (us.take j++d) bq qs/\d.length=ws.length/\Dig b64 d/\d.drop (mm+3)=ws.drop (mm+3)/\d.getD (mm+2) 0=0/\val b64 (d.take (mm+2))=X-t*Y/\0<=X-t*Y/\X-t*Y<Y/\0<=t/\t<18446744073709551616)
    hu hq hne sv dv hn.symm (dW.set dc) (by rw [aR,dY,r,f];omega) (by rw [dY,r];omega) o (by rw [A,hY];omega) (by rw [A,hY];omega) (ac _) ?_
   ·rw [f] at bk;exact bk
   ·intro d g1 g2 g3 g4 g5
    rw [A,hY] at g5
    rw [C6 (n:=q-1) o o]
    refine ⟨d,q-1,rfl,rfl,by rw [g1,dY,r],g2,by rw [g3,ah],g4,o,o,o,o,o⟩
  ·have E:ws.getD (mm+2) 0-c=0:=o
   rw [E] at hD ⊢
   have ar:C8 0=0:=by rw [F2];omega
   rw [ar]
   exact ⟨(W++ws.drop (mm+2)).set (mm+2) 0,q,rfl,rfl,by rw [dY,r],dW.set dc,ah _,ac _,by rw [A];omega,o,R,q0,q1⟩
  ·rintro q4 a5 ⟨d,t,an,rfl,g1,g2,g3,g4,g5,g6,g7,g8,g9⟩
   obtain rfl:q4=t:=by simpa using an
   refine ⟨_,rfl,o,o,?_⟩
   refine A2b (i:=j) F8 o ?_
   rw [C1 o o]
   have S:val b64 d=X-q4*Y:=by
    have z1:=F7 b64 d (i:=mm+3) o
    rw [g3,y,G9,g4,g5] at z1
    simp at z1
    omega
   refine ⟨⟨j,us.take j++d,qs.set j q4,rfl,o,by rw [aR,g1,f];omega,by simpa using af,(u.take j).append g2,ai.set ⟨g8,g9⟩,rfl,?_,?_⟩,by simp only [iAt,aF];omega⟩
   ·rw [fF f,S];exact g7
   ·have Q:=F7 b64 us (i:=j) o
    rw [hws,hXX] at Q
    rw [hv,Y6 o,G7,f,S,Q,bC]
    simp only [val]
    grind
 ·have aq:k=0:=o
  subst aq
  simp at ao hv
  have bc:0<b:=by
   by_cases w:0<b
   ·exact w
   ·have:=aD (show b<=0 from o) (aM hp);omega
  have a9:=D0 dc u
  have hR:val b64 us=(a-val b64 qs*b)*2^s:=by
   rw [hua,hYb] at hv
   grind
  have av:0<=a-val b64 qs*b:=by
   by_cases w:0<=a-val b64 qs*b
   ·exact w
   ·have:=aD (show a-val b64 qs*b <= -1 from o) (aM hp);omega
  have am:a-val b64 qs*b<b:=by
   by_cases w:a-val b64 qs*b<b
   ·exact w
   ·have:=aD (show b<=a-val b64 qs*b from o) (aM hp);omega
  have C:a/b=val b64 qs:=by
   have:a=(a-val b64 qs*b)+val b64 qs*b:=o
   rw [this,dU _ _ o,bG av am,cK]
  have ae:a%b=a-val b64 qs*b:=by
   have:=Int.emod_def a b
   rw [this,C,aT]
  rw [C,ae] at hK
  rw [<- af]
  refine S4 B5g ai (aV _) o ?_
  intro m1 ag M1
  refine ⟨_,_,_,rfl,?_⟩
  rw [<- M]
  refine S4 su u (aV _) o ?_
  intro m2 bb M2
  refine ⟨_,_,_,rfl,?_⟩
  rw [C6 o o]
  refine Ge M2 (by have:=M2.len_le dc (j:=mm+2) o;omega) o ?_
  intro A3 m3 c3 h3 l3 k3 M3
  have a1:val b64 us/2^s=a-val b64 qs*b:=by rw [hR,eG _ o]
  rw [a1] at M3
  exact ⟨_,_,_,rfl,hK _ _ _ _ _ _ _ (B0 ad l3) o k3 (M1.mono l3) M3⟩
end
section
variable {h g:bF} {K:VP} {A B:Option bK} {ac bc:Nat}
set_option maxHeartbeats 1000000 in
def Et{x y:Int}{an bn:Nat}(ma:Mw h A an x)(mb:Mw h B bn y)(ha:an<=ac)(hbc:bn<=bc)(hy:y≠0)(hl:an<=1000000000)(hl2:bn<=1000000000)
 (hK:∀ A1 m1 c1 A2 m2 c2 h',h.le h'->m1<=c1->m2<=c2->Mw h' A1 m1 (x/y)->Mw h' A2 m2 (x%y)->K (.tuple #[.slice A1 m1 c1,.slice A2 m2 c2]) h'):aW prog 277 #[.slice A an ac,.slice B bn bc] h K:=by
 have H:=ma.nonneg dc
 have ap:=mb.nonneg dc
 have a4:=mb.len_zero dc
 have u:=ma.lt dc
 have a8:=mb.lt dc
 refine Qm _ _ _ _ _ _ ?_
 unfold Nl
 refine J1 ma mb o ⟨_,rfl,C0 (fun C=>?_) (fun C=>D5 (fun h2=>?_) (fun h2=>?_))⟩
 ·have L:x<y:=by
   unfold Ki at C
   by_cases c:x<y
   ·exact c
   ·rw [iN c] at C
    by_cases M:x>y
    ·rw [iP M] at C;omega
    ·rw [iN M] at C;omega
  rw [bG H L,eO H L] at hK
  exact hK none 0 0 _ _ _ _ (B7 h) (aV _) ha Mag.zero ma
 ·obtain ⟨a,rfl,sy,dy,ny,rfl⟩:=mb
  have Q:a.length=1:=o
  obtain ⟨d,rfl⟩:∃ d,a=[d]:=by
   cases a with
   | nil=>simp at Q
   | cons d r=>
    cases r with
    | nil=>exact ⟨d,rfl⟩
    | cons _ _=>simp at Q
  rw [Z1] at hy ap hK
  have hd:=dy d (by simp)
  obtain ⟨w,rfl⟩:∃ w:Nat,d=w:=⟨d.toNat,o⟩
  refine sy.load rfl o (by simp) ?_
  show aW _ _ #[_,U (w:Int)] _ _
  have hw:w<18446744073709551616:=by have:=hd.2;have:(w:Int)<18446744073709551616:=this;omega
  refine Th ma ⟨o,hw⟩ hl ?_
  intro A' m c' h' aj hm a5 hM
  refine ⟨_,_,_,_,rfl,?_⟩
  refine Bo ⟨aP _ o,by have:=aK x (show (0:Int)<w from o);omega⟩ ?_
  intro A2 m2 c2 h3 F k3 M3
  exact ⟨_,_,_,rfl,hK _ _ _ _ _ _ _ (B0 aj F) hm k3 (hM.mono F) M3⟩
 ·have aq:y<=x:=by
   unfold Ki at C
   by_cases c:x<y
   ·rw [iP c] at C;omega
   ·omega
  have a7:bn<=an:=mb.len_le dc (cC aq u)
  have ax:=mb
  have ak:=ma
  obtain ⟨a,rfl,sy,dy,ny,rfl⟩:=mb
  obtain ⟨mm,hmm⟩:∃ mm,a.length=mm+2:=⟨a.length-2,o⟩
  have gt:=O6 dy (mm+1)
  have ao:=A07 (m:=mm+1) hmm ny
  obtain ⟨G,p⟩:=Bu (B:=b64) dc dy (m:=mm+1) hmm
  have e1:C4 ((a.length:Int)-1)=((mm+1:Nat):Int):=by rw [C1 o o];omega
  rw [e1]
  refine sy.load rfl o o ?_
  rw [aC]
  obtain ⟨t,ht⟩:∃ t:Nat,a.getD (mm+1) 0=t:=⟨(a.getD (mm+1) 0).toNat,o⟩
  rw [ht] at gt ao G p ⊢
  have l:t≠0:=o
  refine T4 o ⟨_,rfl,?_⟩
  obtain ⟨ay,a0⟩:=Ey l
  have a1:S0 t<=64:=Hv (k:=64) o
  have az:1<=S0 t:=by unfold S0;rw [iN l];omega
  obtain ⟨s,hs⟩:∃ s,s=64-S0 t:=⟨_,rfl⟩
  rw [<- hs]
  have W:s<64:=o
  have b:0<(2:Int)^s:=bI dc
  have am:=Al (s:=s) o
  have z:S0 t=64-s:=o
  have au:(t:Int)+1<=2^(64-s):=by
   rw [<- z]
   have:((t+1:Nat):Int)<=((2^S0 t:Nat):Int):=o
   simpa using this
  have al:(2:Int)^(63-s)<=t:=by
   have:((2^(S0 t-1):Nat):Int)<=((t:Nat):Int):=o
   rw [show S0 t-1=63-s from o] at this
   simpa using this
  have E:(2:Int)^s*2^(63-s)=9223372036854775808:=by
   rw [<- aU,show s+(63-s)=63 from o];decide
  have ai:C8 (s:Int)=(s:Int):=C6 o o
  rw [ai]
  have f:=E6 (B:=b64) dc (mm+1)
  have ah:val b64 a*2^s<b64^(mm+2):=by
   have t2:val b64 a*2^s<((t:Int)+1)*b64^(mm+1)*2^s:=bD G b
   have t3:((t:Int)+1)*b64^(mm+1)*2^s=((t:Int)+1)*2^s*b64^(mm+1):=gz0
   have t4:((t:Int)+1)*2^s*b64^(mm+1)<=18446744073709551616*b64^(mm+1):=by
    apply aD _ (aM f)
    rw [<- am,aT (2^s)]
    exact aD au (aM b)
   have t5:b64^(mm+2)=18446744073709551616*b64^(mm+1):=by rw [bC b64 (mm+1),aT]
   omega
  have a6:9223372036854775808*b64^(mm+1)<=val b64 a*2^s:=by
   have t1:(t:Int)*b64^(mm+1)*2^s<=val b64 a*2^s:=aD p (aM b)
   have t2:9223372036854775808*b64^(mm+1)<=(t:Int)*2^s*b64^(mm+1):=by
    apply aD _ (aM f)
    rw [<- E,aT (t:Int)]
    exact aG al o
   have t3:(t:Int)*2^s*b64^(mm+1)=(t:Int)*b64^(mm+1)*2^s:=gz0
   omega
  refine W4 ax hbc hl2 o ?_
  intro A1 n1 c1 g1 l1 k1 M1
  refine ⟨_,_,_,rfl,?_⟩
  have aa:n1=mm+2:=by
   have q1:=M1.len_le dc ah
   have q2:=M1.lt dc
   by_cases c:n1=mm+2
   ·exact c
   ·have:=D8 (B:=b64) dc (show n1<=mm+1 from o)
    omega
  subst aa
  obtain ⟨vs,T,sv,dv,nv,X⟩:=M1
  have af:b64<=2*vs.getD (mm+1) 0:=by
   obtain ⟨q1,q2⟩:=Bu (B:=b64) dc dv (m:=mm+1) T.symm
   rw [X] at q1
   have:9223372036854775808<vs.getD (mm+1) 0+1:=by
    by_cases c:9223372036854775808<vs.getD (mm+1) 0+1
    ·exact c
    ·have:=aD (show vs.getD (mm+1) 0+1<=9223372036854775808 from o) (aM f);omega
   show (18446744073709551616:Int)<=_
   omega
  have eN:C4 ((an:Int)+1)=((an+1:Nat):Int):=by rw [C1 o o];omega
  rw [eN]
  refine J9 R8 o o o ?_
  intro bu ar
  rw [aC]
  refine ⟨_,_,_,rfl,?_⟩
  have w0:=Win.blk .u64 195 ar (aE (an+1) 0)
  refine w0.call ?_
  refine W4 (ak.mono l1) ha hl o ?_
  intro A3 n3 c3 g3 F k3 M3 h4 w4
  refine ⟨_,_,_,rfl,?_⟩
  have av:x*2^s<b64^(an+1):=by
   have t1:x*2^s<b64^an*2^s:=bD u b
   have t2:b64^an*2^s<=b64^an*18446744073709551616:=by
    apply aG _ (aM (E6 dc an))
    have:=D8 (B:=2) dc (show s<=64 from o)
    have e:(2:Int)^64=18446744073709551616:=dc
    omega
   rw [bC];show _<b64^an*(18446744073709551616:Int);omega
  have a3:=M3.len_le dc av
  obtain ⟨us,aw,ag,ad,a2,R⟩:=M3
  refine Dr R8 w4 (by simp) (ag.mono w4.le) aw (by simp;omega) ?_
  intro h5 w5
  refine ⟨_,rfl,?_⟩
  rw [bH] at w5
  generalize hu0:us++aE (an+1-us.length) (0:Int)=us0 at w5
  have V:us0.length=an+1:=by rw [<- hu0];simp;omega
  have q:Dig b64 us0:=by rw [<- hu0];exact ad.append (I5 dc _)
  have j:val b64 us0=x*2^s:=by rw [<- hu0,Cr];exact R
  obtain ⟨nq,hnq⟩:∃ nq,an+1=nq+(mm+2):=⟨an+1-(mm+2),o⟩
  have eq:C4 (C4 ((an:Int)-(a.length:Int))+1)=(nq:Int):=by
   rw [C1 (n:=(an:Int)-(a.length:Int)) o o,C1 o o];omega
  rw [eq]
  refine J9 R8 o o o ?_
  intro bq g
  rw [aC]
  refine ⟨_,_,_,rfl,?_⟩
  have ae:h5=blk .u64 195 g3 bu us0:=by rw [w5.eq];simp [blk]
  subst ae
  have S:g3 bu=none:=w5.free
  have D:bu≠bq:=by
   rintro rfl
   unfold blk at g
   rw [C3] at g;cases g
  have O:g3 bq=none:=by
   have:=g
   unfold blk at this
   rwa [B9 _ _ D.symm] at this
  rw [hmm]
  refine A39 (us0:=us0) (N:=an+1) (xn:=an) S O D (sv.mono F) dv T.symm af W X rfl q V j rfl hnq o o ?_ ?_
  ·have s1:=F7 b64 us0 (i:=nq) o
   have s2:=D0 dc (q.take nq)
   have s3:val b64 us0<b64^an*2^s:=by
    rw [j];exact bD u b
   have s4:b64^(mm+1)<=val b64 a:=by
    have:=aD (show 1<=(t:Int) from o) (aM f);omega
   have s5:b64^nq*(b64^(mm+1)*2^s)<=b64^nq*(val b64 a*2^s):=aG (aD s4 (aM b)) (aM (E6 dc nq))
   have s6:b64^nq*(b64^(mm+1)*2^s)=b64^an*2^s:=by
    rw [<- cV,<- aU,show nq+(mm+1)=an from o]
   by_cases c:val b64 (us0.drop nq)<val b64 a*2^s
   ·exact c
   ·have:=aG (show val b64 a*2^s<=val b64 (us0.drop nq) from o) (aM (E6 (B:=b64) dc nq));omega
  ·intro A5 m5 c5 A6 m6 c6 h6 l6 k5 k6 M5 M6
   exact hK _ _ _ _ _ _ _ (B0 l1 (B0 F l6)) k5 k6 M5 M6
end
def A4d{x a b p:Int}(h:a+p*b=x)(h0:0<=a)(h1:a<p):x/p=b/\x%p=a:=(Int.ediv_emod_unique o).2 ⟨h,h0,h1⟩
def Ji{P:dP}{h:bF}{A:Option bK}{n m c s:Nat}{cs:List eD}(hl:cs.length=n*s)(hc:cs=[]\/∃ a,A=some a/\∀ j v,cs[j]? = some v->h.cell? (a.add j)=some v){K:Array eD->bF->Prop}(x:K cs.toArray h):
 wpH P (Builtin.firstCells s n (.slice A m c)) K h:=by
 cases A with
 | none=>
  rcases hc with rfl|⟨a,e,_⟩
  ·exact x
  ·cases e
 | some a=>
  show wpH P (loadCells a (n*s)) K h
  rcases hc with rfl|⟨b,e,hc⟩
  ·exact W5 (cs:=[]) hl.symm (fun j v e=>by simp at e) x
  ·cases e
   exact W5 hl.symm hc x
def B41{P:dP}{t e ty:cD}{k:cT}{bytes:Nat}(s:SliceT P t e (.int k 0) 1 bytes){h g:bF}{b:Nat}{A:Option bK}{pre post:List eD}{xs:List Int}{n c m d:Nat}(w:Win k h g b e A pre xs post)(hn:n=xs.length){B:Option bK}{ys:List Int}(sy:SlI k h B ys)(hm:min m xs.length=ys.length){K:VP}
 (x:∀ h',Win k h' g b e A pre (ys++xs.drop ys.length) post->K (I ys.length) h'):wpH P (dO #[t,t] ty #[.slice A n c,.slice B m d]) K h:=by
 subst hn
 obtain ⟨i,r,y,l,p⟩:=s.parts
 unfold dO
 simp only [List.getElem?_toArray,aF,aH,C9,F0 s.und,J3 r,H2,Builtin.lenOf,l]
 have f:Nat.min m xs.length=ys.length:=hm
 rw [f]
 refine Ji (s:=1) (cs:=ys.map (bL k)) (by simp) sy ?_
 cases A with
 | none=>
  rcases w.at_ with j|j
  ·have:ys=[]:=aZ gz0
   subst this
   exact x h (by assumption)
  ·cases j
 | some a=>
  simp only [C9]
  rcases w.at_ with j|j
  ·have:ys=[]:=aZ gz0
   subst this
   exact x h (by assumption)
  ·cases j
   rw [w.eq]
   refine G8 (ys.map (bL k)) pre.length 0 (pre++xs.map (bL k)++post) gz0 (fun v q=>?_) ?_
   ·obtain ⟨u,_,rfl⟩:=List.mem_map.1 q;rfl
   ·refine x _ ⟨w.free,?_,?_⟩
    ·congr 3
     unfold H9
     rw [eI,bY pre,cZ rfl,fE]
     rw [fB,aS (show pre.length<=pre.length+ys.length from o),fP,cF]
     rw [cX gz0,<- List.map_drop,fD]
     grind
    grind
section
variable {h g:bF} {K:VP} {A B:Option bK} {ac bc:Nat}
def B52(a n:Nat):(if (a:Int)<(n:Int) then (a:Int) else (n:Int))=((min n a:Nat):Int):=o
def Ks{xs:List Int}(d:Dig b64 xs)(n:Nat):val b64 xs/b64^n=val b64 (xs.drop (min n xs.length))/\val b64 xs%b64^n=val b64 (xs.take (min n xs.length)):=by
 by_cases c:n<=xs.length
 ·rw [aI c]
  have e:=F7 b64 xs c
  have a:=D0 dc (d.take n)
  have b:=L9 dc (d.take n)
  rw [aJ,aI c] at b
  exact A4d e.symm a b
 ·rw [eZ o,List.drop_length,bN]
  have a:=D0 dc d
  have b:=L9 dc d
  have f:=D8 (B:=b64) dc (show xs.length<=n from o)
  exact A4d (by simp [val]) a o
def Aj{x:Int}{an n:Nat}(ma:Mw h A an x)(ha:an<=ac)(hK:∀ A' m c',m<=c'->m<=an->Mw h A' m (x/b64^n)->K (.slice A' m c') h):aW prog 300 #[.slice A an ac,I n] h K:=by
 obtain ⟨a,rfl,d,b,e,rfl⟩:=ma
 refine (fnk func300) ?_
 rw [B52,aC]
 refine ⟨⟨o,o⟩,hK _ _ _ o o ?_⟩
 rw [(Ks b n).1,<- bZ]
 refine Mw.of (Zc d o ha) (b.drop _) ?_
 by_cases c:min n a.length<a.length
 ·exact Lu e c
 ·rw [aS o];exact Norm.nil
def Fv{x:Int}{an n:Nat}(ma:Mw h A an x)(ha:an<=ac)(hl:an<=10000000000)(hK:∀ A' m c',m<=c'->m<=n->m<=an->Mw h A' m (x%b64^n)->K (.slice A' m c') h):aW prog 299 #[.slice A an ac,I n] h K:=by
 obtain ⟨b,rfl,c,a,d,rfl⟩:=ma
 refine (fnk func299) ?_
 rw [B52,aC,H1,bO,bO]
 refine ⟨⟨o,o⟩,Bl (Iv c (m:=min n b.length) o ha) (a.take _) gz0 (Ks a n).2.symm o o ?_⟩
 grind
def Ho{x y:Int}{an bn n:Nat}(ma:Mw h A an x)(mb:Mw h B bn y)(hbn:bn<=n)(hl:n+an<=5000000000)(hK:∀ A' m c' h',h.le h'->m<=c'->Mw h' A' m (x*b64^n+y)->K (.slice A' m c') h'):aW prog 302 #[.slice A an ac,.slice B bn bc,I n] h K:=by
 obtain ⟨a,rfl,r,z,F,rfl⟩:=ma
 obtain ⟨f,rfl,p,t,D,rfl⟩:=mb
 refine (fnk func302) ?_
 have u:C4 ((n:Int)+a.length)=((n+a.length:Nat):Int):=by rw [C1 o o];omega
 rw [u]
 refine J9 R8 o o o ?_
 intro b k
 rw [aC]
 refine ⟨_,_,_,rfl,?_⟩
 have j:=Win.blk .u64 195 k (aE (n+a.length) 0)
 refine Dr R8 j gz0 (p.mono j.le) rfl gz0 ?_
 intro E d
 refine ⟨_,rfl,⟨o,o⟩,?_⟩
 rw [bH] at d
 generalize hz:f++aE (n+a.length-f.length) (0:Int)=zs at d
 have q:zs.length=n+a.length:=gz0
 have w:=d.sub (l:=n) (m:=n+a.length) (c:=n+a.length) o o o
 refine Dr R8 w gz0 (r.mono d.le) rfl gz0 ?_
 intro C i
 rw [aS gz0,bX] at i
 have e:=d.whole (l:=n) (m:=n+a.length) o o o i
 rw [aS (show zs.length<=n+a.length from o),bX] at e
 have g:zs.take n=f++aE (n-f.length) 0:=by
  rw [<- hz,List.take_append,aN o,cM]
  grind
 rw [g] at e
 refine ⟨_,rfl,Bl e.sl ((t.append (I5 dc _)).append z) gz0 rfl o o ?_⟩
 intro m s M
 refine ⟨_,_,_,rfl,hK _ _ _ _ e.le s ?_⟩
 rw [G7,Cr] at M
 grind
def B1i{x y:Int}(hx:0<=x/\x<18446744073709551616)(hy:0<=y/\y<18446744073709551616)(hK:K (.tuple #[U (x*y/18446744073709551616),U (x*y%18446744073709551616)]) h):aW prog 165 #[U x,U y] h K:=by
 refine (fnk func165) ?_
 exact Ly hx hy ⟨_,_,rfl,hK⟩
def A3h{v:Int}{n:Nat}(s:SlI .u64 h A [v])(hn:0<n)(hl:n<=1000000000)(hK:∀ A' h',h.le h'->SlI .u64 h' A' (aE n v)->K (.slice A' n n) h'):aW prog 314 #[.slice A 1 ac,I n] h K:=by
 refine (fnk func314 [(8,[8],[],[I 0])]) ?_
 refine C0 (fun d=>o) (fun _=>?_)
 rw [C6 (n:=((1:Nat):Int)) o o,C6 (n:=(n:Int)) o o]
 refine B1i o o ⟨_,_,rfl,?_⟩
 have z:((1:Nat):Int)*(n:Int)/18446744073709551616=0:=o
 have y:((1:Nat):Int)*(n:Int)%18446744073709551616=n:=o
 rw [z,y]
 refine C0 (fun d=>o) (fun _=>?_)
 refine C0 (fun d=>o) (fun _=>?_)
 rw [C1 (n:=(n:Int)) o o]
 refine J9 R8 o o o ?_
 intro b q
 refine ⟨_,_,_,rfl,?_⟩
 have j:=Win.blk .u64 195 q (aE n 0)
 refine Dr R8 j (by simp) (s.mono j.le) rfl gz0 ?_
 intro d f
 refine ⟨_,rfl,?_⟩
 rw [bH] at f
 refine ⟨fun l e=>∃ k:Nat,l=[I k]/\0<k/\k<=n/\Win .u64 e h b 195 (some ⟨b,0,none⟩) [] (aE k v++aE (n-k) 0) [],fun l _=>n-(iAt l 0).toNat,⟨1,rfl,o,hn,f⟩,?_⟩
 rintro i e ⟨k,C,t,a,w⟩
 obtain rfl:i=(k:Int):=gz0
 refine C0 (fun p=>?_) (fun p=>?_)
 ·have u:(aE k v++aE (n-k) (0:Int)).length=n:=gz0
  refine ⟨⟨o,o⟩,⟨o,o⟩,?_⟩
  simp only [aC,H1,bO]
  have D:=w.sub (l:=k) (m:=n) (c:=n) o o o
  have r:SlI .u64 e (some ⟨b,0,none⟩) (aE (min k (n-k)) v):=by
   have:=Iv w.sl (c:=n) (m:=min k (n-k)) o o
   grind
  refine B41 R8 D (by simp) r (by simp) ?_
  intro G g
  rw [bW] at g ⊢
  have E:=w.whole (l:=k) (m:=n) o o (by simp;omega) g
  have B:C4 ((k:Int)+(min k (n-k):Nat))=((k+min k (n-k):Nat):Int):=by rw [C1 o o];omega
  refine ⟨_,rfl,?_⟩
  rw [B]
  refine ⟨⟨_,rfl,o,o,?_⟩,?_⟩
  ·have F:(aE k v++aE (n-k) (0:Int)).take k++(aE (min k (n-k)) v++(aE (n-k) (0:Int)).drop (min k (n-k)))++(aE k v++aE (n-k) (0:Int)).drop n=aE (k+min k (n-k)) v++aE (n-(k+min k (n-k))) 0:=by
    rw [cZ (by simp),aS (show (aE k v++aE (n-k) (0:Int)).length<=n from o),bX,bH,<- bY,cR]
    grind
   grind
  ·simp only [iAt,aF];omega
 ·have a:k=n:=o
  subst a
  have:=w.sl
  rw [Nat.sub_self,List.replicate_zero,bX] at this
  exact hK _ _ w.le this
end
def Mw.high{h:bF}{A:Option bK}{an ac k:Nat}{x:Int}(ma:Mw h A an x)(ha:an<=ac)(hk:k<=an):Mw h (T9 A ac k 1) (an-k) (x/b64^k):=by
 obtain ⟨c,rfl,d,b,f,rfl⟩:=ma
 have e:=(Ks b k).1
 rw [aI hk] at e
 rw [e,<- bZ]
 refine Mw.of (Zc d hk ha) (b.drop _) ?_
 by_cases a:k<c.length
 ·exact Lu f a
 ·rw [aS o];exact Norm.nil
def B2c{x P X2 yh top:Int}(hP:0<P)(h1:x<P*P*(X2+1))(h2:P*top<=x)(hlt:X2<yh):top<P*yh:=by
 by_cases a:top<P*yh
 ·exact a
 ·have t1:P*(P*yh)<=P*top:=aG o o
  have b:P*P*(X2+1)<=P*P*yh:=aG o (aO o o)
  grind
def B2d{x P X2 yh top:Int}(hP:0<P)(h1:P*P*X2<=x)(h2:x<P*(top+1))(hge:yh<=X2):P*yh<=top:=by
 by_cases a:P*yh<=top
 ·exact a
 ·have t1:P*(top+1)<=P*(P*yh):=aG o o
  have b:P*P*yh<=P*P*X2:=aG o (aO o o)
  grind
def B5h(N:Nat):Prop:=∀ {h:bF} {K:VP} {A B:Option bK} {ac bc an bn:Nat} {x y:Int},bn<=N->Mw h A an x->Mw h B bn y->an<=ac->bn<=bc->an<=1000000000->bn<=200000000->0<bn->9223372036854775808*b64^(bn-1)<=y->x<b64^bn*y->
 (∀ A1 m1 c1 A2 m2 c2 h',h.le h'->m1<=c1->m2<=c2->Mw h' A1 m1 (x/y)->Mw h' A2 m2 (x%y)->K (.tuple #[.slice A1 m1 c1,.slice A2 m2 c2]) h')->aW prog 301 #[.slice A an ac,.slice B bn bc] h K
section
variable {h g:bF} {K:VP} {A B:Option bK} {ac bc:Nat}
def Dc{x y:Int}:Ki x y<0↔x<y:=by
 unfold Ki
 omega
set_option maxHeartbeats 1000000 in
def A32{x y q0 R0 pr:Int}{m bn nq cq np cp nr cr:Nat}{Aq Ap Ar:Option bK}(hx0:0<=x)(mb:Mw h B bn y)(hb:bn<=bc)(hl2:bn<=200000000)(hbm:bn=2*m)(mq:Mw h Aq nq q0)(hq:nq<=cq)(mp:Mw h Ap np pr)(hp2:pr<b64^bn)
 (mr:Mw h Ar nr R0) (hr:nr<=cr) (hq0:q0<b64^m) (hR:R0-pr=x-q0*y) (hy:x-q0*y<y)
 (hK:∀ A1 m1 c1 A2 m2 c2 h',h.le h'->m1<=c1->m2<=c2->Mw h' A1 m1 (x/y)->Mw h' A2 m2 (x%y)->K (.tuple #[.slice A1 m1 c1,.slice A2 m2 c2]) h'):
 Bh prog B bn bc K Aq nq cq Ap np cp Ar nr cr h:=by
 have H:=mb.lt dc
 have M:=mb.nonneg dc
 have F:=mp.nonneg dc
 unfold Bh
 refine ⟨fun l c=>∃ (Aq Ar:Option bK) (nq cq nr cr:Nat) (q R:Int),l=[.slice Aq nq cq,.slice Ar nr cr]/\h.le c/\Mw c Aq nq q/\nq<=cq/\Mw c Ar nr R/\nr<=cr/\q<b64^m/\R-pr=x-q*y/\x-q*y<y,fun l c=>match l with|[.slice A n _,_]=>B0e b64 c A n|_=>0,⟨_,_,_,_,_,_,_,_,rfl,B7 h,mq,hq,mr,hr,hq0,hR,hy⟩,?_⟩
 rintro A1 L c1 A2 N c2 c ⟨Aq,Ar,nq,cq,nr,cr,q,R,t,e,mq,hq,mr,hr,hq0,hR,hy⟩
 simp only [cG,cP,and_true] at t
 obtain ⟨⟨rfl,rfl,rfl⟩,rfl,rfl,rfl⟩:=t
 have C:N<=bn+1:=mr.len_le dc (by
  rw [bC]
  show R<b64^bn*18446744073709551616
  omega)
 have G:L<=m:=mq.len_le dc hq0
 refine J1 mr (mp.mono e) o ⟨_,rfl,?_⟩
 refine C0 (fun g=>?_) (fun g=>?_)
 ·rw [Dc] at g
  have w:=mq.nonneg dc
  have r:1<=q:=by
   by_cases O:1<=q
   ·exact O
   ·obtain rfl:q=0:=o
    omega
  refine T6 mr (mb.mono e) hr hb o o ?_
  intro A3 z c3 j d f M3
  refine ⟨_,_,_,rfl,Q7 R8 rfl ?_⟩
  intro b k
  refine ⟨_,_,_,rfl,?_⟩
  have i:=Heap.le_put (.cells #[U 1] 195) k
  have M1:Mw (j.put b (.cells #[U 1] 195)) (some ⟨b,0,none⟩) 1 1:=⟨[1],rfl,SlI.new j b [1] 195 _,Dig.one dc,by simp [fQ],Z1 _ _⟩
  refine H8 ((mq.mono d).mono i) M1 hq o r ?_
  intro A5 Q c5 S s E M5
  refine ⟨_,_,_,rfl,⟨_,_,_,_,_,_,_,_,rfl,B0 e (B0 d (B0 i s)),M5,E,(M3.mono i).mono s,f,o,?_,?_⟩,?_⟩
  ·rw [Int.sub_mul];omega
  ·rw [Int.sub_mul];omega
  ·simp only [Be M5,Be mq];omega
 ·rw [Dc] at g
  refine H8 mr (mp.mono e) hr o o ?_
  intro A3 z c3 j d f M3
  obtain ⟨D,u⟩:=A4d (x:=x) (a:=R-pr) (b:=q) (p:=y) (by rw [hR,aT y];omega) o o
  refine ⟨_,_,_,rfl,hK _ _ _ _ _ _ _ (B0 e d) hq f ?_ ?_⟩
  ·rw [D];exact mq.mono d
  ·rw [u];exact M3
set_option maxHeartbeats 1000000 in
def Ri{N:Nat}(ih:B5h N){x y:Int}{an bn m:Nat}(hm:0<m)(hN:m<=N)(hbm:bn=2*m)(ma:Mw h A an x)(mb:Mw h B bn y)(ha:an<=ac)(hb:bn<=bc)(hl:an<=1000000000)(hl2:bn<=200000000)(htop:9223372036854775808*b64^(bn-1)<=y)(hxy:x<b64^m*y)
 (hK:∀ A1 m1 c1 A2 m2 c2 h',h.le h'->m1<=c1->m2<=c2->Mw h' A1 m1 (x/y)->Mw h' A2 m2 (x%y)->K (.tuple #[.slice A1 m1 c1,.slice A2 m2 c2]) h'):aW prog 312 #[.slice A an ac,.slice B bn bc] h K:=by
 have af:=ma.nonneg dc
 have a3:=mb.nonneg dc
 have a2:=mb.lt dc
 have n:=E6 (B:=b64) dc m
 have ak:b64^bn=b64^m*b64^m:=by rw [<- aU];congr 1;omega
 have p:b64^(2*m)=b64^m*b64^m:=by rw [<- aU];congr 1;omega
 have ao:b64^(bn-1)=b64^m*b64^(m-1):=by rw [<- aU];congr 1;omega
 have a:=mb.high (k:=m) hb o
 rw [show bn-m=m from o] at a
 have d:=a.nonneg dc
 have au:=a.lt dc
 have dy:b64^m*(y/b64^m)+y%b64^m=y:=aL _ _
 have T:=aP y (b:=b64^m) o
 have az:=aK y n
 have dx:b64^m*(x/b64^m)+x%b64^m=x:=aL _ _
 have a1:=aP x (b:=b64^m) o
 have a9:=aK x n
 have ax:=E6 (B:=b64) dc (m-1)
 have ae:9223372036854775808*b64^(m-1)<=y/b64^m:=by
  by_cases hc:9223372036854775808*b64^(m-1)<=y/b64^m
  ·exact hc
  ·have t1:b64^m*(y/b64^m+1)<=b64^m*(9223372036854775808*b64^(m-1)):=aG o o
   have M:b64^m*(9223372036854775808*b64^(m-1))=9223372036854775808*(b64^m*b64^(m-1)):=gz0
   rw [ao] at htop
   rw [cY] at t1
   omega
 obtain ⟨ys,al,sy,e,V,rfl⟩:=mb
 have mb:Mw h B bn (val b64 ys):=⟨ys,al,sy,e,V,rfl⟩
 generalize hyv:val b64 ys=y at *
 refine Ql _ _ _ _ _ _ ?_
 unfold Nk
 have eh:C4 (cI ((bn:Nat):Int) 2)=(m:Int):=by rw [aX o,C1 o o];omega
 have X:C4 (2*(m:Int))=((2*m:Nat):Int):=by rw [C1 o o];omega
 simp only [eh,X,aC,bO,H1]
 rw [show bn-m=m from o]
 refine ⟨⟨o,o⟩,⟨o,o⟩,Bl (Iv sy (m:=m) (c:=bc) o o) (e.take m) (by rw [aJ];omega) rfl o o ?_⟩
 intro yn a6 Myl
 have s:=(Ks e m).2
 rw [aI o,hyv] at s
 rw [<- s] at Myl
 refine ⟨_,_,_,rfl,B7 h,Aj ma ha ?_⟩
 intro A1 n1 c1 k1 a5 M1
 refine ⟨_,_,_,rfl,?_⟩
 have D:=M1.nonneg dc
 refine ⟨fun l R=>∃ (Aq Ar:Option bK) (Q cq S cr:Nat) (q r:Int),l=[.slice Aq Q cq,.slice Ar S cr]/\h.le R/\Mw R Aq Q q/\Q<=cq/\Mw R Ar S r/\S<=cr/\q<b64^m/\x/b64^m=q*(y/b64^m)+r/\x-q*y<y,?_,?_⟩
 ·refine Aj ma ha ?_
  intro A2 n2 c2 k2 a4 M2
  refine ⟨_,_,_,rfl,J1 M2 a o ⟨_,rfl,?_⟩⟩
  have aq:b64^(2*m)*(x/b64^(2*m))+x%b64^(2*m)=x:=aL _ _
  have ad:=aP x (b:=b64^(2*m)) (by have:=E6 (B:=b64) dc (2*m);omega)
  have aa:=aK x (E6 (B:=b64) dc (2*m))
  generalize x/b64^(2*m)=X2 at *
  rw [p] at aq ad aa
  refine C0 (fun O=>?_) (fun O=>?_)
  ·rw [Dc] at O
   have W:=B2c (x:=x) (top:=x/b64^m) n (by rw [cY];omega) o O
   refine ih hN M1 a k1 o o o hm ae W ?_
   intro A3 n3 c3 A4 n4 c4 h3 i k3 k4 M3 M4
   have G:0<y/b64^m:=o
   have d1:=aL (x/b64^m) (y/b64^m)
   have d2:=aK (x/b64^m) G
   have d0:=M3.nonneg dc
   refine ⟨_,_,_,_,_,_,rfl,_,_,_,_,_,_,_,_,rfl,i,M3,k3,M4,k4,aY G W,by rw [aT];omega,?_⟩
   generalize (x/b64^m)/(y/b64^m)=q at *
   generalize (x/b64^m)%(y/b64^m)=r at *
   generalize x/b64^m=top at *
   generalize y/b64^m=yh at *
   generalize y%b64^m=yl at *
   generalize x%b64^m=xl at *
   generalize b64^m=P at *
   have t1:P*(r+1)<=P*yh:=aG o o
   have M:x-q*y=P*r+xl-q*yl:=by rw [<- dx,<- dy,<- d1];grind
   have t3:=aO d0 T
   rw [cY] at t1
   omega
  ·rw [Dc] at O
   have W:=B2d (x:=x) (top:=x/b64^m) (yh:=y/b64^m) (X2:=X2) n o (by rw [cY];omega) o
   refine Q7 R8 rfl ?_
   intro b ai
   refine ⟨_,_,_,rfl,?_⟩
   have l4:=Heap.le_put (.cells #[U 18446744073709551615] 195) ai
   refine A3h (v:=18446744073709551615) (SlI.new h b [18446744073709551615] 195 _) hm o ?_
   intro A5 h5 u s5
   refine ⟨_,_,_,rfl,?_⟩
   have H:=B0 l4 u
   refine Ho (a.mono H) (Mag.zero (k:=.u64) (B:=b64)) o o ?_
   intro A6 n6 c6 h6 l6 k6 M6
   refine ⟨_,_,_,rfl,?_⟩
   have g:=B0 H l6
   refine H8 (M1.mono g) M6 k1 o (by rw [aT];omega) ?_
   intro A7 n7 c7 h7 t k7 M7
   have a7:n7<=an:=M7.len_le dc (by
    have:=ma.lt dc
    have t1:=aO d (aM n)
    have M:1*(x/b64^m)<=b64^m*(x/b64^m):=aD o D
    omega)
   refine ⟨_,_,_,rfl,?_⟩
   refine T6 M7 ((a.mono g).mono t) k7 o o o ?_
   intro A8 n8 c8 h8 l8 k8 M8
   have C:∀ j:Nat,val b64 (aE j 18446744073709551615)=b64^j-1:=by
    intro j
    induction j with
    | zero=>rfl
    | succ j ihj=>
     rw [List.replicate_succ,val,ihj,bC]
     show (18446744073709551615:Int)+18446744073709551616*(b64^j-1)=b64^j*18446744073709551616-1
     omega
   have M5:Mw h5 A5 m (b64^m-1):=by
    refine ⟨aE m 18446744073709551615,by simp,s5,?_,?_,C m⟩
    ·intro z hz
     have:=List.eq_of_mem_replicate hz
     subst this;decide
    ·obtain ⟨j,rfl⟩:∃ j,m=j+1:=⟨m-1,o⟩
     unfold fQ
     rw [List.replicate_succ']
     simp
   refine ⟨_,_,_,rfl,_,_,_,_,_,_,_,_,rfl,B0 g (B0 t l8),((M5.mono l6).mono t).mono l8,aV _,M8,k8,o,?_,?_⟩
   ·grind
   ·have:(b64^m-1)*y=b64^m*y-y:=gz0
    omega
 ·rintro Aq' ah ay Ar' aj av R ⟨Aq,Ar,Q,cq,S,cr,q,r,E,lh,L,hq,mr,hr,f,ag,am⟩
  simp only [cG,cP,and_true] at E
  obtain ⟨⟨rfl,rfl,rfl⟩,rfl,rfl,rfl⟩:=E
  have w:=L.nonneg dc
  have a0:=mr.nonneg dc
  have a8:ah<=m:=L.len_le dc f
  have aw:aj<=an:=mr.len_le dc (by
   have:=ma.lt dc
   have t1:=aO w d
   have M:1*(x/b64^m)<=b64^m*(x/b64^m):=aD o D
   omega)
  refine I0 L (Myl.mono lh) hq o o o ?_
  intro A3 n3 c3 h3 i k3 M3
  refine ⟨_,_,_,rfl,Fv (ma.mono (B0 lh i)) ha o ?_⟩
  intro A4 n4 c4 k4 ap ar M4
  refine ⟨_,_,_,rfl,Ho (mr.mono i) M4 ap o ?_⟩
  intro A5 n5 c5 h5 u k5 M5
  have F:=B0 lh (B0 i u)
  refine ⟨_,_,_,rfl,A32 (q0:=q) (m:=m) af (mb.mono F) hb hl2 hbm ((L.mono i).mono u) hq (M3.mono u) ?_ M5 k5 f ?_ am ?_⟩
  ·rw [ak]
   have t1:q*(y%b64^m)<=q*b64^m:=aG o w
   have M:q*b64^m<b64^m*b64^m:=bD f n
   omega
  ·generalize x/b64^m=top at *
   generalize y/b64^m=yh at *
   generalize y%b64^m=yl at *
   generalize x%b64^m=xl at *
   generalize b64^m=P at *
   rw [<- dx,<- dy,ag];grind
  ·intro A6 n6 c6 A7 n7 c7 h7 t k6 k7 M6 M7
   exact hK _ _ _ _ _ _ _ (B0 F t) k6 k7 M6 M7
end
set_option maxHeartbeats 1000000 in
def C0i:∀ N,B5h N:=by
 intro N
 induction N with
 | zero=>intro h K A B T H X d x y V _ _ _ _ _ _ u;omega
 | succ N ih=>
  intro h K A B T H X d x y hN k g C n hl j ae f i W
  have aa:=k.nonneg dc
  have ah:=g.nonneg dc
  have e:0<y:=by
   have:=E6 (B:=b64) dc (d-1);omega
  refine (fnk func301) ?_
  have c:aW prog 277 #[.slice A X T,.slice B d H] h (fun r hp=>∃ (t22aA:Option bK) (t22an:Nat) (t22ac:Nat) (t22bA:Option bK) (t22bn:Nat) (t22bc:Nat),r= .tuple #[.slice t22aA t22an t22ac,.slice t22bA t22bn t22bc]/\K (.tuple #[.slice t22aA t22an t22ac,.slice t22bA t22bn t22bc]) hp):=by
   refine Et k g C n o hl o ?_
   intro A1 m1 c1 A2 m2 c2 h' l D M M1 M2
   exact ⟨_,_,_,_,_,_,rfl,W _ _ _ _ _ _ _ l D M M1 M2⟩
  refine C0 (fun V=>c) (fun V=>?_)
  refine D9 (fun u=>c) (fun u=>?_)
  rw [dF o] at u
  obtain ⟨m,hbm⟩:∃ m,d=2*m:=⟨d/2,o⟩
  have eh:C4 (cI ((d:Nat):Int) 2)=(m:Int):=by rw [aX o,C1 o o];omega
  simp only [eh]
  have S:=E6 (B:=b64) dc m
  have w:b64^d=b64^m*b64^m:=by rw [<- aU];congr 1;omega
  have dx:b64^m*(x/b64^m)+x%b64^m=x:=aL _ _
  have ag:=aP x (b:=b64^m) o
  have ak:=aK x S
  rw [w] at i
  refine Aj k C ?_
  intro A1 n1 c1 D ai M1
  refine ⟨_,_,_,rfl,?_⟩
  have G:x/b64^m<b64^m*y:=by
   by_cases hc:x/b64^m<b64^m*y
   ·exact hc
   ·have t1:b64^m*(b64^m*y)<=b64^m*(x/b64^m):=aG o o
    rw [cV] at i
    omega
  refine Ri ih o o hbm M1 g D n o j f G ?_
  intro A2 n2 c2 A3 n3 c3 h3 q M k3 M2 M3
  refine ⟨_,_,_,_,_,_,rfl,Fv (k.mono q) C o ?_⟩
  intro A4 n4 c4 k4 F Q M4
  have d1:=aL (x/b64^m) y
  have d2:=aK (x/b64^m) e
  have d3:=aP (x/b64^m) (b:=y) o
  have E:x/b64^m/y<b64^m:=aY e G
  have ad:n3<=d:=M3.len_le dc (by have:=g.lt dc;omega)
  have aj:n2<=m:=M2.len_le dc E
  refine ⟨_,_,_,rfl,Ho M3 M4 F o ?_⟩
  intro A5 n5 c5 h5 s k5 M5
  refine ⟨_,_,_,rfl,?_⟩
  have O:(x/b64^m)%y*b64^m+x%b64^m<b64^m*y:=by
   have t1:b64^m*((x/b64^m)%y+1)<=b64^m*y:=aG o o
   rw [cY,aT] at t1
   omega
  have af:n5<=d+m:=M5.len_le dc (by
   have t1:b64^m*y<b64^m*b64^d:=bV (g.lt dc) S
   rw [Nat.add_comm,aU];omega)
  refine Ri ih o o hbm M5 (g.mono (B0 q s)) k5 n o j f O ?_
  intro A6 n6 c6 A7 n7 c7 h7 L k6 k7 M6 M7
  have z:n6<=m:=M6.len_le dc (aY e O)
  refine ⟨_,_,_,_,_,_,rfl,Ho ((M2.mono s).mono L) M6 z o ?_⟩
  intro A8 n8 c8 h8 R k8 M8
  refine ⟨_,_,_,rfl,?_⟩
  have e1:=aL ((x/b64^m)%y*b64^m+x%b64^m) y
  have e2:=aK ((x/b64^m)%y*b64^m+x%b64^m) e
  have e3:=aP ((x/b64^m)%y*b64^m+x%b64^m) (b:=y) o
  have M7':=M7.mono R
  have t:=B0 q (B0 s (B0 L R))
  generalize ((x/b64^m)%y*b64^m+x%b64^m)/y=q2 at *
  obtain ⟨f1,f2⟩:=A4d (x:=x) (a:=((x/b64^m)%y*b64^m+x%b64^m)%y) (b:=x/b64^m/y*b64^m+q2) (p:=y) (by
   generalize ((x/b64^m)%y*b64^m+x%b64^m)%y=r2 at *
   generalize x/b64^m/y=q1 at *
   generalize x/b64^m%y=r1 at *
   generalize x/b64^m=top at *
   generalize x%b64^m=xl at *
   generalize b64^m=P at *
   grind) e3 e2
  refine W _ _ _ _ _ _ _ t k8 k7 ?_ ?_
  ·rw [f1];exact M8
  ·rw [f2];exact M7'
def Vy{ys:List Int}{k t s:Nat}(dy:Dig b64 ys)(hk:ys.length=k+1)(ht:ys.getD k 0=(t:Int))(ht0:t≠0)(hs:s=64-S0 t):s<64/\val b64 ys*2^s<b64^(k+1)/\9223372036854775808*b64^k<=val b64 ys*2^s:=by
 have u:=O6 dy k
 obtain ⟨d,a⟩:=Bu (B:=b64) dc dy (m:=k) hk
 rw [ht] at u d a
 obtain ⟨p,n⟩:=Ey ht0
 have l:S0 t<=64:=Hv (k:=64) o
 have q:1<=S0 t:=gz0
 have f:s<64:=o
 have b:0<(2:Int)^s:=bI dc
 have g:=Al (s:=s) o
 have j:(t:Int)+1<=2^(64-s):=by
  grind
 have i:(2:Int)^(63-s)<=t:=by
  grind
 have e:(2:Int)^s*2^(63-s)=9223372036854775808:=by
  rw [<- aU,show s+(63-s)=63 from o];decide
 have c:=E6 (B:=b64) dc k
 refine ⟨f,?_,?_⟩
 ·have r:val b64 ys*2^s<((t:Int)+1)*b64^k*2^s:=bD d b
  have w:((t:Int)+1)*2^s*b64^k<=18446744073709551616*b64^k:=by
   apply aD _ (aM c)
   rw [<- g,aT (2^s)]
   exact aD j (aM b)
  grind
 ·have t1:(t:Int)*b64^k*2^s<=val b64 ys*2^s:=aD a (aM b)
  have r:9223372036854775808*b64^k<=(t:Int)*2^s*b64^k:=by
   apply aD _ (aM c)
   rw [<- e,aT (t:Int)]
   exact aG i o
  grind
section
variable {h g:bF} {K:VP} {A B:Option bK} {ac bc:Nat}
set_option maxHeartbeats 1000000 in
def A4i{D V a b:Int}{S sh dn dc vc bn bq:Nat}{pieces t46:Int}{DA VA:Option bK}(hS:C4 ((C4 (cI (C4 ((C4 (((bn:Nat):Int)+pieces))-(1:Int))) pieces))*pieces)=(S:Int))
 (hsh:C8 (C4 ((C4 ((64:Int)*(C4 ((S:Int)-((bn:Nat):Int)))))+t46))=(sh:Int)) (hS0:0<S) (hS2:S<=200000000) (hsh2:sh<=100000000000) (hb:h bq=none) (hD:Mw h DA dn D) (hdc:dn<=dc) (hdn:0<dn) (hdl:dn<=2000000000) (hV:Mw h VA S V) (hvc:S<=vc) (hVt:9223372036854775808*b64^(S-1)<=V)
 (hDa:D=a*2^sh) (hVb:V=b*2^sh)
 (hK:∀ A1 m1 c1 A2 m2 c2 h',h.le h'->m1<=c1->m2<=c2->Mw h' A1 m1 (a/b)->Mw h' A2 m2 (a%b)->K (.tuple #[.slice A1 m1 c1,.slice A2 m2 c2]) h'):
 Bj prog bn K pieces t46 VA S vc DA dn dc (some ⟨bq,0,none⟩) (dn+S) (dn+S) (blk .u64 195 h bq (aE (dn+S) 0)):=by
 have M:=hD.nonneg (by decide)
 have ak:=hD.lt (by decide)
 have L:=hV.lt (by decide)
 have q:0<V:=by have:=E6 (B:=b64) (by decide) (S-1);omega
 have hp:0<(2:Int)^sh:=bI (by decide)
 have hQ:=E6 (B:=b64) (by decide) S
 unfold Bj
 simp only [hS,hsh]
 obtain ⟨nb,hnb⟩:∃ nb,nb=(dn-1)/S:=⟨_,rfl⟩
 have am:nb*S<=dn-1:=by rw [hnb];exact Nat.div_mul_le_self _ _
 have al:dn-1<nb*S+S:=by
  have R:=dX (dn-1) S
  have h2:=fI (dn-1) hS0
  rw [<- hnb,fS] at R
  omega
 have e1:C4 (C4 (cI (C4 ((dn:Int)-1)) (S:Int))*(S:Int))=((nb+1:Nat):Int)*S-S:=by
  rw [C1 (n:=(dn:Int)-1) o o,show (dn:Int)-1=((dn-1:Nat):Int) from o,<- Int.ofNat_tdiv,<- hnb]
  have:nb<=dn-1:=by rw [hnb];exact dV _ _
  have T:(nb:Int)*(S:Int)=((nb*S:Nat):Int):=by simp
  rw [C1 (n:=(nb:Int)) o o,T,C1 o o,fG,Int.add_mul,T]
  omega
 refine ⟨fun l hp=>∃ (j n c:Nat) (A:Option bK) (d:List Int) (r:Int) (g:bF),l=[.slice A n c,I ((j:Int)*S-S)]/\h.le g/\j*S+d.length=dn+S/\Dig b64 d/\Win .u64 hp g bq 195 (some ⟨bq,0,none⟩) [] (aE (j*S) 0++d) []/\Mw g A n r/\n<=c/\r=(D/b64^(j*S))%V/\val b64 d=(D/b64^(j*S))/V,fun l _=>(iAt l 1+S).toNat,⟨nb+1,0,0,none,aE (dn-1+1-nb*S) 0,0,h,by rw [e1],B7 h,?_,I5 (by decide) _,?_,Mag.zero,aV _,?_,?_⟩,?_⟩
 ·rw [bW,dK,dJ];omega
 ·rw [cR,show (nb+1)*S+(dn-1+1-nb*S)=dn+S by rw [dK,dJ];omega]
  exact Win.blk .u64 195 hb _
 ·have:=D8 (B:=b64) (by decide) (show dn<=(nb+1)*S by rw [dK,dJ];omega)
  rw [bG M o,fN]
 ·have:=D8 (B:=b64) (by decide) (show dn<=(nb+1)*S by rw [dK,dJ];omega)
  rw [bG M o,Int.zero_ediv,Cb]
 rintro A1 n1 c1 st a1 ⟨j,n,c,A',d,r,g,N,lg,t,H,w,Mr,aw,y,f⟩
 simp only [cG,cP,fC,and_true,true_and] at N
 obtain ⟨⟨rfl,rfl,rfl⟩,rfl⟩:=N
 refine C0 (fun R=>?_) (fun R=>?_)
 ·obtain ⟨i,rfl⟩:∃ i,j=i+1:=⟨j-1,by
   rcases j with _|j
   ·simp at R;omega
   ·rfl⟩
  obtain ⟨e,he⟩:∃ e,e=i*S:=⟨_,rfl⟩
  have C:(i+1)*S=e+S:=by rw [he,dK,dJ]
  have af:((i+1:Nat):Int)*(S:Int)-(S:Int)=(e:Int):=by rw [<- bU,C];omega
  rw [C] at t w y f
  rw [af]
  have a2:=E6 (B:=b64) (by decide) e
  refine w.call (Aj (hD.mono lg) hdc ?_)
  intro A2 n2 c2 k2 a0 M2 h2 w2
  refine ⟨_,_,_,rfl,w2.call (Fv M2 k2 o ?_)⟩
  intro A3 n3 c3 k3 ah aj M3 T w3
  have av:=Mr.nonneg (by decide)
  have an:r<V:=by rw [y];exact aK _ q
  have ao:n1<=S:=Mr.len_le (by decide) o
  refine ⟨_,_,_,rfl,w3.call (Ho Mr M3 ah o ?_)⟩
  intro A4 n4 c4 g4 l4 k4 M4 h4 w4
  have ac:D/b64^(e+S)=D/b64^e/b64^S:=by rw [aU,dR o]
  rw [ac] at y f
  have dm:=aL (D/b64^e) (b64^S)
  have au:=aP (D/b64^e) (b:=b64^S) o
  have ay:=aK (D/b64^e) hQ
  generalize hD1:D/b64^e=D1 at *
  have s:r*b64^S+D1%b64^S<b64^S*V:=by
   have t1:b64^S*(r+1)<=b64^S*V:=aG o o
   rw [cY,aT] at t1
   omega
  have az:n4<=S+S:=M4.len_le (by decide) (by
   have t1:b64^S*V<b64^S*b64^S:=bV L hQ
   rw [aU];omega)
  have z:=B0 lg l4
  refine ⟨_,_,_,rfl,w4.call (C0i S (aV _) M4 (hV.mono z) k4 hvc o hS2 hS0 hVt s ?_)⟩
  intro A5 n5 c5 A6 n6 c6 g6 l6 k5 k6 M5 M6 h6 X
  have ar:n5<=S:=M5.len_le (by decide) (aY q s)
  refine ⟨_,_,_,_,_,_,rfl,⟨o,o⟩,?_⟩
  rw [aC]
  have ad:aE (e+S) (0:Int)++d=aE e 0++(aE S 0++d):=by rw [<- bY,cR]
  rw [ad] at X
  have ap:(aE e (0:Int)++(aE S 0++d)).length=dn+S:=by simp only [aR,bW];omega
  have w7:=X.sub (l:=e) (m:=dn+S) (c:=dn+S) o o o
  have e7:((aE e (0:Int)++(aE S 0++d)).drop e).take (dn+S-e)=aE S 0++d:=by
   rw [fF (by simp),aN (by simp only [aR,bW];omega)]
  rw [e7] at w7
  obtain ⟨u,E,ae,ai,ax,G⟩:=M5
  refine Dr R8 w7 (by simp only [aR,bW];omega) (ae.mono X.le) E (by simp only [aR,bW];omega) ?_
  intro h8 w8
  rw [cX (by simp;omega),bH,<- bY u] at w8
  have k:(u++aE (S-u.length) (0:Int)).length=S:=by simp;omega
  have w9:=X.whole (l:=e) (m:=dn+S) o o (by rw [aR,k];omega) w8
  rw [cZ (by simp),aS (show (aE e (0:Int)++(aE S 0++d)).length<=dn+S from o),bX] at w9
  have e8:C4 ((e:Int)-(S:Int))=((i:Nat):Int)*S-S:=by
   rw [C1 o o,he,bU]
  have aq:=aL (r*b64^S+D1%b64^S) V
  have F:=aP (r*b64^S+D1%b64^S) (b:=V) o
  have O:=aK (r*b64^S+D1%b64^S) q
  have aa:=aL (D1/b64^S) V
  rw [<- y,<- f] at aa
  obtain ⟨f1,f2⟩:=A4d (x:=D1) (a:=(r*b64^S+D1%b64^S)%V) (b:=val b64 u+b64^S*val b64 d) (p:=V) (by
   rw [G]
   generalize (r*b64^S+D1%b64^S)%V=r2 at *
   generalize hq2:(r*b64^S+D1%b64^S)/V=q2 at *
   generalize D1%b64^S=bl at *
   generalize D1/b64^S=D2 at *
   generalize b64^S=Q at *
   generalize val b64 d=W at *
   grind) F O
  refine ⟨_,rfl,?_⟩
  rw [e8]
  refine ⟨⟨i,_,_,_,(u++aE (S-u.length) 0)++d,_,g6,rfl,B0 z l6,?_,?_,?_,M6,k6,?_,?_⟩,?_⟩
  ·rw [aR,k];omega
  ·exact (ai.append (I5 (by decide) _)).append H
  ·rw [<- he];exact w9
  ·rw [<- he,hD1,f2]
  ·rw [<- he,hD1,f1,G7,k,Cr]
  ·simp only [iAt,aH,aF]
   rw [<- bU,<- he]
   omega
 ·obtain rfl:j=0:=by
   rcases j with _|j
   ·rfl
   ·rw [<- bU,dK,dJ] at R
    omega
  rw [fR,List.replicate_zero,cF] at w
  rw [fR,fX,Int.ediv_one] at y f
  rw [fR,Nat.zero_add] at t
  have ag:0<b:=by
   by_cases hc:0<b
   ·exact hc
   ·have:=aD (show b<=0 from o) (aM hp);omega
  obtain ⟨f1,f2⟩:=A4d (x:=D) (a:=(a%b)*2^sh) (b:=a/b) (p:=V) (by
   have:=aL a b
   rw [hDa,hVb]
   conv=>rhs;rw [<- this]
   grind) (aO (aP _ o) o) (by rw [hVb];exact bD (aK _ ag) hp)
  refine Bl w.sl H t.symm f o o ?_
  intro m2 k2 M2
  refine ⟨_,_,_,rfl,?_⟩
  refine Ge (Mr.mono w.le) (by have:=Mr.len_le (j:=S) (by decide) (by have:=aK D q;omega);omega) o ?_
  intro A3 n3 c3 T l3 k3 M3
  rw [y,f2,eG _ o] at M3
  rw [f1] at M2
  exact ⟨_,_,_,rfl,hK _ _ _ _ _ _ _ (B0 lg (B0 w.le l3)) k2 k3 (M2.mono l3) M3⟩
set_option maxHeartbeats 1000000 in
def Oz{x y:Int}{an bn:Nat}(ma:Mw h A an x)(mb:Mw h B bn y)(ha:an<=ac)(hbc:bn<=bc)(hl:an<=800000000)(hl2:bn<=100000000)(ha0:0<an)(hb0:0<bn)
 (hK:∀ A1 m1 c1 A2 m2 c2 h',h.le h'->m1<=c1->m2<=c2->Mw h' A1 m1 (x/y)->Mw h' A2 m2 (x%y)->K (.tuple #[.slice A1 m1 c1,.slice A2 m2 c2]) h'):aW prog 276 #[.slice A an ac,.slice B bn bc] h K:=by
 have ai:=ma.nonneg dc
 have ae:=ma.len_zero dc
 have m:=ma.lt dc
 refine Qn _ _ _ _ _ _ ?_
 unfold Nm Ic
 refine ⟨fun l hp=>hp=h/\∃ p:Nat,l=[I p]/\0<p/\p<=bn,fun l _=>bn-(iAt l 0).toNat,⟨rfl,1,rfl,o,o⟩,?_⟩
 rintro w hp ⟨rfl,p,T,r,aa⟩
 obtain rfl:=sI1 T
 have e1:C4 (cI (C4 (C4 ((bn:Int)+(p:Int))-1)) (p:Int))=(((bn+p-1)/p:Nat):Int):=by
  rw [C1 (n:=(bn:Int)+p) o o,C1 (n:=(bn:Int)+p-1) o o,show (bn:Int)+p-1=((bn+p-1:Nat):Int) from o,<- Int.ofNat_tdiv]
  have:(bn+p-1)/p<=bn+p-1:=dV _ _
  generalize (bn+p-1)/p=q at *
  rw [C1 o o]
 refine C0 (fun d=>o) (fun _=>?_)
 obtain ⟨S,hS⟩:∃ S,S=(bn+p-1)/p*p:=⟨_,rfl⟩
 have af:bn<=S/\S<=bn+p-1:=by
  have d:=dX (bn+p-1) p
  have z:=fI (bn+p-1) r
  rw [fS,<- hS] at d
  omega
 have X:C4 ((C4 (cI (C4 (C4 ((bn:Int)+(p:Int))-1)) (p:Int)))*(p:Int))=(S:Int):=by
  rw [e1,<- bU,<- hS,C1 o o]
 refine C0 (fun d=>?_) (fun d=>?_)
 ·rw [e1] at d
  have z:80<=(bn+p-1)/p:=o
  rw [Nat.le_div_iff_mul_le r] at z
  have N:C4 ((p:Int)*2)=((p*2:Nat):Int):=by rw [C1 o o];omega
  rw [N]
  exact ⟨⟨rfl,_,rfl,o,o⟩,by simp only [iAt,aF];omega⟩
 ·refine C0 (fun d=>o) (fun _=>?_)
  obtain ⟨k,hk⟩:∃ k,bn=k+1:=⟨bn-1,o⟩
  have O:=mb
  obtain ⟨a,L,sy,dy,ny,rfl⟩:=mb
  have c:a.length=k+1:=o
  have gt:=O6 dy k
  have Q:=A07 c ny
  have N:C4 ((bn:Int)-1)=(k:Int):=by rw [C1 o o];omega
  rw [N]
  subst L
  refine sy.load rfl o o ?_
  rw [aC]
  obtain ⟨t,ht⟩:∃ t:Nat,a.getD k 0=t:=⟨(a.getD k 0).toNat,o⟩
  rw [ht] at gt Q ⊢
  refine T4 o ⟨_,rfl,?_⟩
  obtain ⟨s,hs⟩:∃ s,s=64-S0 t:=⟨_,rfl⟩
  rw [<- hs]
  obtain ⟨W,M,H⟩:=Vy dy c ht o hs
  simp only [X]
  obtain ⟨sh,hsh⟩:∃ sh,sh=64*(S-a.length)+s:=⟨_,rfl⟩
  have e4:C8 (C4 (C4 (64*C4 ((S:Int)-(a.length:Int)))+(s:Int)))=(sh:Int):=by
   rw [C1 (n:=(S:Int)-(a.length:Int)) o o,C1 (n:=64*((S:Int)-(a.length:Int))) o o,C1 o o,C6 o o]
   omega
  simp only [e4]
  have f:(2:Int)^sh=2^s*b64^(S-a.length):=by rw [hsh,aU,Jw,aT]
  have g:=E6 (B:=b64) dc (S-a.length)
  have ah:0<(2:Int)^s:=bI dc
  have j:0<(2:Int)^sh:=bI dc
  have ad:val b64 a*2^sh=val b64 a*2^s*b64^(S-a.length):=by rw [f,cV]
  have C:val b64 a*2^sh<b64^S:=by
   have t1:val b64 a*2^s*b64^(S-a.length)<b64^(k+1)*b64^(S-a.length):=bD M g
   rw [<- aU,show k+1+(S-a.length)=S from o] at t1
   omega
  have R:9223372036854775808*b64^(S-1)<=val b64 a*2^sh:=by
   have t1:9223372036854775808*b64^k*b64^(S-a.length)<=val b64 a*2^s*b64^(S-a.length):=aD H (aM g)
   rw [cV,<- aU,show k+(S-a.length)=S-1 from o] at t1
   omega
  refine W4 O hbc o o ?_
  intro A1 b c1 d l1 k1 M1
  refine ⟨_,_,_,rfl,?_⟩
  have F:b=S:=by
   have q1:=M1.len_le dc C
   have q2:=M1.lt dc
   by_cases hc:b=S
   ·exact hc
   ·have:=D8 (B:=b64) dc (show b<=S-1 from o)
    have:=E6 (B:=b64) dc (S-1)
    omega
  subst F
  refine W4 (ma.mono l1) ha o o ?_
  intro A2 i c2 z l2 k2 M2
  refine ⟨_,_,_,rfl,?_⟩
  have ag:i<=an+(1+(b-a.length)):=M2.len_le dc (by
   have t1:x*2^sh<b64^an*2^sh:=bD m j
   have t2:(2:Int)^sh<=b64^(1+(b-a.length)):=by
    rw [f,aU]
    apply aD _ (aM g)
    have:=D8 (B:=2) dc (show s<=64 from o)
    have e:(2:Int)^64=18446744073709551616:=dc
    show (2:Int)^s<=b64^1
    rw [bC,fX]
    show (2:Int)^s<=1*18446744073709551616
    omega
   have t3:b64^an*2^sh<=b64^an*b64^(1+(b-a.length)):=aG t2 (aM (E6 dc an))
   rw [aU b64 an]
   omega)
  have u:0<i:=by
   rcases Nat.eq_zero_or_pos i with E|E
   ·have:=(M2.len_zero dc).2 E
    rcases Int.mul_eq_zero.1 this with h3|h3<;>omega
   ·exact E
  have e5:C4 ((i:Int)+(b:Int))=((i+b:Nat):Int):=by rw [C1 o o];omega
  rw [e5]
  refine J9 R8 o o o ?_
  intro bq G
  rw [aC]
  refine ⟨_,_,_,rfl,?_⟩
  refine C0 (fun d=>o) (fun _=>?_)
  refine A4i (D:=x*2^sh) (V:=val b64 a*2^sh) (sh:=sh) (S:=b) X e4 o o o G M2 k2 u o (M1.mono l2) k1 R rfl rfl ?_
  intro A3 n3 c3 A4 n4 c4 h4 l4 k3 k4 M3 M4
  exact hK _ _ _ _ _ _ _ (B0 l1 (B0 l2 l4)) k3 k4 M3 M4
def U5{x y:Int}{an bn:Nat}(ma:Mw h A an x)(mb:Mw h B bn y)(ha:an<=ac)(hbc:bn<=bc)(hy:y≠0)(hl:an<=800000000)(hl2:bn<=100000000)
 (hK:∀ A1 m1 c1 A2 m2 c2 h',h.le h'->m1<=c1->m2<=c2->Mw h' A1 m1 (x/y)->Mw h' A2 m2 (x%y)->K (.tuple #[.slice A1 m1 c1,.slice A2 m2 c2]) h'):aW prog 237 #[.slice A an ac,.slice B bn bc] h K:=by
 refine (fnk func237) ?_
 have a:aW prog 277 #[.slice A an ac,.slice B bn bc] h (fun r c=>∃ (t22aA:Option bK) (t22an:Nat) (t22ac:Nat) (t22bA:Option bK) (t22bn:Nat) (t22bc:Nat),r= .tuple #[.slice t22aA t22an t22ac,.slice t22bA t22bn t22bc]/\K (.tuple #[.slice t22aA t22an t22ac,.slice t22bA t22bn t22bc]) c):=by
  refine Et ma mb ha hbc hy o o ?_
  grind
 refine C0 (fun d=>C0 (fun b=>?_) (fun _=>a)) (fun _=>a)
 rw [C1 o o] at b
 refine Oz ma mb ha hbc hl hl2 o o ?_
 grind
end
def TZ(x k:Nat):Prop:=∃ m,x=2^k*(2*m+1)
def TZ.ex:∀ {x:Nat},x≠0->∃ k,TZ x k:=by
 intro x
 induction x using Nat.strongRecOn with
 | _ x ih=>
  intro h
  rcases Nat.mod_two_eq_zero_or_one x with b|b
  ·obtain ⟨k,m,a⟩:=ih (x/2) o o
   refine ⟨k+1,m,?_⟩
   rw [dS,fS (2^k),dL,<- a];omega
  ·exact ⟨0,x/2,o⟩
def TZ.lt{x k n:Nat}(h:TZ x k)(hx:x<2^n):k<n:=by
 obtain ⟨m,rfl⟩:=h
 have b:2^k*1<=2^k*(2*m+1):=eF _ o
 exact (fL (a:=2) dc).1 o
def A9z{a u v:Nat}:(2^a*u) ||| (2^a*v)=2^a*(u ||| v):=by
 apply Nat.eq_of_testBit_eq
 grind
def B4x{u v:Nat}(h:u%2=1\/v%2=1):(u ||| v)%2=1:=by simp_all
def TZ.or'{x y a b:Nat}(hx:TZ x a)(hy:TZ y b)(hab:a<=b):TZ (x ||| y) a/\TZ (y ||| x) a:=by
 obtain ⟨m,rfl⟩:=hx
 obtain ⟨n,rfl⟩:=hy
 obtain ⟨d,rfl⟩:∃ d,b=a+d:=⟨b-a,o⟩
 rw [eE,dL,A9z,A9z]
 have c:=B4x (u:=2*m+1) (v:=2^d*(2*n+1)) (.inl o)
 have e:=B4x (u:=2^d*(2*n+1)) (v:=2*m+1) (.inr o)
 exact ⟨⟨_/2,by rw [<- dX (_ ||| _) 2,c]⟩,⟨_/2,by rw [<- dX (_ ||| _) 2,e]⟩⟩
def TZ.or{x y a b:Nat}(hx:TZ x a)(hy:TZ y b):TZ (x ||| y) (min a b):=by
 by_cases h:a<=b
 ·rw [aI h];exact (hx.or' hy h).1
 ·rw [eZ o];exact (hy.or' hx o).2
def TZ.bit{x k:Nat}(h:TZ x k)(hx:x<2^64):x &&& (2^64-x)=2^k:=by
 obtain ⟨m,rfl⟩:=h
 have f:0<2^k:=cW dc
 have a:2^k*(2*m+1)=2^k*(2*m)+(2^k-1)+1:=gz0
 apply Nat.eq_of_testBit_eq
 intro i
 rw [Nat.testBit_and]
 have e:(2^64-2^k*(2*m+1)).testBit i=(decide (i<64) && !(2^k*(2*m)+(2^k-1)).testBit i):=by
  rw [a];exact Nat.testBit_two_pow_sub_succ o i
 rw [e,Nat.testBit_two_pow_mul_add _ o,Nat.testBit_two_pow_mul,Nat.testBit_two_pow]
 by_cases g:i<k
 ·grind
 ·by_cases b:i=k
  ·subst b
   have c:i<64:=TZ.lt ⟨m,rfl⟩ hx
   grind
  ·obtain ⟨d,hd⟩:∃ d,i-k=d+1:=⟨i-k-1,o⟩
   grind
def Xc{o k:Nat}(h:o%2=1):Nat.Coprime (2^k) o:=Nat.Coprime.pow_left k (by unfold Nat.Coprime;rw [Nat.gcd_rec,h];rfl)
def B77{x y a b m:Nat}(hx:x=2^a*(2*m+1))(hy:TZ y b):cU x y=2^(min a b)*cU (2*m+1) y:=by
 obtain ⟨n,rfl⟩:=hy
 subst hx
 have c:cU (2*m+1) (2^b*(2*n+1))=cU (2*m+1) (2*n+1):=cJ (2*n+1) (Xc o)
 rw [c]
 by_cases h:a<=b
 ·obtain ⟨d,rfl⟩:∃ d,b=a+d:=⟨b-a,o⟩
  rw [aI h,eE,dL,Nat.gcd_mul_left,cJ _ (Xc o)]
 ·obtain ⟨d,rfl⟩:∃ d,a=b+d:=⟨a-b,o⟩
  rw [eZ o,eE,dL,Nat.gcd_mul_left,Nat.Coprime.gcd_mul_left_cancel _ (Xc o)]
def A31(k:Nat):Nat:=(2^k*285870213051353865%18446744073709551616)/2^58
def Gtz(h:bF):Prop:=∀ k,k<64->h.cell? (eU ⟨0,0,none⟩ (A31 k*1))=some (Y k)
def Gtz.mono{h h':bF}(g:Gtz h)(l:h.le h'):Gtz h':=fun k a=>C2 l (g k a)
section
variable {h g:bF} {K:VP} {A B:Option bK} {ac bc:Nat}
def Jp{x k:Nat}(gl:Gtz h)(tz:TZ x k)(hx:x<18446744073709551616)(hK:K (I k) h):aW prog 280 #[U x] h K:=by
 have a:=tz.lt (n:=64) hx
 have d:x≠0:=by
  obtain ⟨m,rfl⟩:=tz
  grind
 refine Kl _ ?_
 refine D5 (fun e=>o) (fun _=>?_)
 have b:C8 (0-(x:Int))=((2^64-x:Nat):Int):=by
  rw [F2];omega
 have f:Zs .u64 (x:Int) ((2^64-x:Nat):Int)=((2^k:Nat):Int):=by
  rw [B1m o o,aC,aC,tz.bit hx]
 have c:dI (C8 (((2^k:Nat):Int)*285870213051353865)) (2^(min ((58:Int)).toNat 64))=((A31 k:Nat):Int):=by
  show dI _ (2^(min 58 64))=_
  rw [B2r dc,F2]
  rfl
 rw [b,f,c,aC]
 have g:A31 k<64:=by
  unfold A31
  omega
 refine ⟨⟨o,o⟩,_,gl k a,?_⟩
 rw [C1 o o]
 exact hK
def A1r{x y:Nat}(gl:Gtz h)(hx:x<18446744073709551616)(hy:y<18446744073709551616)(hK:K (U (cU x y:Nat)) h):aW prog 241 #[U x,U y] h K:=by
 refine (fnk func241 [(5,[0,1],[],[U 0,U 0])]) ?_
 refine D5 (fun e=>?_) (fun e=>?_)
 ·obtain rfl:x=0:=o
  rw [A4h o o]
  grind
 refine D5 (fun D=>?_) (fun D=>?_)
 ·obtain rfl:y=0:=o
  rw [A4h o o]
  grind
 obtain ⟨a,j⟩:=TZ.ex (x:=x) o
 obtain ⟨b,w⟩:=TZ.ex (x:=y) o
 have R:=j.lt (n:=64) hx
 rw [A4h o o,aC,aC]
 have p:x ||| y<18446744073709551616:=Nat.or_lt_two_pow (n:=64) hx hy
 refine Jp gl (j.or w) p ⟨_,rfl,?_⟩
 refine Jp gl j hx ⟨_,rfl,?_⟩
 refine C0 (fun i=>o) (fun _=>?_)
 obtain ⟨m,r⟩:=j
 have C:=B77 r w
 have M:dI (x:Int) (2^(min ((a:Int)).toNat 64))=((2*m+1:Nat):Int):=by
  rw [aC,B2r o,show ((2:Int)^a)=((2^a:Nat):Int) by simp,<- Int.natCast_ediv,r,fO _ (cW dc)]
 rw [M]
 have t:2*m+1<=x:=by
  rw [r];exact fT _ (cW dc)
 refine ⟨fun l G=>G=h/\∃ u v:Nat,l=[U u,U v]/\u%2=1/\u<18446744073709551616/\v<18446744073709551616/\cU u v=cU (2*m+1) y,fun l _=>(iAt l 0+iAt l 1).toNat,⟨rfl,2*m+1,y,rfl,o,o,hy,rfl⟩,?_⟩
 rintro S Q F ⟨rfl,u,v,H,L,B,f,d⟩
 obtain ⟨rfl,rfl⟩:=H
 refine D9 (fun i=>?_) (fun i=>?_)
 ·obtain ⟨c,k⟩:=TZ.ex (x:=v) o
  have T:=k.lt (n:=64) f
  refine Jp gl k f ⟨_,rfl,?_⟩
  refine C0 (fun i=>o) (fun _=>?_)
  obtain ⟨n,q⟩:=k
  have E:dI (v:Int) (2^(min ((c:Int)).toNat 64))=((2*n+1:Nat):Int):=by
   rw [aC,B2r o,show ((2:Int)^c)=((2^c:Nat):Int) by simp,<- Int.natCast_ediv,q,fO _ (cW dc)]
  have z:2*n+1<=v:=by
   rw [q];exact fT _ (cW dc)
  have g:cU u (2*n+1)=cU u v:=by
   rw [q,cJ _ (Xc L)]
  rw [E]
  refine C0 (fun A=>?_) (fun A=>?_)
  ·have s:C8 ((u:Int)-((2*n+1:Nat):Int))=((u-(2*n+1):Nat):Int):=by rw [C6 o o];omega
   rw [s]
   refine ⟨⟨rfl,_,_,rfl,o,o,o,?_⟩,?_⟩
   ·rw [fU o,fV,g,d]
   ·simp only [iAt,aF,aH];omega
  ·have s:C8 (((2*n+1:Nat):Int)-(u:Int))=((2*n+1-u:Nat):Int):=by rw [C6 o o];omega
   rw [s]
   refine ⟨⟨rfl,_,_,rfl,o,o,o,?_⟩,?_⟩
   ·rw [fU o,g,d]
   ·simp only [iAt,aF,aH];omega
 ·refine C0 (fun i=>o) (fun _=>?_)
  obtain rfl:v=0:=o
  rw [aC,aI (show min a b<=64 from o)]
  have N:(u:Int)*2^(min a b)=((cU x y:Nat):Int):=by
   rw [C,<- d,bU,aT];simp
  have O:cU x y<=x:=Nat.le_of_dvd o (Nat.gcd_dvd_left x y)
  rw [N,C6 o o]
  exact hK
end
def A8n{xs:List Int}(d:Dig b64 xs){k s:Nat}(hl:xs.length<=k+2)(hs:s<=64):val b64 xs/(b64^k*2^(64-s))=xs.getD (k+1) 0*2^s+xs.getD k 0/2^(64-s):=by
 have g:=C7 b64 xs (k+1)
 have j:=C7 b64 xs k
 rw [aN (show xs.length<=k+1+1 from o)] at g
 have c:=E6 (B:=b64) dc k
 have f:0<(2:Int)^(64-s):=bI dc
 have b:=Al (s:=s) hs
 have i:=D0 dc (d.take k)
 have l:=L9 dc (d.take k)
 have m:=D8 (B:=b64) dc (show (xs.take k).length<=k from gz0)
 rw [<- dR (aM c)]
 have e:val b64 xs/b64^k=xs.getD k 0+18446744073709551616*xs.getD (k+1) 0:=by
  refine (A4d (a:=val b64 (xs.take k)) ?_ i o).1
  grind
 rw [e,<- b,aT (2^s),cV,eC _ _ o,aT (2^s)]
 omega
section
variable {h g:bF} {K:VP} {A B:Option bK} {ac bc:Nat}
def B7p(a b u0 u1 v0 v1:Int)(odd:Bool):Prop:=(0<=u0/\u0<18446744073709551616)/\(0<=u1/\u1<18446744073709551616)/\(0<=v0/\v0<18446744073709551616)/\(0<=v1/\v1<18446744073709551616)/\(v0≠0->Leh a b u0 v0 u1 v1 (Oq a b u0 v0 odd) (Oo a b u1 v1 odd))
def B2q{a b F S W t20 t26 t33:Int}(hF:F=bor .u64 (C8 (t26*2^(min (C8 t20).toNat 64))) (dI t33 (2^(min (C8 ((64:Int)-(C8 t20))).toNat 64))))(hW:0<W)(hFa:F=a/W)(hSb:S=b/W)(hb0:0<=b)(hba:b<=a)(hF64:F<18446744073709551616)
 (hK:∀ u0 u1 v0 v1 odd,B7p a b u0 u1 v0 v1 odd->K (.agg #[U u0,U u1,U v0,U v1,.bool odd]) h):Ib prog K t20 t26 t33 S h:=by
 have da:=aL a W
 have db:=aL b W
 have t:=aP a (b:=W) o
 have w:=aK a hW
 have y:=aP b (b:=W) o
 have z:=aK b hW
 have u:0<=S:=by rw [hSb];exact bJ hb0 o
 have s:S<=F:=by rw [hSb,hFa];exact Int.ediv_le_ediv hW hba
 unfold Ib
 rw [<- hF]
 refine ⟨fun l B=>B=h/\∃ (first c g d u0 u1 v0 v1:Int) (odd:Bool),l=[U first,U c,U g,U d,U u0,U u1,U v0,U v1,.bool odd]/\LS F S first c u0 v0 u1 v1 g d odd/\B7p a b u0 u1 v0 v1 odd/\g<=F/\d<=(if F=0 then 1 else F),fun l _=>(iAt l 1).toNat,⟨rfl,_,_,_,_,_,_,_,_,_,rfl,LS.init u s,⟨o,o,o,o,fun e=>absurd rfl e⟩,o,o⟩,?_⟩
 rintro first c g d u0 u1 v0 v1 odd B ⟨rfl,q,k,G,N,Q,ac,V,aa,C,T,i,r,L,M⟩
 obtain ⟨rfl,rfl,rfl,rfl,rfl,rfl,rfl,rfl,rfl⟩:=T
 have A:=i.v2pos
 have m:=i.ord
 have R:=i.hF
 refine C0 (fun h1=>?_) (fun _=>hK _ _ _ _ _ r)
 have p:1<=c:=o
 have X:=i.bound2 p
 have H:first<=F:=by
  have t1:1*first<=d*first:=aD o o
  have t2:=aO (show 0<=v1 from o) m.1
  omega
 rw [C6 (n:=first-c) o o,C6 (n:=v1+d) o o]
 refine C0 (fun h2=>?_) (fun _=>hK _ _ _ _ _ r)
 refine C0 (fun e=>o) (fun _=>?_)
 refine C0 (fun e=>o) (fun _=>?_)
 rw [dF o,aX o]
 have f:=i.step o o
 have ad:=f.bound p
 have j:0<=first/c:=bJ o o
 have E:first/c<=first:=dQ _ o
 have D:=aO j (show 0<=g from o)
 have O:=aO j (show 0<=d from o)
 rw [C6 (n:=first/c) o o,C6 (n:=first/c*g) o o,C6 (n:=first/c*d) o o,C6 (n:=u1+first/c*g) o o,C6 (n:=v1+first/c*d) o o]
 refine ⟨⟨rfl,_,_,_,_,_,_,_,_,_,rfl,f,⟨⟨o,r.2.1.2⟩,⟨o,o⟩,⟨o,r.2.2.2.1.2⟩,⟨o,o⟩,fun e=>f.leh e hW (al:=a%W) (bl:=b%W) ?_ ?_ ⟨t,w⟩ ⟨y,z⟩⟩,o,o⟩,?_⟩
 ·grind
 ·grind
 ·have:=aK first (show 0<c from o)
  simp only [iAt,aH,aF];omega
set_option maxHeartbeats 1000000 in
def Xl{a b:Int}{an bn:Nat}(ma:Mw h A an a)(mb:Mw h B bn b)(hba:b<=a)(hb2:2<=bn)(hl:an<=1000000000)
 (hK:∀ u0 u1 v0 v1 odd,B7p a b u0 u1 v0 v1 odd->K (.agg #[U u0,U u1,U v0,U v1,.bool odd]) h):aW prog 236 #[.slice A an ac,.slice B bn bc] h K:=by
 have S:=mb.nonneg dc
 have ah:bn<=an:=mb.len_le dc (cC hba (ma.lt dc))
 obtain ⟨k,rfl⟩:∃ k,an=k+2:=⟨an-2,o⟩
 obtain ⟨w,g,V,H,nx,rfl⟩:=ma
 obtain ⟨f,n,N,X,ny,rfl⟩:=mb
 refine A2h _ _ _ _ _ _ ?_
 unfold A2i
 have e1:C4 (((k+2:Nat):Int)-1)=((k+1:Nat):Int):=by rw [C1 o o];omega
 have e2:C4 (((k+2:Nat):Int)-2)=(k:Int):=by rw [C1 o o];omega
 simp only [e1,e2]
 have gt:=O6 H (k+1)
 have R:=O6 H k
 have aa:=A07 (m:=k+1) g.symm nx
 obtain ⟨t,ht⟩:∃ t:Nat,w.getD (k+1) 0=t:=⟨(w.getD (k+1) 0).toNat,o⟩
 rw [g]
 refine V.load rfl o o ?_
 rw [aC,ht]
 rw [ht] at gt aa
 refine T4 o ⟨_,rfl,?_⟩
 obtain ⟨s,hs⟩:∃ s,s=64-S0 t:=⟨_,rfl⟩
 rw [<- hs]
 obtain ⟨ad,r,ag⟩:=Vy H g.symm ht o hs
 refine V.load rfl o o ?_
 simp only [aC,ht]
 have i:C8 (s:Int)=s:=C6 o o
 have d:C8 (64-(s:Int))=((64-s:Nat):Int):=by rw [C6 o o];omega
 refine C0 (fun e=>by rw [i] at e;omega) (fun _=>?_)
 refine V.load rfl o o ?_
 simp only [aC]
 refine C0 (fun e=>by rw [i,d] at e;omega) (fun _=>?_)
 have W:0<(2:Int)^s:=bI dc
 have q:0<(2:Int)^(64-s):=bI dc
 have C:=Al (s:=s) o
 have T:=E6 (B:=b64) dc k
 have Q:0<b64^k*2^(64-s):=Int.mul_pos T q
 have j:=A8n H (k:=k) (s:=s) o o
 have c:=A8n X (k:=k) (s:=s) o o
 have D:val b64 w/(b64^k*2^(64-s))<18446744073709551616:=by
  apply aY Q
  have t1:18446744073709551616*(b64^k*2^(64-s))*2^s=18446744073709551616*b64^k*(2^s*2^(64-s)):=gz0
  rw [C] at t1
  have L:b64^(k+1+1)=18446744073709551616*b64^k*18446744073709551616:=by
   rw [bC,bC]
   show b64^k*18446744073709551616*18446744073709551616=_
   grind
  rw [L,<- t1] at r
  exact Int.lt_of_mul_lt_mul_right r o
 have af:val b64 f/(b64^k*2^(64-s))<=val b64 w/(b64^k*2^(64-s)):=Int.ediv_le_ediv Q hba
 have q1:∀ z:Int,0<=z/\z<18446744073709551616->0<=z/2^(64-s)/\z/2^(64-s)<2^s:=fun z G=>
  ⟨bJ G.1 o,aY q (by rw [C];exact G.2)⟩
 have y:∀ u z:Int,0<=u->0<=z/\z<18446744073709551616->u*2^s+z/2^(64-s)<18446744073709551616->bor .u64 (C8 (u*2^(min (C8 (s:Int)).toNat 64))) (dI z (2^(min (C8 (64-C8 (s:Int))).toNat 64)))=u*2^s+z/2^(64-s):=by
  intro u z hu G M
  have:=q1 z G
  have:=aO hu (aM W)
  rw [i,d,aC,aC,B2r o,aI (show s<=64 from o),C6 o o,A28 hu o M]
 have gy:=O6 X (k+1)
 have O:=O6 X k
 rw [ht] at j
 refine ⟨fun l hp=>hp=h/\l=[U (val b64 f/(b64^k*2^(64-s)))],?_,?_⟩
 ·refine D5 (fun e=>?_) (fun e=>?_)
  ·rw [n]
   refine N.load rfl o o ?_
   simp only [aC]
   refine C0 (fun e=>by rw [i] at e;omega) (fun _=>?_)
   refine N.load rfl o o ?_
   simp only [aC]
   refine C0 (fun e=>by rw [i,d] at e;omega) (fun _=>?_)
   rw [y _ _ gy.1 O o,c]
   first|exact ⟨rfl,rfl⟩|exact ⟨trivial,rfl⟩
  ·refine D5 (fun e=>?_) (fun e=>?_)
   ·rw [n]
    refine N.load rfl o o ?_
    simp only [aC]
    refine C0 (fun e=>by rw [i,d] at e;omega) (fun _=>?_)
    have:f.getD (k+1) 0=0:=by simp [fA,eB (show f.length<=k+1 from o)]
    rw [this,dT,cK] at c
    rw [i,d,aC,B2r o,c]
    first|exact ⟨rfl,rfl⟩|exact ⟨trivial,rfl⟩
   ·have t1:f.getD (k+1) 0=0:=by simp [fA,eB (show f.length<=k+1 from o)]
    have L:f.getD k 0=0:=by simp [fA,eB (show f.length<=k from o)]
    rw [t1,L,dT,cK,Int.zero_ediv] at c
    rw [c]
    exact ⟨rfl,rfl⟩
 ·rintro E ae ⟨rfl,p⟩
  simp only [cG,fC,and_true,true_and] at p
  subst p
  exact B2q (F:=val b64 w/(b64^k*2^(64-s))) (by rw [y _ _ o R o,j]) Q rfl rfl S hba D hK
end
def Win.swap{k k':cT}{h g1 g:bF}{ba bb:Nat}{e e':cD}{A B:Option bK}{pa qa pb qb:List eD}{us bs:List Int}(wa:Win k h g1 ba e A pa us qa)(wb:Win k' g1 g bb e' B pb bs qb):∃ g2,Win k' h g2 bb e' B pb bs qb/\Win k g2 g ba e A pa us qa:=by
 have a:ba≠bb:=by
  rintro rfl
  have:=wa.free
  rw [wb.eq,C3] at this
  cases this
 have b:g ba=none:=by
  have:=wa.free
  rwa [wb.eq,B9 _ _ a] at this
 refine ⟨g.put ba (.cells (pa++us.map (bL k)++qa).toArray e),⟨?_,?_,wb.at_⟩,⟨b,rfl,wa.at_⟩⟩
 ·rw [B9 _ _ a.symm];exact wb.free
 ·rw [wa.eq,wb.eq];exact Heap.put_comm _ _ _ a.symm
def Xj{z y c:Int}(hz:0<=z/\z<18446744073709551616)(hy:0<=y/\y<18446744073709551616)(hc:0<=c/\c<=1):(z-y-c)%18446744073709551616=z-y-c+18446744073709551616*(if z-y-c<0 then 1 else 0):=by
 omega
def A1i(z:Int):z%18446744073709551616=z-18446744073709551616*(z/18446744073709551616):=o
def Ml{x y c:Int}(hx:0<=x/\x<18446744073709551616)(hy:0<=y/\y<18446744073709551616)(hc:0<=c/\c<18446744073709551616):0<=(x*y+c)/18446744073709551616/\(x*y+c)/18446744073709551616<18446744073709551616:=by
 have b:=aO hx.1 hy.1
 have a:x*y<=18446744073709551615*y:=aD o hy.1
 omega
def pin{v w B m:Int}(h:v=w+B*m)(hv:0<=v/\v<B)(hw:0<=w/\w<B):v=w:=by
 have a:0<B:=o
 by_cases c:m <= -1
 ·have:=aG c (aM a);omega
 ·by_cases b:1<=m
  ·have:=aG b (aM a);omega
  grind
section
variable {h g g1:bF} {K:VP} {A B:Option bK} {ac bc an bn ba bb:Nat} {e:cD} {qa qb:List eD}
set_option maxHeartbeats 1000000 in
def A7z{us bs:List Int}{u0 u1 v0 v1:Int}{odd:Bool}(wa:Win .u64 h g1 ba e A [] us qa)(wb:Win .u64 g1 g bb e B [] bs qb)(ha:an=us.length)(hb:bn=bs.length)(hab:us.length=bs.length)(da:Dig b64 us)(db:Dig b64 bs)(hl:us.length<=1000000000)(hu0:0<=u0/\u0<18446744073709551616)(hu1:0<=u1/\u1<18446744073709551616)(hv0:0<=v0/\v0<18446744073709551616)(hv1:0<=v1/\v1<18446744073709551616)
 (hX0:0<=Oq (val b64 us) (val b64 bs) u0 v0 odd/\Oq (val b64 us) (val b64 bs) u0 v0 odd<b64^us.length) (hX1:0<=Oo (val b64 us) (val b64 bs) u1 v1 odd/\Oo (val b64 us) (val b64 bs) u1 v1 odd<b64^us.length)
 (hK:∀ us' bs' h' g1',us'.length=us.length->bs'.length=us.length->Dig b64 us'->Dig b64 bs'->val b64 us'=Oq (val b64 us) (val b64 bs) u0 v0 odd->val b64 bs'=Oo (val b64 us) (val b64 bs) u1 v1 odd->Win .u64 h' g1' ba e A [] us' qa->Win .u64 g1' g bb e B [] bs' qb->K (.tuple #[]) h'):
 aW prog 238 #[.agg #[U u0,U u1,U v0,U v1,.bool odd],.slice A an ac,.slice B bn bc] h K:=by
 subst ha hb
 refine (fnk func238 [(4,[6,7,8,9,10,11,21],[],[U 0,U 0,U 0,U 0,U 0,U 0,I 0])] (own:=[3])) ?_
 refine ⟨fun l hp=>∃ (k:Nat) (b c d f V X:Int) (z C:List Int) (g1:bF),l=[U b,U c,U d,U f,U V,U X,I k]/\k<=us.length/\z.length=us.length/\C.length=us.length/\Dig b64 z/\Dig b64 C/\(0<=b/\b<18446744073709551616)/\(0<=c/\c<18446744073709551616)/\(0<=d/\d<18446744073709551616)/\(0<=f/\f<18446744073709551616)/\(0<=V/\V<=1)/\(0<=X/\X<=1)/\Win .u64 hp g1 ba e A [] z qa/\Win .u64 g1 g bb e B [] C qb/\z.drop k=us.drop k/\C.drop k=bs.drop k/\
  val b64 (z.take k)=Oq (val b64 (us.take k)) (val b64 (bs.take k)) u0 v0 odd+b64^k*((if odd then c-b else b-c)+V)/\val b64 (C.take k)=Oo (val b64 (us.take k)) (val b64 (bs.take k)) u1 v1 odd+b64^k*((if odd then f-d else d-f)+X),fun l _=>us.length-(iAt l 6).toNat,⟨0,0,0,0,0,0,0,us,bs,g1,rfl,o,rfl,hab.symm,da,db,o,o,o,o,o,o,wa,wb,rfl,rfl,by simp [val,Oq],by simp [val,Oo]⟩,?_⟩
 rintro b c d f V X i hp ⟨k,ae,ai,ad,af,ag,aj,z,C,g1,W,hk,a,m,R,Q,hP,hQ,hR,hT,j,D,O,S,F,L,n,E⟩
 simp only [cG,fC,and_true,true_and] at W
 obtain ⟨rfl,rfl,rfl,rfl,rfl,rfl,rfl⟩:=W
 refine C0 (fun h1=>?_) (fun h1=>?_)
 ·have gx:=O6 R k
  have gy:=O6 Q k
  have u:=F1 F
  have s:=F1 L
  have vx:=C7 b64 us k
  have vy:=C7 b64 bs k
  obtain ⟨g2,aa,ah⟩:=O.swap S
  refine O.sl.load a.symm o o ?_
  refine aa.sl.load o o o ?_
  simp only [aC]
  obtain ⟨aA,hA,_⟩:=SlV.at O.sl (i:=k) (by simp;omega)
  obtain ⟨aB,hB,_⟩:=SlV.at S.sl (i:=k) (by simp;omega)
  generalize hx0:z.getD k 0=x at *
  generalize hy0:C.getD k 0=y at *
  refine U3 gx hu0 hP ⟨_,_,rfl,?_⟩
  refine U3 gy hv0 hQ ⟨_,_,rfl,?_⟩
  refine U3 gy hv1 hR ⟨_,_,rfl,?_⟩
  refine U3 gx hu1 hT ⟨_,_,rfl,?_⟩
  have bP:=Ml gx hu0 hP
  have bQ:=Ml gy hv0 hQ
  have bR:=Ml gy hv1 hR
  have bT:=Ml gx hu1 hT
  have mP:=Eo (x*u0+b)
  have mQ:=Eo (y*v0+c)
  have mR:=Eo (y*v1+d)
  have mT:=Eo (x*u1+f)
  have kP:=A1i (x*u0+b)
  have kQ:=A1i (y*v0+c)
  have kR:=A1i (y*v1+d)
  have kT:=A1i (x*u1+f)
  have ek:C4 ((k:Int)+1)=((k+1:Nat):Int):=by rw [C1 o o];omega
  rw [ek]
  generalize (x*u0+b)/18446744073709551616=cP2 at *
  generalize (y*v0+c)/18446744073709551616=cQ2 at *
  generalize (y*v1+d)/18446744073709551616=cR2 at *
  generalize (x*u1+f)/18446744073709551616=cT2 at *
  generalize (x*u0+b)%18446744073709551616=p at *
  generalize (y*v0+c)%18446744073709551616=q at *
  generalize (y*v1+d)%18446744073709551616=r at *
  generalize (x*u1+f)%18446744073709551616=t at *
  have w:b64^(k+1)=b64^k*18446744073709551616:=bC _ _
  cases odd with
  | true=>
   refine Br.of (fun _=>?_) (fun e=>by cases e)
   refine Fl mP mQ j ⟨_,_,rfl,aA,hA,o,o,O.storeN (i:=k) F8 hA o ?_⟩
   intro h2 w2
   refine Fl mR mT D ⟨_,_,rfl,aB,hB,o,o,?_⟩
   obtain ⟨g3,G,N⟩:=w2.swap S
   refine G.storeN (i:=k) F8 hB o ?_
   intro h4 w4
   obtain ⟨g5,H,M⟩:=w4.swap N
   refine ⟨⟨k+1,_,_,_,_,_,_,_,_,g5,rfl,o,by simpa using a,by simpa using m,R.set (Eo _),Q.set (Eo _),bP,bQ,bR,bT,by split<;>omega,by split<;>omega,H,M,?_,?_,?_,?_⟩,by simp only [iAt,aF,aH];omega⟩
   ·rw [E5 o];exact E7 F
   ·rw [E5 o];exact E7 L
   ·rw [D3 o,F3,aJ,aI o,w,vx,vy,<- u,<- s,n,Xj mP mQ j]
    simp only [Oq,if_true]
    grind
   ·rw [D3 o,F3,aJ,aI o,w,vx,vy,<- u,<- s,E,Xj mR mT D]
    simp only [Oo,if_true]
    grind
  | false=>
   refine Br.of (fun e=>by cases e) (fun _=>?_)
   refine Fl mQ mP j ⟨_,_,rfl,aA,hA,o,o,O.storeN (i:=k) F8 hA o ?_⟩
   intro h2 w2
   refine Fl mT mR D ⟨_,_,rfl,aB,hB,o,o,?_⟩
   obtain ⟨g3,G,N⟩:=w2.swap S
   refine G.storeN (i:=k) F8 hB o ?_
   intro h4 w4
   obtain ⟨g5,H,M⟩:=w4.swap N
   refine ⟨⟨k+1,_,_,_,_,_,_,_,_,g5,rfl,o,by simpa using a,by simpa using m,R.set (Eo _),Q.set (Eo _),bP,bQ,bR,bT,by split<;>omega,by split<;>omega,H,M,?_,?_,?_,?_⟩,by simp only [iAt,aF,aH];omega⟩
   ·rw [E5 o];exact E7 F
   ·rw [E5 o];exact E7 L
   ·rw [D3 o,F3,aJ,aI o,w,vx,vy,<- u,<- s,n,Xj mQ mP j]
    simp only [Oq,Bool.false_eq_true,if_false]
    grind
   ·rw [D3 o,F3,aJ,aI o,w,vx,vy,<- u,<- s,E,Xj mT mR D]
    simp only [Oo,Bool.false_eq_true,if_false]
    grind
 ·obtain rfl:k=us.length:=o
  rw [aN (show z.length<=us.length from o),bN,aN (show bs.length<=us.length from o)] at n
  rw [aN (show C.length<=us.length from o),bN,aN (show bs.length<=us.length from o)] at E
  have bx:=L9 dc R
  have T:=L9 dc Q
  rw [a] at bx
  rw [m] at T
  exact hK z C hp g1 a m R Q (pin n ⟨D0 dc R,bx⟩ hX0) (pin E ⟨D0 dc Q,T⟩ hX1) O S
end
def Win.priv{k:cT}{h g:bF}{b m c:Nat}{e:cD}{A:Option bK}{xs:List Int}{post:List eD}(w:Win k h g b e A [] xs post)(hx:xs≠[])(hc:c=xs.length+post.length)(hm:m<=xs.length):fK h g e 1 A m c ((xs.take m).map (bL k)):=by
 refine ⟨gz0,o,.inr ⟨b,xs.map (bL k)++post,?_,w.free,?_,gz0,?_⟩⟩
 ·rcases w.at_ with a|a
  ·grind
  omega
 ·have:=w.eq
  assumption
 ·rw [Nat.mul_one,List.take_append_of_le_length gz0,List.map_take]
def Ff{k:cT}{h g:bF}{n c:Nat}{e:cD}{A:Option bK}{xs:List Int}(p:fK h g e 1 A n c (xs.map (bL k)))(hx:xs≠[]):∃ b post,Win k h g b e A [] xs post/\c=xs.length+post.length:=by
 obtain ⟨q,l,f⟩:=p
 rcases f with ⟨r,rfl⟩|⟨b,a,j,i,rfl,m,d⟩
 ·simp_all
 ·refine ⟨b,a.drop (n*1),⟨i,?_,.inr j⟩,?_⟩
  ·rw [cF,<- d,cH]
  grind
def Priv.swap{h g1 g:bF}{e e':cD}{s s' n c m d:Nat}{A B:Option bK}{xs ys:List eD}(pa:fK h g1 e s A n c xs)(pb:fK g1 g e' s' B m d ys):∃ g2,fK h g2 e' s' B m d ys/\fK g2 g e s A n c xs:=by
 obtain ⟨q,r,C⟩:=pa
 obtain ⟨j,p,u⟩:=pb
 rcases C with ⟨F,rfl⟩|⟨i,f,w,a,rfl,y⟩
 ·exact ⟨g,⟨j,p,u⟩,⟨q,r,.inl ⟨F,rfl⟩⟩⟩
 ·rcases u with ⟨z,rfl⟩|⟨t,l,E,k,rfl,D⟩
  ·exact ⟨_,⟨j,p,.inl ⟨z,rfl⟩⟩,⟨q,r,.inr ⟨i,f,w,a,rfl,y⟩⟩⟩
  ·have b:i≠t:=by
    rintro rfl
    rw [C3] at a;cases a
   rw [B9 _ _ b] at a
   refine ⟨g.put i (.cells f.toArray e),⟨j,p,.inr ⟨t,l,E,?_,Heap.put_comm _ _ _ b.symm,D⟩⟩,⟨q,r,.inr ⟨i,f,w,a,rfl,y⟩⟩⟩
   rw [B9 _ _ b.symm];exact k
abbrev Pw(h g:bF)(A:Option bK)(n c:Nat)(us:List Int):Prop:=fK h g 195 1 A n c (us.map (bL .u64))
def GI(h:bF)(G:Nat)(hp:bF)(A:Option bK)(n c:Nat)(B:Option bK)(m d:Nat):Prop:=∃ (us vs:List Int) (g1 g:bF),h.le g/\Pw hp g1 A n c us/\Pw g1 g B m d vs/\Dig b64 us/\Dig b64 vs/\fQ us/\fQ vs/\n=us.length/\m=vs.length/\val b64 vs<=val b64 us/\eM (val b64 us) (val b64 vs)=G/\us.length<=100000000
def B0r{a b:Int}(ha:0<=a)(hb:0<=b):eM b (a%b)=eM a b:=by
 obtain ⟨x,rfl⟩:=cO ha
 obtain ⟨y,rfl⟩:=cO hb
 rw [<- Int.natCast_emod,cN,cN,fV x,fV y,<- Nat.gcd_rec]
section
variable {h g:bF} {K:VP} {A B:Option bK} {ac bc:Nat}
set_option maxHeartbeats 1000000 in
def B3o{G an bn:Nat}{hp:bF}(gl:Gtz h)(gi:GI h G hp A an ac B bn bc)(hK:∀ A' m c' h',h.le h'->m<=c'->Mw h' A' m (G:Int)->K (.slice A' m c') h'):Kj prog K A an ac B bn bc hp:=by
 unfold Kj
 refine ⟨fun l hp=>∃ (A B:Option bK) (n c m d:Nat),l=[.slice A n c,.slice B m d]/\GI h G hp A n c B m d,fun l hp=>match l with|[_,.slice B n _]=>B0e b64 hp B n|_=>0,⟨_,_,_,_,_,_,rfl,gi⟩,?_⟩
 rintro A1 n1 c1 B1 m1 d1 hp ⟨A,B,n,c,m,d,hl,s,k,g1,g,lg,S,pb,du,dv,nu,nv,hn,X,W,a,bt⟩
 simp only [cG,cP,and_true] at hl
 obtain ⟨⟨rfl,rfl,rfl⟩,rfl,rfl,rfl⟩:=hl
 have Ma:Mw hp A1 n1 (val b64 s):=⟨s,hn,S.slV,du,nu,rfl⟩
 have Mb:Mw hp B1 m1 (val b64 k):=⟨k,X,SlV.mono S.le pb.slV,dv,nv,rfl⟩
 have aa:=S.2.1
 have a8:=pb.2.1
 have N:=D0 dc du
 have bg:=D0 dc dv
 have a2:m1<=n1:=Mb.len_le dc (cC W (Ma.lt dc))
 have V:h.le hp:=B0 lg (B0 pb.le S.le)
 have aw:=Mb.len_zero dc
 refine C0 (fun h1=>?_) (fun h1=>?_)
 ·refine Xl Ma Mb W o o ?_
  intro u0 u1 v0 v1 bp st
  refine ⟨_,_,_,_,_,rfl,D5 (fun e=>?_) (fun e=>?_)⟩
  ·refine U5 Ma Mb aa a8 o o o ?_
   intro A2 m2 c2 A3 m3 c3 h6 l6 q k3 M2 M3
   refine ⟨_,_,_,_,_,_,rfl,?_⟩
   have bu:m3<=m1:=M3.len_le dc (by have:=aK (val b64 s) (show 0<val b64 k from o);have:=Mb.lt dc;omega)
   obtain ⟨ws,bd,a3,O,ar,a6⟩:=M3
   refine Ew a3 bd o ?_
   intro A4 c4 h7 g7 l7 p7
   obtain ⟨g2,R,H⟩:=S.swap pb
   obtain ⟨g8,l8,a1⟩:=R.after (B0 l6 l7)
   obtain ⟨g9,av,a7⟩:=Priv.swap p7 a1
   have bm:=aK (val b64 s) (show 0<val b64 k from o)
   have Mn:Mw h7 A4 ws.length (val b64 ws):=⟨ws,rfl,p7.slV,O,ar,rfl⟩
   refine ⟨_,_,_,rfl,⟨_,_,_,_,_,_,rfl,k,ws,g9,g8,B0 lg (B0 H.le l8),av,a7,dv,O,nv,ar,X,rfl,o,?_,o⟩,?_⟩
   ·rw [a6,B0r N bg];exact a
   ·simp only [Be Mn,Be Mb]
    have:=D0 dc O
    omega
  ·obtain ⟨ag,ap,al,am,lh⟩:=st
   have lh:=lh e
   unfold Qc
   obtain ⟨g2,R,H⟩:=S.swap pb
   refine ⟨fun l hp=>∃ (B:Option bK) (m d j:Nat) (g1 g:bF),l=[.slice B m d]/\h.le g/\Pw hp g1 B m d (k++aE j 0)/\Pw g1 g A1 n1 c1 s/\m=k.length+j/\m<=n1,fun l _=>match l with|[.slice _ m _]=>n1-m|_=>0,⟨B1,m1,d1,0,g2,g,rfl,lg,by simpa using R,H,o,a2⟩,?_⟩
   rintro B2 m2 d2 br ⟨B',m',d',j,g3,g4,ak,ad,ai,au,bo,bh⟩
   simp only [cG,cP,and_true] at ak
   obtain ⟨rfl,rfl,rfl⟩:=ak
   refine C0 (fun h2=>?_) (fun h2=>?_)
   ·refine Dl R8 ai rfl rfl o o ?_
    intro A5 c5 h5 g5 l5 p5
    obtain ⟨g6,l6,be⟩:=au.after l5
    refine ⟨⟨A5,m2+1,c5,j+1,g5,g6,rfl,B0 ad l6,?_,be,o,o⟩,by simp only;omega⟩
    have p6:=p5
    rw [<- List.map_singleton (f:=bL .u64),<- fD,bY,<- List.replicate_succ'] at p6
    exact p6
   ·obtain ⟨g5,az,a5⟩:=ai.swap au
    have z:(k++aE j (0:Int)).length=s.length:=by simp;omega
    have i:s≠[]:=by rintro rfl;simp at hn;omega
    have aj:k++aE j (0:Int)≠[]:=by intro h0;rw [h0] at z;simp at z;exact i (aZ z.symm)
    obtain ⟨ba,qa,wa,bl⟩:=Ff az i
    obtain ⟨bb,qb,wb,bq⟩:=Ff a5 aj
    have ay:=lh.gcd
    have bi:=lh.ord
    have a4:=lh.le
    have bj:val b64 k<b64^s.length:=by rw [<- hn];exact cC W (Ma.lt dc)
    refine A7z wa wb hn o z.symm du (dv.append (I5 dc _)) o ag ap al am (by rw [Cr];omega) (by rw [Cr];omega) ?_
    intro y p h6 g6 C D ax ae T u L ah
    rw [Cr] at T u
    have E:y≠[]:=by rintro rfl;simp at C;exact i (aZ C.symm)
    have F:p≠[]:=by rintro rfl;simp at D;exact i (aZ D.symm)
    refine ⟨rfl,?_⟩
    rw [show n1=y.length from o]
    refine Dz L.sl o o ?_
    intro k1 a9 bf af
    refine ⟨_,_,_,rfl,?_⟩
    rw [show m2=p.length from o]
    refine Dz (SlV.mono L.le ah.sl) o o ?_
    intro q a0 aq M
    have pA:=L.priv (m:=k1) (c:=c1) E o a9
    have pB:=ah.priv (m:=q) (c:=d2) F o a0
    have e1:(y.take k1).length=k1:=by rw [aJ];omega
    have e2:(p.take q).length=q:=by rw [aJ];omega
    have Mn:Mw h6 B2 q (val b64 (p.take q)):=⟨p.take q,e2.symm,SlV.mono pA.le pB.slV,ae.take _,aq,rfl⟩
    refine ⟨_,_,_,rfl,⟨_,_,_,_,_,_,rfl,y.take k1,p.take q,_,_,ad,pA,pB,ax.take _,ae.take _,bf,aq,e1.symm,e2.symm,?_,?_,o⟩,?_⟩
    ·rw [af,M,T,u];omega
    ·rw [af,M,T,u,ay];exact a
    ·simp only [Be Mn,Be Mb]
     rw [M,u];omega
 ·refine D5 (fun h2=>?_) (fun h2=>?_)
  ·have h0:val b64 k=0:=aw.2 o
   rw [h0,Int.gcd_zero_right] at a
   refine hK _ _ _ _ V aa ?_
   rw [<- a,Int.natAbs_of_nonneg N];exact Ma
  ·have bv:m1=1:=o
   obtain ⟨w,rfl⟩:∃ w,k=[w]:=by
    rcases k with _|⟨w,_|⟨w',r⟩⟩
    ·simp at X;omega
    ·exact ⟨w,rfl⟩
    ·simp at X;omega
   have hw:=dv w (by simp)
   rw [Z1] at *
   obtain ⟨t,rfl⟩:∃ t:Nat,w=(t:Int):=cO hw.1
   have bk:(t:Int)<18446744073709551616:=hw.2
   have ao:0<t:=o
   have sb:SlI .u64 hp B1 [(t:Int)]:=SlV.mono S.le pb.slV
   refine sb.load X o o ?_
   refine sb.load X o o ?_
   show aW _ _ #[_,U ((t:Nat):Int)] _ _
   refine Ln Ma ⟨ao,o⟩ o ⟨_,rfl,B7 _,?_⟩
   have r0:=aP (val b64 s) (b:=(t:Int)) o
   have r1:=aK (val b64 s) (show (0:Int)<(t:Int) from o)
   have Q:=B0r N (show (0:Int)<=(t:Int) from o)
   obtain ⟨r,hr⟩:=cO r0
   rw [hr] at r1 Q ⊢
   show aW _ _ #[U ((t:Nat):Int),_] _ _
   refine A1r (gl.mono V) o o ⟨_,rfl,B7 _,?_⟩
   rw [cN] at Q
   have a4:cU t r<=t:=Nat.le_of_dvd ao (Nat.gcd_dvd_left t r)
   refine Bo o ?_
   intro A2 m2 c2 h2 l2 q M2
   rw [Q,a] at M2
   exact ⟨_,_,_,rfl,l2,hK _ _ _ _ (B0 V l2) q M2⟩
def Ms{x y:Int}{an bn:Nat}(gl:Gtz h)(ma:Mw h A an x)(mb:Mw h B bn y)(ha:an<=ac)(hb:bn<=bc)(hl:an<=100000000)(hl2:bn<=100000000)(hK:∀ A' m c' h',h.le h'->m<=c'->Mw h' A' m (eM x y:Int)->K (.slice A' m c') h'):aW prog 189 #[.slice A an ac,.slice B bn bc] h K:=by
 refine A2k _ _ _ _ _ _ ?_
 refine ⟨fun l r=>r=h/\∃ (A B:Option bK) (n c m d:Nat) (e a:Int),l=[.slice A n c,.slice B m d]/\Mw h A n e/\Mw h B m a/\a<=e/\n<=c/\m<=d/\n<=100000000/\m<=100000000/\eM e a=eM x y,?_,?_⟩
 ·refine J1 ma mb o ⟨_,rfl,C0 (fun b=>?_) (fun b=>?_)⟩
  ·rw [Dc] at b
   exact ⟨rfl,_,_,_,_,_,_,_,_,rfl,mb,ma,o,hb,ha,hl2,hl,Int.gcd_comm _ _⟩
  ·rw [Dc] at b
   grind
 ·rintro A1 n1 c1 B1 V R r ⟨rfl,A2,B2,n,c,m,d,e,a,j,M1,M2,i,s,W,X,l2,p⟩
  obtain ⟨⟨rfl,rfl,rfl⟩,rfl,rfl,rfl⟩:=j
  refine D5 (fun b=>?_) (fun b=>?_)
  ·have:a=0:=(M2.len_zero dc).2 o
   subst this
   rw [Int.gcd_zero_right] at p
   refine hK _ _ _ _ (B7 _) s ?_
   grind
  ·obtain ⟨N,g,z,du,H,rfl⟩:=M1
   obtain ⟨E,f,L,C,nv,rfl⟩:=M2
   refine Ew z g o ?_
   intro A3 c3 T g3 q k
   refine ⟨_,_,_,rfl,?_⟩
   refine Ew (SlV.mono (B0 q k.le) L) f o ?_
   intro A4 c4 Q S G u
   refine ⟨_,_,_,rfl,?_⟩
   obtain ⟨M,D,t⟩:=k.after G
   obtain ⟨w,O,F⟩:=Priv.swap u t
   exact B3o gl ⟨N,E,w,M,B0 q D,O,F,du,C,H,nv,rfl,rfl,i,p,o⟩ hK
end
structure ZI (h:bF) (s:Bool) (A:Option bK) (n c:Nat) (z:Int):Prop where
 cap:n<=c
 mag:Mw h A n (z.natAbs:Int)
 sgn:s=decide (z<0)
def ZI.mono{h h':bF}{s:Bool}{A:Option bK}{n c:Nat}{z:Int}(i:ZI h s A n c z)(l:h.le h'):ZI h' s A n c z:=⟨i.cap,i.mag.mono l,i.sgn⟩
def ZI.zero{h:bF}{A:Option bK}:ZI h false A 0 0 0:=⟨aV _,Mag.zero,rfl⟩
def ZI.len{h:bF}{s:Bool}{A:Option bK}{n c m:Nat}{z:Int}(i:ZI h s A n c z)(hz:ZB m z)(hm:m<=6400000000):n<=100000000:=by
 obtain ⟨k,hk⟩:∃ k,k=100000000:=⟨_,rfl⟩
 rw [<- hk]
 refine i.mag.len_le dc ?_
 rw [Jw]
 have a:(z.natAbs:Int)<2^m:=by
  have:((z.natAbs:Nat):Int)<((2^m:Nat):Int):=Int.ofNat_lt.2 hz
  simpa using this
 have b:=D8 (B:=2) dc (show m<=64*k from o)
 exact Int.lt_of_lt_of_le a b
def ZI.zeroIff{h:bF}{s:Bool}{A:Option bK}{n c:Nat}{z:Int}(i:ZI h s A n c z):z=0↔n=0:=by
 have:=i.mag.len_zero dc
 omega
section
variable {h g:bF} {K:VP} {A B:Option bK} {s s':Bool} {an ac bn bc m:Nat} {x y:Int}
def O1{v:Nat}{n c:Nat}{neg:Bool}(M:Mw h A n (v:Int))(hc:n<=c)(hK:∀ s,ZI h s A n c (if neg then -(v:Int) else v)->K (.agg #[.bool s,.slice A n c]) h):aW prog 263 #[.bool neg,.slice A n c] h K:=by
 have a:=M.len_zero dc
 refine (fnk func263 (own:=[4])) ?_
 cases neg with
 | true=>
  refine Br.of (fun _=>hK _ ⟨hc,?_,?_⟩) (fun e=>by cases e)
  ·simpa using M
  ·simp only [if_true,decide_eq_decide];omega
 | false=>
  refine Br.of (fun e=>by cases e) (fun _=>hK _ ⟨hc,?_,?_⟩)
  ·simpa using M
  ·simp
def Bz(i:ZI h s A an ac x)(hK:∀ s',ZI h s' A an ac (-x)->K (.agg #[.bool s',.slice A an ac]) h):aW prog 250 #[.agg #[.bool s,.slice A an ac]] h K:=by
 refine (fnk func250 (own:=[1,2])) ?_
 refine O1 (neg:= !s) i.mag i.cap ?_
 intro c a
 have e:(if (!s)=true then -(x.natAbs:Int) else x.natAbs)= -x:=by
  have:=i.sgn
  by_cases b:x<0
  ·simp only [b,decide_true] at this;subst this;simp;omega
  ·simp only [b,decide_false] at this;subst this;simp;omega
 rw [e] at a
 exact ⟨_,_,_,_,rfl,hK _ a⟩
def Ko(i:ZI h s A an ac x)(j:ZI h s' B bn bc y)(hx:ZB m x)(hy:ZB m y)(hm:m<=6400000000)(hK:∀ s1 A' n' c' h',h.le h'->ZI h' s1 A' n' c' (x+y)->K (.agg #[.bool s1,.slice A' n' c']) h'):aW prog 217 #[.agg #[.bool s,.slice A an ac],.agg #[.bool s',.slice B bn bc]] h K:=by
 have q:=i.len hx hm
 have r:=j.len hy hm
 have f:=i.sgn
 have a:=j.sgn
 refine (fnk func217 (own:=[2,3,4])) ?_
 refine Br.of (fun e=>?_) (fun e=>?_)
 ·have e:s=s':=by simpa using e
  subst e
  refine T6 i.mag j.mag i.cap j.cap o o ?_
  intro A1 p c1 b d g M1
  refine ⟨_,_,_,rfl,d,?_⟩
  rw [<- fG] at M1
  refine O1 (neg:=s) M1 g ?_
  intro s1 c
  refine ⟨_,_,_,_,rfl,B7 _,hK _ _ _ _ _ d ?_⟩
  have l:(if s=true then -((x.natAbs+y.natAbs:Nat):Int) else ((x.natAbs+y.natAbs:Nat):Int))=x+y:=by
   cases s with
   | true=>have b:=of_decide_eq_true f.symm;have k:=of_decide_eq_true a.symm;simp;omega
   | false=>have b:=of_decide_eq_false f.symm;have k:=of_decide_eq_false a.symm;simp;omega
  rw [l] at c
  exact c
 ·have e:s≠s':=by simpa using e
  refine J1 i.mag j.mag o ⟨_,rfl,C0 (fun b=>?_) (fun b=>?_)⟩
  ·have n:¬ (x.natAbs:Int)<y.natAbs:=by rw [<- Dc];omega
   refine H8 i.mag j.mag i.cap o o ?_
   intro A1 p c1 b d g M1
   refine ⟨_,_,_,rfl,d,?_⟩
   rw [show (x.natAbs:Int)-y.natAbs=((x.natAbs-y.natAbs:Nat):Int) from o] at M1
   refine O1 (neg:=s) M1 g ?_
   intro s1 c
   refine ⟨_,_,_,_,rfl,B7 _,hK _ _ _ _ _ d ?_⟩
   have l:(if s=true then -((x.natAbs-y.natAbs:Nat):Int) else ((x.natAbs-y.natAbs:Nat):Int))=x+y:=by
    cases s with
    | true=>cases s' with
     | true=>exact absurd rfl e
     | false=>have b:=of_decide_eq_true f.symm;have k:=of_decide_eq_false a.symm;rw [iP rfl];omega
    | false=>cases s' with
     | true=>have b:=of_decide_eq_false f.symm;have k:=of_decide_eq_true a.symm;rw [iN (by simp)];omega
     | false=>exact absurd rfl e
   rw [l] at c
   exact c
  ·have n:(x.natAbs:Int)<y.natAbs:=by rw [<- Dc];omega
   refine H8 j.mag i.mag j.cap o o ?_
   intro A1 p c1 b d g M1
   refine ⟨_,_,_,rfl,d,?_⟩
   rw [show (y.natAbs:Int)-x.natAbs=((y.natAbs-x.natAbs:Nat):Int) from o] at M1
   refine O1 (neg:=s') M1 g ?_
   intro s1 c
   refine ⟨_,_,_,_,rfl,B7 _,hK _ _ _ _ _ d ?_⟩
   have l:(if s'=true then -((y.natAbs-x.natAbs:Nat):Int) else ((y.natAbs-x.natAbs:Nat):Int))=x+y:=by
    cases s with
    | true=>cases s' with
     | true=>exact absurd rfl e
     | false=>have b:=of_decide_eq_true f.symm;have k:=of_decide_eq_false a.symm;rw [iN (by simp)];omega
    | false=>cases s' with
     | true=>have b:=of_decide_eq_false f.symm;have k:=of_decide_eq_true a.symm;rw [iP rfl];omega
     | false=>exact absurd rfl e
   rw [l] at c
   exact c
def O8(i:ZI h s A an ac x)(j:ZI h s' B bn bc y)(hx:ZB m x)(hy:ZB m y)(hm:m<=6400000000)(hK:∀ s1 A' n' c' h',h.le h'->ZI h' s1 A' n' c' (x*y)->K (.agg #[.bool s1,.slice A' n' c']) h'):aW prog 218 #[.agg #[.bool s,.slice A an ac],.agg #[.bool s',.slice B bn bc]] h K:=by
 have k:=i.len hx hm
 have n:=j.len hy hm
 have b:=i.sgn
 have a:=j.sgn
 refine (fnk func218 (own:=[2,3,4])) ?_
 refine I0 i.mag j.mag i.cap j.cap o o ?_
 intro A1 l c1 g d e M1
 refine ⟨_,_,_,rfl,d,?_⟩
 rw [<- bU] at M1
 refine O1 (neg:= !(s==s')) M1 e ?_
 intro s1 c
 refine ⟨_,_,_,_,rfl,B7 _,hK _ _ _ _ _ d ?_⟩
 have f:(if (!(s==s'))=true then -((x.natAbs*y.natAbs:Nat):Int) else ((x.natAbs*y.natAbs:Nat):Int))=x*y:=by
  rw [bU]
  cases s with
  | true=>cases s' with
   | true=>rw [show (x.natAbs:Int)= -x by have:=of_decide_eq_true b.symm;omega,show (y.natAbs:Int)= -y by have:=of_decide_eq_true a.symm;omega];show -x * -y=x*y;exact Int.neg_mul_neg x y
   | false=>rw [show (x.natAbs:Int)= -x by have:=of_decide_eq_true b.symm;omega,show (y.natAbs:Int)=y by have:=of_decide_eq_false a.symm;omega];show -(-x*y)=x*y;rw [Int.neg_mul,Int.neg_neg]
  | false=>cases s' with
   | true=>rw [show (x.natAbs:Int)=x by have:=of_decide_eq_false b.symm;omega,show (y.natAbs:Int)= -y by have:=of_decide_eq_true a.symm;omega];show -(x * -y)=x*y;rw [Int.mul_neg,Int.neg_neg]
   | false=>rw [show (x.natAbs:Int)=x by have:=of_decide_eq_false b.symm;omega,show (y.natAbs:Int)=y by have:=of_decide_eq_false a.symm;omega];rfl
 rw [f] at c
 exact c
def Ca(gl:Gtz h)(i:ZI h s A an ac x)(j:ZI h s' B bn bc y)(hx:ZB m x)(hy:ZB m y)(hm:m<=6400000000)(hK:∀ A' n' c' h',h.le h'->ZI h' false A' n' c' (eM x y:Int)->K (.agg #[.bool false,.slice A' n' c']) h'):aW prog 142 #[.agg #[.bool s,.slice A an ac],.agg #[.bool s',.slice B bn bc]] h K:=by
 have c:=i.len hx hm
 have d:=j.len hy hm
 refine (fnk func142 (own:=[2,3,4])) ?_
 refine Ms gl i.mag j.mag i.cap j.cap c d ?_
 intro A1 f c1 e b a M1
 refine ⟨_,_,_,rfl,hK _ _ _ _ b ⟨a,?_,?_⟩⟩
 ·rw [cN] at M1
  rw [dG]
  exact M1
 ·simp
def Nt(i:ZI h s A an ac x)(hK:K (I (Int.sign x)) h):aW prog 249 #[.agg #[.bool s,.slice A an ac]] h K:=by
 have c:=i.zeroIff
 have b:=i.sgn
 refine (fnk func249 (own:=[1])) ?_
 refine D5 (fun e=>?_) (fun e=>?_)
 ·obtain rfl:x=0:=o
  simpa using hK
 ·refine Br.of (fun a=>?_) (fun a=>?_)
  ·subst a
   have:=of_decide_eq_true b.symm
   rw [Int.sign_eq_neg_one_of_neg this] at hK;exact hK
  ·subst a
   have:=of_decide_eq_false b.symm
   rw [Int.sign_eq_one_of_pos o] at hK;exact hK
end
