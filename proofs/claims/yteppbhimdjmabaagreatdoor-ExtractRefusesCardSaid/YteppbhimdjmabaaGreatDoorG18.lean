/- A part. -/
import Derived.Test.YteppbhimdjmabaaGreatDoorG16
import Derived.Test.YteppbhimdjmabaaGreatDoorG17
import Derived.Test.YteppbhimdjmabaaGreatDoorG10
open Go.Proofs.Tryz
set_option linter.all false
open _root_.Go.Addr renaming add->fL
open _root_.Go.Builtin renaming copy_->dX
open _root_.Go.Extern.MathBitsCarry renaming m64->aS,pair->fV
open _root_.Go.Instr renaming storeAt->dV
open Int renaming toNat_natCast->aC,mul_le_mul_of_nonneg_right->aE,mul_le_mul_of_nonneg_left->aI,emod_lt_of_pos->aM,mul_ediv_add_emod->aN,le_of_lt->aO,mul_nonneg->aQ,emod_nonneg->aR,pow_add->aU,mul_comm->aW,tdiv_eq_ediv_of_nonneg->aZ,ediv_lt_of_lt_mul->bC,pow_succ->bG,mul_lt_mul_of_pos_right->bH,ediv_eq_zero_of_lt->bK,pow_pos->bM,ediv_nonneg->bO,mul_lt_mul_of_pos_left->bX,lt_of_le_of_lt->cJ,natCast_mul->cN,tdiv->cP,zero_add->cR,eq_ofNat_of_zero_le->cX,mul_assoc->dF,mul_add->dI,tmod_eq_emod_of_nonneg->dL,natAbs_natCast->dM,mul_le_mul->dN,fdiv->dO,gcd_natCast_natCast->dZ,ediv_le_self->eC,ediv_ediv_of_nonneg->eD,zero_mul->eF,add_mul_ediv_right->eI,add_mul_ediv_left->eU,mul_ediv_cancel->fD,mul_zero->fG,gcd->fH,emod_eq_of_lt->fI,add_zero->fJ,add_comm->fK,add_mul_emod_self_right->fT,zero_emod->fZ,pow_zero->gL
open List renaming replicate->aF,getElem?_cons_zero->aH,getElem?_cons_succ->aJ,length_take->aL,take_of_length_le->aP,length_append->aT,drop_of_length_le->aV,eq_nil_of_length_eq_zero->bF,drop_replicate->bL,take_length->bZ,length_replicate->cD,append_nil->cF,append_assoc->cH,length_drop->cI,nil_append->cL,take_append_drop->cO,drop_eq_getElem_cons->cT,take_replicate->cV,drop_drop->cZ,replicate_append_replicate->dB,drop_append_of_le_length->dH,take_left'->dJ,drop_zero->dK,getElem?_eq_getElem->dU,length_set->eM,length_singleton->eO,getElem?_eq_none->eR,take_succ_eq_append_getElem->fF,getD->fN,drop_append->fO,map_append->fQ,length_map->fR,drop_left'->fS,take_add->fY
open List.cons renaming injEq->cM
open Nat renaming min_eq_left->aK,le_refl->aY,pow_le_pow_right->bJ,lt_of_lt_of_le->bY,sub_zero->cC,pow_le_pow_left->cU,lt_of_le_of_lt->cW,gcd->dE,pow_pos->dG,one_mul->dP,add_mul->dR,mul_assoc->dT,pow_succ->eE,div_le_self->eJ,div_add_mod->eK,pow_add->fB,mul_le_mul_left->fC,add_zero->fE,min_eq_right->fM,mod_lt->fU,pow_lt_pow_iff_right->fX,mul_div_cancel_left->gC,add_sub_cancel_left->gD,zero_mul->gF,mul_comm->gG,le_mul_of_pos_left->gH,gcd_sub_self_right->gI,gcd_comm->gJ,div_div_eq_div_mul->gK
open Nat.Coprime renaming gcd_mul_left_cancel_right->cQ
open _root_.Go.Value renaming int->bU
open _root_.Go.Value.int renaming injEq->fP
open _root_.Go.Value.slice renaming injEq->cY
open _root_ renaming Nat->J,Int->Z,List->Y
open _root_.Go renaming Addr->bN,TypeId->cK,IntKind->dC,Program->dY,Value->eZ
open _root_.Go.Proofs.YteppbhimdjmabaaGreatDoor renaming FCall->aX,Heap->bI,Priv->fW,Norm->gE
namespace Go.Proofs.YteppbhimdjmabaaGreatDoor
set_option maxRecDepth 20000
open Go
def Dk:prog.underlying 5=some (.int .u8):=by kernel_rfl
def Y9:prog.underlying 9=some .string:=by kernel_rfl
def pv:Y J->J
 | []=>0
 |d::r=>d+1000000000*pv r
def C0v(ps:Y J)(d:J):pv (ps++[d])=pv ps+10^(9*ps.length)*d:=by
 induction ps with
 |nil=>simp[pv]
 |cons p ps ih=>
  simp only[List.cons_append,pv,ih,List.length_cons];grind
def B00(ps:Y J)(k:J):pv (ps.drop k)<=pv ps:=by
 induction ps generalizing k with
 |nil=>simp
 |cons p ps ih=>
  cases k with
  |zero=>simp
  |succ k=>have:=ih k;simp only[List.drop_succ_cons,pv];omega
def C0w{ps:Y J}{k:J}(h:k<ps.length):pv (ps.drop k)=ps[k]+1000000000*pv (ps.drop (k+1)):=by rw[cT h];rfl
def pw(e:J):J:=if e=0 then 0 else 10^(e-1)
def A1a(e:J):pw (e+1)=10^e:=by simp[pw]
def B2m(e:J):pw (e+1)/10=pw e:=by
 rw[A1a]
 cases e with
 |zero=>simp[pw]
 |succ e=>rw[A1a,eE,Nat.mul_div_cancel _ dc]
def C1w(V d:J)(hd:d<10):dd (10*V+d)=if V≠0\/d≠0 then dd V++[dch d]else dd V:=by by_cases h:10*V+d=0;{grind};·rw[iP o,Fz h,show(10*V+d)/10=V from o,show(10*V+d)%10=d from o]
def B0v(n:J):(dd n).length=0↔n=0:=by constructor;{intro h;by_cases a:n=0;{exact a};·exact absurd (bF h) (B7o a)};·rintro rfl;rw[Q7];rfl
section
variable {h h':bI} {K:VP} {A B:Option bN} {n c n' c':J} {s s':Bool} {x y z:Z} {m:J} {p q:Rat} {a b w:QV}
def Td{D:J}(i:NI h s A n c z)(hz:ZB m z)(hm:m<=575000000000000)(hD:z.natAbs<10^D)(hD2:D<=140737488355232)(hK:K (.string (bs (T7 z.natAbs))) h):aX prog 186 #[.agg #[.bool s,.slice A n c]] h K:=by
 have h0:=i.zero_iff;have S:=i.len hz hm;refine FCall.pure ((fnk func186 [(5,[3,4],[],[.slice none 0 0,.slice none 0 0]),(11,[7,8],[],[.slice none 0 0,I 0]),(14,[7,9],[],[.slice none 0 0,U32 0])] (cs:=[(15,[7],[],[.slice none 0 0]),(18,[56],[],[.bool false])]) (own:=[1])) ?_);refine D4 (fun e=>?_) (fun e=>?_)
 ·have:z=0:=h0.1 o;subst this;exact⟨B8 h,hK⟩
 ·generalize hZ:z.natAbs=zq9 at *;have a6:zq9<2^m:=by rw[<- hZ];exact hz
  rw[Et (show zq9≠0 from o)]at hK;have r:=i.mag;rw[hZ]at r;refine⟨fun l p=>∃(ps:Y J) (X:J) (A B:Option bN) (c mn mc:J) (g:bI),l=[.slice A ps.length c,.slice B mn mc]/\h.le g/\fW p g 164 1 A ps.length c (ps.map fun(d:J)=>U32 (d:Z))/\Mg g B mn X/\mn<=18000000000000/\(∀d∈ps,d<1000000000)/\zq9=pv ps+10^(9*ps.length)*X/\29*ps.length<=m+29,fun l p=>match l with|[_,.slice B n _]=>B3b b32 p B n|_=>0,⟨[],zq9,none,A,0,n,c,h,rfl,B8 h,Priv.nil _ _ _ _,r,S,by simp,by simp[pv],by simp⟩,?_⟩
  rintro A1 n1 c1 B1 mn mc p ⟨ps,X,A1',B1',aq,ae,ak,g,hl,w,P1,M1,q1,ai,u,ax⟩;obtain⟨⟨rfl,rfl,rfl⟩,rfl,rfl,rfl⟩:(A1=A1'/\n1=ps.length/\c1=aq)/\B1=B1'/\mn=ae/\mc=ak:=gz0;have a3:=M1.len_zero dc;refine B9 (fun h1=>?_) (fun h1=>?_)
  ·have aw:29*ps.length<m:=by
    have h2:2^(29*ps.length)<=10^(9*ps.length):=by
     rw[Nat.pow_mul,Nat.pow_mul];exact cU dc _
    have h3:10^(9*ps.length)*1<=10^(9*ps.length)*X:=fC _ o;exact(fX (a:=2) dc).1 o
   refine P1.call ?_;refine Og M1 dc q1 ?_;intro A2 m2 c2 h2 l2 k2 k3 M2 h3 P3;refine⟨_,_,_,_,rfl,?_⟩;refine Fb Qr P3 rfl rfl o o ?_;intro A4 c4 L M l4 P4;have M4:Mg M A2 m2 ((X/1000000000:J):Z):=M2.mono l4;refine⟨⟨ps++[X%1000000000],X/1000000000,A4,A2,c4,m2,c2,M,by simp,B6 w (B6 l2 l4),gz0,M4,o,?_,?_,?_⟩,?_⟩;·grind
   ·rw[C0v,aT,eO,Nat.mul_add,fB,u,Nat.add_assoc,dT,<- Nat.mul_add,show 10^(9*1)=1000000000 from dc,Nat.mod_add_div]
   ·grind
   ·show B3b b32 L A2 m2<B3b b32 p B1 mn;rw[Cd (M4.mono P4.le),Cd (M1.mono P1.le)];omega
  ·have hX:X=0:=o;subst hX;rw[Nat.mul_zero,fE]at u;have am:SlV p A1 (ps.map fun(d:J)=>U32 (d:Z)):=P1.slV
   have av:∀V,V<=zq9->(dd V).length<=D:=by
    intro V hV;exact V6.2 (cW hV hD)
   have e1:C4 ((ps.length:Z)-1)=(ps.length:Z)-1:=C0 o o;rw[e1];refine⟨fun l L=>∃(k:J) (A:Option bN) (n c:J) (g:bI),l=[.slice A n c,I ((k:Z)-1)]/\k<=ps.length/\p.le g/\n=(dd (pv (ps.drop k))).length/\fW L g 5 1 A n c (yv (dd (pv (ps.drop k)))),fun l _=>(iAt l 1+1).toNat,⟨ps.length,none,0,0,p,rfl,aY _,B8 p,by simp[pv,Q7],by simpa[pv,Q7,yv]using Priv.nil _ _ _ _⟩,?_⟩;rintro A2 n2 c2 i2 L ⟨k,A2',W,af,M,a1,hk,lg,E,P2⟩;obtain⟨⟨rfl,rfl,rfl⟩,rfl⟩:(A2=A2'/\n2=W/\c2=af)/\i2=(k:Z)-1:=gz0;refine B9 (fun h2=>?_) (fun h2=>?_)
   ·obtain⟨j,rfl⟩:∃j,k=j+1:=⟨k-1,o⟩;have ej:((j+1:J):Z)-1=(j:Z):=o;rw[ej];have hj:j<ps.length:=o;have a0:=C0w hj;have an:ps[j]<1000000000:=ai _ (List.getElem_mem hj);have ay:=B00 ps j;refine⟨fun l H=>∃(e:J) (A:Option bN) (n c:J) (g:bI),l=[.slice A n c,U32 (pw e:Z)]/\e<=9/\p.le g/\n=(dd (pv (ps.drop (j+1))*10^(9-e)+ps[j]/10^e)).length/\fW H g 5 1 A n c (yv (dd (pv (ps.drop (j+1))*10^(9-e)+ps[j]/10^e))),fun l _=>(iAt l 1).toNat,⟨9,A2,n2,c2,M,rfl,o,lg,?_,?_⟩,?_⟩;·grind
    ·grind
    rintro A5 n5 c5 d H ⟨e,A5',aj,ah,g5,a5,he,t,y,P5⟩;obtain⟨⟨rfl,rfl,rfl⟩,rfl⟩:(A5=A5'/\n5=aj/\c5=ah)/\d=(pw e:Z):=gz0;generalize hV:pv (ps.drop (j+1))*10^(9-e)+ps[j]/10^e=V at *;refine B9 (fun F=>?_) (fun F=>?_)
    ·obtain⟨f,rfl⟩:∃f,e=f+1:=by
      cases e with
      |zero=>simp[pw]at F
      |succ f=>grind
     have al:pw (f+1)=10^f:=A1a f;have aa:0<10^f:=dG dc
     have az:10^f<=100000000:=by
      have:10^f<=10^8:=bJ dc o;omega
     have a4:pv (ps.drop (j+1))*10^(9-f)+ps[j]/10^f=10*V+ps[j]/10^f%10:=by
      rw[<- hV,show 9-f=(9-(f+1))+1 from o,eE,eE,<- gK,Nat.mul_add];grind
     have G:10*V+ps[j]/10^f%10<=zq9:=by
      have t1:10^(9-f)*10^f=1000000000:=by rw[<- fB,show 9-f+f=9 from o]
      have t2:10^(9-f)<=1000000000:=by rw[<- t1];exact Nat.le_mul_of_pos_right _ aa
      have t3:pv (ps.drop (j+1))*10^(9-f)<=pv (ps.drop (j+1))*1000000000:=fC _ t2;have t4:=eJ ps[j] (10^f);omega
     have ec:wu8 (J5 ((48:Z)+Int.tmod (J5 (cP (ps[j]:Z) ((pw (f+1):J):Z))) 10))=((48+ps[j]/10^f%10:J):Z):=by
      rw[al];have t1:cP (ps[j]:Z) ((10^f:J):Z)=((ps[j]/10^f:J):Z):=by rfl
      rw[t1];have t2:ps[j]/10^f<1000000000:=cW (eJ _ _) an;generalize ps[j]/10^f=D at t2 ⊢;rw[T5 (n:=(D:Z)) o o]
      have t3:Int.tmod (D:Z) 10=((D%10:J):Z):=by
       rfl
      rw[t3,T5 o o,Ys o o];omega
     have q:ps[j]/10^f%10<10:=fU _ dc;have C:SlV H A1 (ps.map fun(d:J)=>U32 (d:Z)):=am.mono (B6 t P5.le);refine⟨fun l F=>∃(A:Option bN) (n c:J) (g:bI),l=[.slice A n c]/\p.le g/\n=(dd (10*V+ps[j]/10^f%10)).length/\fW F g 5 1 A n c (yv (dd (10*V+ps[j]/10^f%10))),?_,?_⟩
     ·obtain⟨ad,T,ag⟩:=SlV.at C (i:=j) gz0;refine⟨ad,T,o,o,(ps[j]:Z),by simp_all,?_⟩;refine B9 (fun e0=>absurd e0 o) (fun _=>?_);rw[ec];have b:=C1w V (ps[j]/10^f%10) q;have ar:=B0v V;refine⟨fun l N=>l=[.bool (decide (V≠0\/ps[j]/10^f%10≠0))]/\N=H,B9 (fun N=>⟨?_,rfl⟩) (fun N=>⟨?_,rfl⟩),?_⟩;·grind
      ·have e2:∀D:J,(((48+D:J):Z) != 48)=decide (V≠0\/D≠0):=by
        grind
       rw[e2]
      rintro tb N ⟨a2,rfl⟩;obtain rfl:tb=decide (V≠0\/ps[j]/10^f%10≠0):=gz0;refine B9 (fun h8=>?_) (fun h8=>?_)
      ·rw[iP h8]at b;have Q:=av _ G;rw[b,aT,eO]at Q;refine Fb Fp P5 rfl rfl o o ?_;intro A9 c9 h9 g9 l9 P9;refine⟨A9,n5+1,c9,g9,rfl,B6 t l9,gz0,?_⟩;rw[b,Z9]
       have:yv [dch (ps[j]/10^f%10)]=[yq9 ((48+ps[j]/10^f%10:J):Z)]:=by
        simp only[yv,List.map_cons,List.map_nil,Ga q]
       grind
      grind
     ·rintro A9 n9 c9 h9 ⟨A9',au,R,g9,a7,ao,a8,P9⟩;obtain⟨rfl,rfl,rfl⟩:A9=A9'/\n9=au/\c9=R:=gz0
      have ed:J5 (cP ((pw (f+1):J):Z) 10)=((pw f:J):Z):=by
       have t1:cP ((pw (f+1):J):Z) 10=((pw (f+1)/10:J):Z):=by rfl
       rw[t1,B2m,T5 o (by have:=B2m f;omega)]
      rw[ed];refine⟨⟨f,A9,n9,c9,g9,rfl,o,ao,gz0,gz0⟩,?_⟩;simp only[iAt,aH,aJ,aC];have:=B2m f;omega
    ·have O:e=0:=by
      cases e with
      |zero=>rfl
      |succ f=>rw[A1a]at F;grind
     subst O;have ap:V=pv (ps.drop j):=o;rw[ap]at P5 y;rw[C0 o o];exact⟨⟨j,A5,n5,c5,g5,rfl,o,t,y,P5⟩,by simp only[iAt,aH,aJ];omega⟩
   ·have ac:k=0:=o;subst ac;rw[dK,<- u]at P2 E;refine Ki Fp.und Dk Y9 P2.slV E ?_;exact⟨_,rfl,B6 w (B6 P1.le (B6 lg P2.le)),hK⟩
end
def Zy(a:Array UInt8):({data:=a }:ByteArray)=bs a.toList:=by simp[bs]
def Dx{l:Y UInt8}(h:∀c∈l,I8 c):K9 l<2^(4*l.length):=by have a:=Ff h;have b:10^l.length<=16^l.length:=cU dc _;have d:16^l.length=2^(4*l.length):=by{rw[Nat.pow_mul]};omega
def B8t{h:bI}{A:Option bN}{n m:J}{X:J}(M:Mg h A n X)(hx:X<2^m)(hm:m<=575000000000000):n<=18000000000000:=by have:=B3i (j:=32) dc M (m:=m) gz0;omega
section
variable {h h':bI} {K:VP} {A B:Option bN} {n c n' c':J} {s s':Bool} {x y z:Z} {m:J} {p q:Rat} {a b w:QV} {l:Y UInt8}
def Jm(hl:l.length<=140737488351232)(hK:∀s A n c ok h',h.le h'->(ok=true->(∀c∈l,I8 c)/\l≠[]/\NI h' s A n c (K9 l))->(ok=false->¬((∀c∈l,I8 c)/\l≠[]))->K (.tuple #[.agg #[.bool s,.slice A n c],.bool ok]) h'):aX prog 187 #[.string (bs l)] h K:=by refine(fnk func187 [(3,[4,5],[(2,2)],[.slice none 0 0,I 0,.bool false,.slice none 0 0]),(6,[5,6,7,8],[(2,2)],[I 0,U32 0,U32 0,I 0,.bool false,.slice none 0 0])] (cs:=[(12,[5,6,7],[(2,2)],[I 0,U32 0,U32 0,.bool false,.slice none 0 0])]) (own:=[2])) ?_;simp only[J2];refine⟨fun L u=>∃(i:J) (A:Option bN) (n c:J),L=[.slice A n c,I i,.bool false,.slice none 0 0]/\i<=l.length/\h.le u/\(∀c∈l.take i,I8 c)/\Mg u A n (K9 (l.take i))/\n<=c,fun L _=>l.length-(iAt L 1).toNat,⟨0,none,0,0,rfl,o,B8 h,by simp,Mag.zero,aY _⟩,?_⟩;rintro A1 n1 c1 i1 V A2 n2 c2 u ⟨i,A1',ad,Q,hL,hi,ac,r,M,hc⟩;obtain⟨⟨rfl,rfl,rfl⟩,rfl,rfl,rfl,rfl,rfl⟩:(A1=A1'/\n1=ad/\c1=Q)/\i1=(i:Z)/\V=false/\A2=none/\n2=0/\c2=0:=gz0;refine B9 (fun h1=>?_) (fun h1=>?_);{refine⟨fun L R=>∃(k:J),L=[I ((i+k:J):Z),U32 (K9 ((l.drop i).take k):J),U32 ((10^k:J):Z),.bool false,.slice none 0 0]/\0<k/\k<=9/\i+k<=l.length/\R=u/\(∀c∈(l.drop i).take k,I8 c),?_,?_⟩;{refine⟨fun L R=>∃(k:J),L=[I ((i+k:J):Z),U32 (K9 ((l.drop i).take k):J),U32 ((10^k:J):Z),I k,.bool false,.slice none 0 0]/\k<=9/\i+k<=l.length/\R=u/\(∀c∈(l.drop i).take k,I8 c),fun L _=>9-(iAt L 3).toNat,⟨0,by rfl,o,o,rfl,by simp⟩,?_⟩;rintro H v f k2 y A3 O c3 F ⟨k,ae,T,t,rfl,g⟩;obtain⟨rfl,rfl,rfl,rfl,rfl,rfl,rfl,rfl⟩:H=((i+k:J):Z)/\v=((K9 ((l.drop i).take k):J):Z)/\f=((10^k:J):Z)/\k2=(k:Z)/\y=false/\A3=none/\O=0/\c3=0:=gz0;refine B9 (fun h2=>B9 (fun h3=>?_) (fun h3=>?_)) (fun h2=>?_);{have E:i+k<l.length:=o;have a:(bs l)[((i+k:J):Z).toNat]? = some l[i+k]:=by{rw[aC,Zz,dU E]};have d:¬I8 l[i+k]->∀s A n c,K (.tuple #[.agg #[.bool s,.slice A n c],.bool false]) F:=by{grind};refine⟨l[i+k],⟨o,a⟩,B9 (fun z=>?_) (fun z=>?_)⟩;{exact d (fun C=>by unfold I8 at C;omega) _ _ _ _};·refine⟨l[i+k],⟨o,a⟩,B9 (fun h5=>?_) (fun h5=>?_)⟩;{exact d (fun C=>by unfold I8 at C;omega) _ _ _ _};·have ag:I8 l[i+k]:=by{unfold I8;omega};refine⟨l[i+k],⟨o,a⟩,?_⟩;have j:(l.drop i).take (k+1)=(l.drop i).take k++[l[i+k]]:=by{rw[fF gz0];simp};have S:K9 ((l.drop i).take k)<10^k:=by{have:=Ff g;grind};have W:10^k<=100000000:=by{have:10^k<=10^8:=bJ dc o;omega};have e1:C4 (((i+k:J):Z)+1)=((i+(k+1):J):Z):=by{rw[C0 o o];omega};have e2:C4 ((k:Z)+1)=((k+1:J):Z):=by{rw[C0 o o];omega};have e3:J5 (((10^k:J):Z)*10)=((10^(k+1):J):Z):=by{rw[eE,T5 o o];omega};have e4:J5 (J5 (((K9 ((l.drop i).take k):J):Z)*10)+J5 (wu8 ((l[i+k].toNat:Z)-48)))=((K9 ((l.drop i).take (k+1)):J):Z):=by{rw[j,Jo,Ys o o,T5 (n:=(l[i+k].toNat:Z)-48) o o,T5 (n:=((K9 ((l.drop i).take k):J):Z)*10) o o,T5 o o];omega};rw[e1,e2,e3,e4];refine⟨⟨k+1,rfl,o,o,rfl,?_⟩,by simp only[iAt,aH,aJ];omega⟩;grind};{grind};grind};·rintro H v f w A3 O c3 p ⟨k,ae,af,T,t,rfl,g⟩;obtain⟨rfl,rfl,rfl,rfl,rfl,rfl,rfl⟩:H=((i+k:J):Z)/\v=((K9 ((l.drop i).take k):J):Z)/\f=((10^k:J):Z)/\w=false/\A3=none/\O=0/\c3=0:=gz0;have S:K9 ((l.drop i).take k)<10^k:=by{have:=Ff g;grind};have W:0<10^k/\10^k<=1000000000:=by{have:10^k<=10^9:=bJ dc o;omega};have aa:((l.drop i).take k).length=k:=gz0;have j:l.take (i+k)=l.take i++(l.drop i).take k:=fY;have q:∀c∈l.take (i+k),I8 c:=by{grind};have ah:K9 (l.take (i+k))=K9 (l.take i)*10^k+K9 ((l.drop i).take k):=by{rw[j,Hm,aa]};have G:K9 (l.take i)<2^(4*l.length):=bY (Dx r) (bJ dc gz0);have ai:K9 (l.take (i+k))<2^(4*l.length):=bY (Dx q) (bJ dc gz0);have X:=B8t M G o;refine T6 Qr rfl ?_;intro B D;refine⟨_,_,_,rfl,?_⟩;have lf:=Heap.le_put (h:=p) (b:=B) (.cells #[U32 ((10^k:J):Z)] 164) D;have Mf:Mg (p.put B (.cells #[U32 ((10^k:J):Z)] 164)) (some ⟨B,0,none⟩) 1 ((10^k:J):Z):=⟨[((10^k:J):Z)],rfl,SlI.new p B [((10^k:J):Z)] 164 _,Dig.one ⟨o,gz0⟩,by simp only[gE,List.getLast?_singleton,ne_eq,Option.some.injEq];omega,At _ _⟩;refine Vy (M.mono lf) Mf X o ?_;intro A4 m4 c4 z l4 k4 M4;refine⟨_,_,_,rfl,?_⟩;refine T6 Qr rfl ?_;intro bv N;refine⟨_,_,_,rfl,?_⟩;have lv:=Heap.le_put (h:=z) (b:=bv) (.cells #[U32 ((K9 ((l.drop i).take k):J):Z)] 164) N;refine Bk (xs:=[((K9 ((l.drop i).take k):J):Z)]) (SlI.new z bv _ 164 _) (Dig.one ⟨o,gz0⟩) (aY _) (by simp) ?_;intro m5 k5 M5;refine⟨_,_,_,rfl,?_⟩;rw[At]at M5;have e4:((K9 (l.take i):J):Z)*((10^k:J):Z)=((K9 (l.take i)*10^k:J):Z):=by{rw[cN]};rw[e4]at M4;refine Xm (M4.mono lv) M5 (B8t M4 (m:=4*l.length) o o) gz0 ?_;intro A6 m6 c6 h6 l6 k6 M6;have e6:((K9 (l.take i)*10^k:J):Z)+((K9 ((l.drop i).take k):J):Z)=((K9 (l.take (i+k)):J):Z):=o;rw[e6]at M6;exact⟨_,_,_,rfl,⟨i+k,A6,m6,c6,rfl,t,B6 ac (B6 lf (B6 l4 (B6 lv l6))),q,M6,k6⟩,by simp only[iAt,aH,aJ];omega⟩};·refine R6 M hc ?_;intro s1 i1;refine⟨_,_,_,_,rfl,?_⟩;have e:(!((bs l).toList==({data:=#[] }:ByteArray).toList))=decide (l≠[]):=by{rw[Zy,Ib];simp};grind
def Dy{n m:J}(h:n<2^m):(T7 n).length<=m+1:=by rw[Pu o];have:2^m<=10^(m+1):=Nat.le_trans (cU dc m) (bJ dc o);omega
def Yw{D:J}(i:NQ h w q)(hq:Sz m q)(hm:m<=575000000000000)(hD:q.num.natAbs<10^D/\q.den<10^D)(hD2:D<=140737488355232)(hK:K (.string (bs (E7 q))) h):aX prog 103 #[w.v] h K:=by have hs:=i.num.sg;have d:=i.den_zero;refine(fnk func103 (cs:=[(4,[3],[],[.string ⟨#[]⟩])]) (own:=[1])) ?_;have g:=Dy hq.num;have j:=Dy (n:=q.den) (m:=m) (by have:=hq.den;assumption);refine Td i.num hq.num hm hD.1 hD2 ⟨_,rfl,?_⟩;refine⟨fun l c=>l=[.string (bs (Qp q.num))]/\c=h,Br.of (fun e=>?_) (fun e=>?_),?_⟩;{refine⟨?_,?_,rfl⟩;{rw[Zy,J2,J2];grind};·rw[Zy,Pz];unfold Qp;grind};{exact⟨by unfold Qp;grind,rfl⟩};rintro t k ⟨hl,rfl⟩;obtain rfl:t=bs (Qp q.num):=gz0;have p:(Qp q.num).length<=m+2:=by{unfold Qp;grind};refine B9 (fun e=>?_) (fun e=>?_);{have b:¬q.den=1:=fun f=>by{omega};have a:=i.den;rw[iN b]at a;refine Td a hq.den hm hD.2 hD2 ⟨_,rfl,?_,?_,?_⟩;{rw[Zy,J2,J2,dM];grind};{rw[Zy,Pz,J2,J2,dM];grind};·rw[Zy,Pz,Pz,dM];unfold E7 at hK;grind};·unfold E7 at hK;grind
def Ul(i:NQ h w q)(hq:Sz m q)(hm:m<=140000000000000)(hK:K (.string (bs (E7 q))) h):aX prog 103 #[w.v] h K:=Yw (D:=m) i hq o ⟨bY hq.num (cU dc _),bY (by have:=hq.den;assumption) (cU dc _)⟩ o hK
def B9v{t a r a' r':Y UInt8}(h1:t=a++r)(h2:∀c∈a,c≠47)(h3:r=[]\/r.head? = some 47)(g1:t=a'++r')(g2:∀c∈a',c≠47)(g3:r'=[]\/r'.head? = some 47):a=a'/\r=r':=by
 induction a generalizing t a' with
 |nil=>
  cases a' with
  |nil=>grind
  |cons c a'=>
   grind
 |cons c a ih=>
  cases a' with
  |nil=>
   grind
  |cons c' a'=>
   grind
def B1n(q:Rat):E7 q=(if q.num<0 then [45]else [])++(T7 q.num.natAbs++(if q.den=1 then []else 47::T7 q.den)):=by unfold E7 Qp;grind
def B4d(n:J):∀c∈T7 n,c≠47:=fun c a=>(A8m (Px n c a)).2
def Wq{neg:Bool}{q:Rat}(h:neg=decide (q.num<0)):Rat.divInt (if neg=true then -((q.num.natAbs:J):Z)else((q.num.natAbs:J):Z)) q.den=q:=by have:(if neg=true then -((q.num.natAbs:J):Z)else((q.num.natAbs:J):Z))=q.num:=by{grind};simp_all
def B2b(hl:l.length<=140737488351232)(hK1:∀q,l=E7 q->∀w h',h.le h'->NQ h' w q->K (.tuple #[w.v,.bool true]) h')(hK0:¬IsNum l->∀(w:QV) h',h.le h'->K (.tuple #[w.v,.bool false]) h'):aX prog 104 #[.string (bs l)] h K:=by
 refine(fnk func104 [(7,[6,7],[],[I 0,I 0])] (cs:=[(3,[5],[],[.bool false]),(5,[4],[],[.string ⟨#[]⟩]),(11,[6],[],[I 0])]) (os:=[(20,[0,1,3,2,4,5,6])]) (own:=[2,8,10,11])) ?_;simp only[J2];refine⟨fun L h'=>L=[.bool (l.head? == some 45)]/\h'=h,B9 (fun C=>?_) (fun C=>?_),?_⟩
 ·cases l with
  |nil=>grind
  |cons c r=>
   refine⟨c,⟨o,by rfl⟩,?_,rfl⟩
   have:((c.toNat:Z)==45)=((c::r).head? == some 45):=by
    rw[Bool.eq_iff_iff,beq_iff_eq,beq_iff_eq,List.head?_cons,Option.some.injEq];constructor;·intro e;apply UInt8.toNat_inj.1;grind
    simp_all
   rw[this]
 ·simp_all
 rintro neg hp ⟨hL,rfl⟩;obtain rfl:neg=(l.head? == some 45):=gz0;refine⟨fun L h'=>L=[.string (bs (if(l.head? == some 45)then l.drop 1 else l))]/\h'=hp,Br.of (fun e=>?_) (fun e=>?_),?_⟩
 ·have ag:1<=l.length:=by
   grind
  refine⟨⟨o,o⟩,?_,rfl⟩;rw[iP e,R8,aP gz0];rfl
 ·grind
 rintro t0 F ⟨al,rfl⟩;generalize ht:(if(l.head? == some 45)then l.drop 1 else l)=t at *;obtain rfl:t0=bs t:=gz0;have ap:t.length<=l.length:=gz0
 have aa:l=(if(l.head? == some 45)then [45]else [])++t:=by
  rw[<- ht]
  cases l with
  |nil=>simp
  |cons c r=>
   grind
 have s:∀q,l=E7 q->(l.head? == some 45)=decide (q.num<0)/\t=T7 q.num.natAbs++(if q.den=1 then []else 47::T7 q.den):=by
  intro q e;have f:=Fo q;rw[<- e]at f;have hh:=f.head;refine⟨hh.symm,?_⟩;have E:=aa;rw[<- hh,e,B1n q]at E;grind
 refine⟨fun L h'=>∃b:J,L=[I b]/\h'=F/\b<=t.length/\(∀c∈t.take b,c≠47)/\(t.drop b=[]\/(t.drop b).head? = some 47),?_,?_⟩
 ·simp only[J2];refine⟨fun L h'=>∃i:J,L=[I t.length,I i]/\h'=F/\i<=t.length/\(∀c∈t.take i,c≠47),fun L _=>t.length-(iAt L 1).toNat,⟨0,rfl,rfl,o,by simp⟩,?_⟩;rintro X i1 an ⟨i,am,rfl,hi,z⟩;obtain⟨rfl,rfl⟩:X=(t.length:Z)/\i1=(i:Z):=gz0;refine B9 (fun C=>?_) (fun C=>?_)
  ·have A:i<t.length:=o;refine⟨t[i],⟨o,by rw[aC,Zz,dU A]⟩,D4 (fun O=>?_) (fun O=>?_)⟩
   ·refine⟨i,rfl,rfl,hi,z,.inr ?_⟩;rw[List.head?_drop,dU A];congr 1;apply UInt8.toNat_inj.1;grind
   ·rw[C0 o o];refine⟨⟨i+1,rfl,rfl,o,?_⟩,by simp only[iAt,aH,aJ];omega⟩;rw[fF A];intro c W;rcases List.mem_append.1 W with T|T;·grind
    ·rw[List.mem_singleton.1 T];intro e;rw[e]at O;grind
  grind
 rintro af R ⟨b,aj,rfl,ao,z,g⟩;obtain rfl:af=(b:Z):=gz0;simp only[J2,R8,aC,dK,cC];refine⟨⟨o,o⟩,?_⟩;have m:t=t.take b++t.drop b:=(cO b t).symm
 have d:∀q,l=E7 q->t.take b=T7 q.num.natAbs/\t.drop b=(if q.den=1 then []else 47::T7 q.den):=by
  intro q e;refine B9v m z g (s q e).2 (B4d _) ?_;split;·left;rfl
  grind
 refine Jm gz0 ?_;intro s1 A1 n1 c1 ak C M k1 k0;refine⟨_,_,_,_,_,rfl,Br.not (Br.of (fun e=>?_) (fun e=>?_))⟩
 ·obtain⟨dg,ae,iN⟩:=k1 e
  have ac:ZB (4*l.length) (K9 (t.take b):Z):=by
   exact bY (Dx dg) (bJ dc gz0)
  have im:=iN.mag;refine R6 im iN.cap ?_;intro s2 i2;refine⟨_,_,_,_,rfl,?_⟩
  have j:ZB (4*l.length) (if(l.head? == some 45)=true then -((K9 (t.take b):J):Z)else((K9 (t.take b):J):Z)):=by
   split;·exact ac.neg
   omega
  have p:∀Q:Y UInt8,(∀c∈Q,I8 c)->Q.length<=l.length->K9 Q<10^l.length:=fun Q C O=>bY (Ff C) (bJ dc O)
  have fin:∀(B:Rat) (w:QV) (u:bI),R.le u->NQ u w B->Sz (4*l.length+1) B->(B.num.natAbs<10^l.length/\B.den<10^l.length)->(∀q,l=E7 q->q=B)->
   aX prog 103 #[w.v] u (fun r5 D=>∃(t79:ByteArray),r5= .string t79/\Heap.le u D/\K (.tuple #[w.v,.bool (ByteArray.toList t79==ByteArray.toList (bs l))]) D):=by
   intro B w u l5 iq S ad aq;refine Yw iq S o ad o ⟨_,rfl,B8 _,?_⟩;rw[Ib];by_cases W:E7 B=l;·grind
   ·rw[decide_eq_false W];refine hK0 ?_ w u l5;rintro⟨q,e⟩;grind
  refine B9 (fun E=>?_) (fun E=>?_)
  ·have e3:C4 ((b:Z)+1)=((b+1:J):Z):=by rw[C0 o o];omega
   rw[e3];refine⟨⟨o,o⟩,?_⟩;rw[aC,aP (show(t.drop (b+1)).length<=t.length-(b+1)from gz0)]
   have hb:t.drop b=47::t.drop (b+1):=by
    rcases g with h0|h0;·grind
    ·rw[List.head?_drop]at h0;have H:b<t.length:=o;rw[cT H];grind
   refine Jm gz0 ?_;intro s3 A3 n3 c3 ai T N j1 j0
   have n:∀q,l=E7 q->q.den≠1/\t.drop (b+1)=T7 q.den:=by
    intro q e;by_cases hd:q.den=1;·grind
    grind
   refine⟨_,_,_,_,_,rfl,Br.not (Br.of (fun e4=>?_) (fun e4=>?_))⟩
   ·obtain⟨G,ah,iD⟩:=j1 e4;refine A3c iD ⟨_,rfl,D4 (fun e5=>?_) (fun e5=>?_)⟩
    ·refine hK0 ?_ ⟨false,none,0,0,false,none,0,0⟩ _ (B6 M N);rintro⟨q,e⟩;have h6:=(n q e).2;have h7:((K9 (t.drop (b+1)):J):Z)=0:=Int.sign_eq_zero_iff_zero.1 e5;rw[h6,Bw]at h7;exact q.den_nz o
    ·have k:((K9 (t.drop (b+1)):J):Z)≠0:=fun e6=>e5 (by rw[e6];rfl)
     have y:ZB (4*l.length) (K9 (t.drop (b+1)):Z):=by
      exact bY (Dx G) (bJ dc gz0)
     refine Pn (i2.mono N) iD k j y o ?_;intro w u l5 iq;refine⟨_,_,_,_,_,_,_,_,rfl,?_⟩;refine fin _ w u (B6 M (B6 N l5)) iq ((N4 k j y).mono o) ?_ ?_
     ·have q1:=Ps (a:=if(l.head? == some 45)=true then -((K9 (t.take b):J):Z)else((K9 (t.take b):J):Z)) k;have q2:(if(l.head? == some 45)=true then -((K9 (t.take b):J):Z)else((K9 (t.take b):J):Z)).natAbs=K9 (t.take b):=by split<;>omega
      rw[q2,dM]at q1;exact⟨cW q1.1 (p _ dg gz0),cW q1.2 (p _ G gz0)⟩
     intro q e;rw[(d q e).1,(n q e).2,Bw,Bw];exact(Wq (s q e).1).symm
   ·refine hK0 ?_ ⟨false,none,0,0,false,none,0,0⟩ _ (B6 M N);rintro⟨q,e⟩;exact j0 e4 (by rw[(n q e).2];exact⟨Px _,Wz _⟩)
  ·refine fin _ ⟨s2,A1,n1,c1,false,none,0,0⟩ C M (NQ.whole i2) (Sz.int (j.mono o) o) ?_ ?_
   ·have V:1<=l.length:=by have:=List.length_pos_iff.2 ae;grind
    refine⟨?_,?_⟩
    ·rw[Rat.num_intCast];refine cW (Nat.le_of_eq ?_) (p _ dg gz0);split<;>omega
    ·rw[Rat.den_intCast];exact bY dc (bJ dc V)
   intro q e
   have hd:q.den=1:=by
    grind
   rw[(d q e).1,Bw];have:=Wq (s q e).1;rw[hd]at this;rw[<- Kv];exact this.symm
 ·refine hK0 ?_ ⟨false,none,0,0,false,none,0,0⟩ _ M;rintro⟨q,E⟩;exact k0 e (by rw[(d q E).1];exact⟨Px _,Wz _⟩)
end
def ndg(x:J):J:=x*78913/262144
def B8r:∀x,x<65->2^x<=10^(ndg x+1)/\(ndg x=0\/10^(ndg x-1)<=2^(x-1))/\ndg x<=19:=dc
def A54{n k:J}(h1:10^k<=n)(h2:n<10^(k+1)):(dd n).length=k+1:=by have a:=(V6 (n:=n) (k:=k+1)).2 h2;have b:¬(dd n).length<=k:=fun e=>by{have:=V6.1 e;omega};omega
def C4v{d:J}(h0:d≠0)(h:d<2^64):(dd d).length=ndg (U5 d)+(if 10^ndg (U5 d)<=d then 1 else 0):=by have g:=Js h;obtain⟨c,f⟩:=Gf h0;obtain⟨e,a,i⟩:=B8r (U5 d) o;split;{rename_i b;exact A54 b o};·rename_i b;rcases a with a|a;{grind};·obtain⟨k,hk⟩:∃k,ndg (U5 d)=k+1:=by{by_cases j:ndg (U5 d)=0;{grind};·exact⟨ndg (U5 d)-1,o⟩};rw[hk]at b a ⊢;rw[Nat.add_sub_cancel]at a;exact A54 o o
def C15(w n:J):pad (w+2) n=pad w (n/100)++[dch (n/10%10),dch (n%10)]:=by rw[Ua,Ua,gK];simp
def B2v(n:J)(h:n=0):pad 0 n=[]:=by subst h;simp[pad,Q7]
abbrev b64:Z:=18446744073709551616
abbrev Mw(h:bI)(A:Option bN)(len:J)(n:Z):Prop:=Mag .u64 b64 h A len n
structure Win (k:dC) (h g:bI) (b:J) (e:cK) (A:Option bN) (pre:Y eZ) (xs:Y Z) (post:Y eZ):Prop where
 free:g b=none
 eq:h=g.put b (.cells (pre++xs.map (bU k)++post).toArray e)
 at_:xs=[]\/A=some ⟨b,pre.length,none⟩
section
variable {k:dC} {h g:bI} {b:J} {e:cK} {A:Option bN} {pre post:Y eZ} {xs:Y Z}
def Win.le(w:Win k h g b e A pre xs post):g.le h:=by rw[w.eq];exact Heap.le_put _ w.free
def Win.sl(w:Win k h g b e A pre xs post):SlI k h A xs:=by rcases w.at_ with rfl|a;{exact SlI.nil};·right;refine⟨_,a,fun i v c=>?_⟩;rw[w.eq,D9,E6];grind
def Win.store{P:dY}{t:cK}(one:P.cellsOf t=1/\(P.info? t).isSome=true)(w:Win k h g b e A pre xs post){a:bN}(ha:A=some a){i v:Z}(h0:0<=i)(h1:i<xs.length){K:Unit->bI->Prop} (x:∀h',Win k h' g b e A pre (xs.set i.toNat v) post->K () h'):wpH P (dV t (.pointer (some (fL a (i.toNat*1)))) (.int k v)) K h:=by have c:A=some ⟨b,pre.length,none⟩:=by{rcases w.at_ with rfl|c;{grind};·exact c};rw[ha]at c;cases c;rw[w.eq,D9,Nat.mul_one];refine Bu one.1 one.2 rfl rfl gz0 ?_;refine x _ ⟨w.free,?_,.inr ha⟩;simp_all
def Win.storeN{P:dY}{t:cK}(one:P.cellsOf t=1/\(P.info? t).isSome=true)(w:Win k h g b e A pre xs post){a:bN}(ha:A=some a){i:J}{v:Z}(h1:i<xs.length){K:Unit->bI->Prop} (x:∀h',Win k h' g b e A pre (xs.set i v) post->K () h'):wpH P (dV t (.pointer (some (fL a (i*1)))) (.int k v)) K h:=by have:=w.store one ha (i:=(i:Z)) (v:=v) (K:=K) o o (by assumption);assumption
def Win.call{P:dY}{f:FuncId}{args:Array eZ}(w:Win k h g b e A pre xs post){K:VP}(x:aX P f args g (fun r h0=>∀h',Win k h' h0 b e A pre xs post->K r h')):aX P f args h K:=by rw[w.eq];exact FCall.frame w.free x fun r h0 a c=>c _ ⟨a,rfl,w.at_⟩
def Win.blk(k:dC)(e:cK){g:bI}{b:J}(hb:g b=none)(zs:Y Z):Win k (Go.Proofs.YteppbhimdjmabaaGreatDoor.blk k e g b zs) g b e (some ⟨b,0,none⟩) [] zs []:=⟨hb,by simp[Go.Proofs.YteppbhimdjmabaaGreatDoor.blk],.inr rfl⟩
def Win.sub(w:Win k h g b e A pre xs post){l m c:J}(hl:l<=m)(hm:m<=xs.length)(hc:xs.length<=c): Win k h g b e (X9 A c l 1) (pre++(xs.take l).map (bU k)) ((xs.drop l).take (m-l)) ((xs.drop m).map (bU k)++post):=by refine⟨w.free,?_,?_⟩;{rw[w.eq];congr 3;have:xs=xs.take l++((xs.drop l).take (m-l)++xs.drop m):=by{have d:xs.drop m=(xs.drop l).drop (m-l):=by{simp_all};rw[d,cO,cO]};grind};·by_cases f:m-l=0;{grind};·right;rcases w.at_ with rfl|a;{grind};·unfold X9;rw[iN o,a];simp only[Option.map_some,D9,Nat.mul_one,aT,fR,aL];grind
def Win.whole{h' g':bI}(w:Win k h g b e A pre xs post){l m:J}(hl:l<=m)(hm:m<=xs.length){B:Option bN}{ys:Y Z}(hy:ys.length=m-l)(v:Win k h' g' b e B (pre++(xs.take l).map (bU k)) ys ((xs.drop m).map (bU k)++post)): Win k h' g' b e A pre (xs.take l++ys++xs.drop m) post:=by refine⟨v.free,?_,?_⟩;{rw[v.eq];grind};·rcases w.at_ with rfl|a;{grind};grind
def Priv.win{n c:J}(p:fW h g e 1 A n c (xs.map (bU k)))(hx:xs≠[]):∃b post,Win k h g b e A [] xs post:=by obtain⟨q,l,f⟩:=p;rcases f with⟨r,rfl⟩|⟨b,a,j,i,rfl,m,d⟩;{simp_all};·refine⟨b,a.drop (n*1),i,?_,.inr j⟩;rw[cL,<- d,cO]
end
def Bi{P:dY}{t:cK}(one:P.cellsOf t=1/\(P.info? t).isSome=true){k:dC}{n:Z}{i:J}{g:bI}{b:J}{e:cK}{zs:Y Z}(hi:i<zs.length){K:Unit->bI->Prop} (x:K () (blk k e g b (zs.set i n))):wpH P (dV t (.pointer (some (fL ⟨b,0,none⟩ (i*1)))) (.int k n)) K (blk k e g b zs):=by have:=V7 (P:=P) (t:=t) one (k:=k) (n:=n) (i:=(i:Z)) (g:=g) (b:=b) (e:=e) (zs:=zs) (K:=K) o (by assumption);assumption
def Fg{P:dY}{t e e' ty:cK}{k:dC}{bytes:J}(s:SliceT P t e' (.int k 0) 1 bytes){h g:bI}{b:J}{A:Option bN}{pre post:Y eZ}{xs:Y Z}{n c m d:J}(w:Win k h g b e A pre xs post)(hn:n=xs.length){B:Option bN}{ys:Y Z}(sy:SlI k h B ys)(hm:m=ys.length)(hle:ys.length<=xs.length){K:VP}
 (x:∀h',Win k h' g b e A pre (ys++xs.drop ys.length) post->K (I ys.length) h'):wpH P (dX #[t,t] ty #[.slice A n c,.slice B m d]) K h:=by
 subst hn hm;obtain⟨i,r,y,l,p⟩:=s.parts;unfold dX;simp only[List.getElem?_toArray,aH,aJ,C8,F2 s.und,K4 r,I5,Builtin.lenOf,l];have f:Nat.min ys.length xs.length=ys.length:=aK hle;rw[f];refine N6 (s:=1) (cs:=ys.map (bU k)) (by simp) sy ?_
 cases A with
 |none=>
  rcases w.at_ with j|j
  ·have:ys=[]:=bF gz0;subst this;exact x h (by assumption)
  ·cases j
 |some a=>
  simp only[C8];rcases w.at_ with j|j
  ·have:ys=[]:=bF gz0;subst this;exact x h (by assumption)
  ·cases j;rw[w.eq];refine H8 (ys.map (bU k)) pre.length 0 (pre++xs.map (bU k)++post) gz0 (fun v q=>?_) ?_;·obtain⟨u,_,rfl⟩:=List.mem_map.1 q;rfl
   ·refine x _ ⟨w.free,?_,?_⟩
    ·congr 3;unfold J0;rw[fE,cH pre,dJ rfl,fR];rw[fO,aV (show pre.length<=pre.length+ys.length from o),gD,cL];rw[dH gz0,<- List.map_drop,fQ];grind
    grind
def A7x{P:dY}{nm:String}{x y c:Z}(hc:0<=c/\c<=1){f:J×J×J->eZ}:Rb P (Extern.MathBitsCarry.three nm #[U x,U y,U c] >>= fun p=>pure (f p))=some (f (x.toNat,y.toNat,c.toNat)):=by obtain rfl|rfl:c=0\/c=1:=o;{rfl};·rfl
def B3j:aS=18446744073709551616:=dc
def Ev{h:bI}{K:VP}{x y c:Z}(hx:0<=x/\x<18446744073709551616)(hy:0<=y/\y<18446744073709551616)(hc:0<=c/\c<=1)(hK:K (.tuple #[U ((x+y+c)%18446744073709551616),U ((x+y+c)/18446744073709551616)]) h):ECall prog 259 #[U x,U y,U c] h K:=by refine B90 B16 (A7x (P:=prog) hc (f:=fun p=>fV ((p.1+p.2.1+p.2.2)%aS) ((p.1+p.2.1+p.2.2)/aS))) ?_;have b:((x.toNat+y.toNat+c.toNat)%aS:J)=(((x+y+c)%18446744073709551616:Z)):=by{rw[B3j];omega};have a:((x.toNat+y.toNat+c.toNat)/aS:J)=(((x+y+c)/18446744073709551616:Z)):=by{rw[B3j];omega};show K (.tuple #[U ((x.toNat+y.toNat+c.toNat)%aS:J),U ((x.toNat+y.toNat+c.toNat)/aS:J)]) h;grind
def Gz{h:bI}{K:VP}{x y c:Z}(hx:0<=x/\x<18446744073709551616)(hy:0<=y/\y<18446744073709551616)(hc:0<=c/\c<=1)(hK:K (.tuple #[U ((x-y-c)%18446744073709551616),U (if x-y-c<0 then 1 else 0)]) h):ECall prog 296 #[U x,U y,U c] h K:=by refine B90 B15 (A7x (P:=prog) hc (f:=fun p=>fV ((p.1+aS-p.2.1-p.2.2)%aS) (if p.1<p.2.1+p.2.2 then 1 else 0))) ?_;have a:((x.toNat+aS-y.toNat-c.toNat)%aS:J)=(((x-y-c)%18446744073709551616:Z)):=by{rw[B3j];omega};show K (.tuple #[U ((x.toNat+aS-y.toNat-c.toNat)%aS:J),U ((if x.toNat<y.toNat+c.toNat then 1 else 0:J):J)]) h;grind
def Gr(x y:Z):Z:=if x<y then -1 else if x>y then 1 else 0
def B39{h:bI}{K:VP}{x:Z}(hK:K (.bool false) h):aX prog 294 #[I x] h K:=by refine(fnk func294) ?_;grind
def B38{h:bI}{K:VP}{x:Z}(hK:K (.bool false) h):aX prog 295 #[U x] h K:=by refine(fnk func295) ?_;grind
def Xf{h:bI}{K:VP}{x y:Z}(hK:K (I (Gr x y)) h):aX prog 260 #[I x,I y] h K:=by refine(fnk func260) ?_;refine B39 ⟨_,rfl,B39 ⟨_,rfl,?_⟩⟩;unfold Gr at hK;refine B9 (fun a=>?_) (fun a=>B9 (fun b=>?_) (fun b=>?_));{grind};{grind};grind
def B4o{h:bI}{K:VP}{x y:Z}(hK:K (I (Gr x y)) h):aX prog 261 #[U x,U y] h K:=by refine(fnk func261) ?_;refine B38 ⟨_,rfl,B38 ⟨_,rfl,?_⟩⟩;unfold Gr at hK;refine B9 (fun a=>?_) (fun a=>B9 (fun b=>?_) (fun b=>?_));{grind};{grind};grind
def Oy{h:bI}{K:VP}{x y:Z}(hx:0<=x/\x<18446744073709551616)(hy:0<=y/\y<18446744073709551616)(hK:K (.tuple #[U (x*y/18446744073709551616),U (x*y%18446744073709551616)]) h):aX prog 250 #[U x,U y] h K:=by refine(fnk func250) ?_;rw[Dc hx,Dc hy];simp only[Xx];obtain⟨e,d,b,c,a⟩:=A71 hx hy (x1:=x/4294967296) (x0:=x%4294967296) (y1:=y/4294967296) (y0:=y%4294967296) o o o o;generalize x/4294967296*(y/4294967296)=p11 at *;generalize x/4294967296*(y%4294967296)=p10 at *;generalize x%4294967296*(y/4294967296)=p01 at *;generalize x%4294967296*(y%4294967296)=p00 at *;rw[C5 (n:=p00) o o,C5 (n:=p10) o o,C5 (n:=p01) o o,C5 (n:=p11) o o];rw[C5 (n:=p10+p00/4294967296) o o,Dc o];rw[C5 (n:=(p10+p00/4294967296)%4294967296+p01) o o];rw[C5 (n:=p11+(p10+p00/4294967296)/4294967296) o o,C5 o o,F8];have:p11+(p10+p00/4294967296)/4294967296+((p10+p00/4294967296)%4294967296+p01)/4294967296=x*y/18446744073709551616:=by{omega};grind
def Y6{h:bI}{K:VP}{x y c:Z}(hx:0<=x/\x<18446744073709551616)(hy:0<=y/\y<18446744073709551616)(hc:0<=c/\c<18446744073709551616)(hK:K (.tuple #[U ((x*y+c)%18446744073709551616),U ((x*y+c)/18446744073709551616)]) h):aX prog 305 #[U x,U y,U c] h K:=by have a:0<=x*y/\x*y<=18446744073709551615*18446744073709551615:=⟨aQ hx.1 hy.1,dN o o hy.1 dc⟩;refine(fnk func305) ?_;refine Oy hx hy ⟨_,_,rfl,?_⟩;refine Ev o hc o ⟨_,_,rfl,?_⟩;rw[C5 o o];grind
def C1y(a:Array UInt8):({data:=a }:ByteArray)=bs a.toList:=by simp[bs]
def B3k:Y UInt8:=[0,1,2,2,3,3,3,3,4,4,4,4,4,4,4,4,5,5,5,5,5,5,5,5,5,5,5,5,5,5,5,5]++aF 32 6++aF 64 7++aF 128 8
def B0f:∀i,i<256->(B3k[i]?).map UInt8.toNat=some (U5 i):=dc
def A27{x s:J}(h:2^s<=x):U5 x=s+U5 (x/2^s):=by have b:0<2^s:=dG dc;have a:x/2^s≠0:=by{simp_all};have:=A00 (l:=x%2^s) (t:=x/2^s) (j:=s) (fU _ b) a;rw[Nat.mod_add_div]at this;exact this
def A8j{h:bI}{K:VP}{x:J}(hx:x<18446744073709551616)(hK:K (I (U5 x)) h):aX prog 298 #[U x] h K:=by
 refine B5h _ ?_
 have m:∀(y s:J),s<=64->dO (y:Z) (2^(min ((s:Z)).toNat 64))=((y/2^s:J):Z):=by
  grind
 refine⟨fun l a=>∃(y n:J),l=[U y,I n]/\a=h/\y<4294967296/\U5 x=n+U5 y/\n<=32,B9 (fun d=>?_) (fun d=>?_),?_⟩
 ·refine⟨x/2^32,32,?_,rfl,o,A27 o,o⟩;grind
 ·exact⟨x,0,rfl,rfl,o,o,o⟩
 rintro f b a ⟨y,n,hl,rfl,j,e,p⟩;obtain⟨rfl,rfl⟩:f=(y:Z)/\b=(n:Z):=gz0;refine⟨fun l i=>∃(y n:J),l=[U y,I n]/\i=a/\y<65536/\U5 x=n+U5 y/\n<=48,B9 (fun d=>?_) (fun d=>?_),?_⟩
 ·refine⟨y/2^16,n+16,?_,rfl,o,by rw[e,A27 (x:=y) (s:=16) o];omega,o⟩;rw[show(16:Z)=((16:J):Z)from rfl,m y 16 o,C0 o o];rfl
 ·grind
 rintro f b a ⟨y,n,hl,rfl,j,e,p⟩;obtain⟨rfl,rfl⟩:f=(y:Z)/\b=(n:Z):=gz0;refine⟨fun l i=>∃(y n:J),l=[U y,I n]/\i=a/\y<256/\U5 x=n+U5 y/\n<=56,B9 (fun d=>?_) (fun d=>?_),?_⟩
 ·refine⟨y/2^8,n+8,?_,rfl,o,by rw[e,A27 (x:=y) (s:=8) o];omega,o⟩;rw[show(8:Z)=((8:J):Z)from rfl,m y 8 o,C0 o o];rfl
 ·grind
 rintro f b a ⟨y,n,hl,rfl,j,e,p⟩;obtain⟨rfl,rfl⟩:f=(y:Z)/\b=(n:Z):=gz0;rw[Ys o o,aC];have r:=B0f y j
 cases hc:B3k[y]? with
 |none=>grind
 |some c=>
  have g:c.toNat=U5 y:=gz0;refine⟨c,⟨o,?_⟩,?_⟩
  ·try unfold A8i
   rw[C1y,Zz];exact hc
  ·have q:U5 y<=8:=Js (k:=8) o;rw[g,C0 (n:=((U5 y:J):Z)) o o,C0 o o,<- Int.natCast_add,<- e];exact hK
def W4{h:bI}{K:VP}{x:J}(hx:x<18446744073709551616)(hK:K (I ((64-U5 x:J):Z)) h):aX prog 302 #[U x] h K:=by refine(fnk func302) ?_;refine A8j hx ⟨_,rfl,?_⟩;have a:U5 x<=64:=Js (k:=64) o;rw[C0 o o];have:(64:Z)-((U5 x:J):Z)=((64-U5 x:J):Z):=o;rw[this];exact hK
def A57{a b:Z}{s:J}(ha:0<=a)(hb:0<=b/\b<2^s)(hab:a*2^s+b<18446744073709551616):bor .u64 (a*2^s) b=a*2^s+b:=by have d:0<=a*2^s:=aQ ha o;rw[A7h o o];have e:(a*2^s).toNat=2^s*a.toNat:=by{grind};have c:b.toNat<2^s:=by{grind};rw[e,A8f c,<- e];omega
def Bt{s:J}(hs:s<=64):(2:Z)^s*2^(64-s)=18446744073709551616:=by rw[<- aU,show s+(64-s)=64 from o];decide
def B6d{x:Z}{s:J}(hs:s<=64):dO x (2^(min s 64))=x/2^s:=by grind
def Est.exact{B top u2 v1 v2 U V:Z}(e:Est B 1 top u2 0 v1 v2 0 U V){q:Z}(h:q*(v1*B+v2)<=top*B+u2):q*V<=U:=by have a:=e.hU;have b:=e.hV;grind
section
variable {h:bI} {K:VP}
def B4e{T u2 v1 v2 X yq9:Z}{hp:bI}{jq9:Z->bI->Prop}(es:Est 4294967296 1 T u2 0 v1 v2 0 X yq9)(_hT:T<18446744073709551616) (hJ:∀q,0<=q->q*yq9<=X->X<(q+1)*yq9->jq9 q hp):∃(Inv:Z->Z->bI->Prop) (mu:Z->Z->bI->J),Inv (T/v1) (T%v1) hp/\∀q r hp1,Inv q r hp1->(q>=4294967296->Inv q r hp1)/\0<=q/\q<=4294967297/\0<=r/\r<4294967296/\hp1=hp/\ (q<4294967296->¬(q*v2>4294967296*r+u2)->jq9 q hp1)/\ ((q>=4294967296\/q*v2>4294967296*r+u2)->1<=q/\(r+v1>=4294967296->jq9 (q-1) hp1)/\(r+v1<4294967296->Inv (q-1) (r+v1) hp1/\mu (q-1) (r+v1) hp1<mu q r hp1)):=by obtain⟨E,F⟩:=es.first;have m:=es.init;have C:=es.v1r;have n:=es.v2r;have y:=es.u2r;have c:=es.top0;have l:0<=T/v1:=bO c o;have z:=aN T v1;have k:=aR T (show v1≠0 from o);have A:=aM T (show 0<v1 from o);refine⟨fun q r hp1=>hp1=hp/\0<=q/\q<=4294967297/\0<=r/\r<4294967296/\q*v1+r=T/\X<(q+1)*yq9,fun q _ _=>q.toNat,⟨rfl,l,o,k,o,gz0,m⟩,?_⟩;rintro q r hp1 ⟨rfl,f,s,t,p,j,b⟩;have key:q*(v1*4294967296+v2)=(T-r)*4294967296+q*v2:=gz0;refine⟨fun _=>⟨rfl,f,s,t,p,j,b⟩,f,s,t,p,rfl,fun g D=>hJ q f (es.exact o) b,fun e=>?_⟩;have w:X<q*yq9:=by{rcases e with g|g;{exact es.big g};·exact es.low f o};have i:1<=q:=by{grind};have a:X<(q-1+1)*yq9:=gz0;have d:(q-1)*v1+(r+v1)=T:=gz0;refine⟨i,fun B=>?_,fun B=>⟨⟨rfl,o,o,o,o,d,a⟩,gz0⟩⟩;have u:(q-1)*(v1*4294967296+v2)=(T-(r+v1))*4294967296+(q-1)*v2:=gz0;have g:(q-1)*v2<=4294967296*v2:=aE o n.1;exact hJ (q-1) o (es.exact o) a
def Ud{hi lo:Z}{y:J}(hhi:0<=hi/\hi<y)(hlo:0<=lo/\lo<18446744073709551616)(hy:y<18446744073709551616) (hK:K (.tuple #[U ((hi*18446744073709551616+lo)/y),U ((hi*18446744073709551616+lo)%y)]) h):aX prog 307 #[U hi,U lo,U y] h K:=by refine B5i _ _ _ ?_;unfold B9f;refine D4 (fun e=>absurd e o) (fun _=>?_);refine B9 (fun e=>absurd e o) (fun _=>?_);refine D4 (fun e=>?_) (fun a3=>?_);{refine B9 (fun e=>absurd e o) (fun _=>?_);refine B9 (fun e=>absurd e o) (fun _=>?_);subst e;rw[eF,cR]at hK;rw[aZ hlo.1,dL hlo.1,C5 (bO hlo.1 o) (cJ (eC _ hlo.1) hlo.2)];exact hK};refine W4 hy ⟨_,rfl,?_⟩;have an:y≠0:=o;obtain⟨bg,bc⟩:=Gf an;have a0:U5 y<=64:=Js (k:=64) o;have bb:1<=U5 y:=gz0;obtain⟨s,hs⟩:∃s,s=64-U5 y:=⟨_,rfl⟩;rw[<- hs];have a1:s<64:=o;have j:0<(2:Z)^s:=bM dc;have N:=Bt (s:=s) o;have aj:0<(2:Z)^(64-s):=bM dc;have ai:U5 y=64-s:=o;have aq:(y:Z)<2^(64-s):=by{grind};have ad:(2:Z)^(63-s)<=y:=by{grind};have E:(2:Z)^s*2^(63-s)=9223372036854775808:=by{rw[<- aU,show s+(63-s)=63 from o];decide};have ah:C7 (s:Z)=(s:Z):=C5 o o;have ac:C7 ((64:Z)-s)=((64-s:J):Z):=by{rw[C5 o o];omega};have F:(y:Z)*2^s<18446744073709551616:=by{rw[<- N,aW];exact bX aq j};have az:9223372036854775808<=(y:Z)*2^s:=by{rw[<- E,aW (y:Z)];exact aI ad o};have eY:C7 ((y:Z)*2^(min s 64))=(y:Z)*2^s:=by{rw[aK o,C5 o F]};have a9:hi*2^s+2^s<=(y:Z)*2^s:=by{have:=aE (show hi+1<=(y:Z)from o) (aO j);grind};have S:0<=hi*2^s:=aQ hhi.1 o;have aa:0<=lo/2^(64-s)/\lo/2^(64-s)<2^s:=by{refine⟨bO hlo.1 o,bC aj ?_⟩;omega};have eT:bor .u64 (C7 (hi*2^(min s 64))) (dO lo (2^(min (64-s) 64)))=hi*2^s+lo/2^(64-s):=by{rw[aK (show s<=64 from o),C5 S o,B6d o,A57 hhi.1 aa o]};have eL:C7 (lo*2^(min s 64))=lo*2^s%18446744073709551616:=by{rw[aK o,F8]};have ba:0<=lo*2^s%18446744073709551616/\lo*2^s%18446744073709551616<18446744073709551616:=⟨aR _ dc,aM _ dc⟩;have hN:(hi*18446744073709551616+lo)*2^s=(hi*2^s+lo/2^(64-s))*18446744073709551616+lo*2^s%18446744073709551616:=by{have d1:lo*2^s/18446744073709551616=lo/2^(64-s):=by{rw[<- N,aW lo,Int.mul_ediv_mul_of_pos _ _ j]};grind};generalize hTT:hi*2^s+lo/2^(64-s)=T at *;generalize hLL:lo*2^s%18446744073709551616=L at *;generalize hYY:(y:Z)*2^s=yq9 at *;have t:0<=T/\T<yq9:=o;unfold A5n A5p A5m A5o;simp only[ah,ac,aC,eY,eT,eL,Xx];rw[Dc o,Dc o];have e1:Est 4294967296 1 T (L/4294967296) 0 (yq9/4294967296) (yq9%4294967296) 0 (T*4294967296+L/4294967296) yq9:=⟨dc,dc,o,o,o,o,o,o,t.1,o,o⟩;refine B9 (fun e=>absurd e o) (fun _=>?_);refine B9 (fun e=>absurd e o) (fun _=>?_);refine B9 (fun e=>absurd e o) (fun _=>?_);refine B9 (fun e=>absurd e o) (fun _=>?_);refine B9 (fun e=>absurd e o) (fun _=>?_);have X:∀{q w:Z},0<=q->q<=4294967296->0<=w->w<4294967296->0<=q*w/\q*w<18446744073709551616:=by{intro q w a b c d;refine⟨aQ a c,?_⟩;have:=dN b (show w<=4294967295 from o) c dc;omega};refine⟨fun l hp=>∃q,l=[U q]/\hp=h/\0<=q/\q*yq9<=T*4294967296+L/4294967296/\T*4294967296+L/4294967296<(q+1)*yq9,?_,?_⟩;{obtain⟨Inv,mu,i0,st⟩:=B4e (hp:=h) (jq9:=fun q hp=>∃i,[U q]=[U i]/\hp=h/\0<=i/\i*yq9<=T*4294967296+L/4294967296/\T*4294967296+L/4294967296<(i+1)*yq9) e1 o (fun q a b c=>⟨q,rfl,rfl,a,b,c⟩);refine⟨fun l hp=>∃q r,l=[U q,U r]/\Inv q r hp,fun l hp=>mu (iAt l 0) (iAt l 1) hp,⟨T/(yq9/4294967296),T%(yq9/4294967296),?_,i0⟩,?_⟩;{have dm:=aN T (yq9/4294967296);have G:=bO t.1 (show 0<=yq9/4294967296 from o);have d1:T/(yq9/4294967296)<=T:=eC _ t.1;have d2:=aR T (show yq9/4294967296≠0 from o);rw[aZ t.1,C5 (n:=T/(yq9/4294967296)) G o,aW (T/(yq9/4294967296))];have d3:=aQ (show 0<=yq9/4294967296 from o) G;rw[C5 (n:=yq9/4294967296*(T/(yq9/4294967296))) d3 o,C5 o o];have:T-yq9/4294967296*(T/(yq9/4294967296))=T%(yq9/4294967296):=o;rw[this]};rintro q r p ⟨i,r',hl,hI⟩;obtain⟨rfl,rfl⟩:q=i/\r=r':=by{simpa using hl};obtain⟨_,f,g,r0,r1,rfl,ok,D⟩:=st q r p hI;have M:=X (q:=4294967296) (w:=r) o o r0 r1;refine⟨fun l hp=>l=[]/\hp=p/\(q>=4294967296\/q*(yq9%4294967296)>4294967296*r+L/4294967296),B9 (fun Q=>⟨rfl,rfl,.inl Q⟩) (fun Q=>?_),?_⟩;{have O:=X (q:=q) (w:=yq9%4294967296) f o o o;rw[C5 O.1 O.2,C5 M.1 M.2,C5 (n:=4294967296*r+L/4294967296) o o];exact B9 (fun C=>⟨rfl,rfl,.inr C⟩) (fun C=>ok o C)};·rintro al ⟨_,rfl,m⟩;obtain⟨g1,g2,W⟩:=D m;rw[C5 (n:=r+yq9/4294967296) o o,C5 (n:=q-1) o o];exact B9 (fun H=>g2 H) (fun H=>⟨⟨_,_,rfl,(W o).1⟩,(W o).2⟩)};rintro g z ⟨af,a8,rfl,ar,a6,bf⟩;obtain rfl:g=af:=gz0;have ay:g<4294967296:=by{by_cases A:g<4294967296;{exact A};·have:=aE (show 4294967296<=g from o) (show 0<=yq9 from o);omega};have bh:(g+1)*yq9=g*yq9+yq9:=gz0;have a2:0<=g*yq9:=aQ ar o;have ag:C7 (C7 (C7 (T*4294967296)+L/4294967296)-C7 (g*yq9))=T*4294967296+L/4294967296-g*yq9:=by{simp only[F8];omega};simp only[ag];generalize hRR:T*4294967296+L/4294967296-g*yq9=R at *;have u:0<=R/\R<yq9:=o;refine B9 (fun e=>absurd e o) (fun _=>?_);have e2:Est 4294967296 1 R (L%4294967296) 0 (yq9/4294967296) (yq9%4294967296) 0 (R*4294967296+L%4294967296) yq9:=⟨dc,dc,o,o,o,o,o,o,u.1,o,o⟩;refine⟨fun l hp=>∃q,l=[U q]/\hp=z/\0<=q/\q*yq9<=R*4294967296+L%4294967296/\R*4294967296+L%4294967296<(q+1)*yq9,?_,?_⟩;{obtain⟨Inv,mu,i0,st⟩:=B4e (hp:=z) (jq9:=fun q hp=>∃i,[U q]=[U i]/\hp=z/\0<=i/\i*yq9<=R*4294967296+L%4294967296/\R*4294967296+L%4294967296<(i+1)*yq9) e2 o (fun q a b c=>⟨q,rfl,rfl,a,b,c⟩);refine⟨fun l hp=>∃q r,l=[U r,U q]/\Inv q r hp,fun l hp=>mu (iAt l 1) (iAt l 0) hp,⟨R/(yq9/4294967296),R%(yq9/4294967296),?_,i0⟩,?_⟩;{have dm:=aN R (yq9/4294967296);have G:=bO u.1 (show 0<=yq9/4294967296 from o);have d1:R/(yq9/4294967296)<=R:=eC _ u.1;have d2:=aR R (show yq9/4294967296≠0 from o);rw[aZ u.1,C5 (n:=R/(yq9/4294967296)) G o,aW (R/(yq9/4294967296))];have d3:=aQ (show 0<=yq9/4294967296 from o) G;rw[C5 (n:=yq9/4294967296*(R/(yq9/4294967296))) d3 o,C5 o o];have:R-yq9/4294967296*(R/(yq9/4294967296))=R%(yq9/4294967296):=o;rw[this]};rintro r q p ⟨i,r',hl,hI⟩;obtain⟨rfl,rfl⟩:r=r'/\q=i:=by{simpa using hl};obtain⟨_,f,g,r0,r1,rfl,ok,D⟩:=st q r p hI;have M:=X (q:=4294967296) (w:=r) o o r0 r1;refine⟨fun l hp=>l=[]/\hp=p/\(q>=4294967296\/q*(yq9%4294967296)>4294967296*r+L%4294967296),B9 (fun Q=>⟨rfl,rfl,.inl Q⟩) (fun Q=>?_),?_⟩;{have O:=X (q:=q) (w:=yq9%4294967296) f o o o;rw[C5 O.1 O.2,C5 M.1 M.2,C5 (n:=4294967296*r+L%4294967296) o o];exact B9 (fun C=>⟨rfl,rfl,.inr C⟩) (fun C=>ok o C)};·rintro al ⟨_,rfl,m⟩;obtain⟨g1,g2,W⟩:=D m;rw[C5 (n:=r+yq9/4294967296) o o,C5 (n:=q-1) o o];exact B9 (fun H=>g2 H) (fun H=>⟨⟨_,_,rfl,(W o).1⟩,(W o).2⟩)};rintro f be ⟨ak,a4,rfl,ap,a7,a5⟩;obtain rfl:f=ak:=gz0;refine B9 (fun e=>absurd e o) (fun _=>?_);have au:f<4294967296:=by{by_cases A:f<4294967296;{exact A};·have:=aE (show 4294967296<=f from o) (show 0<=yq9 from o);omega};have bd:(f+1)*yq9=f*yq9+yq9:=gz0;have av:0<=f*yq9:=aQ ap o;have ao:C7 (C7 (C7 (R*4294967296)+L%4294967296)-C7 (f*yq9))=R*4294967296+L%4294967296-f*yq9:=by{simp only[F8];omega};rw[ao,C5 (n:=g*4294967296) o o,C5 (n:=g*4294967296+f) o o,B6d o];have ax:(hi*18446744073709551616+lo)*2^s=(g*4294967296+f)*(y*2^s)+(R*4294967296+L%4294967296-f*yq9):=by{grind};have B:R*4294967296+L%4294967296-f*yq9=(hi*18446744073709551616+lo-(g*4294967296+f)*y)*2^s:=gz0;rw[B,fD _ (show(2:Z)^s≠0 from o)];have am:0<=hi*18446744073709551616+lo-(g*4294967296+f)*y:=by{by_cases A:0<=hi*18446744073709551616+lo-(g*4294967296+f)*y;{exact A};·have:=aE (show hi*18446744073709551616+lo-(g*4294967296+f)*y <= -1 from o) (aO j);omega};have ae:hi*18446744073709551616+lo-(g*4294967296+f)*y<y:=by{by_cases A:hi*18446744073709551616+lo-(g*4294967296+f)*y<y;{exact A};·have:=aE (show(y:Z)<=hi*18446744073709551616+lo-(g*4294967296+f)*y from o) (aO j);omega};have V:(hi*18446744073709551616+lo)/y=g*4294967296+f:=by{have:hi*18446744073709551616+lo=(hi*18446744073709551616+lo-(g*4294967296+f)*y)+(g*4294967296+f)*y:=o;rw[this,eI _ _ o,bK am ae,cR]};have aw:(hi*18446744073709551616+lo)%y=hi*18446744073709551616+lo-(g*4294967296+f)*y:=by{rw[Int.emod_def,V,aW (y:Z)]};grind
end
def S8{xs:Y Z}(d:Dig b64 xs)(i:J):0<=xs.getD i 0/\xs.getD i 0<18446744073709551616:=d.getD dc i
def Fv(c:Z):0<=c%18446744073709551616/\c%18446744073709551616<b64:=⟨aR _ dc,aM _ dc⟩
section
variable {h g:bI} {K:VP} {A B:Option bN} {ac bc:J}
def Fn{xs:Y Z}(s:SlI .u64 h A xs)(hc:xs.length<=ac)(hl:xs.length<=100000000000000)(hK:∀m,m<=xs.length->gE (xs.take m)->val b64 (xs.take m)=val b64 xs->K (.slice A m ac) h):aX prog 207 #[.slice A xs.length ac] h K:=by refine(fnk func207 [(2,[3],[],[I 0])]) ?_;refine⟨fun l d=>∃m:J,l=[I m]/\m<=xs.length/\d=h/\val b64 (xs.take m)=val b64 xs,fun l _=>(iAt l 0).toNat,⟨xs.length,rfl,aY _,rfl,by rw[bZ]⟩,?_⟩;rintro g p ⟨m,f,c,rfl,a⟩;obtain rfl:g=(m:Z):=gz0;refine B9 (fun n=>?_) (fun n=>?_);{obtain⟨j,rfl⟩:∃j,m=j+1:=⟨m-1,o⟩;have e:C4 (((j+1:J):Z)-1)=(j:Z):=by{rw[C0 o o];omega};rw[e];have k:=S6 b64 (xs:=xs) (i:=j) o;refine s.load rfl o o ?_;refine D4 (fun b=>?_) (fun b=>?_);{exact⟨⟨j,rfl,o,rfl,gz0⟩,by simp only[iAt,aH];omega⟩};·refine⟨⟨o,o⟩,?_⟩;rw[I7,aC,cC,cC];refine hK (j+1) c ?_ a;rw[Un o];exact A48 b};·have:m=0:=o;subst this;refine⟨⟨o,o⟩,?_⟩;rw[I7,aC,cC,cC];exact hK 0 o Norm.nil a
def U6{xs:Y Z}(s:SlI .u64 h A xs)(hd:Dig b64 xs)(hc:xs.length<=ac)(hl:xs.length<=100000000000000)(hK:∀m,m<=xs.length->Mw h A m (val b64 xs)->K (.slice A m ac) h):aX prog 207 #[.slice A xs.length ac] h K:=by refine Fn s hc hl ?_;intro m a d b;refine hK m a ⟨xs.take m,gz0,?_,hd.take m,d,b⟩;have:=s.cut (c:=ac) (l:=0) (m:=m) o a hc;simpa[I7]using this
def Cr{w:Z}(hw:0<=w/\w<18446744073709551616)(hK:∀A m c h',h.le h'->m<=c->Mw h' A m w->K (.slice A m c) h'):aX prog 191 #[U w] h K:=by refine(fnk func191) ?_;refine D4 (fun e=>?_) (fun e=>?_);{subst e;exact hK none 0 0 h (B8 h) (aY _) Mag.zero};·refine T6 U3 rfl ?_;intro b a;exact⟨_,_,_,rfl,hK _ _ _ _ (Heap.le_put _ a) (aY _) ⟨[w],rfl,SlI.new h b [w] 161 _,Dig.one hw,by simpa[gE]using e,At _ _⟩⟩
def I0{x y:Z}{an bn:J}(ma:Mw h A an x)(mb:Mw h B bn y)(hl:an<=100000000000000)(hK:K (I (Gr x y)) h):aX prog 208 #[.slice A an ac,.slice B bn bc] h K:=by obtain⟨xs,rfl,g,c,z,rfl⟩:=ma;obtain⟨a,rfl,m,b,r,rfl⟩:=mb;refine(fnk func208 [(4,[5],[],[I 0])]) ?_;refine D8 (fun u=>?_) (fun u=>?_);{refine Xf ⟨_,rfl,?_⟩;have:Gr (xs.length:Z) (a.length:Z)=Gr (val b64 xs) (val b64 a):=by{unfold Gr;by_cases f:xs.length<a.length;{have:=Kh dc c b r f;omega};·have:=Kh dc b c z o;omega};grind};·have n:xs.length=a.length:=o;refine⟨fun l p=>∃k:J,l=[I ((k:Z)-1)]/\k<=xs.length/\p=h/\xs.drop k=a.drop k,fun l _=>(iAt l 0+1).toNat,⟨xs.length,?_,aY _,rfl,?_⟩,?_⟩;{rw[C0 o o]};{grind};rintro i C ⟨k,t,D,rfl,d⟩;obtain rfl:i=(k:Z)-1:=gz0;refine B9 (fun f=>?_) (fun f=>?_);{obtain⟨j,rfl⟩:∃j,k=j+1:=⟨k-1,o⟩;have e:((j+1:J):Z)-1=(j:Z):=o;rw[e];refine g.load rfl o o ?_;refine m.load rfl o o ?_;rw[aC];refine D8 (fun w=>?_) (fun w=>?_);{refine g.load rfl o o ?_;refine m.load rfl o o ?_;refine B4o ⟨_,rfl,B8 _,?_⟩;have:Gr (xs.getD j 0) (a.getD j 0)=Gr (val b64 xs) (val b64 a):=by{unfold Gr;by_cases s:xs.getD j 0<a.getD j 0;{have:=Kg dc c b (i:=j) o o d s;omega};·have:=Kg dc b c (i:=j) o o d.symm o;omega};grind};·rw[C0 o o];refine⟨⟨j,rfl,o,rfl,?_⟩,by simp only[iAt,aH];omega⟩;rw[cT (show j<xs.length from o),cT (show j<a.length from o),d];grind};·have q:k=0:=o;have:Gr (val b64 xs) (val b64 xs)=0:=by{unfold Gr;omega};grind
def Ge{xs:Y Z}{an:J}(s:SlI .u64 h A xs)(hn:an=xs.length)(hl:xs.length<=17500000000000)(hK:∀A' c' h' g',h.le g'->fW h' g' 161 1 A' xs.length c' (xs.map (bU .u64))->K (.slice A' xs.length c') h'):aX prog 263 #[.slice A an ac] h K:=by subst hn;refine(fnk func263) ?_;refine Br.of (fun e=>?_) (fun e=>?_);{have j:xs=[]:=by{rcases s with l|⟨a,k,_⟩;{simp_all};grind};subst j;exact hK none 0 h h (B8 h) (by simpa using Priv.nil _ _ _ _)};·refine Fd U3 ?_;intro b g;refine⟨_,_,_,rfl,?_⟩;have c:=Heap.le_put (h:=h) (b:=b) (.cells #[] 161) g;refine Bz U3 (Priv.nil _ _ _ _) (ys:=xs.map (bU .u64)) (by simp) (SlI.mono c s) (fun v f=>?_) o o ?_;{obtain⟨a,_,rfl⟩:=List.mem_map.1 f;rfl};·intro A' c' h' g' i d;simp only[Nat.zero_add,cL]at d ⊢;exact⟨_,_,_,rfl,hK _ _ _ _ (B6 c i) d⟩
variable {b:J} {e:cK} {pre post:Y eZ}
def Jw{xs ys:Y Z}{an bn:J}(w:Win .u64 h g b e A pre xs post)(hn:an=xs.length)(sy:SlI .u64 g B ys)(hm:bn=ys.length)(dx:Dig b64 xs)(dy:Dig b64 ys)(hle:ys.length<=xs.length)(hfit:val b64 xs+val b64 ys<b64^xs.length)(hl:xs.length<=100000000000000) (hK:∀xs' h',xs'.length=xs.length->Dig b64 xs'->val b64 xs'=val b64 xs+val b64 ys->Win .u64 h' g b e A pre xs' post->K (.tuple #[]) h'):aX prog 215 #[.slice A an ac,.slice B bn bc] h K:=by subst hn hm;refine(fnk func215 [(2,[4,10],[],[U 0,I 0]),(7,[4,7],[],[U 0,I 0])]) ?_;refine⟨fun l s=>∃(k:J) (c:Z) (zs:Y Z),l=[U c,I k]/\k<=ys.length/\zs.length=xs.length/\Dig b64 zs/\(0<=c/\c<=1)/\Win .u64 s g b e A pre zs post/\zs.drop k=xs.drop k/\val b64 (zs.take k)+c*b64^k=val b64 (xs.take k)+val b64 (ys.take k),fun l _=>ys.length-(iAt l 1).toNat,⟨0,0,xs,rfl,o,rfl,dx,o,w,rfl,by rfl⟩,?_⟩;rintro c i s ⟨k,D,zs,G,M,j,m,z,f,d,y⟩;obtain⟨rfl,rfl⟩:c=D/\i=(k:Z):=gz0;refine B9 (fun F=>?_) (fun F=>?_);{have O:=S8 dy k;have gz:=S8 m k;have q:=F7 d;have E:=C6 b64 xs k;have Q:=C6 b64 ys k;refine(sy.mono f.le).load rfl o o ?_;refine f.sl.load j.symm o o ?_;simp only[aC];refine Ev gz O z ⟨_,_,rfl,?_⟩;obtain⟨a,t,_⟩:=SlV.at f.sl (i:=k) gz0;refine⟨a,t,o,o,f.storeN (i:=k) H0 t o ?_⟩;intro h' C;rw[C0 (n:=(k:Z)+1) o o];refine⟨⟨k+1,_,_,rfl,o,gz0,m.set (Fv _),o,C,?_,?_⟩,by simp only[iAt,aH,aJ];omega⟩;{rw[E5 o];exact F0 d};·rw[D5 o,F9,aL,aK o,bG,Cz,E,Q,<- q];grind};·have p:k=ys.length:=o;subst p;rw[bZ]at y;refine⟨fun l s=>∃(k:J) (c:Z) (zs:Y Z),l=[U c,I k]/\ys.length<=k/\k<=xs.length/\zs.length=xs.length/\Dig b64 zs/\(0<=c/\c<=1)/\Win .u64 s g b e A pre zs post/\zs.drop k=xs.drop k/\val b64 (zs.take k)+c*b64^k=val b64 (xs.take k)+val b64 ys,fun l _=>xs.length-(iAt l 1).toNat,⟨ys.length,c,zs,rfl,o,o,j,m,z,f,d,y⟩,?_⟩;rintro c i s ⟨k,D,zs,G,N,M,j,m,z,f,d,y⟩;obtain⟨rfl,rfl⟩:c=D/\i=(k:Z):=gz0;have u:=G9 b64 zs (i:=k) o;have r:=G9 b64 xs (i:=k) o;refine D8 (fun L=>B9 (fun F=>?_) (fun F=>?_)) (fun L=>?_);{have gz:=S8 m k;have q:=F7 d;have E:=C6 b64 xs k;refine f.sl.load j.symm o o ?_;simp only[aC];refine Ev gz o z ⟨_,_,rfl,?_⟩;obtain⟨a,t,_⟩:=SlV.at f.sl (i:=k) gz0;refine⟨a,t,o,o,f.storeN (i:=k) H0 t o ?_⟩;intro h' C;rw[C0 (n:=(k:Z)+1) o o];refine⟨⟨k+1,_,_,rfl,o,o,gz0,m.set (Fv _),o,C,?_,?_⟩,by simp only[iAt,aH,aJ];omega⟩;{rw[E5 o];exact F0 d};·rw[D5 o,F9,aL,aK o,bG,Cz,E,<- q];grind};{exfalso;have p:k=xs.length:=o;subst p;have H:c=1:=o;subst H;rw[bZ]at y;have:=C9 dc (m.take xs.length);omega};grind
def Fq{xs ys:Y Z}{an bn:J}(w:Win .u64 h g b e A pre xs post)(hn:an=xs.length)(sy:SlI .u64 g B ys)(hm:bn=ys.length)(dx:Dig b64 xs)(dy:Dig b64 ys)(hle:ys.length<=xs.length)(hfit:val b64 ys<=val b64 xs)(hl:xs.length<=100000000000000) (hK:∀xs' h',xs'.length=xs.length->Dig b64 xs'->val b64 xs'=val b64 xs-val b64 ys->Win .u64 h' g b e A pre xs' post->K (.tuple #[]) h'):aX prog 262 #[.slice A an ac,.slice B bn bc] h K:=by subst hn hm;refine(fnk func262 [(2,[4,10],[],[U 0,I 0]),(7,[4,7],[],[U 0,I 0])]) ?_;have key:∀{z y c:Z},(0<=z/\z<18446744073709551616)->(0<=y/\y<18446744073709551616)->(0<=c/\c<=1)->(z-y-c)%18446744073709551616=z-y-c+18446744073709551616*(if z-y-c<0 then 1 else 0):=by{omega};refine⟨fun l s=>∃(k:J) (c:Z) (zs:Y Z),l=[U c,I k]/\k<=ys.length/\zs.length=xs.length/\Dig b64 zs/\(0<=c/\c<=1)/\Win .u64 s g b e A pre zs post/\zs.drop k=xs.drop k/\val b64 (zs.take k)=val b64 (xs.take k)-val b64 (ys.take k)+c*b64^k,fun l _=>ys.length-(iAt l 1).toNat,⟨0,0,xs,rfl,o,rfl,dx,o,w,rfl,by rfl⟩,?_⟩;rintro c i s ⟨k,E,zs,L,O,j,m,q,f,d,t⟩;obtain⟨rfl,rfl⟩:c=E/\i=(k:Z):=gz0;refine B9 (fun H=>?_) (fun H=>?_);{have M:=S8 dy k;have gz:=S8 m k;have p:=F7 d;have F:=C6 b64 xs k;have R:=C6 b64 ys k;refine(sy.mono f.le).load rfl o o ?_;refine f.sl.load j.symm o o ?_;simp only[aC];refine Gz gz M q ⟨_,_,rfl,?_⟩;obtain⟨a,u,_⟩:=SlV.at f.sl (i:=k) gz0;refine⟨a,u,o,o,f.storeN (i:=k) H0 u o ?_⟩;intro h' D;rw[C0 (n:=(k:Z)+1) o o];refine⟨⟨k+1,_,_,rfl,o,by simp_all,m.set (Fv _),o,D,?_,?_⟩,by simp only[iAt,aH,aJ];omega⟩;{rw[E5 o];exact F0 d};·rw[D5 o,F9,aL,aK o,bG,F,R,<- p,t,key gz M q];grind};·have G:k=ys.length:=o;subst G;rw[bZ]at t;refine⟨fun l s=>∃(k:J) (c:Z) (zs:Y Z),l=[U c,I k]/\ys.length<=k/\k<=xs.length/\zs.length=xs.length/\Dig b64 zs/\(0<=c/\c<=1)/\Win .u64 s g b e A pre zs post/\zs.drop k=xs.drop k/\val b64 (zs.take k)=val b64 (xs.take k)-val b64 ys+c*b64^k,fun l _=>xs.length-(iAt l 1).toNat,⟨ys.length,c,zs,rfl,o,o,j,m,q,f,d,t⟩,?_⟩;rintro c i s ⟨k,E,zs,L,Q,O,j,m,q,f,d,t⟩;obtain⟨rfl,rfl⟩:c=E/\i=(k:Z):=gz0;have C:=G9 b64 zs (i:=k) o;have r:=G9 b64 xs (i:=k) o;refine D8 (fun N=>B9 (fun H=>?_) (fun H=>?_)) (fun N=>?_);{have gz:=S8 m k;have p:=F7 d;have F:=C6 b64 xs k;refine f.sl.load j.symm o o ?_;simp only[aC];refine Gz gz o q ⟨_,_,rfl,?_⟩;obtain⟨a,u,_⟩:=SlV.at f.sl (i:=k) gz0;refine⟨a,u,o,o,f.storeN (i:=k) H0 u o ?_⟩;intro h' D;rw[C0 (n:=(k:Z)+1) o o];refine⟨⟨k+1,_,_,rfl,o,o,gz0,m.set (Fv _),o,D,?_,?_⟩,by simp only[iAt,aH,aJ];omega⟩;{rw[E5 o];exact F0 d};·rw[D5 o,F9,aL,aK o,bG,F,<- p,t,key gz (y:=0) o q];grind};{exfalso;have:=Q3 dc (m.take xs.length);grind};grind
def A28{x y:Z}{an bn:J}(ma:Mw h A an x)(mb:Mw h B bn y)(hab:bn<=an)(hl:an<=30000000000000)(hb0:bn≠0)(hK:∀A' m c' h',h.le h'->m<=c'->Mw h' A' m (x+y)->K (.slice A' m c') h'): wpH prog (Instr.makeSlice 116 (I (C4 ((an:Z)+1))) (I (C4 ((an:Z)+1)))) (fun v hp1=>∃(t20A:Option bN) (t20n:J) (t20c:J),v= .slice t20A t20n t20c/\∀ty,wpH prog (dX #[116,116] ty #[.slice t20A t20n t20c,.slice A an ac]) (fun v1 hp2=>∃(t23:Z),v1=I t23/\aX prog 215 #[.slice t20A t20n t20c,.slice B bn bc] hp2 (fun r hp3=>r= .tuple #[]/\aX prog 207 #[.slice t20A t20n t20c] hp3 (fun r1 hp4=>∃(t28A:Option bN) (t28n:J) (t28c:J),r1= .slice t28A t28n t28c/\K (.slice t28A t28n t28c) hp4))) hp1) h:=by obtain⟨xs,rfl,z,n,L,rfl⟩:=ma;obtain⟨H,rfl,t,k,F,rfl⟩:=mb;have D:C4 ((xs.length:Z)+1)=((xs.length+1:J):Z):=by{rw[C0 o o];omega};rw[D];refine N8 U3 o o o ?_;intro b s;refine⟨_,_,_,rfl,fun ty=>?_⟩;have j:=Win.blk .u64 161 s (aF (xs.length+1) 0);refine Fg U3 j (by simp) (SlI.mono j.le z) rfl (by simp) ?_;intro G g;refine⟨_,rfl,?_⟩;have a:(aF (xs.length+1) (0:Z)).drop xs.length=[0]:=by{simp_all};rw[a]at g;have d:val b64 (xs++[0])=val b64 xs:=by{rw[F9];omega};have p:=Q3 dc n;have w:=Q3 dc k;have q:=D7 (B:=b64) dc hab;refine Jw g (by simp) t rfl (n.append (Dig.one dc)) k gz0 ?_ gz0 ?_;{grind};intro zs E u e f l;refine⟨rfl,?_⟩;have c:zs.length=xs.length+1:=gz0;rw[<- c];refine U6 l.sl e o o ?_;intro m C i;rw[f,d]at i;exact⟨_,_,_,rfl,hK _ _ _ _ l.le C i⟩
def W7{x y:Z}{an bn:J}(ma:Mw h A an x)(mb:Mw h B bn y)(ha:an<=ac)(hb:bn<=bc)(hl:an<=30000000000000)(hl2:bn<=30000000000000)(hK:∀A' m c' h',h.le h'->m<=c'->Mw h' A' m (x+y)->K (.slice A' m c') h'):aX prog 213 #[.slice A an ac,.slice B bn bc] h K:=by refine(fnk func213 (cs:=[(3,[0,1],[],[.slice none 0 0,.slice none 0 0])]) (wr:=[215])) ?_;refine⟨fun l h'=>h'=h/\∃(A1 B1:Option bN) (a b c1 c2:J) (j k:Z),l=[.slice A1 a c1,.slice B1 b c2]/\Mw h A1 a j/\Mw h B1 b k/\b<=a/\a<=30000000000000/\a<=c1/\j+k=x+y,B9 (fun r=>?_) (fun r=>?_),?_⟩;{grind};{grind};·rintro A1 a c1 B1 b c2 w ⟨rfl,A1',B1',e,d,g,f,j,k,s,q,p,u,i,n,c⟩;obtain⟨⟨rfl,rfl,rfl⟩,rfl,rfl,rfl⟩:(A1=A1'/\a=e/\c1=g)/\B1=B1'/\b=d/\c2=f:=gz0;rw[<- c]at hK;refine D4 (fun t=>?_) (fun t=>?_);{have:=(p.len_zero dc).2 o;subst this;rw[fJ]at hK;exact hK _ _ _ _ (B8 _) n q};·refine Ke _ (A28 (ac:=c1) (bc:=c2) q p u i o hK) ?_;grind
def I9{x y:Z}{an bn:J}(ma:Mw h A an x)(mb:Mw h B bn y)(ha:an<=ac)(hl:an<=17500000000000)(hxy:y<=x)(hK:∀A' m c' h',h.le h'->m<=c'->Mw h' A' m (x-y)->K (.slice A' m c') h'):aX prog 214 #[.slice A an ac,.slice B bn bc] h K:=by have f:bn<=an:=mb.len_le dc (cJ hxy (ma.lt dc));refine(fnk func214 (wr:=[262])) ?_;refine D4 (fun n=>?_) (fun n=>?_);{have:=(mb.len_zero dc).2 o;subst this;rw[Int.sub_zero]at hK;exact hK _ _ _ _ (B8 _) ha ma};·obtain⟨xs,rfl,q,s,E,rfl⟩:=ma;obtain⟨D,rfl,p,r,u,rfl⟩:=mb;refine Ge q rfl o ?_;intro A1 c1 w z j e;refine⟨_,_,_,rfl,?_⟩;obtain⟨b,i,l⟩:=e.win gz0;refine Fq l rfl (p.mono j) rfl s r f hxy o ?_;intro zs t c a d k;refine⟨rfl,?_⟩;rw[<- c];refine U6 k.sl a (by have:=e.2.1;omega) o ?_;intro m C g;rw[d]at g;exact⟨_,_,_,rfl,hK _ _ _ _ (B6 j k.le) (by have:=e.2.1;omega) g⟩
def Jv{zs xs:Y Z}{an bn:J}{wd:Z}(w:Win .u64 h g b e A pre zs post)(hn:an=zs.length)(sx:SlI .u64 g B xs)(hm:bn=xs.length)(dz:Dig b64 zs)(dx:Dig b64 xs)(hle:zs.length=xs.length)(hw:0<=wd/\wd<18446744073709551616)(hl:xs.length<=100000000000000) (hK:∀zs' c h',zs'.length=zs.length->Dig b64 zs'->(0<=c/\c<18446744073709551616)->val b64 zs'+c*b64^zs.length=val b64 zs+val b64 xs*wd->Win .u64 h' g b e A pre zs' post->K (U c) h'):aX prog 211 #[.slice A an ac,.slice B bn bc,U wd] h K:=by subst hn hm;refine(fnk func211 [(3,[7,16],[],[U 0,I 0])]) ?_;refine⟨fun l r=>∃(k:J) (c:Z) (d:Y Z),l=[U c,I k]/\k<=xs.length/\d.length=zs.length/\Dig b64 d/\(0<=c/\c<18446744073709551616)/\Win .u64 r g b e A pre d post/\d.drop k=zs.drop k/\val b64 (d.take k)+c*b64^k=val b64 (zs.take k)+val b64 (xs.take k)*wd,fun l _=>xs.length-(iAt l 1).toNat,⟨0,0,zs,rfl,o,rfl,dz,o,w,rfl,by simp[val]⟩,?_⟩;rintro c i r ⟨k,y,d,C,G,m,q,D,j,f,H⟩;obtain⟨rfl,rfl⟩:c=y/\i=(k:Z):=gz0;refine B9 (fun z=>?_) (fun z=>?_);{have s:=S8 dx k;have gz:=S8 q k;have p:=F7 f;have E:=C6 b64 xs k;have F:=C6 b64 zs k;have hm:0<=xs.getD k 0*wd/\xs.getD k 0*wd<=18446744073709551615*18446744073709551615:=⟨aQ s.1 hw.1,dN o o hw.1 dc⟩;refine(sx.mono j.le).load rfl o o ?_;rw[aC];refine Oy s hw ⟨_,_,rfl,?_⟩;generalize hmm:xs.getD k 0*wd=mm at *;refine Ev o D o ⟨_,_,rfl,?_⟩;refine j.sl.load m.symm o o ?_;rw[aC];refine Ev gz o o ⟨_,_,rfl,?_⟩;obtain⟨a,t,_⟩:=SlV.at j.sl (i:=k) gz0;refine⟨a,t,o,o,j.storeN (i:=k) H0 t o ?_⟩;intro h' u;rw[C0 (n:=(k:Z)+1) o o];rw[C5 (n:=mm/18446744073709551616+(mm%18446744073709551616+c+0)/18446744073709551616) o o];rw[C5 o o];refine⟨⟨k+1,_,_,rfl,o,gz0,q.set (Fv _),o,u,?_,?_⟩,by simp only[iAt,aH,aJ];omega⟩;{rw[E5 o];exact F0 f};·rw[D5 o,F9,aL,aK o,bG,E,F,<- p];grind};grind
def Kz{zs xs:Y Z}{an bn:J}{wd:Z}(w:Win .u64 h g b e A pre zs post)(hn:an=zs.length)(sx:SlI .u64 g B xs)(hm:bn=xs.length)(dz:Dig b64 zs)(dx:Dig b64 xs)(hle:zs.length=xs.length)(hw:0<=wd/\wd<18446744073709551616)(hl:xs.length<=100000000000000) (hK:∀zs' c h',zs'.length=zs.length->Dig b64 zs'->(0<=c/\c<18446744073709551616)->val b64 zs'=val b64 zs-val b64 xs*wd+c*b64^zs.length->Win .u64 h' g b e A pre zs' post->K (U c) h'):aX prog 322 #[.slice A an ac,.slice B bn bc,U wd] h K:=by subst hn hm;refine(fnk func322 [(3,[7,16],[],[U 0,I 0])]) ?_;refine⟨fun l r=>∃(k:J) (c:Z) (d:Y Z),l=[U c,I k]/\k<=xs.length/\d.length=zs.length/\Dig b64 d/\(0<=c/\c<18446744073709551616)/\Win .u64 r g b e A pre d post/\d.drop k=zs.drop k/\val b64 (d.take k)=val b64 (zs.take k)-val b64 (xs.take k)*wd+c*b64^k,fun l _=>xs.length-(iAt l 1).toNat,⟨0,0,zs,rfl,o,rfl,dz,o,w,rfl,by simp[val]⟩,?_⟩;rintro c i r ⟨k,z,d,D,H,m,q,E,j,f,y⟩;obtain⟨rfl,rfl⟩:c=z/\i=(k:Z):=gz0;refine B9 (fun C=>?_) (fun C=>?_);{have s:=S8 dx k;have gz:=S8 q k;have p:=F7 f;have F:=C6 b64 xs k;have G:=C6 b64 zs k;have hm:0<=xs.getD k 0*wd/\xs.getD k 0*wd<=18446744073709551615*18446744073709551615:=⟨aQ s.1 hw.1,dN o o hw.1 dc⟩;refine(sx.mono j.le).load rfl o o ?_;rw[aC];refine Oy s hw ⟨_,_,rfl,?_⟩;generalize hmm:xs.getD k 0*wd=mm at *;refine Ev o E o ⟨_,_,rfl,?_⟩;refine j.sl.load m.symm o o ?_;rw[aC];refine Gz gz o o ⟨_,_,rfl,?_⟩;obtain⟨a,t,_⟩:=SlV.at j.sl (i:=k) gz0;refine⟨a,t,o,o,j.storeN (i:=k) H0 t o ?_⟩;intro h' u;rw[C0 (n:=(k:Z)+1) o o];rw[C5 (n:=mm/18446744073709551616+(mm%18446744073709551616+c+0)/18446744073709551616) o o];rw[C5 o o];refine⟨⟨k+1,_,_,rfl,o,gz0,q.set (Fv _),o,u,?_,?_⟩,by simp only[iAt,aH,aJ];omega⟩;{rw[E5 o];exact F0 f};·rw[D5 o,F9,aL,aK o,bG,F,G,<- p,y];have key:(d.getD k 0-(mm%18446744073709551616+c+0)%18446744073709551616-0)%18446744073709551616=d.getD k 0-mm-c+18446744073709551616*(mm/18446744073709551616+(mm%18446744073709551616+c+0)/18446744073709551616+(if d.getD k 0-(mm%18446744073709551616+c+0)%18446744073709551616-0<0 then 1 else 0)):=o;grind};grind
end
def Zj{x z:Z}{s:J}(hs:s<=64)(_hx:0<=x/\x<18446744073709551616)(hz:0<=z/\z<(2:Z)^s): bor .u64 z (x*2^s%18446744073709551616)=z+x*2^s%18446744073709551616/\z+x*2^s%18446744073709551616<18446744073709551616/\x*2^s%18446744073709551616=2^s*(x%2^(64-s)):=by have g:=Bt hs;have c:0<(2:Z)^s:=bM dc;have k:0<(2:Z)^(64-s):=bM dc;have a:z<18446744073709551616:=by{have:(2:Z)^s*1<=2^s*2^(64-s):=aI o o;omega};have i:x*2^s%18446744073709551616=2^s*(x%2^(64-s)):=by{rw[<- g,aW x,Int.mul_emod_mul_of_pos _ _ c]};have e:=Fv (x*2^s);have j:0<=x%2^(64-s):=aR _ o;have f:(x*2^s%18446744073709551616).toNat=2^s*(x%2^(64-s)).toNat:=by{grind};have d:z.toNat<2^s:=by{grind};have b:bor .u64 z (x*2^s%18446744073709551616)=z+x*2^s%18446744073709551616:=by{rw[A7h ⟨hz.1,a⟩ e,f,Nat.or_comm,A8f d,<- f];omega};refine⟨b,?_,i⟩;rw[<- b,A7h ⟨hz.1,a⟩ e];have:z.toNat ||| (x*2^s%18446744073709551616).toNat<2^64:=Nat.or_lt_two_pow o o;omega
def My(k:J):b64^k=(2:Z)^(64*k):=by rw[show b64=(2:Z)^64 from dc,<- Int.pow_mul]
section
variable {h g:bI} {K:VP} {A B:Option bN} {ac bc:J}
def U7{x:Z}{an s:J}(ma:Mw h A an x)(ha:an<=ac)(hl:an<=20000000000000)(hs:s<=100000000000000)(hK:∀A' m c' h',h.le h'->m<=c'->Mw h' A' m (x*2^s)->K (.slice A' m c') h'):aX prog 256 #[.slice A an ac,U s] h K:=by have g:=ma.len_zero dc;refine(fnk func256 [(6,[31],[],[I 0])]) ?_;refine D4 (fun y=>?_) (fun y=>D4 (fun f=>?_) (fun f=>?_));{have:=g.2 o;subst this;rw[eF]at hK;exact hK _ _ _ _ (B8 _) ha ma};{have:s=0:=o;subst this;rw[gL,Int.mul_one]at hK;exact hK _ _ _ _ (B8 _) ha ma};·obtain⟨xs,rfl,S,dx,nx,rfl⟩:=ma;obtain⟨k0,hk0⟩:∃k0,k0=s/64:=⟨_,rfl⟩;obtain⟨r,hr⟩:∃r,r=s%64:=⟨_,rfl⟩;have V:C4 (C7 (cP (s:Z) 64))=(k0:Z):=by{rw[aZ o,C5 o o,C0 o o];omega};have O:Int.tmod (s:Z) 64=(r:Z):=gz0;have w:C7 ((64:Z)-(r:Z))=((64-r:J):Z):=by{rw[C5 o o];omega};simp only[V,O,w,aC];have X:C4 (C4 ((xs.length:Z)+k0)+1)=((xs.length+k0+1:J):Z):=by{rw[C0 (n:=(xs.length:Z)+k0) o o,C0 o o];omega};rw[X];refine N8 U3 o o o ?_;intro b z;rw[aC];refine⟨_,_,_,rfl,?_⟩;have W:0<(2:Z)^r:=bM dc;have j:0<(2:Z)^(64-r):=bM dc;have G:=Bt (s:=r) o;refine⟨fun l h'=>∃(k:J) (zs:Y Z),l=[I k]/\k<=xs.length/\zs.length=xs.length+k0+1/\Dig b64 zs/\h'=blk .u64 161 h b zs/\zs.drop (k+k0+1)=aF (xs.length-k) 0/\zs.getD (k+k0) 0<2^r/\val b64 (zs.take (k+k0+1))=val b64 (xs.take k)*2^s,fun l _=>xs.length-(iAt l 0).toNat,⟨0,_,rfl,o,by simp,J4 dc _,rfl,?_,?_,?_⟩,?_⟩;{grind};{grind};{rw[cV,De];simp[val]};rintro i hp ⟨k,zs,ad,hk,a,c,rfl,p,C,u⟩;obtain rfl:i=(k:Z):=gz0;have q:=Eb (k:=.u64) (e:=161) z zs;refine B9 (fun f=>?_) (fun f=>?_);{have t:=S8 dx k;have gz:=S8 c (k+k0);have D:=C6 b64 xs k;have T:=C6 b64 zs (k+k0);have M:C4 ((k:Z)+k0)=((k+k0:J):Z):=by{rw[C0 o o];omega};have e3:C4 (((k+k0:J):Z)+1)=((k+k0+1:J):Z):=by{rw[C0 o o];omega};rw[M,e3];refine(S.mono q).load rfl o o ?_;refine(Ck .u64 161 h b zs).load a.symm o o ?_;simp only[aC];refine B9 (fun e=>absurd e o) (fun _=>?_);refine⟨_,rfl,o,o,?_⟩;obtain⟨N,L,o3⟩:=Zj (s:=r) o t ⟨gz.1,C⟩;rw[aK (show r<=64 from o),F8,N,B6d (show 64-r<=64 from o)];have H:=Fv (xs.getD k 0*2^r);refine Bi (zs:=zs) (i:=k+k0) H0 o ?_;refine B9 (fun e=>absurd e o) (fun _=>?_);refine⟨_,rfl,o,o,?_⟩;refine Bi (zs:=zs.set (k+k0) (zs.getD (k+k0) 0+xs.getD k 0*2^r%18446744073709551616)) (i:=k+k0+1) H0 gz0 ?_;have F:0<=xs.getD k 0/2^(64-r)/\xs.getD k 0/2^(64-r)<2^r:=⟨bO t.1 o,bC j o⟩;have Q:(2:Z)^r<=9223372036854775808:=by{have:=D7 (B:=2) dc (show r<=63 from o);omega};rw[C0 (n:=(k:Z)+1) o o];refine⟨⟨k+1,(zs.set (k+k0) (zs.getD (k+k0) 0+xs.getD k 0*2^r%18446744073709551616)).set (k+k0+1) (xs.getD k 0/2^(64-r)),rfl,o,gz0,(c.set ⟨o,L⟩).set ⟨F.1,gz0⟩,rfl,?_,?_,?_⟩,by simp only[iAt,aH];omega⟩;{rw[show k+1+k0+1=(k+k0+1)+1 from o,E5 o,E5 o,<- cZ,p,bL];congr 1};{grind};·rw[show k+1+k0+1=(k+k0+1)+1 from o,D5 gz0,F9,D5 o,F9];simp only[aL,aT,eO];rw[aK (show k+k0<=zs.length from o),bG,D];rw[T]at u;have aa:(2:Z)^s=b64^k0*2^r:=by{rw[My,<- aU];congr 1;omega};have R:b64^(k+k0)=b64^k*b64^k0:=aU _ _ _;have E:=aN (xs.getD k 0) (2^(64-r));grind};·have d:k=xs.length:=o;subst d;rw[bZ,aP o]at u;rw[<- a];refine U6 (Ck _ _ _ _ _) c (aY _) o ?_;grind
def Hq{x:Z}{an s:J}(ma:Mw h A an x)(hl:an<=20000000000000)(hs:s<=1000000000000000)(hK:∀A' m c' h',h.le h'->m<=c'->Mw h' A' m (x/2^s)->K (.slice A' m c') h'):aX prog 319 #[.slice A an ac,U s] h K:=by have H:=ma.nonneg dc;have R:=ma.lt dc;refine(fnk func319 [(6,[27],[],[I 0])]) ?_;obtain⟨k0,hk0⟩:∃k0,k0=s/64:=⟨_,rfl⟩;obtain⟨r,hr⟩:∃r,r=s%64:=⟨_,rfl⟩;have G:C7 (cP (s:Z) 64)=(k0:Z):=by{rw[aZ o,C5 o o];omega};have t:C4 (k0:Z)=(k0:Z):=C0 o o;have em:Int.tmod (s:Z) 64=(r:Z):=gz0;have W:C7 ((64:Z)-(r:Z))=((64-r:J):Z):=by{rw[C5 o o];omega};have en:C7 (an:Z)=(an:Z):=C5 o o;simp only[G,t,em,W,en,aC];have f:(2:Z)^s=b64^k0*2^r:=by{rw[My,<- aU];grind};refine B9 (fun h1=>?_) (fun h1=>?_);{have:x/2^s=0:=by{apply bK H;rw[f];have t1:=D7 (B:=b64) dc (show an<=k0 from o);have L:b64^k0*1<=b64^k0*2^r:=aI (by have:0<(2:Z)^r:=bM dc;omega) (aO (E9 dc _));omega};rw[this]at hK;exact hK _ _ _ _ (B8 _) (aY _) Mag.zero};·obtain⟨xs,rfl,O,j,nx,rfl⟩:=ma;have e1:C4 ((xs.length:Z)-k0)=((xs.length-k0:J):Z):=by{rw[C0 o o];omega};rw[e1];refine N8 U3 o o o ?_;intro b hb;rw[aC];refine⟨_,_,_,rfl,?_⟩;have N:0<(2:Z)^r:=bM dc;have d:=Bt (s:=r) o;have F:0<(2:Z)^(64-r):=bM dc;have X:(xs.drop k0).length=xs.length-k0:=cI;have a:∀i,(xs.drop k0).getD i 0=xs.getD (k0+i) 0:=fun i=>A4n;refine⟨fun l h'=>∃(k:J) (zs:Y Z),l=[I k]/\k<=xs.length-k0/\zs.length=xs.length-k0/\Dig b64 zs/\h'=blk .u64 161 h b zs/\2^r*val b64 (zs.take k)+(xs.drop k0).getD 0 0%2^r=val b64 ((xs.drop k0).take k)+b64^k*((xs.drop k0).getD k 0%2^r),fun l _=>xs.length-(iAt l 0).toNat,⟨0,_,rfl,o,by simp,J4 dc _,rfl,by simp[val]⟩,?_⟩;rintro i T ⟨k,zs,ag,hk,y,n,rfl,Q⟩;obtain rfl:i=(k:Z):=gz0;have g:∀zs,h.le (blk .u64 161 h b zs):=fun zs=>Eb (k:=.u64) (e:=161) hb zs;have gz:=S8 (j.drop k0) k;refine B9 (fun V=>?_) (fun V=>?_);{have e2:C4 ((k:Z)+k0)=((k0+k:J):Z):=by{rw[C0 o o];omega};have e3:C4 (((k0+k:J):Z)+1)=((k0+(k+1):J):Z):=by{rw[C0 o o];omega};rw[e2,e3];refine(O.mono (g zs)).load rfl o o ?_;refine B9 (fun e=>absurd e o) (fun _=>?_);refine⟨_,rfl,o,o,?_⟩;simp only[aC];rw[<- a k,B6d (show r<=64 from o)];have c:0<=(xs.drop k0).getD k 0/2^r:=bO gz.1 o;have q:(xs.drop k0).getD k 0/2^r<2^(64-r):=by{apply bC N;grind};have M:(2:Z)^(64-r)<=18446744073709551616:=by{rw[<- d];have:=aE (show 1<=(2:Z)^r from o) (aO F);omega};refine Bi (zs:=zs) (i:=k) H0 o ?_;have d1:Dig b64 (zs.set k ((xs.drop k0).getD k 0/2^r)):=n.set ⟨c,gz0⟩;have l1:(zs.set k ((xs.drop k0).getD k 0/2^r)).length=xs.length-k0:=gz0;have g1:(zs.set k ((xs.drop k0).getD k 0/2^r)).getD k 0=(xs.drop k0).getD k 0/2^r:=gz0;have vr:=C6 b64 (xs.drop k0) k;have fin:∀z:Z,2^r*z=(xs.drop k0).getD k 0-(xs.drop k0).getD k 0%2^r+18446744073709551616*((xs.drop k0).getD (k+1) 0%2^r)-> 2^r*val b64 ((zs.set k z).take (k+1))+(xs.drop k0).getD 0 0%2^r=val b64 ((xs.drop k0).take (k+1))+b64^(k+1)*((xs.drop k0).getD (k+1) 0%2^r):=by{intro z ez;rw[D5 o,F9,aL,aK o,vr,bG];grind};have ad:=aN ((xs.drop k0).getD k 0) (2^r);have w:C4 ((k:Z)+1)=((k+1:J):Z):=by{rw[C0 o o];omega};rw[w];refine B9 (fun h3=>?_) (fun h3=>?_);{have ld:=(Ck .u64 161 h b (zs.set k ((xs.drop k0).getD k 0/2^r)));obtain⟨aa,D,ae⟩:=SlV.at ld (i:=k) gz0;refine⟨aa,D,o,o,(xs.drop k0).getD k 0/2^r,?_,?_⟩;{grind};refine(O.mono (g _)).load rfl o o ?_;refine B9 (fun e=>absurd e o) (fun _=>?_);refine⟨_,rfl,o,o,?_⟩;simp only[aC];rw[<- a (k+1)];have gr:=S8 (j.drop k0) (k+1);obtain⟨o1,o2,o3⟩:=Zj (s:=64-r) o gr ⟨c,q⟩;rw[aK (show 64-r<=64 from o),F8,o1];refine Bi (zs:=zs.set k ((xs.drop k0).getD k 0/2^r)) (i:=k) H0 o ?_;rw[List.set_set];have af:=Fv ((xs.drop k0).getD (k+1) 0*2^(64-r));refine⟨⟨k+1,zs.set k ((xs.drop k0).getD k 0/2^r+(xs.drop k0).getD (k+1) 0*2^(64-r)%18446744073709551616),rfl,o,gz0,n.set ⟨o,o2⟩,rfl,fin _ ?_⟩,by simp only[iAt,aH];omega⟩;rw[o3,show 64-(64-r)=r from o,dI,<- dF,d];omega};·have p:(xs.drop k0).getD (k+1) 0=0:=gz0;refine⟨⟨k+1,zs.set k ((xs.drop k0).getD k 0/2^r),rfl,o,l1,d1,rfl,fin _ ?_⟩,by simp only[iAt,aH];omega⟩;rw[p,fZ,fG,fJ];omega};·have u:k=xs.length-k0:=o;subst u;have p:(xs.drop k0).getD (xs.length-k0) 0=0:=gz0;rw[p,fZ,fG,fJ,aP o,aP o]at Q;have C:=aR ((xs.drop k0).getD 0 0) (show(2:Z)^r≠0 from o);have E:=aM ((xs.drop k0).getD 0 0) N;have ah:val b64 xs/2^s=val b64 zs:=by{have S:=G9 b64 xs (i:=k0) o;have t1:=Q3 dc (j.take k0);have L:=C9 dc (j.take k0);rw[aL,aK o]at t1;rw[f,<- eD (aO (E9 dc _)),S,eU _ _ o,bK L t1,cR,<- Q,fK,eU _ _ o,bK C E,cR]};rw[<- y];refine U6 (Ck _ _ _ _ _) n (aY _) o ?_;grind
end
def Ef(B:Z)(xs:Y Z)(n:J):val B (xs++aF n 0)=val B xs:=by rw[I3,De];omega
def Ov{xs:Y Z}{k:J}(h:gE xs)(hk:k<xs.length):gE (xs.drop k):=by unfold gE at *;grind
def Mw.of{h:bI}{A:Option bN}{xs:Y Z}(s:SlI .u64 h A xs)(d:Dig b64 xs)(n:gE xs):Mw h A xs.length (val b64 xs):=⟨xs,rfl,s,d,n,rfl⟩
def A21{k:dC}{h:bI}{A:Option bN}{xs:Y Z}(s:SlI k h A xs){c l:J}(hl:l<=xs.length)(hc:xs.length<=c):SlI k h (X9 A c l 1) (xs.drop l):=by have:=s.cut (c:=c) (l:=l) (m:=xs.length) hl (aY _) hc;rwa [aP gz0]at this
def Kx{k:dC}{h:bI}{A:Option bN}{xs:Y Z}(s:SlI k h A xs){c m:J}(hm:m<=xs.length)(hc:xs.length<=c):SlI k h A (xs.take m):=by have:=s.cut (c:=c) (l:=0) (m:=m) o hm hc;simpa[I7]using this
def Cm{h:bI}{K:VP}{A:Option bN}{ac n:J}{v:Z}{xs:Y Z}(s:SlI .u64 h A xs)(hd:Dig b64 xs)(hn:n=xs.length)(hv:val b64 xs=v)(hc:n<=ac)(hl:n<=100000000000000)(hK:∀m,m<=n->Mw h A m v->K (.slice A m ac) h):aX prog 207 #[.slice A n ac] h K:=by subst hn hv;exact U6 s hd hc hl hK
def C5z(N:J):Prop:=∀{h:bI} {K:VP} {A B:Option bN} {ac bc an bn:J} {x y:Z},an+bn<=N->Mw h A an x->Mw h B bn y->an<=ac->bn<=bc->an<=10000000000000->bn<=10000000000000-> (∀A' m c' h',h.le h'->m<=c'->Mw h' A' m (x*y)->K (.slice A' m c') h')->aX prog 131 #[.slice A an ac,.slice B bn bc] h K
section
variable {h g:bI} {K:VP} {A B:Option bN} {ac bc:J}
def C38{xs ys:Y Z}{b:J}(hb:h b=none)(sx:SlI .u64 h A xs)(dx:Dig b64 xs)(sy:SlI .u64 h B ys)(dy:Dig b64 ys)(hl:xs.length<=10000000000000)(hl2:ys.length<=10000000000000) (hK:∀A' m c' h',h.le h'->m<=c'->Mw h' A' m (val b64 xs*val b64 ys)->K (.slice A' m c') h'): Gk prog K A xs.length ac B ys.length (some ⟨b,0,none⟩) (xs.length+ys.length) (xs.length+ys.length) (blk .u64 161 h b (aF (xs.length+ys.length) 0)):=by refine⟨fun l u=>∃(k:J) (zs:Y Z),l=[I k]/\k<=ys.length/\zs.length=xs.length+ys.length/\Dig b64 zs/\Win .u64 u h b 161 (some ⟨b,0,none⟩) [] zs []/\zs.drop (k+xs.length)=aF (ys.length-k) 0/\val b64 (zs.take (k+xs.length))=val b64 xs*val b64 (ys.take k),fun l _=>ys.length-(iAt l 0).toNat,⟨0,_,rfl,o,by simp,J4 dc _,Win.blk .u64 161 hb _,?_,?_⟩,?_⟩;{grind};{rw[cV,De];simp[val]};rintro i u ⟨k,zs,O,S,p,d,w,q,y⟩;obtain rfl:i=(k:Z):=gz0;refine B9 (fun E=>?_) (fun E=>?_);{have F:=S8 dy k;have L:=C6 b64 ys k;have N:C4 ((k:Z)+xs.length)=((k+xs.length:J):Z):=by{rw[C0 o o];omega};rw[N];refine(sy.mono w.le).load rfl o o ?_;refine⟨⟨o,o⟩,⟨o,o⟩,?_⟩;have f:((zs.drop k).take (k+xs.length-k)).length=xs.length:=gz0;refine Jv (w.sub (l:=k) (m:=k+xs.length) (c:=xs.length+ys.length) o o o) o sx rfl ((d.drop k).take _) dx f F o ?_;intro e c h' t a R D C;have Q:=w.whole (l:=k) (m:=k+xs.length) o o o C;refine⟨_,rfl,_,rfl,o,o,?_⟩;have H:(zs.take k++e++zs.drop (k+xs.length)).length=xs.length+ys.length:=by{grind};refine Q.storeN (i:=k+xs.length) H0 rfl o ?_;intro T z;rw[C0 (n:=(k:Z)+1) o o];have g:(zs.take k++e++zs.drop (k+xs.length)).take (k+xs.length)=zs.take k++e:=by{grind};have r:(zs.take k++e++zs.drop (k+xs.length)).drop (k+xs.length)=zs.drop (k+xs.length):=by{grind};refine⟨⟨k+1,_,rfl,o,gz0,(((d.take k).append a).append (d.drop _)).set R,z,?_,?_⟩,by simp only[iAt,aH];omega⟩;{rw[show k+1+xs.length=(k+xs.length)+1 from o,E5 o,<- cZ,r,q,bL];congr 1};·rw[show k+1+xs.length=(k+xs.length)+1 from o,D5 o,g,F9,I3,L];simp only[aT,aL];have G:val b64 (zs.take (k+xs.length))=val b64 (zs.take k)+b64^k*val b64 ((zs.drop k).take (k+xs.length-k)):=by{rw[show k+xs.length-k=xs.length from o,fY,I3,aL,aK o]};grind};·have j:k=ys.length:=o;subst j;rw[bZ,aP o]at y;rw[<- p];refine U6 w.sl d (aY _) o ?_;intro m M s;rw[y]at s;exact⟨_,_,_,rfl,hK _ _ _ _ w.le M s⟩
def Rf{x y:Z}{an bn N:J}(ih:C5z N)(hN:2*bn<=N)(ma:Mw h A an x)(mb:Mw h B bn y)(ha:an<=ac)(hbc:bn<=bc)(hl:an<=10000000000000)(hb0:0<bn)(hba:bn<=an)(hK:∀A' m c' h',h.le h'->m<=c'->Mw h' A' m (x*y)->K (.slice A' m c') h'):aX prog 212 #[.slice A an ac,.slice B bn bc] h K:=by have ad:=mb.nonneg dc;have z:=mb.lt dc;obtain⟨xs,rfl,sx,G,nx,rfl⟩:=ma;refine(fnk func212 [(3,[6],[],[I 0])] (os:=[(6,[0,1,2,3,4,5,6,8,7,9,10])]) (wr:=[215])) ?_;have e1:C4 ((xs.length:Z)+bn)=((xs.length+bn:J):Z):=by{rw[C0 oo oo];omega};rw[e1];refine N8 U3 oo oo oo ?_;intro b hb;rw[aC];refine⟨_,_,_,rfl,?_⟩;refine⟨fun l D=>∃(k:J) (zs:Y Z) (g:bI),l=[I k]/\k<=xs.length+bn/\h.le g/\zs.length=xs.length+bn/\Dig b64 zs/\Win .u64 D g b 161 (some ⟨b,0,none⟩) [] zs []/\val b64 zs=val b64 (xs.take k)*y,fun l _=>xs.length+bn-(iAt l 0).toNat,⟨0,_,h,rfl,oo,B8 h,by simp,J4 dc _,Win.blk .u64 161 hb _,by rw[De];simp[val]⟩,?_⟩;rintro i D ⟨k,zs,g,au,hk,F,S,q,w,hv⟩;obtain rfl:i=(k:Z):=gz0;refine B9 (fun h1=>?_) (fun h1=>?_);{have e2:C4 ((k:Z)+bn)=((k+bn:J):Z):=by{rw[C0 oo oo];omega};rw[e2];obtain⟨en,hen⟩:∃en,en=min xs.length (k+bn):=⟨_,rfl⟩;have e3:(if(xs.length:Z)<((k+bn:J):Z)then(xs.length:Z)else((k+bn:J):Z))=(en:Z):=oo;rw[e3];simp only[aC];refine⟨⟨oo,oo⟩,⟨oo,oo⟩,⟨oo,oo⟩,?_⟩;have aj:((xs.drop k).take (en-k)).length=en-k:=gz0;have sp:SlI .u64 g (X9 A ac k 1) ((xs.drop k).take (en-k)):=(sx.mono F).cut (c:=ac) (l:=k) (m:=en) oo oo ha;have dp:Dig b64 ((xs.drop k).take (en-k)):=(G.drop k).take _;have ar:=C9 dc G;have t:∀m,m<=en-k->gE (((xs.drop k).take (en-k)).take m)->val b64 (((xs.drop k).take (en-k)).take m)=val b64 ((xs.drop k).take (en-k))-> aX prog 131 #[.slice (X9 A ac k 1) m (ac-k),.slice B bn bc] D (fun H a=>∃(t38A:Option bN) (t38n:J) (t38c:J),H= .slice t38A t38n t38c/\Heap.le D a/\aX prog 215 #[.slice (X9 (some ⟨b,0,none⟩) (xs.length+bn) k 1) (xs.length+bn-k) (xs.length+bn-k),.slice t38A t38n t38c] a (fun W n=>W= .tuple #[]/\(∃(k_1:J) (zs:Y Z) (g:bI),[I ((k+bn:J):Z)]=[I k_1]/\k_1<=xs.length+bn/\h.le g/\zs.length=xs.length+bn/\Dig b64 zs/\Win .u64 n g b 161 (some ⟨b,0,none⟩) [] zs []/\val b64 zs=val b64 (xs.take k_1)*y)/\xs.length+bn-(iAt [I ((k+bn:J):Z)] 0).toNat<xs.length+bn-(iAt [I k] 0).toNat)):=by{intro m X p e;have Mp:Mw g (X9 A ac k 1) m (val b64 ((xs.drop k).take (en-k))):=⟨((xs.drop k).take (en-k)).take m,gz0,Kx sp (c:=ac) oo oo,dp.take m,p,e⟩;refine w.call ?_;refine ih oo Mp (mb.mono F) oo hbc oo oo ?_;intro A' m' c' g2 l2 am M2 h3 L;refine⟨_,_,_,rfl,?_,?_⟩;{rw[w.eq,L.eq];intro kk o d;by_cases E:kk=b;{subst E;rw[C3]at d ⊢;exact d};·rw[C1 _ _ E]at d ⊢;exact l2 kk o d};obtain⟨ps,s,u,C,R,ao⟩:=M2;have aq:=G9 b64 zs (i:=k) oo;have ai:=C9 dc (q.take k);have M:xs.take en=xs.take k++(xs.drop k).take (en-k):=by{have:=fY (l:=xs) (i:=k) (j:=en-k);rwa [show k+(en-k)=en from oo]at this};have ah:val b64 (xs.take en)=val b64 (xs.take k)+b64^k*val b64 ((xs.drop k).take (en-k)):=by{rw[M,I3,aL,aK oo]};have ae:val b64 zs+b64^k*val b64 ps=val b64 (xs.take en)*y:=by{grind};have ak:val b64 (xs.take en)*y<b64^(xs.length+bn):=by{have t1:=Q3 dc (G.take en);have t2:=C9 dc (G.take en);rw[aL,aK oo]at t1;have t3:val b64 (xs.take en)*y<=b64^en*y:=aE oo ad;have t4:b64^en*y<b64^en*b64^bn:=bX z (E9 dc en);rw[<- aU]at t4;have t5:=D7 (B:=b64) dc (show en+bn<=xs.length+bn from oo);omega};have af:val b64 (zs.drop k)+val b64 ps<b64^(xs.length+bn-k):=by{have e5:b64^(xs.length+bn)=b64^k*b64^(xs.length+bn-k):=by{rw[<- aU];simp_all};by_cases hc:val b64 (zs.drop k)+val b64 ps<b64^(xs.length+bn-k);{exact hc};·have:=aI (show b64^(xs.length+bn-k)<=val b64 (zs.drop k)+val b64 ps from oo) (aO (E9 (B:=b64) dc k));grind};have ag:=C9 dc (q.drop k);have ap:ps.length<=xs.length+bn-k:=by{have Mps:Mw g2 A' ps.length (val b64 ps):=⟨ps,rfl,u,C,R,rfl⟩;exact Mps.len_le dc oo};have ws:=L.sub (l:=k) (m:=xs.length+bn) (c:=xs.length+bn) oo oo oo;have aa:(zs.drop k).take (xs.length+bn-k)=zs.drop k:=aP gz0;have O:(zs.drop k).length=xs.length+bn-k:=gz0;rw[aa]at ws;refine Jw ws O.symm u s (q.drop k) C oo gz0 oo ?_;intro us h5 al T V w5;have w6:=L.whole (l:=k) (m:=xs.length+bn) oo oo oo w5;refine⟨rfl,⟨k+bn,_,g2,rfl,oo,B6 F l2,?_,((q.take k).append T).append (q.drop _),w6,?_⟩,by simp only[iAt,aH];omega⟩;{grind};·rw[aV oo,cF,I3,aL,aK oo,V];grind};have tr:=Fn (K:=fun r f=>∃(t36A:Option bN) (t36n:J) (t36c:J),r= .slice t36A t36n t36c/\Heap.le D f/\aX prog 131 #[.slice t36A t36n t36c,.slice B bn bc] f (fun H a=>∃(t38A:Option bN) (t38n:J) (t38c:J),H= .slice t38A t38n t38c/\Heap.le f a/\aX prog 215 #[.slice (X9 (some ⟨b,0,none⟩) (xs.length+bn) k 1) (xs.length+bn-k) (xs.length+bn-k),.slice t38A t38n t38c] a (fun W n=>W= .tuple #[]/\(∃(k_1:J) (zs:Y Z) (g:bI),[I ((k+bn:J):Z)]=[I k_1]/\k_1<=xs.length+bn/\h.le g/\zs.length=xs.length+bn/\Dig b64 zs/\Win .u64 n g b 161 (some ⟨b,0,none⟩) [] zs []/\val b64 zs=val b64 (xs.take k_1)*y)/\xs.length+bn-(iAt [I ((k+bn:J):Z)] 0).toNat<xs.length+bn-(iAt [I k] 0).toNat))) (ac:=ac-k) (sp.mono w.le) oo oo (fun m X p e=>⟨_,_,_,rfl,B8 _,t m oo p e⟩);grind};·have Q:xs.take k=xs:=aP oo;rw[Q]at hv;rw[<- S];refine U6 w.sl q (aY _) oo ?_;intro m X hM;rw[hv]at hM;exact⟨_,_,_,rfl,hK _ _ _ _ (B6 F w.le) X hM⟩
def C8u{X0 X1 Y0 Y1 P:Z}(hx0:0<=X0)(hx1:0<=X1)(hy0:0<=Y0)(hy1:0<=Y1): X0*Y0<=(X0+X1)*(Y0+Y1)/\X1*Y1<=(X0+X1)*(Y0+Y1)-X0*Y0/\(X0+P*X1)*(Y0+P*Y1)=X0*Y0+P*((X0+X1)*(Y0+Y1)-X0*Y0-X1*Y1)+P*P*(X1*Y1):=by have b:=aQ hx0 hy1;have c:=aQ hx1 hy0;have d:=aQ hx1 hy1;grind
def C7m:∀N,C5z N:=by
 intro N
 induction N with
 |zero=>
  intro h K A B ac bc an bn x y hN ma mb ha hb hl E C;have h0:=ma.len_zero dc;have hx:x=0:=h0.2 o;subst hx;rw[eF]at C;refine Gj _ _ _ _ _ _ ?_;unfold Fk;refine⟨fun l h'=>h'=h/\l=[.slice A an ac,.slice B bn bc],B9 (fun e=>absurd e o) (fun _=>⟨rfl,rfl⟩),?_⟩;rintro A1 s c1 B1 u c2 hp ⟨rfl,hl⟩;obtain⟨⟨rfl,rfl,rfl⟩,rfl,rfl,rfl⟩:(A1=A/\s=an/\c1=ac)/\B1=B/\u=bn/\c2=bc:=gz0;refine D4 (fun _=>C none 0 0 _ (B8 _) (aY _) Mag.zero) (fun e=>absurd o e)
 |succ N ih=>
  intro h K A B ac bc an bn x y hN ma mb ha hb hl E C;refine Gj _ _ _ _ _ _ ?_;unfold Fk;refine⟨fun l h'=>h'=h/\∃(A1 B1:Option bN) (s u c1 c2:J) (x1 y1:Z),l=[.slice A1 s c1,.slice B1 u c2]/\Mw h A1 s x1/\Mw h B1 u y1/\u<=s/\s<=10000000000000/\s<=c1/\u<=c2/\s+u<=N+1/\x1*y1=x*y,B9 (fun h1=>?_) (fun h1=>?_),?_⟩;·grind
  ·grind
  clear ma mb ha hb hl E hN;rintro A1 s c1 B1 u c2 hp ⟨rfl,A1',B1',a7,a8,bw,bb,x1,y1,bu,m1,m2,hn,aj,H,R,ck,ao⟩;obtain⟨⟨rfl,rfl,rfl⟩,rfl,rfl,rfl⟩:(A1=A1'/\s=a7/\c1=bw)/\B1=B1'/\u=a8/\c2=bb:=gz0;rw[<- ao]at C;clear bu ao;have hz:=m2.len_zero dc;refine D4 (fun h0=>?_) (fun h0=>?_)
  ·have:y1=0:=hz.2 o;subst this;rw[fG]at C;exact C none 0 0 _ (B8 _) (aY _) Mag.zero
  ·refine⟨fun l h'=>∃t:Bool,h'=hp/\l=[.bool t]/\(t=true->y1=1),D4 (fun h1=>?_) (fun h1=>⟨false,rfl,rfl,fun e=>by cases e⟩),?_⟩
   ·obtain⟨f,bx,sy,M,ny,bk⟩:=m2;refine sy.load bx o o ⟨_,rfl,rfl,fun e=>?_⟩;have e1:f.getD 0 0=1:=gz0
    obtain⟨d,rfl⟩:∃d,f=[d]:=by
     cases f with
     |nil=>grind
     |cons d r=>
      grind
    rw[<- bk,At];assumption
   rintro tb W ⟨t',rfl,E,L⟩;obtain rfl:tb=t':=gz0;refine Br.of (fun e=>?_) (fun _=>?_)
   ·rw[L e,Int.mul_one]at C;exact C _ _ _ _ (B8 _) H m1
   clear L E;have eL:C4 ((s:Z)+u)=((s+u:J):Z):=by rw[C0 o o];omega
   refine B9 (fun h2=>?_) (fun h2=>?_)
   ·obtain⟨xs,rfl,sx,S,nx,rfl⟩:=m1;obtain⟨f,rfl,sy,M,ny,rfl⟩:=m2;rw[eL];refine N8 U3 o o o ?_;intro b hb;rw[aC];exact⟨_,_,_,rfl,C38 hb sx S sy M aj o C⟩
   ·obtain⟨hq9,hH⟩:∃hq9,hq9=(s+1)/2:=⟨_,rfl⟩
    have eH:C4 (cP (C4 ((s:Z)+1)) 2)=(hq9:Z):=by
     rw[C0 (n:=(s:Z)+1) o o,aZ o,C0 o o];omega
    have be:C4 ((2:Z)*(hq9:Z))=((2*hq9:J):Z):=by rw[C0 o o];omega
    simp only[eH,eL,be,aC];refine B9 (fun h3=>?_) (fun h3=>?_)
    ·refine Rf ih o m1 m2 H R aj o o ?_;grind
    ·have a6:=m1.nonneg dc;have a1:=m1.lt dc;have aw:=m2.lt dc;have bv:=m2.nonneg dc;obtain⟨xs,rfl,sx,S,nx,rfl⟩:=m1;obtain⟨f,rfl,sy,M,ny,rfl⟩:=m2;have bj:hq9<xs.length:=o;have a4:hq9<f.length:=o;have ae:=C9 dc (S.take hq9);have aq:=C9 dc (S.drop hq9);have ak:=C9 dc (M.take hq9);have az:=C9 dc (M.drop hq9);have b2:=G9 b64 xs (i:=hq9) o;have bo:=G9 b64 f (i:=hq9) o;have aa:=Q3 dc (S.take hq9);have au:=Q3 dc (M.take hq9);rw[aL,aK o]at aa au
     have z:Mw W (X9 A1 c1 hq9 1) (xs.length-hq9) (val b64 (xs.drop hq9)):=by
      have:=Mw.of (A21 sx (c:=c1) (l:=hq9) o H) (S.drop hq9) (Ov nx bj);grind
     have w:Mw W (X9 B1 c2 hq9 1) (f.length-hq9) (val b64 (f.drop hq9)):=by
      have:=Mw.of (A21 sy (c:=c2) (l:=hq9) o R) (M.drop hq9) (Ov ny a4);grind
     obtain⟨ka,kb,kc⟩:=C8u (P:=b64^hq9) ae aq ak az;rw[<- b2,<- bo]at kc;generalize hX0:val b64 (xs.take hq9)=X0 at *;generalize hX1:val b64 (xs.drop hq9)=X1 at *;generalize hY0:val b64 (f.take hq9)=Y0 at *;generalize hY1:val b64 (f.drop hq9)=Y1 at *;rw[I7,I7,cC,cC,cC];refine⟨⟨o,o⟩,⟨o,o⟩,?_⟩;refine Cm (Kx sx (c:=c1) (m:=hq9) o H) (S.take hq9) gz0 hX0 o o ?_;intro mx cq MX0;refine⟨_,_,_,rfl,B8 _,⟨o,o⟩,⟨o,o⟩,?_⟩;refine Cm (Kx sy (c:=c2) (m:=hq9) o R) (M.take hq9) gz0 hY0 o o ?_;intro my cg MY0;refine⟨_,_,_,rfl,B8 _,?_⟩;refine ih o MX0 MY0 o o o o ?_;intro A3 n3 c3 g3 l3 k3 M3;refine⟨_,_,_,rfl,?_⟩;refine ih o (z.mono l3) (w.mono l3) o o o o ?_;intro A4 n4 c4 g4 l4 k4 M4;refine⟨_,_,_,rfl,?_⟩;have D:=B6 l3 l4;refine W7 (MX0.mono D) (z.mono D) o o o o ?_;intro A5 n5 c5 g5 l5 k5 M5;refine⟨_,_,_,rfl,?_⟩;have ap:=B6 D l5;refine W7 (MY0.mono ap) (w.mono ap) o o o o ?_;intro A6 n6 c6 g6 l6 k6 M6;refine⟨_,_,_,rfl,?_⟩;have ad:=z.lt dc;have af:=w.lt dc;have bt:=E9 (B:=b64) dc hq9;have b4:b64^(hq9+1)=b64^hq9*18446744073709551616:=bG _ _
     have cd:n5<=hq9+1:=by
      refine M5.len_le dc ?_;have:=D7 (B:=b64) dc (show xs.length-hq9<=hq9 from o);omega
     have b8:n6<=hq9+1:=by
      refine M6.len_le dc ?_;have:=D7 (B:=b64) dc (show f.length-hq9<=hq9 from o);omega
     refine ih o (M5.mono l6) M6 k5 k6 o o ?_;intro A7 n7 c7 g7 l7 k7 M7;refine⟨_,_,_,rfl,?_⟩;have Q:=B6 (B6 l5 l6) l7
     have g:∀{p q:Z} {i j:J},0<=p->p<b64^i->0<=q->q<b64^j->p*q<b64^(i+j):=by
      intro p q i j a b c d;rw[aU];have t1:p*q<=b64^i*q:=aE o c;have t2:b64^i*q<b64^i*b64^j:=bX d (E9 dc i);omega
     have b5:n7<=n5+n6:=M7.len_le dc (g (M5.nonneg dc) (M5.lt dc) (M6.nonneg dc) (M6.lt dc));refine I9 M7 (M3.mono (B6 l4 Q)) k7 o ka ?_;intro A8 n8 c8 g8 l8 k8 M8;refine⟨_,_,_,rfl,?_⟩;have b7:n8<=n7:=M8.len_le dc (by have:=M7.lt dc;have:=M3.nonneg dc;omega);refine I9 M8 (M4.mono (B6 Q l8)) k8 o kb ?_;intro A9 n9 c9 g9 l9 k9 M9;refine⟨_,_,_,rfl,?_⟩;have O:=B6 Q (B6 l8 l9);have ax:W.le g9:=B6 D O;refine N8 U3 o o o ?_;intro b hb;rw[aC];refine⟨_,_,_,rfl,?_⟩;have w0:=Win.blk .u64 161 hb (aF (xs.length+f.length) 0);have cb:n3<=hq9+hq9:=M3.len_le dc (g ae aa ak au);have cc:n4<=(xs.length-hq9)+(f.length-hq9):=M4.len_le dc (g aq ad az af);obtain⟨k,ai,bi,a3,cu,ag⟩:=M3.mono (B6 l4 O);obtain⟨hi,ah,bd,bp,ct,al⟩:=M4.mono O;obtain⟨mi,ar,av,a0,br,b6⟩:=M9;refine Fg U3 w0 (by simp) (bi.mono w0.le) ai (by simp;omega) ?_;intro cm V;refine⟨_,rfl,⟨o,o⟩,?_⟩;have b1:k++(aF (xs.length+f.length) (0:Z)).drop k.length=k++aF (xs.length+f.length-k.length) 0:=by rw[bL]
     rw[b1]at V;have T:=V.sub (l:=2*hq9) (m:=xs.length+f.length) (c:=xs.length+f.length) o (by simp;omega) (by simp;omega)
     have bm:((k++aF (xs.length+f.length-k.length) (0:Z)).drop (2*hq9)).take (xs.length+f.length-2*hq9)=aF (xs.length+f.length-2*hq9) 0:=by
      rw[fO,aV o,cL,bL,cV];congr 1;omega
     rw[bm]at T;refine Fg U3 T (by simp) (bd.mono T.le) ah (by simp;omega) ?_;intro co a2;refine⟨_,rfl,⟨o,o⟩,?_⟩;rw[bL]at a2;have F:=V.whole (l:=2*hq9) (m:=xs.length+f.length) o (by simp;omega) (by simp;omega) a2
     have a5:(k++aF (xs.length+f.length-k.length) (0:Z)).take (2*hq9)=k++aF (2*hq9-k.length) 0:=by
      rw[List.take_append,aP o,cV];congr 2;omega
     have b3:(k++aF (xs.length+f.length-k.length) (0:Z)).drop (xs.length+f.length)=[]:=by
      apply aV;simp;omega
     rw[a5,b3,cF]at F;generalize hzs:k++aF (2*hq9-k.length) (0:Z)++(hi++aF (xs.length+f.length-2*hq9-hi.length) 0)=zs at F
     have ci:zs.length=xs.length+f.length:=by
      rw[<- hzs];simp;omega
     have G:Dig b64 zs:=by
      rw[<- hzs];exact(a3.append (J4 dc _)).append (bp.append (J4 dc _))
     have cj:val b64 zs=X0*Y0+b64^hq9*b64^hq9*(X1*Y1):=by
      rw[<- hzs,I3,Ef,Ef,ag,al];have:(k++aF (2*hq9-k.length) (0:Z)).length=hq9+hq9:=by simp;omega
      rw[this,aU]
     have ay:=F.sub (l:=hq9) (m:=xs.length+f.length) (c:=xs.length+f.length) o o o;have ba:(zs.drop hq9).take (xs.length+f.length-hq9)=zs.drop hq9:=aP (by rw[cI];omega);have a9:(zs.drop hq9).length=xs.length+f.length-hq9:=by rw[cI];omega
     rw[ba]at ay;have bq:=G9 b64 zs (i:=hq9) o;have cl:=C9 dc (G.take hq9);have ca:=C9 dc (G.drop hq9);have ce:val b64 xs*val b64 f<b64^(xs.length+f.length):=g a6 a1 bv aw;have am:val b64 zs+b64^hq9*val b64 mi=val b64 xs*val b64 f:=gz0
     have b9:val b64 (zs.drop hq9)+val b64 mi<b64^(xs.length+f.length-hq9):=by
      have e5:b64^(xs.length+f.length)=b64^hq9*b64^(xs.length+f.length-hq9):=by rw[<- aU];congr 1;omega
      by_cases hc:val b64 (zs.drop hq9)+val b64 mi<b64^(xs.length+f.length-hq9);·exact hc
      ·have:=aI (show b64^(xs.length+f.length-hq9)<=val b64 (zs.drop hq9)+val b64 mi from o) (aO bt);grind
     have cn:mi.length<=xs.length+f.length-hq9:=by
      have Mmi:Mw g9 A9 mi.length (val b64 mi):=⟨mi,rfl,av,a0,br,rfl⟩;exact Mmi.len_le dc o
     refine Jw ay a9.symm av ar (G.drop hq9) a0 o gz0 o ?_;intro us ch cr bl bh bf;refine⟨rfl,?_⟩;have X:=F.whole (l:=hq9) (m:=xs.length+f.length) o o o bf;rw[aV (show zs.length<=xs.length+f.length from o),cF]at X
     have bg:(zs.take hq9++us).length=xs.length+f.length:=by
      simp only[aT,aL];omega
     rw[<- bg];refine U6 X.sl ((G.take hq9).append bl) o o ?_;intro m hm hM
     have bz:val b64 (zs.take hq9++us)=val b64 xs*val b64 f:=by
      rw[I3,aL,aK o,bh,<- am,bq];grind
     rw[bz]at hM;exact⟨_,_,_,rfl,C _ _ _ _ (B6 ax X.le) hm hM⟩
def J1{x y:Z}{an bn:J}(ma:Mw h A an x)(mb:Mw h B bn y)(ha:an<=ac)(hb:bn<=bc)(hl:an<=10000000000000)(hl2:bn<=10000000000000)(hK:∀A' m c' h',h.le h'->m<=c'->Mw h' A' m (x*y)->K (.slice A' m c') h'):aX prog 131 #[.slice A an ac,.slice B bn bc] h K:=C7m _ (aY _) ma mb ha hb hl hl2 hK
end
section
variable {h g:bI} {K:VP} {A B:Option bN} {ac bc:J}
def B4c{hi lo y:Z}(hhi:0<=hi/\hi<y)(hlo:0<=lo/\lo<18446744073709551616)(hy:y<18446744073709551616) (hK:K (.tuple #[U ((hi*18446744073709551616+lo)/y),U ((hi*18446744073709551616+lo)%y)]) h):aX prog 307 #[U hi,U lo,U y] h K:=by obtain⟨n,rfl⟩:∃n:J,y=n:=⟨y.toNat,o⟩;exact Ud hhi hlo o hK
def Ww{x:Z}{an w:J}(ma:Mw h A an x)(hw:0<w/\w<18446744073709551616)(hl:an<=20000000000000)(hK:∀A' m c' h',h.le h'->m<=c'->m<=an->Mw h' A' m (x/w)->K (.tuple #[.slice A' m c',U (x%w)]) h'):aX prog 320 #[.slice A an ac,U w] h K:=by obtain⟨xs,rfl,y,D,L,rfl⟩:=ma;refine(fnk func320 [(4,[7,8],[],[U 0,I 0])]) ?_;refine N8 U3 o o o ?_;intro b s;refine⟨_,_,_,rfl,?_⟩;refine⟨fun l h'=>∃(k:J) (r:Z) (zs:Y Z),l=[U r,I ((k:Z)-1)]/\k<=xs.length/\zs.length=xs.length/\Dig b64 zs/\(0<=r/\r<w)/\h'=blk .u64 161 h b zs/\val b64 (xs.drop k)=val b64 (zs.drop k)*w+r,fun l _=>(iAt l 1+1).toNat,⟨xs.length,0,_,by rw[C0 o o],o,by simp,J4 dc _,o,rfl,by simp[val]⟩,?_⟩;rintro r i G ⟨k,q,zs,B,F,f,n,a,rfl,c⟩;obtain⟨rfl,rfl⟩:r=q/\i=(k:Z)-1:=gz0;have g:=Eb (k:=.u64) (e:=161) s zs;refine B9 (fun u=>?_) (fun u=>?_);{obtain⟨j,rfl⟩:∃j,k=j+1:=⟨k-1,o⟩;have e:((j+1:J):Z)-1=(j:Z):=o;rw[e];have z:=S8 D j;refine(y.mono g).load rfl o o ?_;refine Ud a z hw.2 ⟨_,_,rfl,?_⟩;have t:0<=r*18446744073709551616+xs.getD j 0:=o;have p:0<=(r*18446744073709551616+xs.getD j 0)/w/\(r*18446744073709551616+xs.getD j 0)/w<18446744073709551616:=by{constructor;{exact bO t o};·apply bC o;omega};refine⟨_,rfl,o,o,?_⟩;refine Bi (zs:=zs) (i:=j) H0 o ?_;rw[C0 o o];refine⟨⟨j,_,zs.set j ((r*18446744073709551616+xs.getD j 0)/w),rfl,o,gz0,n.set p,⟨aR _ o,aM _ o⟩,rfl,?_⟩,by simp only[iAt,aH,aJ];omega⟩;rw[Am o,Nv b64 o,c];have:=aN (r*18446744073709551616+xs.getD j 0) w;simp only[val];grind};·have d:k=0:=o;subst d;rw[dK,dK]at c;rw[<- f];refine U6 (Ck _ _ _ _ _) n (aY _) o ?_;intro m H E;have p:val b64 xs/w=val b64 zs:=by{rw[c,fK,eI _ _ o,bK a.1 a.2,cR]};have C:val b64 xs%w=r:=by{rw[c,fK,fT,fI a.1 a.2]};grind
def Ok{x:Z}{an w:J}(ma:Mw h A an x)(hw:0<w/\w<18446744073709551616)(hl:an<=20000000000000)(hK:K (U (x%w)) h):aX prog 273 #[.slice A an ac,U w] h K:=by obtain⟨xs,rfl,q,p,y,rfl⟩:=ma;refine(fnk func273 [(3,[5,6],[],[U 0,I 0])]) ?_;refine⟨fun l d=>∃(k:J) (r:Z) (Q:Z),l=[U r,I ((k:Z)-1)]/\k<=xs.length/\(0<=r/\r<w)/\d=h/\val b64 (xs.drop k)=Q*w+r,fun l _=>(iAt l 1+1).toNat,⟨xs.length,0,0,by rw[C0 o o],o,o,rfl,by simp[val]⟩,?_⟩;rintro r i t ⟨k,f,Q,m,u,c,rfl,a⟩;obtain⟨rfl,rfl⟩:r=f/\i=(k:Z)-1:=gz0;refine B9 (fun g=>?_) (fun g=>?_);{obtain⟨j,rfl⟩:∃j,k=j+1:=⟨k-1,o⟩;have e:((j+1:J):Z)-1=(j:Z):=o;rw[e];have s:=S8 p j;refine q.load rfl o o ?_;refine Ud c s hw.2 ⟨_,_,rfl,?_⟩;rw[C0 o o];refine⟨⟨j,_,b64*Q+(r*18446744073709551616+xs.getD j 0)/w,rfl,o,⟨aR _ o,aM _ o⟩,rfl,?_⟩,by simp only[iAt,aH,aJ];omega⟩;rw[Nv b64 o,a];have:=aN (r*18446744073709551616+xs.getD j 0) w;grind};·have b:k=0:=o;subst b;rw[dK]at a;have n:val b64 xs%w=r:=by{rw[a,fK,fT,fI c.1 c.2]};grind
def A1y{us vs:Y Z}{m wn dn:J}{X yq9:Z}(su:SlI .u64 h A us)(sv:SlI .u64 h B vs)(hwn:wn=us.length)(hdn:dn=vs.length)(du:Dig b64 us)(dv:Dig b64 vs)(hu:us.length=m+3)(hv:vs.length=m+2)(hl:m<=100000000000000)(h1:b64<=2*vs.getD (m+1) 0)(hX:val b64 us=X)(hY:val b64 vs=yq9)(hlt:X<yq9*b64) (hK:∀q,0<=q->q<18446744073709551616->X<(q+1)*yq9->(q-1)*yq9<=X->K (U q) h):aX prog 321 #[.slice A wn ac,.slice B dn bc] h K:=by subst hwn hdn;have a:=B92 (B:=b64) dc du dv hu hv h1 gz0;rw[hX,hY]at a;have gu:=S8 du (m+2);have u:=S8 du (m+1);have E:=S8 dv (m+1);have k:=a.v2r;have F:=a.u2r;refine(fnk func321 [(6,[8,9],[],[U 0,U 0])]) ?_;have e1:C4 ((vs.length:Z)-1)=((m+1:J):Z):=by{rw[C0 o o];omega};have S:C4 ((vs.length:Z)-2)=(m:Z):=by{rw[C0 o o];omega};have e3:((vs.length:J):Z)=((m+2:J):Z):=o;rw[e1,S,e3];refine sv.load o o o ?_;refine sv.load o o o ?_;refine su.load rfl o o ?_;simp only[aC];refine B9 (fun D=>?_) (fun D=>?_);{have ht:=a.top (by grind);grind};·refine su.load rfl o o ?_;refine su.load rfl o o ?_;simp only[aC];refine B4c o u E.2 ⟨_,_,rfl,B8 h,?_⟩;generalize hT:us.getD (m+2) 0*b64+us.getD (m+1) 0=T at a;have W:us.getD (m+2) 0*18446744073709551616+us.getD (m+1) 0=T:=hT;have y:0<=T:=a.top0;have t:=a.init;have G:=aN T (vs.getD (m+1) 0);have Q:=aR T (show vs.getD (m+1) 0≠0 from o);have R:=aM T (show 0<vs.getD (m+1) 0 from o);have s:0<=T/vs.getD (m+1) 0:=bO y o;have e:T/vs.getD (m+1) 0<18446744073709551616:=by{apply bC o;omega};refine⟨fun l M=>∃q r:Z,l=[U q,U r]/\M=h/\(0<=q/\q<18446744073709551616)/\(0<=r/\r<18446744073709551616)/\q*vs.getD (m+1) 0+r=T/\X<(q+1)*yq9,fun l _=>(iAt l 0).toNat,⟨_,_,rfl,rfl,⟨s,e⟩,o,gz0,t⟩,?_⟩;rintro q r p ⟨q',C,L,rfl,f,hr,H,j⟩;obtain⟨rfl,rfl⟩:q=q'/\r=C:=gz0;have hm:0<=q*vs.getD m 0/\q*vs.getD m 0<=18446744073709551615*18446744073709551615:=⟨aQ f.1 k.1,dN o gz0 k.1 dc⟩;have b:q*vs.getD m 0<=r*18446744073709551616+us.getD m 0->K (U q) p:=by{intro V;refine hK q f.1 f.2 j (a.up gz0 ?_);grind};have c:¬(q*vs.getD m 0<=r*18446744073709551616+us.getD m 0)->Br (decide (C7 (r+vs.getD (m+1) 0)<vs.getD (m+1) 0)) (K (U (C7 (q-1))) p) ((∃q_1 r_1:Z,[U (C7 (q-1)),U (C7 (r+vs.getD (m+1) 0))]=[U q_1,U r_1]/\p=p/\(0<=q_1/\q_1<18446744073709551616)/\(0<=r_1/\r_1<18446744073709551616)/\q_1*vs.getD (m+1) 0+r_1=T/\X<(q_1+1)*yq9)/\(iAt [U (C7 (q-1)),U (C7 (r+vs.getD (m+1) 0))] 0).toNat<(iAt [U q,U r] 0).toNat):=by{intro hf;have z:X<q*yq9:=a.low f.1 gz0;have e:1<=q:=by{grind};have d:X<(q-1+1)*yq9:=gz0;have i:(q-1)*vs.getD (m+1) 0+(r+vs.getD (m+1) 0)=T:=gz0;rw[C5 (n:=q-1) o o];refine B9 (fun g=>?_) (fun g=>?_);{rw[F8]at g;refine hK (q-1) o o d (a.up gz0 ?_);grind};·have w:r+vs.getD (m+1) 0<18446744073709551616:=by{by_cases hc:r+vs.getD (m+1) 0<18446744073709551616;{exact hc};·rw[F8]at g;omega};rw[C5 (n:=r+vs.getD (m+1) 0) o w];exact⟨⟨q-1,r+vs.getD (m+1) 0,rfl,rfl,o,o,i,d⟩,by simp only[iAt,aH];omega⟩};refine Oy f o ⟨_,_,rfl,?_⟩;have aa:0<=us.getD m 0/\us.getD m 0<18446744073709551616:=S8 du m;refine B9 (fun g=>b o) (fun g=>?_);refine D4 (fun N=>?_) (fun N=>c o);refine su.load rfl o o ?_;rw[aC];exact B9 (fun O=>b o) (fun O=>c o)
end
section
variable {h g:bI} {K:VP} {bu bq:J} {pre qs:Y Z} {VA:Option bN} {vs:Y Z}
def C5u{n N:J}{ws:Y Z}{q:Z}{jq9:LP}(hu:g bu=none)(hq:g bq=none)(hne:bu≠bq)(sv:SlI .u64 g VA vs)(dv:Dig b64 vs)(hn:n=vs.length)(dw:Dig b64 ws)(hN:N=(pre++ws).length)(hl:n<ws.length)(hbig:N<=40000000000000) (hD:val b64 (ws.take n)+val b64 vs<2*b64^n) (hD0:b64^n<=val b64 (ws.take n)+val b64 vs) (htop:ws.getD n 0=18446744073709551615) (hJ:∀ws',ws'.length=ws.length->Dig b64 ws'->ws'.drop (n+1)=ws.drop (n+1)->ws'.getD n 0=0->val b64 (ws'.take n)=val b64 (ws.take n)+val b64 vs-b64^n->jq9 [U (C7 (q-1))] (Cc .u64 161 g bu (pre++ws') bq qs)): Id prog n VA n (some ⟨bu,0,none⟩) N (pre.length:Z) q jq9 (Cc .u64 161 g bu (pre++ws) bq qs):=by refine⟨fun l E=>∃(k:J) (c:Z) (zs:Y Z),l=[U c,I k]/\k<=n/\zs.length=ws.length/\Dig b64 zs/\(0<=c/\c<=1)/\E=Cc .u64 161 g bu (pre++zs) bq qs/\zs.drop k=ws.drop k/\val b64 (zs.take k)+c*b64^k=val b64 (ws.take k)+val b64 (vs.take k),fun l _=>n-(iAt l 1).toNat,⟨0,0,ws,rfl,o,rfl,dw,o,rfl,rfl,by rfl⟩,?_⟩;rintro c i S ⟨k,B,zs,O,R,G,m,Q,rfl,a,M⟩;obtain⟨rfl,rfl⟩:c=B/\i=(k:Z):=gz0;have u:g.le (Cc .u64 161 g bu (pre++zs) bq qs):=Rw hu hq hne;have z:SlI .u64 (Cc .u64 161 g bu (pre++zs) bq qs) (some ⟨bu,0,none⟩) (pre++zs):=Xh hne;have j:N=(pre++zs).length:=gz0;have H:N=pre.length+zs.length:=gz0;have w:C4 ((pre.length:Z)+k)=((k+pre.length:J):Z):=by{rw[C0 o o];omega};have r:C4 ((pre.length:Z)+n)=((n+pre.length:J):Z):=by{rw[C0 o o];omega};refine B9 (fun F=>?_) (fun F=>?_);{have C:=S8 dv k;have gz:=S8 m k;have b:=F7 a;have L:=C6 b64 vs k;have D:=C6 b64 ws k;rw[w];refine(sv.mono u).load hn o o ?_;refine z.load j o o ?_;simp only[aC,Hl];refine Ev gz C Q ⟨_,_,rfl,?_⟩;refine⟨_,rfl,o,o,?_⟩;have st:=S9 (P:=prog) (t:=161) (k:=.u64) (e:=161) (g:=g) (bu:=bu) (bq:=bq) (us:=pre++zs) (qs:=qs) (i:=((k+pre.length:J):Z)) (n:=(zs.getD k 0+vs.getD k 0+c)%18446744073709551616) H0 hne o (K:=fun _ f=>(∃(k_1:J) (c_1:Z) (zs_1:Y Z),[U ((zs.getD k 0+vs.getD k 0+c)/18446744073709551616),I (C4 ((k:Z)+1))]=[U c_1,I k_1]/\k_1<=n/\zs_1.length=ws.length/\Dig b64 zs_1/\(0<=c_1/\c_1<=1)/\f=Cc .u64 161 g bu (pre++zs_1) bq qs/\zs_1.drop k_1=ws.drop k_1/\val b64 (zs_1.take k_1)+c_1*b64^k_1=val b64 (ws.take k_1)+val b64 (vs.take k_1))/\n-(iAt [U ((zs.getD k 0+vs.getD k 0+c)/18446744073709551616),I (C4 ((k:Z)+1))] 1).toNat<n-(iAt [U c,I k] 1).toNat);rw[aC]at st;refine st ?_;rw[Mo,C0 (n:=(k:Z)+1) o o];refine⟨⟨k+1,_,zs.set k ((zs.getD k 0+vs.getD k 0+c)%18446744073709551616),rfl,o,gz0,m.set (Fv _),o,rfl,?_,?_⟩,by simp only[iAt,aH,aJ];omega⟩;{rw[E5 o];exact F0 a};·rw[D5 o,F9,aL,aK o,bG,Cz,L,D,<- b];grind};·have p:k=n:=o;subst p;have b:=F7 a;rw[r];refine z.load j o o ?_;rw[aC,Hl,b,htop];refine⟨_,rfl,o,o,?_⟩;have s:vs.take k=vs:=gz0;rw[s]at M;have A:=Q3 dc (m.take k);have y:c=1:=by{grind};subst y;have st:=S9 (P:=prog) (t:=161) (k:=.u64) (e:=161) (g:=g) (bu:=bu) (bq:=bq) (us:=pre++zs) (qs:=qs) (i:=((k+pre.length:J):Z)) (n:=0) H0 hne o (K:=fun _ d=>jq9 [U (C7 (q-1))] d);rw[aC]at st;refine st ?_;rw[Mo];refine hJ (zs.set k 0) gz0 (m.set dc) (by rw[E5 o];exact F0 a) gz0 ?_;rw[List.take_set_of_le o];omega
end
def B5n{g h':bI}{e:cK}{bu bq:J}{A:Option bN}{us qs:Y Z}(hne:bu≠bq)(w:Win .u64 h' (blk .u64 e g bq qs) bu e A [] us []):h'=Cc .u64 e g bu us bq qs:=by rw[Jr hne,w.eq];simp[blk]
def B7u{g:bI}{e:cK}{bu bq:J}{us qs:Y Z}(hu:g bu=none)(hne:bu≠bq):Win .u64 (Cc .u64 e g bu us bq qs) (blk .u64 e g bq qs) bu e (some ⟨bu,0,none⟩) [] us []:=by rw[Jr hne];refine Win.blk .u64 e ?_ us;unfold blk;rw[C1 _ _ hne];exact hu
def A5a{P:dY}{t:cK}{k:dC}{e:cK}{g:bI}{bu bq:J}{us qs:Y Z}(one:P.cellsOf t=1/\(P.info? t).isSome=true)(hne:bu≠bq){n:Z}{i:J}(hi:i<us.length){K:Unit->bI->Prop} (x:K () (Cc k e g bu (us.set i n) bq qs)):wpH P (dV t (.pointer (some (fL ⟨bu,0,none⟩ (i*1)))) (.int k n)) K (Cc k e g bu us bq qs):=by have:=S9 (P:=P) (t:=t) (k:=k) (e:=e) (g:=g) (bu:=bu) (bq:=bq) (us:=us) (qs:=qs) (i:=(i:Z)) (n:=n) (K:=K) one hne o (by assumption);assumption
def A5b{P:dY}{t:cK}{k:dC}{e:cK}{g:bI}{bu bq:J}{us qs:Y Z}(one:P.cellsOf t=1/\(P.info? t).isSome=true){n:Z}{i:J}(hi:i<qs.length){K:Unit->bI->Prop} (x:K () (Cc k e g bu us bq (qs.set i n))):wpH P (dV t (.pointer (some (fL ⟨bq,0,none⟩ (i*1)))) (.int k n)) K (Cc k e g bu us bq qs):=by have:=Xi (P:=P) (t:=t) (k:=k) (e:=e) (g:=g) (bu:=bu) (bq:=bq) (us:=us) (qs:=qs) (i:=(i:Z)) (n:=n) (K:=K) one o (by assumption);assumption
section
variable {h g:bI} {K:VP} {bu bq:J} {VA:Option bN} {vs us0:Y Z}
set_option maxHeartbeats 1000000 in
def A6a{s mm N nq vc xn:J}{a b yq9:Z}(hu:g bu=none)(hq:g bq=none)(hne:bu≠bq)(sv:SlI .u64 g VA vs)(dv:Dig b64 vs)(hn:vs.length=mm+2)(hv1:b64<=2*vs.getD (mm+1) 0)(hs:s<64)(hY:val b64 vs=yq9)(hYb:yq9=b*2^s)(du:Dig b64 us0)(hN:us0.length=N)(hua:val b64 us0=a*2^s)(hxn:N=xn+1)(hnq:N=nq+(mm+2))(hnq1:1<=nq)(hbig:N<=20000000000001)(htop:val b64 (us0.drop nq)<yq9)
 (hK:∀ A1 m1 c1 A2 m2 c2 h',g.le h'->m1<=c1->m2<=c2->Mw h' A1 m1 (a/b)->Mw h' A2 m2 (a%b)->K (.tuple #[.slice A1 m1 c1,.slice A2 m2 c2]) h'):
 Ch prog xn (mm+2) K (s:Z) VA (mm+2) vc (some ⟨bu,0,none⟩) N N (some ⟨bq,0,none⟩) nq nq (Cc .u64 161 g bu us0 bq (aF nq 0)):=by
 have hp:0<(2:Z)^s:=bM dc
 have a3:yq9<b64^(mm+2):=by rw [<- hY,<- hn];exact Q3 dc dv
 have ba:0<yq9:=by have:=C9 dc (du.drop nq);omega
 have e0:C4 ((xn:Z)-((mm+2:J):Z))=(nq:Z)-1:=by rw [C0 o o];omega
 unfold Ch
 refine ⟨fun l h'=>∃ (k:J) (us qs:Y Z),l=[I ((k:Z)-1)]/\k<=nq/\us.length=N/\qs.length=nq/\Dig b64 us/\Dig b64 qs/\h'=Cc .u64 161 g bu us bq qs/\val b64 (us.drop k)<yq9/\val b64 us0=val b64 (qs.drop k)*yq9*b64^k+val b64 us,fun l _=>(iAt l 0+1).toNat,⟨nq,us0,_,by rw [e0],o,hN,by simp,du,J4 dc _,rfl,htop,by simp [val]⟩,?_⟩
 rintro j a8 ⟨k,us,qs,ax,hk,M,af,u,ai,rfl,ao,hv⟩
 obtain rfl:j=(k:Z)-1:=by simpa using ax
 have ad:g.le (Cc .u64 161 g bu us bq qs):=Rw hu hq hne
 have su:SlI .u64 (Cc .u64 161 g bu us bq qs) (some ⟨bu,0,none⟩) us:=Xh hne
 unfold Ie
 refine B9 (fun h1=>?_) (fun h1=>?_)
 ·obtain ⟨j,rfl⟩:∃ j,k=j+1:=⟨k-1,o⟩
  have ej:((j+1:J):Z)-1=(j:Z):=o
  rw [ej]
  have e1:C4 ((j:Z)+((mm+2:J):Z))=((j+(mm+2):J):Z):=by rw [C0 o o];omega
  have e2:C4 (((j+(mm+2):J):Z)+1)=((j+(mm+3):J):Z):=by rw [C0 o o];omega
  simp only [e1,e2,aC]
  have z:=u.drop j
  have L:(us.drop j).length=N-j:=by rw [cI,M]
  have y:val b64 ((us.drop j).drop (mm+3))=0:=by
   have:=Ew (B:=b64) dc (n:=mm+2) (u.drop (j+1)) o
   rw [cZ] at this ⊢
   rw [show j+(mm+3)=j+1+(mm+2) from o];exact this
  have aj:=A2s b64 us j
  have au:val b64 (us.drop j)<yq9*b64:=by
   have bd:=S8 u j
   rw [aj]
   have t1:b64*(val b64 (us.drop (j+1))+1)<=b64*yq9:=aI o dc
   have t2:b64*(val b64 (us.drop (j+1))+1)=b64*val b64 (us.drop (j+1))+18446744073709551616:=by show (18446744073709551616:Z)*_=_;grind
   have t3:yq9*b64=b64*yq9:=aW _ _
   omega
  have H:=G9 b64 (us.drop j) (i:=mm+3) o
  rw [y,fG,fJ] at H
  have aw:=I4 b64 (us.drop j) (mm+2)
  have hX:val b64 (us.drop j)=val b64 ((us.drop j).take (mm+2))+b64^(mm+2)*(us.drop j).getD (mm+2) 0:=by rw [H];exact aw
  refine ⟨⟨o,o⟩,⟨o,o⟩,?_⟩
  have sw:SlI .u64 (Cc .u64 161 g bu us bq qs) (X9 (some ⟨bu,0,none⟩) N j 1) ((us.drop j).take (mm+3)):=by
   have:=su.cut (c:=N) (l:=j) (m:=j+(mm+3)) o o o
   rwa [show j+(mm+3)-j=mm+3 from o] at this
  generalize hXX:val b64 (us.drop j)=X at *
  refine A1y (m:=mm) (X:=X) (yq9:=yq9) sw (sv.mono ad) (by rw [aL,L];omega) hn.symm (z.take _) dv (by rw [aL,L];omega) hn o hv1 H.symm hY au ?_
  intro q q0 q1 q2 q3
  refine ⟨_,rfl,⟨o,o⟩,⟨o,o⟩,?_⟩
  have w0:=B7u (e:=161) (us:=us) (qs:=qs) hu hne
  have ay:SlI .u64 (blk .u64 161 g bq qs) VA vs:=sv.mono (Eb hq qs)
  have hW:(us.drop j).take (j+(mm+2)-j)=(us.drop j).take (mm+2):=by rw [show j+(mm+2)-j=mm+2 from o]
  have w1:=w0.sub (l:=j) (m:=j+(mm+2)) (c:=N) o o o
  rw [hW] at w1
  have O:((us.drop j).take (mm+2)).length=mm+2:=by rw [aL,L];omega
  refine Kz w1 (by rw [O];omega) ay hn.symm (z.take _) dv (by rw [O,hn]) ⟨q0,q1⟩ o ?_
  intro W c h2 p D w G w2
  rw [O] at p G
  refine ⟨_,rfl,?_⟩
  have w3:=w0.whole (l:=j) (m:=j+(mm+2)) o o o w2
  have aa:=B5n hne w3
  have f:(us.take j).length=j:=by rw [aL,M];omega
  have ak:us.drop (j+(mm+2))=(us.drop j).drop (mm+2):=by rw [cZ]
  rw [cH,ak] at aa
  subst aa
  generalize hws:us.drop j=ws at *
  have r:(W++ws.drop (mm+2)).length=ws.length:=by rw [aT,cI];omega
  have dW:Dig b64 (W++ws.drop (mm+2)):=D.append (z.drop _)
  have V:(W++ws.drop (mm+2)).getD (mm+2) 0=ws.getD (mm+2) 0:=by
   simp only [fN]
   rw [List.getElem?_append_right o,p,Nat.sub_self,List.getElem?_drop,fE]
  have T:=S8 z (mm+2)
  have a0:(us.take j++(W++ws.drop (mm+2))).length=N:=by rw [aT,r,f];omega
  have al:SlI .u64 (Cc .u64 161 g bu (us.take j++(W++ws.drop (mm+2))) bq qs) (some ⟨bu,0,none⟩) (us.take j++(W++ws.drop (mm+2))):=Xh hne
  have a2:j+(mm+2)=(mm+2)+(us.take j).length:=o
  refine al.load a0.symm o o ?_
  rw [aC,a2,Hl,V]
  refine ⟨_,rfl,o,o,?_⟩
  refine A5a (i:=mm+2+(us.take j).length) H0 hne o ?_
  rw [Mo]
  have hP:0<b64^(mm+2):=E9 dc _
  have ap:=Q3 dc D
  have a7:=C9 dc D
  rw [p] at ap
  rw [hY] at G
  have hD:X-q*yq9=val b64 W+(ws.getD (mm+2) 0-c)*b64^(mm+2):=by rw [G,hX];grind
  have R:X-q*yq9<yq9:=by
   have:(q+1)*yq9=q*yq9+yq9:=gz0
   omega
  have a6: -yq9<=X-q*yq9:=by
   have:(q-1)*yq9=q*yq9-yq9:=gz0
   omega
  have be:0<=X:=by
   have t1:=C9 dc (z.take (mm+2))
   have t2:=aQ (aO hP) T.1
   omega
  have a4:ws.getD (mm+2) 0-c=0\/ws.getD (mm+2) 0-c= -1:=by
   have t2:ws.getD (mm+2) 0-c<1:=by
    by_cases w:ws.getD (mm+2) 0-c<1
    ·exact w
    ·have:=aE (show 1<=ws.getD (mm+2) 0-c from o) (aO hP);omega
   have t3: -2<ws.getD (mm+2) 0-c:=by
    by_cases w: -2<ws.getD (mm+2) 0-c
    ·exact w
    ·have:=aE (show ws.getD (mm+2) 0-c <= -2 from o) (aO hP);omega
   omega
  have A:∀ v,((W++ws.drop (mm+2)).set (mm+2) v).take (mm+2)=W:=by
   intro v
   rw [List.take_set_of_le o,dJ p]
  have ac:∀ v,((W++ws.drop (mm+2)).set (mm+2) v).getD (mm+2) 0=v:=by
   intro v
   rw [fN,List.getElem?_set_self o];rfl
  have ah:∀ v,((W++ws.drop (mm+2)).set (mm+2) v).drop (mm+3)=ws.drop (mm+3):=by
   intro v
   rw [E5 o,show mm+3=(mm+2)+1 from o,<- cZ,fS p,cZ]
  refine ⟨fun l h'=>∃ d t,l=[U t]/\h'=Cc .u64 161 g bu (us.take j++d) bq qs/\d.length=ws.length/\Dig b64 d/\d.drop (mm+3)=ws.drop (mm+3)/\d.getD (mm+2) 0=0/\val b64 (d.take (mm+2))=X-t*yq9/\0<=X-t*yq9/\X-t*yq9<yq9/\0<=t/\t<18446744073709551616,B9 (fun h3=>?_) (fun h3=>?_),?_⟩
  ·have F:ws.getD (mm+2) 0-c= -1:=o
   rw [F] at hD ⊢
   have ag:C7 (-1)=18446744073709551615:=by rw [F8];omega
   rw [ag]
   have az:1<=q:=by
    by_cases w:1<=q
    ·exact w
    ·have:q=0:=o
     subst this;omega
   have e5:(q-1)*yq9=q*yq9-yq9:=gz0
   have bk:=C5u (g:=g) (bu:=bu) (bq:=bq) (pre:=us.take j) (qs:=qs) (VA:=VA) (vs:=vs) (n:=mm+2) (N:=N) (ws:=(W++ws.drop (mm+2)).set (mm+2) 18446744073709551615) (q:=q)
    (jq9:=fun l h'=>∃ d t,l=[U t]/\h'=Cc .u64 161 g bu (us.take j++d) bq qs/\d.length=ws.length/\Dig b64 d/\d.drop (mm+3)=ws.drop (mm+3)/\d.getD (mm+2) 0=0/\val b64 (d.take (mm+2))=X-t*yq9/\0<=X-t*yq9/\X-t*yq9<yq9/\0<=t/\t<18446744073709551616)
    hu hq hne sv dv hn.symm (dW.set dc) (by rw [aT,eM,r,f];omega) (by rw [eM,r];omega) o (by rw [A,hY];omega) (by rw [A,hY];omega) (ac _) ?_
   ·rw [f] at bk;exact bk
   ·intro d g1 g2 g3 g4 g5
    rw [A,hY] at g5
    rw [C5 (n:=q-1) o o]
    refine ⟨d,q-1,rfl,rfl,by rw [g1,eM,r],g2,by rw [g3,ah],g4,o,o,o,o,o⟩
  ·have E:ws.getD (mm+2) 0-c=0:=o
   rw [E] at hD ⊢
   have ar:C7 0=0:=by rw [F8];omega
   rw [ar]
   exact ⟨(W++ws.drop (mm+2)).set (mm+2) 0,q,rfl,rfl,by rw [eM,r],dW.set dc,ah _,ac _,by rw [A];omega,o,R,q0,q1⟩
  ·rintro q4 a5 ⟨d,t,an,rfl,g1,g2,g3,g4,g5,g6,g7,g8,g9⟩
   obtain rfl:q4=t:=by simpa using an
   refine ⟨_,rfl,o,o,?_⟩
   refine A5b (i:=j) H0 o ?_
   rw [C0 o o]
   have S:val b64 d=X-q4*yq9:=by
    have z1:=G9 b64 d (i:=mm+3) o
    rw [g3,y,I4,g4,g5] at z1
    simp at z1
    omega
   refine ⟨⟨j,us.take j++d,qs.set j q4,rfl,o,by rw [aT,g1,f];omega,by simpa using af,(u.take j).append g2,ai.set ⟨g8,g9⟩,rfl,?_,?_⟩,by simp only [iAt,aH];omega⟩
   ·rw [fS f,S];exact g7
   ·have Q:=G9 b64 us (i:=j) o
    rw [hws,hXX] at Q
    rw [hv,Am o,I3,f,S,Q,bG]
    simp only [val]
    grind
 ·have aq:k=0:=o
  subst aq
  simp at ao hv
  have bc:0<b:=by
   by_cases w:0<b
   ·exact w
   ·have:=aE (show b<=0 from o) (aO hp);omega
  have a9:=C9 dc u
  have hR:val b64 us=(a-val b64 qs*b)*2^s:=by
   rw [hua,hYb] at hv
   grind
  have av:0<=a-val b64 qs*b:=by
   by_cases w:0<=a-val b64 qs*b
   ·exact w
   ·have:=aE (show a-val b64 qs*b <= -1 from o) (aO hp);omega
  have am:a-val b64 qs*b<b:=by
   by_cases w:a-val b64 qs*b<b
   ·exact w
   ·have:=aE (show b<=a-val b64 qs*b from o) (aO hp);omega
  have C:a/b=val b64 qs:=by
   have:a=(a-val b64 qs*b)+val b64 qs*b:=o
   rw [this,eI _ _ o,bK av am,cR]
  have ae:a%b=a-val b64 qs*b:=by
   have:=Int.emod_def a b
   rw [this,C,aW]
  rw [C,ae] at hK
  rw [<- af]
  refine U6 B9a ai (aY _) o ?_
  intro m1 ag M1
  refine ⟨_,_,_,rfl,?_⟩
  rw [<- M]
  refine U6 su u (aY _) o ?_
  intro m2 bb M2
  refine ⟨_,_,_,rfl,?_⟩
  rw [C5 o o]
  refine Hq M2 (by have:=M2.len_le dc (j:=mm+2) o;omega) o ?_
  intro A3 m3 c3 h3 l3 k3 M3
  have a1:val b64 us/2^s=a-val b64 qs*b:=by rw [hR,fD _ o]
  rw [a1] at M3
  exact ⟨_,_,_,rfl,hK _ _ _ _ _ _ _ (B6 ad l3) o k3 (M1.mono l3) M3⟩
end
section
variable {h g:bI} {K:VP} {A B:Option bN} {ac bc:J}
set_option maxHeartbeats 1000000 in
def Fy{x y:Z}{an bn:J}(ma:Mw h A an x)(mb:Mw h B bn y)(ha:an<=ac)(hbc:bn<=bc)(hy:y≠0)(hl:an<=20000000000000)(hl2:bn<=20000000000000)
 (hK:∀ A1 m1 c1 A2 m2 c2 h',h.le h'->m1<=c1->m2<=c2->Mw h' A1 m1 (x/y)->Mw h' A2 m2 (x%y)->K (.tuple #[.slice A1 m1 c1,.slice A2 m2 c2]) h'):aX prog 304 #[.slice A an ac,.slice B bn bc] h K:=by
 have H:=ma.nonneg dc
 have ap:=mb.nonneg dc
 have a4:=mb.len_zero dc
 have u:=ma.lt dc
 have a8:=mb.lt dc
 refine To _ _ _ _ _ _ ?_
 unfold Qe
 refine I0 ma mb o ⟨_,rfl,B9 (fun C=>?_) (fun C=>D4 (fun h2=>?_) (fun h2=>?_))⟩
 ·have L:x<y:=by
   unfold Gr at C
   by_cases c:x<y
   ·exact c
   ·rw [iN c] at C
    by_cases M:x>y
    ·rw [iP M] at C;omega
    ·rw [iN M] at C;omega
  rw [bK H L,fI H L] at hK
  exact hK none 0 0 _ _ _ _ (B8 h) (aY _) ha Mag.zero ma
 ·obtain ⟨a,rfl,sy,dy,ny,rfl⟩:=mb
  have Q:a.length=1:=o
  obtain ⟨d,rfl⟩:∃ d,a=[d]:=by
   cases a with
   | nil=>simp at Q
   | cons d r=>
    cases r with
    | nil=>exact ⟨d,rfl⟩
    | cons _ _=>simp at Q
  rw [At] at hy ap hK
  have hd:=dy d (by simp)
  obtain ⟨w,rfl⟩:∃ w:J,d=w:=⟨d.toNat,o⟩
  refine sy.load rfl o (by simp) ?_
  show aX _ _ #[_,U (w:Z)] _ _
  have hw:w<18446744073709551616:=by have:=hd.2;have:(w:Z)<18446744073709551616:=this;omega
  refine Ww ma ⟨o,hw⟩ hl ?_
  intro A' m c' h' aj hm a5 hM
  refine ⟨_,_,_,_,rfl,?_⟩
  refine Cr ⟨aR _ o,by have:=aM x (show (0:Z)<w from o);omega⟩ ?_
  intro A2 m2 c2 h3 F k3 M3
  exact ⟨_,_,_,rfl,hK _ _ _ _ _ _ _ (B6 aj F) hm k3 (hM.mono F) M3⟩
 ·have aq:y<=x:=by
   unfold Gr at C
   by_cases c:x<y
   ·rw [iP c] at C;omega
   ·omega
  have a7:bn<=an:=mb.len_le dc (cJ aq u)
  have ax:=mb
  have ak:=ma
  obtain ⟨a,rfl,sy,dy,ny,rfl⟩:=mb
  obtain ⟨mm,hmm⟩:∃ mm,a.length=mm+2:=⟨a.length-2,o⟩
  have gt:=S8 dy (mm+1)
  have ao:=A30 (m:=mm+1) hmm ny
  obtain ⟨G,p⟩:=Cy (B:=b64) dc dy (m:=mm+1) hmm
  have e1:C4 ((a.length:Z)-1)=((mm+1:J):Z):=by rw [C0 o o];omega
  rw [e1]
  refine sy.load rfl o o ?_
  rw [aC]
  obtain ⟨t,ht⟩:∃ t:J,a.getD (mm+1) 0=t:=⟨(a.getD (mm+1) 0).toNat,o⟩
  rw [ht] at gt ao G p ⊢
  have l:t≠0:=o
  refine W4 o ⟨_,rfl,?_⟩
  obtain ⟨ay,a0⟩:=Gf l
  have a1:U5 t<=64:=Js (k:=64) o
  have az:1<=U5 t:=by unfold U5;rw [iN l];omega
  obtain ⟨s,hs⟩:∃ s,s=64-U5 t:=⟨_,rfl⟩
  rw [<- hs]
  have W:s<64:=o
  have b:0<(2:Z)^s:=bM dc
  have am:=Bt (s:=s) o
  have z:U5 t=64-s:=o
  have au:(t:Z)+1<=2^(64-s):=by
   rw [<- z]
   have:((t+1:J):Z)<=((2^U5 t:J):Z):=o
   simpa using this
  have al:(2:Z)^(63-s)<=t:=by
   have:((2^(U5 t-1):J):Z)<=((t:J):Z):=o
   rw [show U5 t-1=63-s from o] at this
   simpa using this
  have E:(2:Z)^s*2^(63-s)=9223372036854775808:=by
   rw [<- aU,show s+(63-s)=63 from o];decide
  have ai:C7 (s:Z)=(s:Z):=C5 o o
  rw [ai]
  have f:=E9 (B:=b64) dc (mm+1)
  have ah:val b64 a*2^s<b64^(mm+2):=by
   have t2:val b64 a*2^s<((t:Z)+1)*b64^(mm+1)*2^s:=bH G b
   have t3:((t:Z)+1)*b64^(mm+1)*2^s=((t:Z)+1)*2^s*b64^(mm+1):=gz0
   have t4:((t:Z)+1)*2^s*b64^(mm+1)<=18446744073709551616*b64^(mm+1):=by
    apply aE _ (aO f)
    rw [<- am,aW (2^s)]
    exact aE au (aO b)
   have t5:b64^(mm+2)=18446744073709551616*b64^(mm+1):=by rw [bG b64 (mm+1),aW]
   omega
  have a6:9223372036854775808*b64^(mm+1)<=val b64 a*2^s:=by
   have t1:(t:Z)*b64^(mm+1)*2^s<=val b64 a*2^s:=aE p (aO b)
   have t2:9223372036854775808*b64^(mm+1)<=(t:Z)*2^s*b64^(mm+1):=by
    apply aE _ (aO f)
    rw [<- E,aW (t:Z)]
    exact aI al o
   have t3:(t:Z)*2^s*b64^(mm+1)=(t:Z)*b64^(mm+1)*2^s:=gz0
   omega
  refine U7 ax hbc hl2 o ?_
  intro A1 n1 c1 g1 l1 k1 M1
  refine ⟨_,_,_,rfl,?_⟩
  have aa:n1=mm+2:=by
   have q1:=M1.len_le dc ah
   have q2:=M1.lt dc
   by_cases c:n1=mm+2
   ·exact c
   ·have:=D7 (B:=b64) dc (show n1<=mm+1 from o)
    omega
  subst aa
  obtain ⟨vs,T,sv,dv,nv,X⟩:=M1
  have af:b64<=2*vs.getD (mm+1) 0:=by
   obtain ⟨q1,q2⟩:=Cy (B:=b64) dc dv (m:=mm+1) T.symm
   rw [X] at q1
   have:9223372036854775808<vs.getD (mm+1) 0+1:=by
    by_cases c:9223372036854775808<vs.getD (mm+1) 0+1
    ·exact c
    ·have:=aE (show vs.getD (mm+1) 0+1<=9223372036854775808 from o) (aO f);omega
   show (18446744073709551616:Z)<=_
   omega
  have eN:C4 ((an:Z)+1)=((an+1:J):Z):=by rw [C0 o o];omega
  rw [eN]
  refine N8 U3 o o o ?_
  intro bu ar
  rw [aC]
  refine ⟨_,_,_,rfl,?_⟩
  have w0:=Win.blk .u64 161 ar (aF (an+1) 0)
  refine w0.call ?_
  refine U7 (ak.mono l1) ha hl o ?_
  intro A3 n3 c3 g3 F k3 M3 h4 w4
  refine ⟨_,_,_,rfl,?_⟩
  have av:x*2^s<b64^(an+1):=by
   have t1:x*2^s<b64^an*2^s:=bH u b
   have t2:b64^an*2^s<=b64^an*18446744073709551616:=by
    apply aI _ (aO (E9 dc an))
    have:=D7 (B:=2) dc (show s<=64 from o)
    have e:(2:Z)^64=18446744073709551616:=dc
    omega
   rw [bG];show _<b64^an*(18446744073709551616:Z);omega
  have a3:=M3.len_le dc av
  obtain ⟨us,aw,ag,ad,a2,R⟩:=M3
  refine Fg U3 w4 (by simp) (ag.mono w4.le) aw (by simp;omega) ?_
  intro h5 w5
  refine ⟨_,rfl,?_⟩
  rw [bL] at w5
  generalize hu0:us++aF (an+1-us.length) (0:Z)=us0 at w5
  have V:us0.length=an+1:=by rw [<- hu0];simp;omega
  have q:Dig b64 us0:=by rw [<- hu0];exact ad.append (J4 dc _)
  have j:val b64 us0=x*2^s:=by rw [<- hu0,Ef];exact R
  obtain ⟨nq,hnq⟩:∃ nq,an+1=nq+(mm+2):=⟨an+1-(mm+2),o⟩
  have eq:C4 (C4 ((an:Z)-(a.length:Z))+1)=(nq:Z):=by
   rw [C0 (n:=(an:Z)-(a.length:Z)) o o,C0 o o];omega
  rw [eq]
  refine N8 U3 o o o ?_
  intro bq g
  rw [aC]
  refine ⟨_,_,_,rfl,?_⟩
  have ae:h5=blk .u64 161 g3 bu us0:=by rw [w5.eq];simp [blk]
  subst ae
  have S:g3 bu=none:=w5.free
  have D:bu≠bq:=by
   rintro rfl
   unfold blk at g
   rw [C3] at g;cases g
  have O:g3 bq=none:=by
   have:=g
   unfold blk at this
   rwa [C1 _ _ D.symm] at this
  rw [hmm]
  refine A6a (us0:=us0) (N:=an+1) (xn:=an) S O D (sv.mono F) dv T.symm af W X rfl q V j rfl hnq o o ?_ ?_
  ·have s1:=G9 b64 us0 (i:=nq) o
   have s2:=C9 dc (q.take nq)
   have s3:val b64 us0<b64^an*2^s:=by
    rw [j];exact bH u b
   have s4:b64^(mm+1)<=val b64 a:=by
    have:=aE (show 1<=(t:Z) from o) (aO f);omega
   have s5:b64^nq*(b64^(mm+1)*2^s)<=b64^nq*(val b64 a*2^s):=aI (aE s4 (aO b)) (aO (E9 dc nq))
   have s6:b64^nq*(b64^(mm+1)*2^s)=b64^an*2^s:=by
    rw [<- dF,<- aU,show nq+(mm+1)=an from o]
   by_cases c:val b64 (us0.drop nq)<val b64 a*2^s
   ·exact c
   ·have:=aI (show val b64 a*2^s<=val b64 (us0.drop nq) from o) (aO (E9 (B:=b64) dc nq));omega
  ·intro A5 m5 c5 A6 m6 c6 h6 l6 k5 k6 M5 M6
   exact hK _ _ _ _ _ _ _ (B6 l1 (B6 F l6)) k5 k6 M5 M6
end
def A7b{x a b p:Z}(h:a+p*b=x)(h0:0<=a)(h1:a<p):x/p=b/\x%p=a:=(Int.ediv_emod_unique o).2 ⟨h,h0,h1⟩
def Lw{P:dY}{h:bI}{A:Option bN}{n m c s:J}{cs:Y eZ}(hl:cs.length=n*s)(hc:cs=[]\/∃a,A=some a/\∀j v,cs[j]? = some v->h.cell? (a.add j)=some v){K:Array eZ->bI->Prop}(x:K cs.toArray h):
 wpH P (Builtin.firstCells s n (.slice A m c)) K h:=by
 cases A with
 |none=>
  rcases hc with rfl|⟨a,e,_⟩;·exact x
  ·cases e
 |some a=>
  show wpH P (loadCells a (n*s)) K h;rcases hc with rfl|⟨b,e,hc⟩;·exact Aa (cs:=[]) hl.symm (fun j v e=>by simp at e) x
  ·cases e;exact Aa hl.symm hc x
def B7p{P:dY}{t e ty:cK}{k:dC}{bytes:J}(s:SliceT P t e (.int k 0) 1 bytes){h g:bI}{b:J}{A:Option bN}{pre post:Y eZ}{xs:Y Z}{n c m d:J}(w:Win k h g b e A pre xs post)(hn:n=xs.length){B:Option bN}{ys:Y Z}(sy:SlI k h B ys)(hm:min m xs.length=ys.length){K:VP}
 (x:∀h',Win k h' g b e A pre (ys++xs.drop ys.length) post->K (I ys.length) h'):wpH P (dX #[t,t] ty #[.slice A n c,.slice B m d]) K h:=by
 subst hn;obtain⟨i,r,y,l,p⟩:=s.parts;unfold dX;simp only[List.getElem?_toArray,aH,aJ,C8,F2 s.und,K4 r,I5,Builtin.lenOf,l];have f:Nat.min m xs.length=ys.length:=hm;rw[f];refine Lw (s:=1) (cs:=ys.map (bU k)) (by simp) sy ?_
 cases A with
 |none=>
  rcases w.at_ with j|j
  ·have:ys=[]:=bF gz0;subst this;exact x h (by assumption)
  ·cases j
 |some a=>
  simp only[C8];rcases w.at_ with j|j
  ·have:ys=[]:=bF gz0;subst this;exact x h (by assumption)
  ·cases j;rw[w.eq];refine H8 (ys.map (bU k)) pre.length 0 (pre++xs.map (bU k)++post) gz0 (fun v q=>?_) ?_;·obtain⟨u,_,rfl⟩:=List.mem_map.1 q;rfl
   ·refine x _ ⟨w.free,?_,?_⟩
    ·congr 3;unfold J0;rw[fE,cH pre,dJ rfl,fR];rw[fO,aV (show pre.length<=pre.length+ys.length from o),gD,cL];rw[dH gz0,<- List.map_drop,fQ];grind
    grind
section
variable {h g:bI} {K:VP} {A B:Option bN} {ac bc:J}
def B8s(a n:J):(if(a:Z)<(n:Z)then(a:Z)else(n:Z))=((min n a:J):Z):=o
def Nu{xs:Y Z}(d:Dig b64 xs)(n:J):val b64 xs/b64^n=val b64 (xs.drop (min n xs.length))/\val b64 xs%b64^n=val b64 (xs.take (min n xs.length)):=by by_cases c:n<=xs.length;{rw[aK c];have e:=G9 b64 xs c;have a:=C9 dc (d.take n);have b:=Q3 dc (d.take n);rw[aL,aK c]at b;exact A7b e.symm a b};·rw[fM o,List.drop_length,bZ];have a:=C9 dc d;have b:=Q3 dc d;have f:=D7 (B:=b64) dc (show xs.length<=n from o);exact A7b (by simp[val]) a o
def Bm{x:Z}{an n:J}(ma:Mw h A an x)(ha:an<=ac)(hK:∀A' m c',m<=c'->m<=an->Mw h A' m (x/b64^n)->K (.slice A' m c') h):aX prog 316 #[.slice A an ac,I n] h K:=by obtain⟨xs,rfl,d,a,c,rfl⟩:=ma;refine(fnk func316) ?_;rw[B8s,aC];refine⟨⟨o,o⟩,hK _ _ _ o o ?_⟩;rw[(Nu a n).1,<- cI];refine Mw.of (A21 d o ha) (a.drop _) ?_;by_cases b:min n xs.length<xs.length;{exact Ov c b};·rw[aV o];exact Norm.nil
def Hi{x:Z}{an n:J}(ma:Mw h A an x)(ha:an<=ac)(hl:an<=100000000000000)(hK:∀A' m c',m<=c'->m<=n->m<=an->Mw h A' m (x%b64^n)->K (.slice A' m c') h):aX prog 315 #[.slice A an ac,I n] h K:=by obtain⟨xs,rfl,b,a,c,rfl⟩:=ma;refine(fnk func315) ?_;rw[B8s,aC,I7,cC,cC];refine⟨⟨o,o⟩,Cm (Kx b (m:=min n xs.length) o ha) (a.take _) gz0 (Nu a n).2.symm o o ?_⟩;grind
def Jl{x y:Z}{an bn n:J}(ma:Mw h A an x)(mb:Mw h B bn y)(hbn:bn<=n)(hl:n+an<=34000000000000)(hK:∀A' m c' h',h.le h'->m<=c'->Mw h' A' m (x*b64^n+y)->K (.slice A' m c') h'):aX prog 318 #[.slice A an ac,.slice B bn bc,I n] h K:=by obtain⟨xs,rfl,q,w,E,rfl⟩:=ma;obtain⟨e,rfl,k,s,C,rfl⟩:=mb;refine(fnk func318) ?_;have t:C4 ((n:Z)+xs.length)=((n+xs.length:J):Z):=by{rw[C0 o o];omega};rw[t];refine N8 U3 o o o ?_;intro b j;rw[aC];refine⟨_,_,_,rfl,?_⟩;have i:=Win.blk .u64 161 j (aF (n+xs.length) 0);refine Fg U3 i gz0 (k.mono i.le) rfl gz0 ?_;intro D a;refine⟨_,rfl,⟨o,o⟩,?_⟩;rw[bL]at a;generalize hz:e++aF (n+xs.length-e.length) (0:Z)=zs at a;have p:zs.length=n+xs.length:=gz0;have u:=a.sub (l:=n) (m:=n+xs.length) (c:=n+xs.length) o o o;refine Fg U3 u gz0 (q.mono a.le) rfl gz0 ?_;intro z g;rw[aV gz0,cF]at g;have d:=a.whole (l:=n) (m:=n+xs.length) o o o g;rw[aV (show zs.length<=n+xs.length from o),cF]at d;have f:zs.take n=e++aF (n-e.length) 0:=by{rw[<- hz,List.take_append,aP o,cV];grind};rw[f]at d;refine⟨_,rfl,Cm d.sl ((s.append (J4 dc _)).append w) gz0 rfl o o ?_⟩;intro m r M;refine⟨_,_,_,rfl,hK _ _ _ _ d.le r ?_⟩;rw[I3,Ef]at M;grind
def B4w{x y:Z}(hx:0<=x/\x<18446744073709551616)(hy:0<=y/\y<18446744073709551616)(hK:K (.tuple #[U (x*y/18446744073709551616),U (x*y%18446744073709551616)]) h):aX prog 185 #[U x,U y] h K:=by refine(fnk func185) ?_;exact Oy hx hy ⟨_,_,rfl,hK⟩
def A6j{v:Z}{n:J}(s:SlI .u64 h A [v])(hn:0<n)(hl:n<=10000000000000)(hK:∀A' h',h.le h'->SlI .u64 h' A' (aF n v)->K (.slice A' n n) h'):aX prog 324 #[.slice A 1 ac,I n] h K:=by refine(fnk func324 [(8,[8],[],[I 0])]) ?_;refine B9 (fun d=>o) (fun _=>?_);rw[C5 (n:=((1:J):Z)) o o,C5 (n:=(n:Z)) o o];refine B4w o o ⟨_,_,rfl,?_⟩;have z:((1:J):Z)*(n:Z)/18446744073709551616=0:=o;have y:((1:J):Z)*(n:Z)%18446744073709551616=n:=o;rw[z,y];refine B9 (fun d=>o) (fun _=>?_);refine B9 (fun d=>o) (fun _=>?_);rw[C0 (n:=(n:Z)) o o];refine N8 U3 o o o ?_;intro b q;refine⟨_,_,_,rfl,?_⟩;have j:=Win.blk .u64 161 q (aF n 0);refine Fg U3 j (by simp) (s.mono j.le) rfl gz0 ?_;intro d f;refine⟨_,rfl,?_⟩;rw[bL]at f;refine⟨fun l e=>∃k:J,l=[I k]/\0<k/\k<=n/\Win .u64 e h b 161 (some ⟨b,0,none⟩) [] (aF k v++aF (n-k) 0) [],fun l _=>n-(iAt l 0).toNat,⟨1,rfl,o,hn,f⟩,?_⟩;rintro i e ⟨k,C,t,a,w⟩;obtain rfl:i=(k:Z):=gz0;refine B9 (fun p=>?_) (fun p=>?_);{have u:(aF k v++aF (n-k) (0:Z)).length=n:=gz0;refine⟨⟨o,o⟩,⟨o,o⟩,?_⟩;simp only[aC,I7,cC];have D:=w.sub (l:=k) (m:=n) (c:=n) o o o;have r:SlI .u64 e (some ⟨b,0,none⟩) (aF (min k (n-k)) v):=by{have:=Kx w.sl (c:=n) (m:=min k (n-k)) o o;grind};refine B7p U3 D (by simp) r (by simp) ?_;intro G g;rw[cD]at g ⊢;have E:=w.whole (l:=k) (m:=n) o o (by simp;omega) g;have B:C4 ((k:Z)+(min k (n-k):J))=((k+min k (n-k):J):Z):=by{rw[C0 o o];omega};refine⟨_,rfl,?_⟩;rw[B];refine⟨⟨_,rfl,o,o,?_⟩,?_⟩;{have F:(aF k v++aF (n-k) (0:Z)).take k++(aF (min k (n-k)) v++(aF (n-k) (0:Z)).drop (min k (n-k)))++(aF k v++aF (n-k) (0:Z)).drop n=aF (k+min k (n-k)) v++aF (n-(k+min k (n-k))) 0:=by{rw[dJ (by simp),aV (show(aF k v++aF (n-k) (0:Z)).length<=n from o),cF,bL,<- cH,dB];grind};grind};·simp only[iAt,aH];omega};·have a:k=n:=o;subst a;have:=w.sl;rw[Nat.sub_self,List.replicate_zero,cF]at this;exact hK _ _ w.le this
end
def Mw.high{h:bI}{A:Option bN}{an ac k:J}{x:Z}(ma:Mw h A an x)(ha:an<=ac)(hk:k<=an):Mw h (X9 A ac k 1) (an-k) (x/b64^k):=by obtain⟨xs,rfl,d,b,c,rfl⟩:=ma;have e:=(Nu b k).1;rw[aK hk]at e;rw[e,<- cI];refine Mw.of (A21 d hk ha) (b.drop _) ?_;by_cases a:k<xs.length;{exact Ov c a};·rw[aV o];exact Norm.nil
def B5w{x P X2 yh top:Z}(hP:0<P)(h1:x<P*P*(X2+1))(h2:P*top<=x)(hlt:X2<yh):top<P*yh:=by by_cases a:top<P*yh;{exact a};·have t1:P*(P*yh)<=P*top:=aI o o;have b:P*P*(X2+1)<=P*P*yh:=aI o (aQ o o);grind
def B5x{x P X2 yh top:Z}(hP:0<P)(h1:P*P*X2<=x)(h2:x<P*(top+1))(hge:yh<=X2):P*yh<=top:=by by_cases a:P*yh<=top;{exact a};·have t1:P*(top+1)<=P*(P*yh):=aI o o;have b:P*P*yh<=P*P*X2:=aI o (aQ o o);grind
def B9e(N:J):Prop:=∀{h:bI} {K:VP} {A B:Option bN} {ac bc an bn:J} {x y:Z},bn<=N->Mw h A an x->Mw h B bn y->an<=ac->bn<=bc->an<=19000000000000->bn<=9300000000000->0<bn->9223372036854775808*b64^(bn-1)<=y->x<b64^bn*y-> (∀A1 m1 c1 A2 m2 c2 h',h.le h'->m1<=c1->m2<=c2->Mw h' A1 m1 (x/y)->Mw h' A2 m2 (x%y)->K (.tuple #[.slice A1 m1 c1,.slice A2 m2 c2]) h')->aX prog 317 #[.slice A an ac,.slice B bn bc] h K
section
variable {h g:bI} {K:VP} {A B:Option bN} {ac bc:J}
def Eu{x y:Z}:Gr x y<0↔x<y:=by unfold Gr;omega
set_option maxHeartbeats 1000000 in
def A62{x y q0 R0 pr:Z}{m bn nq cq np cp nr cr:J}{Aq Ap Ar:Option bN}(hx0:0<=x)(mb:Mw h B bn y)(hb:bn<=bc)(hl2:bn<=9300000000000)(hbm:bn=2*m)(mq:Mw h Aq nq q0)(hq:nq<=cq)(mp:Mw h Ap np pr)(hp2:pr<b64^bn)
 (mr:Mw h Ar nr R0) (hr:nr<=cr) (hq0:q0<b64^m) (hR:R0-pr=x-q0*y) (hy:x-q0*y<y)
 (hK:∀ A1 m1 c1 A2 m2 c2 h',h.le h'->m1<=c1->m2<=c2->Mw h' A1 m1 (x/y)->Mw h' A2 m2 (x%y)->K (.tuple #[.slice A1 m1 c1,.slice A2 m2 c2]) h'):
 Cg prog B bn bc K Aq nq cq Ap np cp Ar nr cr h:=by
 have G:=mb.lt dc
 have L:=mb.nonneg dc
 have E:=mp.nonneg dc
 unfold Cg
 refine ⟨fun l c=>∃ (Aq Ar:Option bN) (nq cq nr cr:J) (q R:Z),l=[.slice Aq nq cq,.slice Ar nr cr]/\h.le c/\Mw c Aq nq q/\nq<=cq/\Mw c Ar nr R/\nr<=cr/\q<b64^m/\R-pr=x-q*y/\x-q*y<y,fun l c=>match l with|[.slice A n _,_]=>B3b b64 c A n|_=>0,⟨_,_,_,_,_,_,_,_,rfl,B8 h,mq,hq,mr,hr,hq0,hR,hy⟩,?_⟩
 rintro A1 H c1 A2 M c2 c ⟨Aq,Ar,nq,cq,nr,cr,q,R,hl,e,mq,hq,mr,hr,hq0,hR,hy⟩
 simp only [cM,cY,and_true] at hl
 obtain ⟨⟨rfl,rfl,rfl⟩,rfl,rfl,rfl⟩:=hl
 have z:M<=bn+1:=mr.len_le dc (by
  rw [bG]
  show R<b64^bn*18446744073709551616
  omega)
 have F:H<=m:=mq.len_le dc hq0
 refine I0 mr (mp.mono e) o ⟨_,rfl,?_⟩
 refine B9 (fun g=>?_) (fun g=>?_)
 ·rw [Eu] at g
  have u:=mq.nonneg dc
  have r:1<=q:=by
   by_cases N:1<=q
   ·exact N
   ·obtain rfl:q=0:=o
    omega
  refine W7 mr (mb.mono e) hr hb o o ?_
  intro A3 w c3 j d f M3
  refine ⟨_,_,_,rfl,T6 U3 rfl ?_⟩
  intro b k
  refine ⟨_,_,_,rfl,?_⟩
  have i:=Heap.le_put (.cells #[U 1] 161) k
  have M1:Mw (j.put b (.cells #[U 1] 161)) (some ⟨b,0,none⟩) 1 1:=⟨[1],rfl,SlI.new j b [1] 161 _,Dig.one dc,by simp [gE],At _ _⟩
  refine I9 ((mq.mono d).mono i) M1 hq o r ?_
  intro A5 O c5 Q s D M5
  refine ⟨_,_,_,rfl,⟨_,_,_,_,_,_,_,_,rfl,B6 e (B6 d (B6 i s)),M5,D,(M3.mono i).mono s,f,o,?_,?_⟩,?_⟩
  ·rw [Int.sub_mul];omega
  ·rw [Int.sub_mul];omega
  ·simp only [Cd M5,Cd mq];omega
 ·rw [Eu] at g
  refine I9 mr (mp.mono e) hr o o ?_
  intro A3 w c3 j d f M3
  obtain ⟨C,t⟩:=A7b (x:=x) (a:=R-pr) (b:=q) (p:=y) (by rw [hR,aW y];omega) o o
  refine ⟨_,_,_,rfl,hK _ _ _ _ _ _ _ (B6 e d) hq f ?_ ?_⟩
  ·rw [C];exact mq.mono d
  ·rw [t];exact M3
set_option maxHeartbeats 1000000 in
def Uk{N:J}(ih:B9e N){x y:Z}{an bn m:J}(hm:0<m)(hN:m<=N)(hbm:bn=2*m)(ma:Mw h A an x)(mb:Mw h B bn y)(ha:an<=ac)(hb:bn<=bc)(hl:an<=19000000000000)(hl2:bn<=9300000000000)(htop:9223372036854775808*b64^(bn-1)<=y)(hxy:x<b64^m*y)
 (hK:∀ A1 m1 c1 A2 m2 c2 h',h.le h'->m1<=c1->m2<=c2->Mw h' A1 m1 (x/y)->Mw h' A2 m2 (x%y)->K (.tuple #[.slice A1 m1 c1,.slice A2 m2 c2]) h'):aX prog 323 #[.slice A an ac,.slice B bn bc] h K:=by
 have af:=ma.nonneg dc
 have a4:=mb.nonneg dc
 have ao:=mb.lt dc
 have i:=E9 (B:=b64) dc m
 have ak:b64^bn=b64^m*b64^m:=by rw [<- aU];congr 1;omega
 have p:b64^(2*m)=b64^m*b64^m:=by rw [<- aU];congr 1;omega
 have ap:b64^(bn-1)=b64^m*b64^(m-1):=by rw [<- aU];congr 1;omega
 have ax:an<=m+bn:=ma.len_le dc (by
  have t1:b64^m*y<b64^m*b64^bn:=bX ao i
  rw [aU];omega)
 have a:=mb.high (k:=m) hb o
 rw [show bn-m=m from o] at a
 have d:=a.nonneg dc
 have av:=a.lt dc
 have dy:b64^m*(y/b64^m)+y%b64^m=y:=aN _ _
 have T:=aR y (b:=b64^m) o
 have a1:=aM y i
 have dx:b64^m*(x/b64^m)+x%b64^m=x:=aN _ _
 have a3:=aR x (b:=b64^m) o
 have ba:=aM x i
 have az:=E9 (B:=b64) dc (m-1)
 have ae:9223372036854775808*b64^(m-1)<=y/b64^m:=by
  by_cases hc:9223372036854775808*b64^(m-1)<=y/b64^m
  ·exact hc
  ·have t1:b64^m*(y/b64^m+1)<=b64^m*(9223372036854775808*b64^(m-1)):=aI o o
   have M:b64^m*(9223372036854775808*b64^(m-1))=9223372036854775808*(b64^m*b64^(m-1)):=gz0
   rw [ap] at htop
   rw [dI] at t1
   omega
 obtain ⟨ys,al,sy,e,V,rfl⟩:=mb
 have mb:Mw h B bn (val b64 ys):=⟨ys,al,sy,e,V,rfl⟩
 generalize hyv:val b64 ys=y at *
 refine Tn _ _ _ _ _ _ ?_
 unfold Qd
 have eh:C4 (cP ((bn:J):Z) 2)=(m:Z):=by rw [aZ o,C0 o o];omega
 have X:C4 (2*(m:Z))=((2*m:J):Z):=by rw [C0 o o];omega
 simp only [eh,X,aC,cC,I7]
 rw [show bn-m=m from o]
 refine ⟨⟨o,o⟩,⟨o,o⟩,Cm (Kx sy (m:=m) (c:=bc) o o) (e.take m) (by rw [aL];omega) rfl o o ?_⟩
 intro yn a7 Myl
 have s:=(Nu e m).2
 rw [aK o,hyv] at s
 rw [<- s] at Myl
 refine ⟨_,_,_,rfl,B8 h,Bm ma ha ?_⟩
 intro A1 n1 c1 k1 a6 M1
 refine ⟨_,_,_,rfl,?_⟩
 have D:=M1.nonneg dc
 refine ⟨fun l R=>∃ (Aq Ar:Option bN) (Q cq S cr:J) (q r:Z),l=[.slice Aq Q cq,.slice Ar S cr]/\h.le R/\Mw R Aq Q q/\Q<=cq/\Mw R Ar S r/\S<=cr/\q<b64^m/\x/b64^m=q*(y/b64^m)+r/\x-q*y<y,?_,?_⟩
 ·refine Bm ma ha ?_
  intro A2 n2 c2 k2 a5 M2
  refine ⟨_,_,_,rfl,I0 M2 a o ⟨_,rfl,?_⟩⟩
  have ar:b64^(2*m)*(x/b64^(2*m))+x%b64^(2*m)=x:=aN _ _
  have ad:=aR x (b:=b64^(2*m)) (by have:=E9 (B:=b64) dc (2*m);omega)
  have aa:=aM x (E9 (B:=b64) dc (2*m))
  generalize x/b64^(2*m)=X2 at *
  rw [p] at ar ad aa
  refine B9 (fun O=>?_) (fun O=>?_)
  ·rw [Eu] at O
   have W:=B5w (x:=x) (top:=x/b64^m) i (by rw [dI];omega) o O
   refine ih hN M1 a k1 o o o hm ae W ?_
   intro A3 n3 c3 A4 n4 c4 h3 n k3 k4 M3 M4
   have G:0<y/b64^m:=o
   have d1:=aN (x/b64^m) (y/b64^m)
   have d2:=aM (x/b64^m) G
   have d0:=M3.nonneg dc
   refine ⟨_,_,_,_,_,_,rfl,_,_,_,_,_,_,_,_,rfl,n,M3,k3,M4,k4,bC G W,by rw [aW];omega,?_⟩
   generalize (x/b64^m)/(y/b64^m)=q at *
   generalize (x/b64^m)%(y/b64^m)=r at *
   generalize x/b64^m=top at *
   generalize y/b64^m=yh at *
   generalize y%b64^m=yl at *
   generalize x%b64^m=xl at *
   generalize b64^m=P at *
   have t1:P*(r+1)<=P*yh:=aI o o
   have M:x-q*y=P*r+xl-q*yl:=by rw [<- dx,<- dy,<- d1];grind
   have t3:=aQ d0 T
   rw [dI] at t1
   omega
  ·rw [Eu] at O
   have W:=B5x (x:=x) (top:=x/b64^m) (yh:=y/b64^m) (X2:=X2) i o (by rw [dI];omega) o
   refine T6 U3 rfl ?_
   intro b ai
   refine ⟨_,_,_,rfl,?_⟩
   have l4:=Heap.le_put (.cells #[U 18446744073709551615] 161) ai
   refine A6j (v:=18446744073709551615) (SlI.new h b [18446744073709551615] 161 _) hm o ?_
   intro A5 h5 u s5
   refine ⟨_,_,_,rfl,?_⟩
   have H:=B6 l4 u
   refine Jl (a.mono H) (Mag.zero (k:=.u64) (B:=b64)) o o ?_
   intro A6 n6 c6 h6 l6 k6 M6
   refine ⟨_,_,_,rfl,?_⟩
   have g:=B6 H l6
   refine I9 (M1.mono g) M6 k1 o (by rw [aW];omega) ?_
   intro A7 n7 c7 h7 t k7 M7
   have a8:n7<=an:=M7.len_le dc (by
    have:=ma.lt dc
    have t1:=aQ d (aO i)
    have M:1*(x/b64^m)<=b64^m*(x/b64^m):=aE o D
    omega)
   refine ⟨_,_,_,rfl,?_⟩
   refine W7 M7 ((a.mono g).mono t) k7 o o o ?_
   intro A8 n8 c8 h8 l8 k8 M8
   have C:∀ j:J,val b64 (aF j 18446744073709551615)=b64^j-1:=by
    intro j
    induction j with
    | zero=>rfl
    | succ j ihj=>
     rw [List.replicate_succ,val,ihj,bG]
     show (18446744073709551615:Z)+18446744073709551616*(b64^j-1)=b64^j*18446744073709551616-1
     omega
   have M5:Mw h5 A5 m (b64^m-1):=by
    refine ⟨aF m 18446744073709551615,by simp,s5,?_,?_,C m⟩
    ·intro z hz
     have:=List.eq_of_mem_replicate hz
     subst this;decide
    ·obtain ⟨j,rfl⟩:∃ j,m=j+1:=⟨m-1,o⟩
     unfold gE
     rw [List.replicate_succ']
     simp
   refine ⟨_,_,_,rfl,_,_,_,_,_,_,_,_,rfl,B6 g (B6 t l8),((M5.mono l6).mono t).mono l8,aY _,M8,k8,o,?_,?_⟩
   ·grind
   ·have:(b64^m-1)*y=b64^m*y-y:=gz0
    omega
 ·rintro Aq' ah a0 Ar' aj aw R ⟨Aq,Ar,Q,cq,S,cr,q,r,E,lh,L,hq,mr,hr,f,ag,am⟩
  simp only [cM,cY,and_true] at E
  obtain ⟨⟨rfl,rfl,rfl⟩,rfl,rfl,rfl⟩:=E
  have w:=L.nonneg dc
  have a2:=mr.nonneg dc
  have a9:ah<=m:=L.len_le dc f
  have ay:aj<=an:=mr.len_le dc (by
   have:=ma.lt dc
   have t1:=aQ w d
   have M:1*(x/b64^m)<=b64^m*(x/b64^m):=aE o D
   omega)
  refine J1 L (Myl.mono lh) hq o o o ?_
  intro A3 n3 c3 h3 n k3 M3
  refine ⟨_,_,_,rfl,Hi (ma.mono (B6 lh n)) ha o ?_⟩
  intro A4 n4 c4 k4 aq au M4
  refine ⟨_,_,_,rfl,Jl (mr.mono n) M4 aq o ?_⟩
  intro A5 n5 c5 h5 u k5 M5
  have F:=B6 lh (B6 n u)
  refine ⟨_,_,_,rfl,A62 (q0:=q) (m:=m) af (mb.mono F) hb hl2 hbm ((L.mono n).mono u) hq (M3.mono u) ?_ M5 k5 f ?_ am ?_⟩
  ·rw [ak]
   have t1:q*(y%b64^m)<=q*b64^m:=aI o w
   have M:q*b64^m<b64^m*b64^m:=bH f i
   omega
  ·generalize x/b64^m=top at *
   generalize y/b64^m=yh at *
   generalize y%b64^m=yl at *
   generalize x%b64^m=xl at *
   generalize b64^m=P at *
   rw [<- dx,<- dy,ag];grind
  ·intro A6 n6 c6 A7 n7 c7 h7 t k6 k7 M6 M7
   exact hK _ _ _ _ _ _ _ (B6 F t) k6 k7 M6 M7
end
set_option maxHeartbeats 1000000 in
def C58:∀ N,B9e N:=by
 intro N
 induction N with
 | zero=>intro h K A B L Q S d x y M _ _ _ _ _ _ s;omega
 | succ N ih=>
  intro h K A B L Q S d x y hN k g F u hl i af f j O
  have aj:=k.nonneg dc
  have ak:=g.nonneg dc
  have e:0<y:=by
   have:=E9 (B:=b64) dc (d-1);omega
  refine (fnk func317) ?_
  have c:aX prog 304 #[.slice A S L,.slice B d Q] h (fun r hp=>∃ (t22aA:Option bN) (t22an:J) (t22ac:J) (t22bA:Option bN) (t22bn:J) (t22bc:J),r= .tuple #[.slice t22aA t22an t22ac,.slice t22bA t22bn t22bc]/\K (.tuple #[.slice t22aA t22an t22ac,.slice t22bA t22bn t22bc]) hp):=by
   refine Fy k g F u o o o ?_
   intro A1 m1 c1 A2 m2 c2 h' l n T M1 M2
   exact ⟨_,_,_,_,_,_,rfl,O _ _ _ _ _ _ _ l n T M1 M2⟩
  refine B9 (fun M=>c) (fun M=>?_)
  refine D8 (fun s=>c) (fun s=>?_)
  rw [dL o] at s
  obtain ⟨m,hbm⟩:∃ m,d=2*m:=⟨d/2,o⟩
  have eh:C4 (cP ((d:J):Z) 2)=(m:Z):=by rw [aZ o,C0 o o];omega
  simp only [eh]
  have W:=E9 (B:=b64) dc m
  have t:b64^d=b64^m*b64^m:=by rw [<- aU];congr 1;omega
  have dx:b64^m*(x/b64^m)+x%b64^m=x:=aN _ _
  have ag:=aR x (b:=b64^m) o
  have ai:=aM x W
  rw [t] at j
  refine Bm k F ?_
  intro A1 n1 c1 n ae M1
  refine ⟨_,_,_,rfl,?_⟩
  have G:x/b64^m<b64^m*y:=by
   by_cases hc:x/b64^m<b64^m*y
   ·exact hc
   ·have t1:b64^m*(b64^m*y)<=b64^m*(x/b64^m):=aI o o
    rw [dF] at j
    omega
  refine Uk ih o o hbm M1 g n u o i f G ?_
  intro A2 n2 c2 A3 n3 c3 h3 C T k3 M2 M3
  refine ⟨_,_,_,_,_,_,rfl,Hi (k.mono C) F o ?_⟩
  intro A4 n4 c4 k4 D X M4
  have d1:=aN (x/b64^m) y
  have d2:=aM (x/b64^m) e
  have d3:=aR (x/b64^m) (b:=y) o
  have q:x/b64^m/y<b64^m:=bC e G
  have ad:n3<=d:=M3.len_le dc (by have:=g.lt dc;omega)
  have ah:n2<=m:=M2.len_le dc q
  refine ⟨_,_,_,rfl,Jl M3 M4 D o ?_⟩
  intro A5 n5 c5 h5 w k5 M5
  refine ⟨_,_,_,rfl,?_⟩
  have V:(x/b64^m)%y*b64^m+x%b64^m<b64^m*y:=by
   have t1:b64^m*((x/b64^m)%y+1)<=b64^m*y:=aI o o
   rw [dI,aW] at t1
   omega
  have aa:n5<=d+m:=M5.len_le dc (by
   have t1:b64^m*y<b64^m*b64^d:=bX (g.lt dc) W
   rw [Nat.add_comm,aU];omega)
  refine Uk ih o o hbm M5 (g.mono (B6 C w)) k5 u o i f V ?_
  intro A6 n6 c6 A7 n7 c7 h7 R k6 k7 M6 M7
  have z:n6<=m:=M6.len_le dc (bC e V)
  refine ⟨_,_,_,_,_,_,rfl,Jl ((M2.mono w).mono R) M6 z o ?_⟩
  intro A8 n8 c8 h8 H k8 M8
  refine ⟨_,_,_,rfl,?_⟩
  have e1:=aN ((x/b64^m)%y*b64^m+x%b64^m) y
  have e2:=aM ((x/b64^m)%y*b64^m+x%b64^m) e
  have e3:=aR ((x/b64^m)%y*b64^m+x%b64^m) (b:=y) o
  have M7':=M7.mono H
  have E:=B6 C (B6 w (B6 R H))
  generalize ((x/b64^m)%y*b64^m+x%b64^m)/y=q2 at *
  obtain ⟨f1,f2⟩:=A7b (x:=x) (a:=((x/b64^m)%y*b64^m+x%b64^m)%y) (b:=x/b64^m/y*b64^m+q2) (p:=y) (by
   generalize ((x/b64^m)%y*b64^m+x%b64^m)%y=r2 at *
   generalize x/b64^m/y=q1 at *
   generalize x/b64^m%y=r1 at *
   generalize x/b64^m=top at *
   generalize x%b64^m=xl at *
   generalize b64^m=P at *
   grind) e3 e2
  refine O _ _ _ _ _ _ _ E k8 k7 ?_ ?_
  ·rw [f1];exact M8
  ·rw [f2];exact M7'
def Zl{ys:Y Z}{k t s:J}(dy:Dig b64 ys)(hk:ys.length=k+1)(ht:ys.getD k 0=(t:Z))(ht0:t≠0)(hs:s=64-U5 t):s<64/\val b64 ys*2^s<b64^(k+1)/\9223372036854775808*b64^k<=val b64 ys*2^s:=by have u:=S8 dy k;obtain⟨d,a⟩:=Cy (B:=b64) dc dy (m:=k) hk;rw[ht]at u d a;obtain⟨p,n⟩:=Gf ht0;have l:U5 t<=64:=Js (k:=64) o;have q:1<=U5 t:=gz0;have f:s<64:=o;have b:0<(2:Z)^s:=bM dc;have g:=Bt (s:=s) o;have j:(t:Z)+1<=2^(64-s):=by{grind};have i:(2:Z)^(63-s)<=t:=by{grind};have e:(2:Z)^s*2^(63-s)=9223372036854775808:=by{rw[<- aU,show s+(63-s)=63 from o];decide};have c:=E9 (B:=b64) dc k;refine⟨f,?_,?_⟩;{have r:val b64 ys*2^s<((t:Z)+1)*b64^k*2^s:=bH d b;have w:((t:Z)+1)*2^s*b64^k<=18446744073709551616*b64^k:=by{apply aE _ (aO c);rw[<- g,aW (2^s)];exact aE j (aO b)};grind};·have t1:(t:Z)*b64^k*2^s<=val b64 ys*2^s:=aE a (aO b);have r:9223372036854775808*b64^k<=(t:Z)*2^s*b64^k:=by{apply aE _ (aO c);rw[<- e,aW (t:Z)];exact aI i o};grind
section
variable {h g:bI} {K:VP} {A B:Option bN} {ac bc:J}
set_option maxHeartbeats 1000000 in
def A7i{D V a b:Z}{S sh dn dc vc bn bq:J}{pieces t46:Z}{DA VA:Option bN}(hS:C4 ((C4 (cP (C4 ((C4 (((bn:J):Z)+pieces))-(1:Z))) pieces))*pieces)=(S:Z))
 (hsh:C7 (C4 ((C4 ((64:Z)*(C4 ((S:Z)-((bn:J):Z)))))+t46))=(sh:Z)) (hS0:0<S) (hS2:S<=9300000000000) (hsh2:sh<=100000000000000) (hb:h bq=none) (hD:Mw h DA dn D) (hdc:dn<=dc) (hdn:0<dn) (hdl:dn<=9400000000000) (hV:Mw h VA S V) (hvc:S<=vc) (hVt:9223372036854775808*b64^(S-1)<=V)
 (hDa:D=a*2^sh) (hVb:V=b*2^sh)
 (hK:∀ A1 m1 c1 A2 m2 c2 h',h.le h'->m1<=c1->m2<=c2->Mw h' A1 m1 (a/b)->Mw h' A2 m2 (a%b)->K (.tuple #[.slice A1 m1 c1,.slice A2 m2 c2]) h'):
 Ci prog bn K pieces t46 VA S vc DA dn dc (some ⟨bq,0,none⟩) (dn+S) (dn+S) (blk .u64 161 h bq (aF (dn+S) 0)):=by
 have M:=hD.nonneg (by decide)
 have ak:=hD.lt (by decide)
 have L:=hV.lt (by decide)
 have q:0<V:=by have:=E9 (B:=b64) (by decide) (S-1);omega
 have hp:0<(2:Z)^sh:=bM (by decide)
 have hQ:=E9 (B:=b64) (by decide) S
 unfold Ci
 simp only [hS,hsh]
 obtain ⟨nb,hnb⟩:∃ nb,nb=(dn-1)/S:=⟨_,rfl⟩
 have am:nb*S<=dn-1:=by rw [hnb];exact Nat.div_mul_le_self _ _
 have al:dn-1<nb*S+S:=by
  have R:=eK (dn-1) S
  have h2:=fU (dn-1) hS0
  rw [<- hnb,gG] at R
  omega
 have e1:C4 (C4 (cP (C4 ((dn:Z)-1)) (S:Z))*(S:Z))=((nb+1:J):Z)*S-S:=by
  rw [C0 (n:=(dn:Z)-1) o o,show (dn:Z)-1=((dn-1:J):Z) from o,<- Int.ofNat_tdiv,<- hnb]
  have:nb<=dn-1:=by rw [hnb];exact eJ _ _
  have T:(nb:Z)*(S:Z)=((nb*S:J):Z):=by simp
  rw [C0 (n:=(nb:Z)) o o,T,C0 o o,Int.natCast_add,Int.add_mul,T]
  omega
 refine ⟨fun l hp=>∃ (j n c:J) (A:Option bN) (d:Y Z) (r:Z) (g:bI),l=[.slice A n c,I ((j:Z)*S-S)]/\h.le g/\j*S+d.length=dn+S/\Dig b64 d/\Win .u64 hp g bq 161 (some ⟨bq,0,none⟩) [] (aF (j*S) 0++d) []/\Mw g A n r/\n<=c/\r=(D/b64^(j*S))%V/\val b64 d=(D/b64^(j*S))/V,fun l _=>(iAt l 1+S).toNat,⟨nb+1,0,0,none,aF (dn-1+1-nb*S) 0,0,h,by rw [e1],B8 h,?_,J4 (by decide) _,?_,Mag.zero,aY _,?_,?_⟩,?_⟩
 ·rw [cD,dR,dP];omega
 ·rw [dB,show (nb+1)*S+(dn-1+1-nb*S)=dn+S by rw [dR,dP];omega]
  exact Win.blk .u64 161 hb _
 ·have:=D7 (B:=b64) (by decide) (show dn<=(nb+1)*S by rw [dR,dP];omega)
  rw [bK M o,fZ]
 ·have:=D7 (B:=b64) (by decide) (show dn<=(nb+1)*S by rw [dR,dP];omega)
  rw [bK M o,Int.zero_ediv,De]
 rintro A1 n1 c1 st a1 ⟨j,n,c,A',d,r,g,N,lg,t,H,w,Mr,aw,y,f⟩
 simp only [cM,cY,fP,and_true,true_and] at N
 obtain ⟨⟨rfl,rfl,rfl⟩,rfl⟩:=N
 refine B9 (fun R=>?_) (fun R=>?_)
 ·obtain ⟨i,rfl⟩:∃ i,j=i+1:=⟨j-1,by
   rcases j with _|j
   ·simp at R;omega
   ·rfl⟩
  obtain ⟨e,he⟩:∃ e,e=i*S:=⟨_,rfl⟩
  have C:(i+1)*S=e+S:=by rw [he,dR,dP]
  have af:((i+1:J):Z)*(S:Z)-(S:Z)=(e:Z):=by rw [<- cN,C];omega
  rw [C] at t w y f
  rw [af]
  have a2:=E9 (B:=b64) (by decide) e
  refine w.call (Bm (hD.mono lg) hdc ?_)
  intro A2 n2 c2 k2 a0 M2 h2 w2
  refine ⟨_,_,_,rfl,w2.call (Hi M2 k2 o ?_)⟩
  intro A3 n3 c3 k3 ah aj M3 T w3
  have av:=Mr.nonneg (by decide)
  have an:r<V:=by rw [y];exact aM _ q
  have ao:n1<=S:=Mr.len_le (by decide) o
  refine ⟨_,_,_,rfl,w3.call (Jl Mr M3 ah o ?_)⟩
  intro A4 n4 c4 g4 l4 k4 M4 h4 w4
  have ac:D/b64^(e+S)=D/b64^e/b64^S:=by rw [aU,eD o]
  rw [ac] at y f
  have dm:=aN (D/b64^e) (b64^S)
  have au:=aR (D/b64^e) (b:=b64^S) o
  have ay:=aM (D/b64^e) hQ
  generalize hD1:D/b64^e=D1 at *
  have s:r*b64^S+D1%b64^S<b64^S*V:=by
   have t1:b64^S*(r+1)<=b64^S*V:=aI o o
   rw [dI,aW] at t1
   omega
  have az:n4<=S+S:=M4.len_le (by decide) (by
   have t1:b64^S*V<b64^S*b64^S:=bX L hQ
   rw [aU];omega)
  have z:=B6 lg l4
  refine ⟨_,_,_,rfl,w4.call (C58 S (aY _) M4 (hV.mono z) k4 hvc o hS2 hS0 hVt s ?_)⟩
  intro A5 n5 c5 A6 n6 c6 g6 l6 k5 k6 M5 M6 h6 X
  have ar:n5<=S:=M5.len_le (by decide) (bC q s)
  refine ⟨_,_,_,_,_,_,rfl,⟨o,o⟩,?_⟩
  rw [aC]
  have ad:aF (e+S) (0:Z)++d=aF e 0++(aF S 0++d):=by rw [<- cH,dB]
  rw [ad] at X
  have ap:(aF e (0:Z)++(aF S 0++d)).length=dn+S:=by simp only [aT,cD];omega
  have w7:=X.sub (l:=e) (m:=dn+S) (c:=dn+S) o o o
  have e7:((aF e (0:Z)++(aF S 0++d)).drop e).take (dn+S-e)=aF S 0++d:=by
   rw [fS (by simp),aP (by simp only [aT,cD];omega)]
  rw [e7] at w7
  obtain ⟨u,E,ae,ai,ax,G⟩:=M5
  refine Fg U3 w7 (by simp only [aT,cD];omega) (ae.mono X.le) E (by simp only [aT,cD];omega) ?_
  intro h8 w8
  rw [dH (by simp;omega),bL,<- cH u] at w8
  have k:(u++aF (S-u.length) (0:Z)).length=S:=by simp;omega
  have w9:=X.whole (l:=e) (m:=dn+S) o o (by rw [aT,k];omega) w8
  rw [dJ (by simp),aV (show (aF e (0:Z)++(aF S 0++d)).length<=dn+S from o),cF] at w9
  have e8:C4 ((e:Z)-(S:Z))=((i:J):Z)*S-S:=by
   rw [C0 o o,he,cN]
  have aq:=aN (r*b64^S+D1%b64^S) V
  have F:=aR (r*b64^S+D1%b64^S) (b:=V) o
  have O:=aM (r*b64^S+D1%b64^S) q
  have aa:=aN (D1/b64^S) V
  rw [<- y,<- f] at aa
  obtain ⟨f1,f2⟩:=A7b (x:=D1) (a:=(r*b64^S+D1%b64^S)%V) (b:=val b64 u+b64^S*val b64 d) (p:=V) (by
   rw [G]
   generalize (r*b64^S+D1%b64^S)%V=r2 at *
   generalize hq2:(r*b64^S+D1%b64^S)/V=q2 at *
   generalize D1%b64^S=bl at *
   generalize D1/b64^S=D2 at *
   generalize b64^S=Q at *
   generalize val b64 d=W at *
   grind) F O
  refine ⟨_,rfl,?_⟩
  rw [e8]
  refine ⟨⟨i,_,_,_,(u++aF (S-u.length) 0)++d,_,g6,rfl,B6 z l6,?_,?_,?_,M6,k6,?_,?_⟩,?_⟩
  ·rw [aT,k];omega
  ·exact (ai.append (J4 (by decide) _)).append H
  ·rw [<- he];exact w9
  ·rw [<- he,hD1,f2]
  ·rw [<- he,hD1,f1,I3,k,Ef]
  ·simp only [iAt,aJ,aH]
   rw [<- cN,<- he]
   omega
 ·obtain rfl:j=0:=by
   rcases j with _|j
   ·rfl
   ·rw [<- cN,dR,dP] at R
    omega
  rw [gF,List.replicate_zero,cL] at w
  rw [gF,gL,Int.ediv_one] at y f
  rw [gF,Nat.zero_add] at t
  have ag:0<b:=by
   by_cases hc:0<b
   ·exact hc
   ·have:=aE (show b<=0 from o) (aO hp);omega
  obtain ⟨f1,f2⟩:=A7b (x:=D) (a:=(a%b)*2^sh) (b:=a/b) (p:=V) (by
   have:=aN a b
   rw [hDa,hVb]
   conv=>rhs;rw [<- this]
   grind) (aQ (aR _ o) o) (by rw [hVb];exact bH (aM _ ag) hp)
  refine Cm w.sl H t.symm f o o ?_
  intro m2 k2 M2
  refine ⟨_,_,_,rfl,?_⟩
  refine Hq (Mr.mono w.le) (by have:=Mr.len_le (j:=S) (by decide) (by have:=aM D q;omega);omega) o ?_
  intro A3 n3 c3 T l3 k3 M3
  rw [y,f2,fD _ o] at M3
  rw [f1] at M2
  exact ⟨_,_,_,rfl,hK _ _ _ _ _ _ _ (B6 lg (B6 w.le l3)) k2 k3 (M2.mono l3) M3⟩
set_option maxHeartbeats 1000000 in
def Rr{x y:Z}{an bn:J}(ma:Mw h A an x)(mb:Mw h B bn y)(ha:an<=ac)(hbc:bn<=bc)(hl:an<=9000000000000)(hl2:bn<=9000000000000)(ha0:0<an)(hb0:0<bn)
 (hK:∀ A1 m1 c1 A2 m2 c2 h',h.le h'->m1<=c1->m2<=c2->Mw h' A1 m1 (x/y)->Mw h' A2 m2 (x%y)->K (.tuple #[.slice A1 m1 c1,.slice A2 m2 c2]) h'):aX prog 303 #[.slice A an ac,.slice B bn bc] h K:=by
 have ai:=ma.nonneg dc
 have ae:=ma.len_zero dc
 have j:=ma.lt dc
 refine Tp _ _ _ _ _ _ ?_
 unfold Qf Jz
 refine ⟨fun l hp=>hp=h/\∃ p:J,l=[I p]/\0<p/\p<=bn/\(p=1\/39*p<=bn),fun l _=>bn-(iAt l 0).toNat,⟨rfl,1,rfl,o,o,.inl rfl⟩,?_⟩
 rintro w hp ⟨rfl,p,T,m,aa,W⟩
 obtain rfl:=sI1 T
 have e1:C4 (cP (C4 (C4 ((bn:Z)+(p:Z))-1)) (p:Z))=(((bn+p-1)/p:J):Z):=by
  rw [C0 (n:=(bn:Z)+p) o o,C0 (n:=(bn:Z)+p-1) o o,show (bn:Z)+p-1=((bn+p-1:J):Z) from o,<- Int.ofNat_tdiv]
  have:(bn+p-1)/p<=bn+p-1:=eJ _ _
  generalize (bn+p-1)/p=q at *
  rw [C0 o o]
 refine B9 (fun d=>o) (fun _=>?_)
 obtain ⟨S,hS⟩:∃ S,S=(bn+p-1)/p*p:=⟨_,rfl⟩
 have af:bn<=S/\S<=bn+p-1:=by
  have d:=eK (bn+p-1) p
  have z:=fU (bn+p-1) m
  rw [gG,<- hS] at d
  omega
 have e2:C4 ((C4 (cP (C4 (C4 ((bn:Z)+(p:Z))-1)) (p:Z)))*(p:Z))=(S:Z):=by
  rw [e1,<- cN,<- hS,C0 o o]
 refine B9 (fun d=>?_) (fun d=>?_)
 ·rw [e1] at d
  have z:80<=(bn+p-1)/p:=o
  rw [Nat.le_div_iff_mul_le m] at z
  have N:C4 ((p:Z)*2)=((p*2:J):Z):=by rw [C0 o o];omega
  rw [N]
  exact ⟨⟨rfl,_,rfl,o,o,.inr o⟩,by simp only [iAt,aH];omega⟩
 ·refine B9 (fun d=>o) (fun _=>?_)
  obtain ⟨k,hk⟩:∃ k,bn=k+1:=⟨bn-1,o⟩
  have Q:=mb
  obtain ⟨a,L,sy,dy,ny,rfl⟩:=mb
  have c:a.length=k+1:=o
  have gt:=S8 dy k
  have O:=A30 c ny
  have N:C4 ((bn:Z)-1)=(k:Z):=by rw [C0 o o];omega
  rw [N]
  subst L
  refine sy.load rfl o o ?_
  rw [aC]
  obtain ⟨t,ht⟩:∃ t:J,a.getD k 0=t:=⟨(a.getD k 0).toNat,o⟩
  rw [ht] at gt O ⊢
  refine W4 o ⟨_,rfl,?_⟩
  obtain ⟨s,hs⟩:∃ s,s=64-U5 t:=⟨_,rfl⟩
  rw [<- hs]
  obtain ⟨X,M,H⟩:=Zl dy c ht o hs
  simp only [e2]
  obtain ⟨sh,hsh⟩:∃ sh,sh=64*(S-a.length)+s:=⟨_,rfl⟩
  have e4:C7 (C4 (C4 (64*C4 ((S:Z)-(a.length:Z)))+(s:Z)))=(sh:Z):=by
   rw [C0 (n:=(S:Z)-(a.length:Z)) o o,C0 (n:=64*((S:Z)-(a.length:Z))) o o,C0 o o,C5 o o]
   omega
  simp only [e4]
  have f:(2:Z)^sh=2^s*b64^(S-a.length):=by rw [hsh,aU,My,aW]
  have g:=E9 (B:=b64) dc (S-a.length)
  have ah:0<(2:Z)^s:=bM dc
  have i:0<(2:Z)^sh:=bM dc
  have ad:val b64 a*2^sh=val b64 a*2^s*b64^(S-a.length):=by rw [f,dF]
  have C:val b64 a*2^sh<b64^S:=by
   have t1:val b64 a*2^s*b64^(S-a.length)<b64^(k+1)*b64^(S-a.length):=bH M g
   rw [<- aU,show k+1+(S-a.length)=S from o] at t1
   omega
  have R:9223372036854775808*b64^(S-1)<=val b64 a*2^sh:=by
   have t1:9223372036854775808*b64^k*b64^(S-a.length)<=val b64 a*2^s*b64^(S-a.length):=aE H (aO g)
   rw [dF,<- aU,show k+(S-a.length)=S-1 from o] at t1
   omega
  refine U7 Q hbc o o ?_
  intro A1 b c1 d l1 k1 M1
  refine ⟨_,_,_,rfl,?_⟩
  have F:b=S:=by
   have q1:=M1.len_le dc C
   have q2:=M1.lt dc
   by_cases hc:b=S
   ·exact hc
   ·have:=D7 (B:=b64) dc (show b<=S-1 from o)
    have:=E9 (B:=b64) dc (S-1)
    omega
  subst F
  refine U7 (ma.mono l1) ha o o ?_
  intro A2 u c2 z l2 k2 M2
  refine ⟨_,_,_,rfl,?_⟩
  have ag:u<=an+(1+(b-a.length)):=M2.len_le dc (by
   have t1:x*2^sh<b64^an*2^sh:=bH j i
   have t2:(2:Z)^sh<=b64^(1+(b-a.length)):=by
    rw [f,aU]
    apply aE _ (aO g)
    have:=D7 (B:=2) dc (show s<=64 from o)
    have e:(2:Z)^64=18446744073709551616:=dc
    show (2:Z)^s<=b64^1
    rw [bG,gL]
    show (2:Z)^s<=1*18446744073709551616
    omega
   have t3:b64^an*2^sh<=b64^an*b64^(1+(b-a.length)):=aI t2 (aO (E9 dc an))
   rw [aU b64 an]
   omega)
  have r:0<u:=by
   rcases Nat.eq_zero_or_pos u with E|E
   ·have:=(M2.len_zero dc).2 E
    rcases Int.mul_eq_zero.1 this with h3|h3<;>omega
   ·exact E
  have e5:C4 ((u:Z)+(b:Z))=((u+b:J):Z):=by rw [C0 o o];omega
  rw [e5]
  refine N8 U3 o o o ?_
  intro bq G
  rw [aC]
  refine ⟨_,_,_,rfl,?_⟩
  refine B9 (fun d=>o) (fun _=>?_)
  refine A7i (D:=x*2^sh) (V:=val b64 a*2^sh) (sh:=sh) (S:=b) e2 e4 o o o G M2 k2 r o (M1.mono l2) k1 R rfl rfl ?_
  intro A3 n3 c3 A4 n4 c4 h4 l4 k3 k4 M3 M4
  exact hK _ _ _ _ _ _ _ (B6 l1 (B6 l2 l4)) k3 k4 M3 M4
def Y7{x y:Z}{an bn:J}(ma:Mw h A an x)(mb:Mw h B bn y)(ha:an<=ac)(hbc:bn<=bc)(hy:y≠0)(hl:an<=9000000000000)(hl2:bn<=9000000000000) (hK:∀A1 m1 c1 A2 m2 c2 h',h.le h'->m1<=c1->m2<=c2->Mw h' A1 m1 (x/y)->Mw h' A2 m2 (x%y)->K (.tuple #[.slice A1 m1 c1,.slice A2 m2 c2]) h'):aX prog 270 #[.slice A an ac,.slice B bn bc] h K:=by refine(fnk func270) ?_;have a:aX prog 304 #[.slice A an ac,.slice B bn bc] h (fun r c=>∃(t22aA:Option bN) (t22an:J) (t22ac:J) (t22bA:Option bN) (t22bn:J) (t22bc:J),r= .tuple #[.slice t22aA t22an t22ac,.slice t22bA t22bn t22bc]/\K (.tuple #[.slice t22aA t22an t22ac,.slice t22bA t22bn t22bc]) c):=by{refine Fy ma mb ha hbc hy o o ?_;grind};refine B9 (fun d=>B9 (fun b=>?_) (fun _=>a)) (fun _=>a);rw[C0 o o]at b;refine Rr ma mb ha hbc hl hl2 o o ?_;grind
end
def TZ(x k:J):Prop:=∃m,x=2^k*(2*m+1)
def TZ.ex:∀{x:J},x≠0->∃k,TZ x k:=by
 intro x
 induction x using Nat.strongRecOn with
 |_ x ih=>
  intro h;rcases Nat.mod_two_eq_zero_or_one x with b|b
  ·obtain⟨k,m,a⟩:=ih (x/2) o o;refine⟨k+1,m,?_⟩;rw[eE,gG (2^k),dT,<- a];omega
  ·exact⟨0,x/2,o⟩
def TZ.lt{x k n:J}(h:TZ x k)(hx:x<2^n):k<n:=by obtain⟨m,rfl⟩:=h;have b:2^k*1<=2^k*(2*m+1):=fC _ o;exact(fX (a:=2) dc).1 o
def B2y{a u v:J}:(2^a*u) ||| (2^a*v)=2^a*(u ||| v):=by apply Nat.eq_of_testBit_eq;grind
def B8o{u v:J}(h:u%2=1\/v%2=1):(u ||| v)%2=1:=by simp_all
def TZ.or'{x y a b:J}(hx:TZ x a)(hy:TZ y b)(hab:a<=b):TZ (x ||| y) a/\TZ (y ||| x) a:=by obtain⟨m,rfl⟩:=hx;obtain⟨n,rfl⟩:=hy;obtain⟨d,rfl⟩:∃d,b=a+d:=⟨b-a,o⟩;rw[fB,dT,B2y,B2y];have c:=B8o (u:=2*m+1) (v:=2^d*(2*n+1)) (.inl o);have e:=B8o (u:=2^d*(2*n+1)) (v:=2*m+1) (.inr o);exact⟨⟨_/2,by rw[<- eK (_ ||| _) 2,c]⟩,⟨_/2,by rw[<- eK (_ ||| _) 2,e]⟩⟩
def TZ.or{x y a b:J}(hx:TZ x a)(hy:TZ y b):TZ (x ||| y) (min a b):=by by_cases h:a<=b;{rw[aK h];exact(hx.or' hy h).1};·rw[fM o];exact(hy.or' hx o).2
def TZ.bit{x k:J}(h:TZ x k)(hx:x<2^64):x &&& (2^64-x)=2^k:=by obtain⟨m,rfl⟩:=h;have f:0<2^k:=dG dc;have a:2^k*(2*m+1)=2^k*(2*m)+(2^k-1)+1:=gz0;apply Nat.eq_of_testBit_eq;intro i;rw[Nat.testBit_and];have e:(2^64-2^k*(2*m+1)).testBit i=(decide (i<64) && !(2^k*(2*m)+(2^k-1)).testBit i):=by{rw[a];exact Nat.testBit_two_pow_sub_succ o i};rw[e,Nat.testBit_two_pow_mul_add _ o,Nat.testBit_two_pow_mul,Nat.testBit_two_pow];by_cases g:i<k;{grind};·by_cases b:i=k;{subst b;have c:i<64:=TZ.lt ⟨m,rfl⟩ hx;grind};·obtain⟨d,hd⟩:∃d,i-k=d+1:=⟨i-k-1,o⟩;grind
def A0i{o k:J}(h:o%2=1):Nat.Coprime (2^k) o:=Nat.Coprime.pow_left k (by unfold Nat.Coprime;rw[Nat.gcd_rec,h];rfl)
def C1k{x y a b m:J}(hx:x=2^a*(2*m+1))(hy:TZ y b):dE x y=2^(min a b)*dE (2*m+1) y:=by obtain⟨n,rfl⟩:=hy;subst hx;have c:dE (2*m+1) (2^b*(2*n+1))=dE (2*m+1) (2*n+1):=cQ (2*n+1) (A0i o);rw[c];by_cases h:a<=b;{obtain⟨d,rfl⟩:∃d,b=a+d:=⟨b-a,o⟩;rw[aK h,fB,dT,Nat.gcd_mul_left,cQ _ (A0i o)]};·obtain⟨d,rfl⟩:∃d,a=b+d:=⟨a-b,o⟩;rw[fM o,fB,dT,Nat.gcd_mul_left,Nat.Coprime.gcd_mul_left_cancel _ (A0i o)]
def A60(k:J):J:=(2^k*285870213051353865%18446744073709551616)/2^58
def Gtz(h:bI):Prop:=∀k,k<64->h.cell? (fL ⟨1,0,none⟩ (A60 k*1))=some (yq9 k)
def Gtz.mono{h h':bI}(g:Gtz h)(l:h.le h'):Gtz h':=fun k a=>C2 l (g k a)
section
variable {h g:bI} {K:VP} {A B:Option bN} {ac bc:J}
def Ml{x k:J}(gl:Gtz h)(tz:TZ x k)(hx:x<18446744073709551616)(hK:K (I k) h):aX prog 306 #[U x] h K:=by have a:=tz.lt (n:=64) hx;have d:x≠0:=by{obtain⟨m,rfl⟩:=tz;grind};refine Nm _ ?_;refine D4 (fun e=>o) (fun _=>?_);have b:C7 (0-(x:Z))=((2^64-x:J):Z):=by{rw[F8];omega};have f:A2g .u64 (x:Z) ((2^64-x:J):Z)=((2^k:J):Z):=by{rw[B4z o o,aC,aC,tz.bit hx]};have c:dO (C7 (((2^k:J):Z)*285870213051353865)) (2^(min ((58:Z)).toNat 64))=((A60 k:J):Z):=by{show dO _ (2^(min 58 64))=_;rw[B6d dc,F8];rfl};rw[b,f,c,aC];have g:A60 k<64:=by{unfold A60;omega};refine⟨⟨o,o⟩,_,gl k a,?_⟩;rw[C0 o o];exact hK
def A4o{x y:J}(gl:Gtz h)(hx:x<18446744073709551616)(hy:y<18446744073709551616)(hK:K (U (dE x y:J)) h):aX prog 272 #[U x,U y] h K:=by refine(fnk func272 [(5,[0,1],[],[U 0,U 0])]) ?_;refine D4 (fun e=>?_) (fun e=>?_);{obtain rfl:x=0:=o;rw[A7h o o];grind};refine D4 (fun D=>?_) (fun D=>?_);{obtain rfl:y=0:=o;rw[A7h o o];grind};obtain⟨a,j⟩:=TZ.ex (x:=x) o;obtain⟨b,w⟩:=TZ.ex (x:=y) o;have Q:=j.lt (n:=64) hx;rw[A7h o o,aC,aC];have p:x ||| y<18446744073709551616:=Nat.or_lt_two_pow (n:=64) hx hy;refine Ml gl (j.or w) p ⟨_,rfl,?_⟩;refine Ml gl j hx ⟨_,rfl,?_⟩;refine B9 (fun i=>o) (fun _=>?_);obtain⟨m,r⟩:=j;have C:=C1k r w;have L:dO (x:Z) (2^(min ((a:Z)).toNat 64))=((2*m+1:J):Z):=by{rw[aC,B6d o,show((2:Z)^a)=((2^a:J):Z) by simp,<- Int.natCast_ediv,r,gC _ (dG dc)]};rw[L];have t:2*m+1<=x:=by{rw[r];exact gH _ (dG dc)};refine⟨fun l G=>G=h/\∃u v:J,l=[U u,U v]/\u%2=1/\u<18446744073709551616/\v<18446744073709551616/\dE u v=dE (2*m+1) y,fun l _=>(iAt l 0+iAt l 1).toNat,⟨rfl,2*m+1,y,rfl,o,o,hy,rfl⟩,?_⟩;rintro R O F ⟨rfl,u,v,hl,H,B,f,d⟩;obtain⟨rfl,rfl⟩:=hl;refine D8 (fun i=>?_) (fun i=>?_);{obtain⟨c,k⟩:=TZ.ex (x:=v) o;have S:=k.lt (n:=64) f;refine Ml gl k f ⟨_,rfl,?_⟩;refine B9 (fun i=>o) (fun _=>?_);obtain⟨n,q⟩:=k;have E:dO (v:Z) (2^(min ((c:Z)).toNat 64))=((2*n+1:J):Z):=by{rw[aC,B6d o,show((2:Z)^c)=((2^c:J):Z) by simp,<- Int.natCast_ediv,q,gC _ (dG dc)]};have z:2*n+1<=v:=by{rw[q];exact gH _ (dG dc)};have g:dE u (2*n+1)=dE u v:=by{rw[q,cQ _ (A0i H)]};rw[E];refine B9 (fun A=>?_) (fun A=>?_);{have s:C7 ((u:Z)-((2*n+1:J):Z))=((u-(2*n+1):J):Z):=by{rw[C5 o o];omega};rw[s];refine⟨⟨rfl,_,_,rfl,o,o,o,?_⟩,?_⟩;{rw[gI o,gJ,g,d]};·simp only[iAt,aH,aJ];omega};·have s:C7 (((2*n+1:J):Z)-(u:Z))=((2*n+1-u:J):Z):=by{rw[C5 o o];omega};rw[s];refine⟨⟨rfl,_,_,rfl,o,o,o,?_⟩,?_⟩;{rw[gI o,g,d]};·simp only[iAt,aH,aJ];omega};·refine B9 (fun i=>o) (fun _=>?_);obtain rfl:v=0:=o;rw[aC,aK (show min a b<=64 from o)];have M:(u:Z)*2^(min a b)=((dE x y:J):Z):=by{rw[C,<- d,cN,aW];simp};have N:dE x y<=x:=Nat.le_of_dvd o (Nat.gcd_dvd_left x y);rw[M,C5 o o];exact hK
end
def B1r{xs:Y Z}(d:Dig b64 xs){k s:J}(hl:xs.length<=k+2)(hs:s<=64):val b64 xs/(b64^k*2^(64-s))=xs.getD (k+1) 0*2^s+xs.getD k 0/2^(64-s):=by have g:=C6 b64 xs (k+1);have j:=C6 b64 xs k;rw[aP (show xs.length<=k+1+1 from o)]at g;have c:=E9 (B:=b64) dc k;have f:0<(2:Z)^(64-s):=bM dc;have b:=Bt (s:=s) hs;have i:=C9 dc (d.take k);have l:=Q3 dc (d.take k);have m:=D7 (B:=b64) dc (show(xs.take k).length<=k from gz0);rw[<- eD (aO c)];have e:val b64 xs/b64^k=xs.getD k 0+18446744073709551616*xs.getD (k+1) 0:=by{refine(A7b (a:=val b64 (xs.take k)) ?_ i o).1;grind};rw[e,<- b,aW (2^s),dF,eU _ _ o,aW (2^s)];omega
section
variable {h g:bI} {K:VP} {A B:Option bN} {ac bc:J}
def C24(a b u0 u1 v0 v1:Z)(odd:Bool):Prop:=(0<=u0/\u0<18446744073709551616)/\(0<=u1/\u1<18446744073709551616)/\(0<=v0/\v0<18446744073709551616)/\(0<=v1/\v1<18446744073709551616)/\(v0≠0->Leh a b u0 v0 u1 v1 (Rj a b u0 v0 odd) (Ri a b u1 v1 odd))
def B6b{a b F S W t20 t26 t33:Z}(hF:F=bor .u64 (C7 (t26*2^(min (C7 t20).toNat 64))) (dO t33 (2^(min (C7 ((64:Z)-(C7 t20))).toNat 64))))(hW:0<W)(hFa:F=a/W)(hSb:S=b/W)(hb0:0<=b)(hba:b<=a)(hF64:F<18446744073709551616) (hK:∀u0 u1 v0 v1 odd,C24 a b u0 u1 v0 v1 odd->K (.agg #[U u0,U u1,U v0,U v1,.bool odd]) h):Jy prog K t20 t26 t33 S h:=by have da:=aN a W;have db:=aN b W;have s:=aR a (b:=W) o;have u:=aM a hW;have w:=aR b (b:=W) o;have y:=aM b hW;have t:0<=S:=by{rw[hSb];exact bO hb0 o};have r:S<=F:=by{rw[hSb,hFa];exact Int.ediv_le_ediv hW hba};unfold Jy;rw[<- hF];refine⟨fun l A=>A=h/\∃(first c g d u0 u1 v0 v1:Z) (odd:Bool),l=[U first,U c,U g,U d,U u0,U u1,U v0,U v1,.bool odd]/\LS F S first c u0 v0 u1 v1 g d odd/\C24 a b u0 u1 v0 v1 odd/\g<=F/\d<=(if F=0 then 1 else F),fun l _=>(iAt l 1).toNat,⟨rfl,_,_,_,_,_,_,_,_,_,rfl,LS.init t r,⟨o,o,o,o,fun e=>absurd rfl e⟩,o,o⟩,?_⟩;rintro first c g d u0 u1 v0 v1 odd A ⟨rfl,q,k,E,M,O,X,R,V,B,hl,i,st,H,L⟩;obtain⟨rfl,rfl,rfl,rfl,rfl,rfl,rfl,rfl,rfl⟩:=hl;have z:=i.v2pos;have m:=i.ord;have Q:=i.hF;refine B9 (fun h1=>?_) (fun _=>hK _ _ _ _ _ st);have p:1<=c:=o;have T:=i.bound2 p;have G:first<=F:=by{have t1:1*first<=d*first:=aE o o;have t2:=aQ (show 0<=v1 from o) m.1;omega};rw[C5 (n:=first-c) o o,C5 (n:=v1+d) o o];refine B9 (fun h2=>?_) (fun _=>hK _ _ _ _ _ st);refine B9 (fun e=>o) (fun _=>?_);refine B9 (fun e=>o) (fun _=>?_);rw[dL o,aZ o];have f:=i.step o o;have aa:=f.bound p;have j:0<=first/c:=bO o o;have D:first/c<=first:=eC _ o;have C:=aQ j (show 0<=g from o);have N:=aQ j (show 0<=d from o);rw[C5 (n:=first/c) o o,C5 (n:=first/c*g) o o,C5 (n:=first/c*d) o o,C5 (n:=u1+first/c*g) o o,C5 (n:=v1+first/c*d) o o];refine⟨⟨rfl,_,_,_,_,_,_,_,_,_,rfl,f,⟨⟨o,st.2.1.2⟩,⟨o,o⟩,⟨o,st.2.2.2.1.2⟩,⟨o,o⟩,fun e=>f.leh e hW (al:=a%W) (bl:=b%W) ?_ ?_ ⟨s,u⟩ ⟨w,y⟩⟩,o,o⟩,?_⟩;{grind};{grind};·have:=aM first (show 0<c from o);simp only[iAt,aJ,aH];omega
set_option maxHeartbeats 1000000 in
def A0p{a b:Z}{an bn:J}(ma:Mw h A an a)(mb:Mw h B bn b)(hba:b<=a)(hb2:2<=bn)(hl:an<=100000000000000)
 (hK:∀ u0 u1 v0 v1 odd,C24 a b u0 u1 v0 v1 odd->K (.agg #[U u0,U u1,U v0,U v1,.bool odd]) h):aX prog 269 #[.slice A an ac,.slice B bn bc] h K:=by
 have R:=mb.nonneg dc
 have ag:bn<=an:=mb.len_le dc (cJ hba (ma.lt dc))
 obtain ⟨k,rfl⟩:∃ k,an=k+2:=⟨an-2,o⟩
 obtain ⟨xs,g,T,G,nx,rfl⟩:=ma
 obtain ⟨f,n,M,W,ny,rfl⟩:=mb
 refine A5g _ _ _ _ _ _ ?_
 unfold A5h
 have e1:C4 (((k+2:J):Z)-1)=((k+1:J):Z):=by rw [C0 o o];omega
 have e2:C4 (((k+2:J):Z)-2)=(k:Z):=by rw [C0 o o];omega
 simp only [e1,e2]
 have gt:=S8 G (k+1)
 have Q:=S8 G k
 have X:=A30 (m:=k+1) g.symm nx
 obtain ⟨t,ht⟩:∃ t:J,xs.getD (k+1) 0=t:=⟨(xs.getD (k+1) 0).toNat,o⟩
 rw [g]
 refine T.load rfl o o ?_
 rw [aC,ht]
 rw [ht] at gt X
 refine W4 o ⟨_,rfl,?_⟩
 obtain ⟨s,hs⟩:∃ s,s=64-U5 t:=⟨_,rfl⟩
 rw [<- hs]
 obtain ⟨aa,r,af⟩:=Zl G g.symm ht o hs
 refine T.load rfl o o ?_
 simp only [aC,ht]
 have i:C7 (s:Z)=s:=C5 o o
 have d:C7 (64-(s:Z))=((64-s:J):Z):=by rw [C5 o o];omega
 refine B9 (fun e=>by rw [i] at e;omega) (fun _=>?_)
 refine T.load rfl o o ?_
 simp only [aC]
 refine B9 (fun e=>by rw [i,d] at e;omega) (fun _=>?_)
 have V:0<(2:Z)^s:=bM dc
 have q:0<(2:Z)^(64-s):=bM dc
 have y:=Bt (s:=s) o
 have S:=E9 (B:=b64) dc k
 have O:0<b64^k*2^(64-s):=Int.mul_pos S q
 have j:=B1r G (k:=k) (s:=s) o o
 have c:=B1r W (k:=k) (s:=s) o o
 have C:val b64 xs/(b64^k*2^(64-s))<18446744073709551616:=by
  apply bC O
  have t1:18446744073709551616*(b64^k*2^(64-s))*2^s=18446744073709551616*b64^k*(2^s*2^(64-s)):=gz0
  rw [y] at t1
  have H:b64^(k+1+1)=18446744073709551616*b64^k*18446744073709551616:=by
   rw [bG,bG]
   show b64^k*18446744073709551616*18446744073709551616=_
   grind
  rw [H,<- t1] at r
  exact Int.lt_of_mul_lt_mul_right r o
 have ae:val b64 f/(b64^k*2^(64-s))<=val b64 xs/(b64^k*2^(64-s)):=Int.ediv_le_ediv O hba
 have q1:∀ z:Z,0<=z/\z<18446744073709551616->0<=z/2^(64-s)/\z/2^(64-s)<2^s:=fun z E=>
  ⟨bO E.1 o,bC q (by rw [y];exact E.2)⟩
 have w:∀ u z:Z,0<=u->0<=z/\z<18446744073709551616->u*2^s+z/2^(64-s)<18446744073709551616->bor .u64 (C7 (u*2^(min (C7 (s:Z)).toNat 64))) (dO z (2^(min (C7 (64-C7 (s:Z))).toNat 64)))=u*2^s+z/2^(64-s):=by
  intro u z hu E L
  have:=q1 z E
  have:=aQ hu (aO V)
  rw [i,d,aC,aC,B6d o,aK (show s<=64 from o),C5 o o,A57 hu o L]
 have gy:=S8 W (k+1)
 have N:=S8 W k
 rw [ht] at j
 refine ⟨fun l hp=>hp=h/\l=[U (val b64 f/(b64^k*2^(64-s)))],?_,?_⟩
 ·refine D4 (fun e=>?_) (fun e=>?_)
  ·rw [n]
   refine M.load rfl o o ?_
   simp only [aC]
   refine B9 (fun e=>by rw [i] at e;omega) (fun _=>?_)
   refine M.load rfl o o ?_
   simp only [aC]
   refine B9 (fun e=>by rw [i,d] at e;omega) (fun _=>?_)
   rw [w _ _ gy.1 N o,c]
   first|exact ⟨rfl,rfl⟩|exact ⟨trivial,rfl⟩
  ·refine D4 (fun e=>?_) (fun e=>?_)
   ·rw [n]
    refine M.load rfl o o ?_
    simp only [aC]
    refine B9 (fun e=>by rw [i,d] at e;omega) (fun _=>?_)
    have:f.getD (k+1) 0=0:=by simp [fN,eR (show f.length<=k+1 from o)]
    rw [this,eF,cR] at c
    rw [i,d,aC,B6d o,c]
    first|exact ⟨rfl,rfl⟩|exact ⟨trivial,rfl⟩
   ·have t1:f.getD (k+1) 0=0:=by simp [fN,eR (show f.length<=k+1 from o)]
    have H:f.getD k 0=0:=by simp [fN,eR (show f.length<=k from o)]
    rw [t1,H,eF,cR,Int.zero_ediv] at c
    rw [c]
    exact ⟨rfl,rfl⟩
 ·rintro D ad ⟨rfl,p⟩
  simp only [cM,fP,and_true,true_and] at p
  subst p
  exact B6b (F:=val b64 xs/(b64^k*2^(64-s))) (by rw [w _ _ o Q o,j]) O rfl rfl R hba C hK
end
def Win.swap{k k':dC}{h g1 g:bI}{ba bb:J}{e e':cK}{A B:Option bN}{pa qa pb qb:Y eZ}{us bs:Y Z}(wa:Win k h g1 ba e A pa us qa)(wb:Win k' g1 g bb e' B pb bs qb):∃g2,Win k' h g2 bb e' B pb bs qb/\Win k g2 g ba e A pa us qa:=by have a:ba≠bb:=by{rintro rfl;have:=wa.free;rw[wb.eq,C3]at this;cases this};have b:g ba=none:=by{have:=wa.free;rwa [wb.eq,C1 _ _ a]at this};refine⟨g.put ba (.cells (pa++us.map (bU k)++qa).toArray e),⟨?_,?_,wb.at_⟩,⟨b,rfl,wa.at_⟩⟩;{rw[C1 _ _ a.symm];exact wb.free};·rw[wa.eq,wb.eq];exact Heap.put_comm _ _ _ a.symm
def A0m{z y c:Z}(hz:0<=z/\z<18446744073709551616)(hy:0<=y/\y<18446744073709551616)(hc:0<=c/\c<=1):(z-y-c)%18446744073709551616=z-y-c+18446744073709551616*(if z-y-c<0 then 1 else 0):=by omega
def A4g(z:Z):z%18446744073709551616=z-18446744073709551616*(z/18446744073709551616):=o
def Pf{x y c:Z}(hx:0<=x/\x<18446744073709551616)(hy:0<=y/\y<18446744073709551616)(hc:0<=c/\c<18446744073709551616):0<=(x*y+c)/18446744073709551616/\(x*y+c)/18446744073709551616<18446744073709551616:=by have b:=aQ hx.1 hy.1;have a:x*y<=18446744073709551615*y:=aE o hy.1;omega
def pin{v w B m:Z}(h:v=w+B*m)(hv:0<=v/\v<B)(hw:0<=w/\w<B):v=w:=by have a:0<B:=o;by_cases c:m <= -1;{have:=aI c (aO a);omega};·by_cases b:1<=m;{have:=aI b (aO a);omega};grind
section
variable {h g g1:bI} {K:VP} {A B:Option bN} {ac bc an bn ba bb:J} {e:cK} {qa qb:Y eZ}
set_option maxHeartbeats 1000000 in
def B10{us bs:Y Z}{u0 u1 v0 v1:Z}{odd:Bool}(wa:Win .u64 h g1 ba e A [] us qa)(wb:Win .u64 g1 g bb e B [] bs qb)(ha:an=us.length)(hb:bn=bs.length)(hab:us.length=bs.length)(da:Dig b64 us)(db:Dig b64 bs)(hl:us.length<=100000000000000)(hu0:0<=u0/\u0<18446744073709551616)(hu1:0<=u1/\u1<18446744073709551616)(hv0:0<=v0/\v0<18446744073709551616)(hv1:0<=v1/\v1<18446744073709551616)
 (hX0:0<=Rj (val b64 us) (val b64 bs) u0 v0 odd/\Rj (val b64 us) (val b64 bs) u0 v0 odd<b64^us.length) (hX1:0<=Ri (val b64 us) (val b64 bs) u1 v1 odd/\Ri (val b64 us) (val b64 bs) u1 v1 odd<b64^us.length)
 (hK:∀ us' bs' h' g1',us'.length=us.length->bs'.length=us.length->Dig b64 us'->Dig b64 bs'->val b64 us'=Rj (val b64 us) (val b64 bs) u0 v0 odd->val b64 bs'=Ri (val b64 us) (val b64 bs) u1 v1 odd->Win .u64 h' g1' ba e A [] us' qa->Win .u64 g1' g bb e B [] bs' qb->K (.tuple #[]) h'):
 aX prog 271 #[.agg #[U u0,U u1,U v0,U v1,.bool odd],.slice A an ac,.slice B bn bc] h K:=by
 subst ha hb
 refine (fnk func271 [(4,[6,7,8,9,10,11,21],[],[U 0,U 0,U 0,U 0,U 0,U 0,I 0])] (own:=[3])) ?_
 refine ⟨fun l hp=>∃ (k:J) (b c d f T W:Z) (xs z:Y Z) (g1:bI),l=[U b,U c,U d,U f,U T,U W,I k]/\k<=us.length/\xs.length=us.length/\z.length=us.length/\Dig b64 xs/\Dig b64 z/\(0<=b/\b<18446744073709551616)/\(0<=c/\c<18446744073709551616)/\(0<=d/\d<18446744073709551616)/\(0<=f/\f<18446744073709551616)/\(0<=T/\T<=1)/\(0<=W/\W<=1)/\Win .u64 hp g1 ba e A [] xs qa/\Win .u64 g1 g bb e B [] z qb/\xs.drop k=us.drop k/\z.drop k=bs.drop k/\
  val b64 (xs.take k)=Rj (val b64 (us.take k)) (val b64 (bs.take k)) u0 v0 odd+b64^k*((if odd then c-b else b-c)+T)/\val b64 (z.take k)=Ri (val b64 (us.take k)) (val b64 (bs.take k)) u1 v1 odd+b64^k*((if odd then f-d else d-f)+W),fun l _=>us.length-(iAt l 6).toNat,⟨0,0,0,0,0,0,0,us,bs,g1,rfl,o,rfl,hab.symm,da,db,o,o,o,o,o,o,wa,wb,rfl,rfl,by simp [val,Rj],by simp [val,Ri]⟩,?_⟩
 rintro b c d f T W i hp ⟨k,ae,ai,ad,af,ag,aj,xs,z,g1,V,hk,a,m,Q,O,hP,hQ,hR,hT,j,C,N,R,E,H,n,D⟩
 simp only [cM,fP,and_true,true_and] at V
 obtain ⟨rfl,rfl,rfl,rfl,rfl,rfl,rfl⟩:=V
 refine B9 (fun h1=>?_) (fun h1=>?_)
 ·have gx:=S8 Q k
  have gy:=S8 O k
  have u:=F7 E
  have s:=F7 H
  have vx:=C6 b64 us k
  have vy:=C6 b64 bs k
  obtain ⟨g2,aa,ah⟩:=N.swap R
  refine N.sl.load a.symm o o ?_
  refine aa.sl.load o o o ?_
  simp only [aC]
  obtain ⟨aA,hA,_⟩:=SlV.at N.sl (i:=k) (by simp;omega)
  obtain ⟨aB,hB,_⟩:=SlV.at R.sl (i:=k) (by simp;omega)
  generalize hx0:xs.getD k 0=x at *
  generalize hy0:z.getD k 0=y at *
  refine Y6 gx hu0 hP ⟨_,_,rfl,?_⟩
  refine Y6 gy hv0 hQ ⟨_,_,rfl,?_⟩
  refine Y6 gy hv1 hR ⟨_,_,rfl,?_⟩
  refine Y6 gx hu1 hT ⟨_,_,rfl,?_⟩
  have bP:=Pf gx hu0 hP
  have bQ:=Pf gy hv0 hQ
  have bR:=Pf gy hv1 hR
  have bT:=Pf gx hu1 hT
  have mP:=Fv (x*u0+b)
  have mQ:=Fv (y*v0+c)
  have X:=Fv (y*v1+d)
  have mT:=Fv (x*u1+f)
  have kP:=A4g (x*u0+b)
  have kQ:=A4g (y*v0+c)
  have kR:=A4g (y*v1+d)
  have kT:=A4g (x*u1+f)
  have ek:C4 ((k:Z)+1)=((k+1:J):Z):=by rw [C0 o o];omega
  rw [ek]
  generalize (x*u0+b)/18446744073709551616=cP2 at *
  generalize (y*v0+c)/18446744073709551616=cQ2 at *
  generalize (y*v1+d)/18446744073709551616=cR2 at *
  generalize (x*u1+f)/18446744073709551616=cT2 at *
  generalize (x*u0+b)%18446744073709551616=p at *
  generalize (y*v0+c)%18446744073709551616=q at *
  generalize (y*v1+d)%18446744073709551616=r at *
  generalize (x*u1+f)%18446744073709551616=t at *
  have w:b64^(k+1)=b64^k*18446744073709551616:=bG _ _
  cases odd with
  | true=>
   refine Br.of (fun _=>?_) (fun e=>by cases e)
   refine Gz mP mQ j ⟨_,_,rfl,aA,hA,o,o,N.storeN (i:=k) H0 hA o ?_⟩
   intro h2 w2
   refine Gz X mT C ⟨_,_,rfl,aB,hB,o,o,?_⟩
   obtain ⟨g3,F,M⟩:=w2.swap R
   refine F.storeN (i:=k) H0 hB o ?_
   intro h4 w4
   obtain ⟨g5,G,L⟩:=w4.swap M
   refine ⟨⟨k+1,_,_,_,_,_,_,_,_,g5,rfl,o,by simpa using a,by simpa using m,Q.set (Fv _),O.set (Fv _),bP,bQ,bR,bT,by split<;>omega,by split<;>omega,G,L,?_,?_,?_,?_⟩,by simp only [iAt,aH,aJ];omega⟩
   ·rw [E5 o];exact F0 E
   ·rw [E5 o];exact F0 H
   ·rw [D5 o,F9,aL,aK o,w,vx,vy,<- u,<- s,n,A0m mP mQ j]
    simp only [Rj,if_true]
    grind
   ·rw [D5 o,F9,aL,aK o,w,vx,vy,<- u,<- s,D,A0m X mT C]
    simp only [Ri,if_true]
    grind
  | false=>
   refine Br.of (fun e=>by cases e) (fun _=>?_)
   refine Gz mQ mP j ⟨_,_,rfl,aA,hA,o,o,N.storeN (i:=k) H0 hA o ?_⟩
   intro h2 w2
   refine Gz mT X C ⟨_,_,rfl,aB,hB,o,o,?_⟩
   obtain ⟨g3,F,M⟩:=w2.swap R
   refine F.storeN (i:=k) H0 hB o ?_
   intro h4 w4
   obtain ⟨g5,G,L⟩:=w4.swap M
   refine ⟨⟨k+1,_,_,_,_,_,_,_,_,g5,rfl,o,by simpa using a,by simpa using m,Q.set (Fv _),O.set (Fv _),bP,bQ,bR,bT,by split<;>omega,by split<;>omega,G,L,?_,?_,?_,?_⟩,by simp only [iAt,aH,aJ];omega⟩
   ·rw [E5 o];exact F0 E
   ·rw [E5 o];exact F0 H
   ·rw [D5 o,F9,aL,aK o,w,vx,vy,<- u,<- s,n,A0m mQ mP j]
    simp only [Rj,Bool.false_eq_true,if_false]
    grind
   ·rw [D5 o,F9,aL,aK o,w,vx,vy,<- u,<- s,D,A0m mT X C]
    simp only [Ri,Bool.false_eq_true,if_false]
    grind
 ·obtain rfl:k=us.length:=o
  rw [aP (show xs.length<=us.length from o),bZ,aP (show bs.length<=us.length from o)] at n
  rw [aP (show z.length<=us.length from o),bZ,aP (show bs.length<=us.length from o)] at D
  have bx:=Q3 dc Q
  have S:=Q3 dc O
  rw [a] at bx
  rw [m] at S
  exact hK xs z hp g1 a m Q O (pin n ⟨C9 dc Q,bx⟩ hX0) (pin D ⟨C9 dc O,S⟩ hX1) N R
end
def Win.priv{k:dC}{h g:bI}{b m c:J}{e:cK}{A:Option bN}{xs:Y Z}{post:Y eZ}(w:Win k h g b e A [] xs post)(hx:xs≠[])(hc:c=xs.length+post.length)(hm:m<=xs.length):fW h g e 1 A m c ((xs.take m).map (bU k)):=by refine⟨gz0,o,.inr ⟨b,xs.map (bU k)++post,?_,w.free,?_,gz0,?_⟩⟩;{rcases w.at_ with a|a;{grind};omega};{have:=w.eq;assumption};·rw[Nat.mul_one,List.take_append_of_le_length gz0,List.map_take]
def Gn{k:dC}{h g:bI}{n c:J}{e:cK}{A:Option bN}{xs:Y Z}(p:fW h g e 1 A n c (xs.map (bU k)))(hx:xs≠[]):∃b post,Win k h g b e A [] xs post/\c=xs.length+post.length:=by obtain⟨q,l,f⟩:=p;rcases f with⟨r,rfl⟩|⟨b,a,j,i,rfl,m,d⟩;{simp_all};·refine⟨b,a.drop (n*1),⟨i,?_,.inr j⟩,?_⟩;{rw[cL,<- d,cO]};grind
def Priv.swap{h g1 g:bI}{e e':cK}{s s' n c m d:J}{A B:Option bN}{xs ys:Y eZ}(pa:fW h g1 e s A n c xs)(pb:fW g1 g e' s' B m d ys):∃g2,fW h g2 e' s' B m d ys/\fW g2 g e s A n c xs:=by obtain⟨q,r,C⟩:=pa;obtain⟨j,p,u⟩:=pb;rcases C with⟨F,rfl⟩|⟨i,f,w,a,rfl,y⟩;{exact⟨g,⟨j,p,u⟩,⟨q,r,.inl ⟨F,rfl⟩⟩⟩};·rcases u with⟨z,rfl⟩|⟨t,l,E,k,rfl,D⟩;{exact⟨_,⟨j,p,.inl ⟨z,rfl⟩⟩,⟨q,r,.inr ⟨i,f,w,a,rfl,y⟩⟩⟩};·have b:i≠t:=by{rintro rfl;rw[C3]at a;cases a};rw[C1 _ _ b]at a;refine⟨g.put i (.cells f.toArray e),⟨j,p,.inr ⟨t,l,E,?_,Heap.put_comm _ _ _ b.symm,D⟩⟩,⟨q,r,.inr ⟨i,f,w,a,rfl,y⟩⟩⟩;rw[C1 _ _ b.symm];exact k
abbrev Pw(h g:bI)(A:Option bN)(n c:J)(us:Y Z):Prop:=fW h g 161 1 A n c (us.map (bU .u64))
def GI(h:bI)(G:J)(hp:bI)(A:Option bN)(n c:J)(B:Option bN)(m d:J):Prop:=∃(us vs:Y Z) (g1 g:bI),h.le g/\Pw hp g1 A n c us/\Pw g1 g B m d vs/\Dig b64 us/\Dig b64 vs/\gE us/\gE vs/\n=us.length/\m=vs.length/\val b64 vs<=val b64 us/\fH (val b64 us) (val b64 vs)=G/\us.length<=9000000000000
def B3p{a b:Z}(ha:0<=a)(hb:0<=b):fH b (a%b)=fH a b:=by obtain⟨x,rfl⟩:=cX ha;obtain⟨y,rfl⟩:=cX hb;rw[<- Int.natCast_emod,dZ,dZ,gJ x,gJ y,<- Nat.gcd_rec]
section
variable {h g:bI} {K:VP} {A B:Option bN} {ac bc:J}
set_option maxHeartbeats 1000000 in
def B7d{G an bn:J}{hp:bI}(gl:Gtz h)(gi:GI h G hp A an ac B bn bc)(hK:∀ A' m c' h',h.le h'->m<=c'->Mw h' A' m (G:Z)->K (.slice A' m c') h'):Nl prog K A an ac B bn bc hp:=by
 unfold Nl
 refine ⟨fun l hp=>∃ (A B:Option bN) (n c m d:J),l=[.slice A n c,.slice B m d]/\GI h G hp A n c B m d,fun l hp=>match l with|[_,.slice B n _]=>B3b b64 hp B n|_=>0,⟨_,_,_,_,_,_,rfl,gi⟩,?_⟩
 rintro A1 n1 c1 B1 m1 d1 hp ⟨A,B,n,c,m,d,hl,s,k,g1,g,lg,S,pb,du,dv,nu,nv,hn,X,W,a,bt⟩
 simp only [cM,cY,and_true] at hl
 obtain ⟨⟨rfl,rfl,rfl⟩,rfl,rfl,rfl⟩:=hl
 have Ma:Mw hp A1 n1 (val b64 s):=⟨s,hn,S.slV,du,nu,rfl⟩
 have Mb:Mw hp B1 m1 (val b64 k):=⟨k,X,SlV.mono S.le pb.slV,dv,nv,rfl⟩
 have aa:=S.2.1
 have a8:=pb.2.1
 have N:=C9 dc du
 have bg:=C9 dc dv
 have a2:m1<=n1:=Mb.len_le dc (cJ W (Ma.lt dc))
 have V:h.le hp:=B6 lg (B6 pb.le S.le)
 have aw:=Mb.len_zero dc
 refine B9 (fun h1=>?_) (fun h1=>?_)
 ·refine A0p Ma Mb W o o ?_
  intro u0 u1 v0 v1 bp st
  refine ⟨_,_,_,_,_,rfl,D4 (fun e=>?_) (fun e=>?_)⟩
  ·refine Y7 Ma Mb aa a8 o o o ?_
   intro A2 m2 c2 A3 m3 c3 h6 l6 q k3 M2 M3
   refine ⟨_,_,_,_,_,_,rfl,?_⟩
   have bu:m3<=m1:=M3.len_le dc (by have:=aM (val b64 s) (show 0<val b64 k from o);have:=Mb.lt dc;omega)
   obtain ⟨ws,bd,a3,O,ar,a6⟩:=M3
   refine Ge a3 bd o ?_
   intro A4 c4 h7 g7 l7 p7
   obtain ⟨g2,R,H⟩:=S.swap pb
   obtain ⟨g8,l8,a1⟩:=R.after (B6 l6 l7)
   obtain ⟨g9,av,a7⟩:=Priv.swap p7 a1
   have bm:=aM (val b64 s) (show 0<val b64 k from o)
   have Mn:Mw h7 A4 ws.length (val b64 ws):=⟨ws,rfl,p7.slV,O,ar,rfl⟩
   refine ⟨_,_,_,rfl,⟨_,_,_,_,_,_,rfl,k,ws,g9,g8,B6 lg (B6 H.le l8),av,a7,dv,O,nv,ar,X,rfl,o,?_,o⟩,?_⟩
   ·rw [a6,B3p N bg];exact a
   ·simp only [Cd Mn,Cd Mb]
    have:=C9 dc O
    omega
  ·obtain ⟨ag,ap,al,am,lh⟩:=st
   have lh:=lh e
   unfold Tf
   obtain ⟨g2,R,H⟩:=S.swap pb
   refine ⟨fun l hp=>∃ (B:Option bN) (m d j:J) (g1 g:bI),l=[.slice B m d]/\h.le g/\Pw hp g1 B m d (k++aF j 0)/\Pw g1 g A1 n1 c1 s/\m=k.length+j/\m<=n1,fun l _=>match l with|[.slice _ m _]=>n1-m|_=>0,⟨B1,m1,d1,0,g2,g,rfl,lg,by simpa using R,H,o,a2⟩,?_⟩
   rintro B2 m2 d2 br ⟨B',m',d',j,g3,g4,ak,ad,ai,au,bo,bh⟩
   simp only [cM,cY,and_true] at ak
   obtain ⟨rfl,rfl,rfl⟩:=ak
   refine B9 (fun h2=>?_) (fun h2=>?_)
   ·refine Fb U3 ai rfl rfl o o ?_
    intro A5 c5 h5 g5 l5 p5
    obtain ⟨g6,l6,be⟩:=au.after l5
    refine ⟨⟨A5,m2+1,c5,j+1,g5,g6,rfl,B6 ad l6,?_,be,o,o⟩,by simp only;omega⟩
    have p6:=p5
    rw [<- List.map_singleton (f:=bU .u64),<- fQ,cH,<- List.replicate_succ'] at p6
    exact p6
   ·obtain ⟨g5,az,a5⟩:=ai.swap au
    have z:(k++aF j (0:Z)).length=s.length:=by simp;omega
    have i:s≠[]:=by rintro rfl;simp at hn;omega
    have aj:k++aF j (0:Z)≠[]:=by intro h0;rw [h0] at z;simp at z;exact i (bF z.symm)
    obtain ⟨ba,qa,wa,bl⟩:=Gn az i
    obtain ⟨bb,qb,wb,bq⟩:=Gn a5 aj
    have ay:=lh.gcd
    have bi:=lh.ord
    have a4:=lh.le
    have bj:val b64 k<b64^s.length:=by rw [<- hn];exact cJ W (Ma.lt dc)
    refine B10 wa wb hn o z.symm du (dv.append (J4 dc _)) o ag ap al am (by rw [Ef];omega) (by rw [Ef];omega) ?_
    intro y p h6 g6 C D ax ae T u L ah
    rw [Ef] at T u
    have E:y≠[]:=by rintro rfl;simp at C;exact i (bF C.symm)
    have F:p≠[]:=by rintro rfl;simp at D;exact i (bF D.symm)
    refine ⟨rfl,?_⟩
    rw [show n1=y.length from o]
    refine Fn L.sl o o ?_
    intro k1 a9 bf af
    refine ⟨_,_,_,rfl,?_⟩
    rw [show m2=p.length from o]
    refine Fn (SlV.mono L.le ah.sl) o o ?_
    intro q a0 aq M
    have pA:=L.priv (m:=k1) (c:=c1) E o a9
    have pB:=ah.priv (m:=q) (c:=d2) F o a0
    have e1:(y.take k1).length=k1:=by rw [aL];omega
    have e2:(p.take q).length=q:=by rw [aL];omega
    have Mn:Mw h6 B2 q (val b64 (p.take q)):=⟨p.take q,e2.symm,SlV.mono pA.le pB.slV,ae.take _,aq,rfl⟩
    refine ⟨_,_,_,rfl,⟨_,_,_,_,_,_,rfl,y.take k1,p.take q,_,_,ad,pA,pB,ax.take _,ae.take _,bf,aq,e1.symm,e2.symm,?_,?_,o⟩,?_⟩
    ·rw [af,M,T,u];omega
    ·rw [af,M,T,u,ay];exact a
    ·simp only [Cd Mn,Cd Mb]
     rw [M,u];omega
 ·refine D4 (fun h2=>?_) (fun h2=>?_)
  ·have h0:val b64 k=0:=aw.2 o
   rw [h0,Int.gcd_zero_right] at a
   refine hK _ _ _ _ V aa ?_
   rw [<- a,Int.natAbs_of_nonneg N];exact Ma
  ·have bv:m1=1:=o
   obtain ⟨w,rfl⟩:∃ w,k=[w]:=by
    rcases k with _|⟨w,_|⟨w',r⟩⟩
    ·simp at X;omega
    ·exact ⟨w,rfl⟩
    ·simp at X;omega
   have hw:=dv w (by simp)
   rw [At] at *
   obtain ⟨t,rfl⟩:∃ t:J,w=(t:Z):=cX hw.1
   have bk:(t:Z)<18446744073709551616:=hw.2
   have ao:0<t:=o
   have sb:SlI .u64 hp B1 [(t:Z)]:=SlV.mono S.le pb.slV
   refine sb.load X o o ?_
   refine sb.load X o o ?_
   show aX _ _ #[_,U ((t:J):Z)] _ _
   refine Ok Ma ⟨ao,o⟩ o ⟨_,rfl,B8 _,?_⟩
   have r0:=aR (val b64 s) (b:=(t:Z)) o
   have r1:=aM (val b64 s) (show (0:Z)<(t:Z) from o)
   have Q:=B3p N (show (0:Z)<=(t:Z) from o)
   obtain ⟨r,hr⟩:=cX r0
   rw [hr] at r1 Q ⊢
   show aX _ _ #[U ((t:J):Z),_] _ _
   refine A4o (gl.mono V) o o ⟨_,rfl,B8 _,?_⟩
   rw [dZ] at Q
   have a4:dE t r<=t:=Nat.le_of_dvd ao (Nat.gcd_dvd_left t r)
   refine Cr o ?_
   intro A2 m2 c2 h2 l2 q M2
   rw [Q,a] at M2
   exact ⟨_,_,_,rfl,l2,hK _ _ _ _ (B6 V l2) q M2⟩
def Pk{x y:Z}{an bn:J}(gl:Gtz h)(ma:Mw h A an x)(mb:Mw h B bn y)(ha:an<=ac)(hb:bn<=bc)(hl:an<=9000000000000)(hl2:bn<=9000000000000)(hK:∀A' m c' h',h.le h'->m<=c'->Mw h' A' m (fH x y:Z)->K (.slice A' m c') h'):aX prog 220 #[.slice A an ac,.slice B bn bc] h K:=by refine A5j _ _ _ _ _ _ ?_;refine⟨fun l r=>r=h/\∃(A B:Option bN) (n c m d:J) (e a:Z),l=[.slice A n c,.slice B m d]/\Mw h A n e/\Mw h B m a/\a<=e/\n<=c/\m<=d/\n<=9000000000000/\m<=9000000000000/\fH e a=fH x y,?_,?_⟩;{refine I0 ma mb o ⟨_,rfl,B9 (fun b=>?_) (fun b=>?_)⟩;{rw[Eu]at b;exact⟨rfl,_,_,_,_,_,_,_,_,rfl,mb,ma,o,hb,ha,hl2,hl,Int.gcd_comm _ _⟩};·rw[Eu]at b;grind};·rintro A1 n1 c1 B1 V R r ⟨rfl,A2,B2,n,c,m,d,e,a,j,M1,M2,i,s,W,X,l2,p⟩;obtain⟨⟨rfl,rfl,rfl⟩,rfl,rfl,rfl⟩:=j;refine D4 (fun b=>?_) (fun b=>?_);{have:a=0:=(M2.len_zero dc).2 o;subst this;rw[Int.gcd_zero_right]at p;refine hK _ _ _ _ (B8 _) s ?_;grind};·obtain⟨N,g,z,du,H,rfl⟩:=M1;obtain⟨E,f,L,C,nv,rfl⟩:=M2;refine Ge z g o ?_;intro A3 c3 T g3 q k;refine⟨_,_,_,rfl,?_⟩;refine Ge (SlV.mono (B6 q k.le) L) f o ?_;intro A4 c4 Q S G u;refine⟨_,_,_,rfl,?_⟩;obtain⟨M,D,t⟩:=k.after G;obtain⟨w,O,F⟩:=Priv.swap u t;exact B7d gl ⟨N,E,w,M,B6 q D,O,F,du,C,H,nv,rfl,rfl,i,p,o⟩ hK
end
structure ZI (h:bI) (s:Bool) (A:Option bN) (n c:J) (z:Z):Prop where
 cap:n<=c
 mag:Mw h A n (z.natAbs:Z)
 sgn:s=decide (z<0)
def ZI.mono{h h':bI}{s:Bool}{A:Option bN}{n c:J}{z:Z}(i:ZI h s A n c z)(l:h.le h'):ZI h' s A n c z:=⟨i.cap,i.mag.mono l,i.sgn⟩
def ZI.zero{h:bI}{A:Option bN}:ZI h false A 0 0 0:=⟨aY _,Mag.zero,rfl⟩
def ZI.lenG{h:bI}{s:Bool}{A:Option bN}{n c m k:J}{z:Z}(i:ZI h s A n c z)(hz:ZB m z)(hm:m<=64*k):n<=k:=by refine i.mag.len_le dc ?_;rw[My];have a:(z.natAbs:Z)<2^m:=by{have:((z.natAbs:J):Z)<((2^m:J):Z):=Int.ofNat_lt.2 hz;assumption};have b:=D7 (B:=2) dc hm;omega
def ZI.len{h:bI}{s:Bool}{A:Option bN}{n c m:J}{z:Z}(i:ZI h s A n c z)(hz:ZB m z)(hm:m<=6400000000):n<=100000000:=i.lenG hz o
def ZI.zeroIff{h:bI}{s:Bool}{A:Option bN}{n c:J}{z:Z}(i:ZI h s A n c z):z=0↔n=0:=by have:=i.mag.len_zero dc;omega
section
variable {h g:bI} {K:VP} {A B:Option bN} {s s':Bool} {an ac bn bc m:J} {x y:Z}
def Q4{v:J}{n c:J}{neg:Bool}(M:Mw h A n (v:Z))(hc:n<=c)(hK:∀s,ZI h s A n c (if neg then -(v:Z)else v)->K (.agg #[.bool s,.slice A n c]) h):aX prog 130 #[.bool neg,.slice A n c] h K:=by
 have a:=M.len_zero dc;refine(fnk func130 (own:=[4])) ?_
 cases neg with
 |true=>
  refine Br.of (fun _=>hK _ ⟨hc,?_,?_⟩) (fun e=>by cases e);·grind
  grind
 |false=>
  refine Br.of (fun e=>by cases e) (fun _=>hK _ ⟨hc,?_,?_⟩);·assumption
  ·simp
def Z8(i:ZI h s A an ac x)(hK:∀s',ZI h s' A an ac (-x)->K (.agg #[.bool s',.slice A an ac]) h):aX prog 202 #[.agg #[.bool s,.slice A an ac]] h K:=by refine(fnk func202 (own:=[1,2])) ?_;refine Q4 (neg:=!s) i.mag i.cap ?_;intro a i1;have e:(if(!s)=true then -(x.natAbs:Z)else x.natAbs)= -x:=by{have:=i.sgn;grind};grind
def Fm(i:ZI h s A an ac x)(j:ZI h s' B bn bc y)(hx:ZB m x)(hy:ZB m y)(hm:m<=576000000000000)(hK:∀s1 A' n' c' h',h.le h'->ZI h' s1 A' n' c' (x+y)->K (.agg #[.bool s1,.slice A' n' c']) h'):aX prog 134 #[.agg #[.bool s,.slice A an ac],.agg #[.bool s',.slice B bn bc]] h K:=by have l:=i.lenG (k:=9000000000000) hx o;have n:=j.lenG (k:=9000000000000) hy o;have hs:=i.sgn;have g:=j.sgn;refine(fnk func134 (own:=[2,3,4])) ?_;refine Br.of (fun e=>?_) (fun e=>?_);{refine W7 i.mag j.mag i.cap j.cap o o ?_;intro A1 f c1 c a b M1;refine⟨_,_,_,rfl,a,?_⟩;refine Q4 (neg:=s) M1 b ?_;intro s1 i1;refine⟨_,_,_,_,rfl,B8 _,hK _ _ _ _ _ a ?_⟩;grind};·refine I0 i.mag j.mag o ⟨_,rfl,B9 (fun c=>?_) (fun c=>?_)⟩;{have d:¬(x.natAbs:Z)<y.natAbs:=by{rw[<- Eu];omega};refine I9 i.mag j.mag i.cap o o ?_;intro A1 f c1 c a b M1;refine⟨_,_,_,rfl,a,?_⟩;rw[show(x.natAbs:Z)-y.natAbs=((x.natAbs-y.natAbs:J):Z)from o]at M1;refine Q4 (neg:=s) M1 b ?_;intro s1 i1;refine⟨_,_,_,_,rfl,B8 _,hK _ _ _ _ _ a ?_⟩;grind};·have d:(x.natAbs:Z)<y.natAbs:=by{rw[<- Eu];omega};refine I9 j.mag i.mag j.cap o o ?_;intro A1 f c1 c a b M1;refine⟨_,_,_,rfl,a,?_⟩;rw[show(y.natAbs:Z)-x.natAbs=((y.natAbs-x.natAbs:J):Z)from o]at M1;refine Q4 (neg:=s') M1 b ?_;intro s1 i1;refine⟨_,_,_,_,rfl,B8 _,hK _ _ _ _ _ a ?_⟩;grind
def B1c(i:ZI h s A an ac x)(j:ZI h s' B bn bc y)(hx:ZB m x)(hy:ZB m y)(hm:m<=576000000000000)(hK:∀s1 A' n' c' h',h.le h'->ZI h' s1 A' n' c' (x-y)->K (.agg #[.bool s1,.slice A' n' c']) h'):aX prog 196 #[.agg #[.bool s,.slice A an ac],.agg #[.bool s',.slice B bn bc]] h K:=by refine(fnk func196 (own:=[2,3,4])) ?_;refine Z8 j ?_;intro s1 a;refine⟨_,_,_,_,rfl,B8 _,Fm i a hx hy.neg o ?_⟩;grind
def I6(i:ZI h s A an ac x)(j:ZI h s' B bn bc y)(hx:ZB m x)(hy:ZB m y)(hm:m<=576000000000000)(hK:∀s1 A' n' c' h',h.le h'->ZI h' s1 A' n' c' (x*y)->K (.agg #[.bool s1,.slice A' n' c']) h'):aX prog 63 #[.agg #[.bool s,.slice A an ac],.agg #[.bool s',.slice B bn bc]] h K:=by have e:=i.lenG (k:=9000000000000) hx o;have g:=j.lenG (k:=9000000000000) hy o;have hs:=i.sgn;have c:=j.sgn;refine(fnk func63 (own:=[2,3,4])) ?_;refine J1 i.mag j.mag i.cap j.cap o o ?_;intro A1 f c1 d a b M1;refine⟨_,_,_,rfl,a,?_⟩;refine Q4 (neg:=!(s==s')) M1 b ?_;intro s1 i1;refine⟨_,_,_,_,rfl,B8 _,hK _ _ _ _ _ a ?_⟩;grind
def Bp(gl:Gtz h)(i:ZI h s A an ac x)(j:ZI h s' B bn bc y)(hx:ZB m x)(hy:ZB m y)(hm:m<=576000000000000)(hK:∀A' n' c' h',h.le h'->ZI h' false A' n' c' (fH x y:Z)->K (.agg #[.bool false,.slice A' n' c']) h'):aX prog 143 #[.agg #[.bool s,.slice A an ac],.agg #[.bool s',.slice B bn bc]] h K:=by have c:=i.lenG (k:=9000000000000) hx o;have d:=j.lenG (k:=9000000000000) hy o;refine(fnk func143 (own:=[2,3,4])) ?_;refine Pk gl i.mag j.mag i.cap j.cap c d ?_;intro A1 f c1 e b a M1;refine⟨_,_,_,rfl,hK _ _ _ _ b ⟨a,?_,?_⟩⟩;{assumption};·simp
def Cw(i:ZI h s A an ac x)(hK:K (I (Int.sign x)) h):aX prog 210 #[.agg #[.bool s,.slice A an ac]] h K:=by have b:=i.zeroIff;have hs:=i.sgn;refine(fnk func210 (own:=[1])) ?_;refine D4 (fun e=>?_) (fun e=>?_);{grind};·refine Br.of (fun a=>?_) (fun a=>?_);{grind};grind
def Gs(i:ZI h s A an ac x)(j:ZI h s' B bn bc y)(hx:ZB m x)(hy:ZB m y)(hm:m<=1152000000000000)(hK:K (I (Gr x y)) h):aX prog 205 #[.agg #[.bool s,.slice A an ac],.agg #[.bool s',.slice B bn bc]] h K:=by
 have d:=i.lenG (k:=18000000000000) hx o;have f:=j.lenG (k:=18000000000000) hy o;have hs:=i.sgn;have a:=j.sgn;refine(fnk func205 (own:=[2,3])) ?_;have c1:x<0->y<0->Gr (y.natAbs:Z) x.natAbs=Gr x y:=fun c b=>by unfold Gr;omega
 cases s with
 |true=>
  have c:=of_decide_eq_true hs.symm;refine Br.of (fun _=>?_) (fun e=>by cases e)
  cases s' with
  |true=>
   refine Br.of (fun _=>?_) (fun e=>by cases e);exact I0 j.mag i.mag o ⟨_,rfl,gz0⟩
  |false=>
   have b:=of_decide_eq_false a.symm;refine Br.of (fun e=>by cases e) (fun _=>Br.of (fun _=>?_) (fun e=>by cases e));have:Gr x y= -1:=by unfold Gr;omega
   grind
 |false=>
  have c:=of_decide_eq_false hs.symm;refine Br.of (fun e=>by cases e) (fun _=>Br.of (fun e=>by cases e) (fun _=>?_))
  cases s' with
  |true=>
   have b:=of_decide_eq_true a.symm;refine Br.of (fun _=>?_) (fun e=>by cases e);have:Gr x y=1:=by unfold Gr;omega
   grind
  |false=>
   refine Br.of (fun e=>by cases e) (fun _=>?_);exact I0 i.mag j.mag o ⟨_,rfl,gz0⟩
end
