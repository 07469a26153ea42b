/- A part. -/
import Derived.Test.YtkfhdoblhajcbaaGreatDoorG16
import Derived.Test.YtkfhdoblhajcbaaGreatDoorG17
import Derived.Test.YtkfhdoblhajcbaaGreatDoorG10
open Go.Proofs.Tryz
set_option linter.all false
open _root_.Go.Addr renaming add->eU
open _root_.Go.Builtin renaming copy_->dP
open _root_.ByteArray renaming size->eR
open _root_.Go.Extern.MathBitsCarry renaming m64->aQ,pair->fQ
open _root_.Go.Instr renaming storeAt->dO
open Int renaming toNat_natCast->aC,mul_le_mul_of_nonneg_right->aD,mul_le_mul_of_nonneg_left->aG,emod_lt_of_pos->aK,mul_ediv_add_emod->aM,le_of_lt->aN,mul_nonneg->aO,emod_nonneg->aP,mul_comm->aS,pow_add->aV,tdiv_eq_ediv_of_nonneg->aX,pow_succ->aY,ediv_lt_of_lt_mul->aZ,mul_lt_mul_of_pos_right->bG,ediv_eq_zero_of_lt->bH,pow_pos->bK,ediv_nonneg->bM,natCast_mul->bV,mul_lt_mul_of_pos_left->bY,lt_of_le_of_lt->cF,tmod_eq_emod_of_nonneg->cI,tdiv->cJ,zero_add->cL,gcd_natCast_natCast->cN,eq_ofNat_of_zero_le->cO,mul_assoc->cW,mul_add->cZ,tmod->dG,natAbs_natCast->dH,mul_le_mul->dI,fdiv->dJ,ediv_le_self->dQ,ediv_ediv_of_nonneg->dR,zero_mul->dT,mul_zero->dU,add_zero->dV,add_mul_ediv_right->dX,natCast_add->eC,add_mul_ediv_left->eI,ofNat_tmod->eQ,mul_ediv_cancel->fB,gcd->fD,emod_eq_of_lt->fE,add_comm->fF,add_mul_emod_self_right->fO,zero_emod->fT,pow_zero->gF
open List renaming replicate->aE,getElem?_cons_zero->aF,length_take->aI,getElem?_cons_succ->aJ,take_of_length_le->aL,length_append->aR,drop_of_length_le->aT,eq_nil_of_length_eq_zero->aU,drop_replicate->bJ,take_length->bO,append_nil->bU,length_drop->bX,length_replicate->bZ,append_assoc->cC,nil_append->cG,take_replicate->cM,drop_drop->cQ,replicate_append_replicate->cR,take_append_drop->cU,drop_append_of_le_length->cY,take_left'->dC,drop_eq_getElem_cons->dK,map_append->dZ,length_set->eB,length_singleton->eE,getElem?_eq_none->eG,drop_zero->eO,getD->fI,drop_append->fJ,length_map->fM,drop_left'->fN
open List.cons renaming injEq->cH
open Nat renaming min_eq_left->aH,le_refl->bC,sub_zero->bW,gcd->cV,pow_pos->cX,div_le_self->dB,pow_le_pow_left->dE,one_mul->dL,add_mul->dM,mul_assoc->dN,pow_succ->dS,div_add_mod->dY,pow_le_pow_right->eK,pow_add->eM,mul_le_mul_left->eZ,add_zero->fC,min_eq_right->fH,mul_one->fK,mod_lt->fP,pow_lt_pow_iff_right->fS,mul_div_cancel_left->fU,add_sub_cancel_left->fV,zero_mul->fW,zero_add->fX,mul_comm->fY,le_mul_of_pos_left->fZ,gcd_sub_self_right->gC,gcd_comm->gD,div_div_eq_div_mul->gE
open Nat.Coprime renaming gcd_mul_left_cancel_right->cK
open _root_.Go.Value renaming int->bI
open _root_.Go.Value.int renaming injEq->fL
open _root_.Go.Value.slice renaming injEq->cP
open _root_.Go renaming Addr->bL,TypeId->cD,IntKind->cT,Program->dF,Value->eJ
open _root_.Go.Proofs.YtkfhdoblhajcbaaGreatDoor renaming FCall->aW,Heap->bD,Norm->fG,Priv->fR
namespace Go.Proofs.YtkfhdoblhajcbaaGreatDoor
set_option maxRecDepth 20000
open Go
def Cu:prog.underlying 5=some (.int .u8):=by kernel_rfl
def Y4:prog.underlying 9=some .string:=by kernel_rfl
def pv:List Nat->Nat
 | []=>0
 |d::r=>d+1000000000*pv r
def B8i(ps:List Nat)(d:Nat):pv (ps++[d])=pv ps+10^(9*ps.length)*d:=by
 induction ps with
 |nil=>simp[pv]
 |cons p ps ih=>
  simp only[List.cons_append,pv,ih,List.length_cons];grind
def A8g(ps:List Nat)(k:Nat):pv (ps.drop k)<=pv ps:=by
 induction ps generalizing k with
 |nil=>simp
 |cons p ps ih=>
  cases k with
  |zero=>simp
  |succ k=>have:=ih k;simp only[List.drop_succ_cons,pv];omega
def B8j{ps:List Nat}{k:Nat}(h:k<ps.length):pv (ps.drop k)=ps[k]+1000000000*pv (ps.drop (k+1)):=by rw[dK h];rfl
def pw(e:Nat):Nat:=if e=0 then 0 else 10^(e-1)
def Zl(e:Nat):pw (e+1)=10^e:=by simp[pw]
def B0v(e:Nat):pw (e+1)/10=pw e:=by
 rw[Zl]
 cases e with
 |zero=>simp[pw]
 |succ e=>rw[Zl,dS,Nat.mul_div_cancel _ dc]
def B9h(V d:Nat)(hd:d<10):dd (10*V+d)=if V≠0\/d≠0 then dd V++[dch d]else dd V:=by by_cases h:10*V+d=0;{grind};·rw[iP o,Fn h,show(10*V+d)/10=V from o,show(10*V+d)%10=d from o]
def A9d(n:Nat):(dd n).length=0↔n=0:=by constructor;{intro h;by_cases c:n=0;{exact c};·exact absurd (aU h) (B5g c)};·rintro rfl;rw[O4];rfl
section
variable {h h':bD} {K:VP} {A B:Option bL} {n c n' c':Nat} {s s':Bool} {x y z:Int} {m:Nat} {p q:Rat} {a b w:QV}
def Ve(i:NI h s A n c z)(hz:ZB m z)(hm:m<=1000000000)(hK:K (.string (bs (V7 z.natAbs))) h):aW prog 95 #[.agg #[.bool s,.slice A n c]] h K:=by
 have h0:=i.zero_iff;have aa:=i.len hz hm;refine FCall.pure ((fnk func95 [(5,[3,4],[],[.slice none 0 0,.slice none 0 0]),(11,[7,8],[],[.slice none 0 0,I 0]),(14,[7,9],[],[.slice none 0 0,U32 0])] (cs:=[(15,[7],[],[.slice none 0 0]),(18,[56],[],[.bool false])]) (own:=[1])) ?_);refine D5 (fun e=>?_) (fun e=>?_)
 ·have:z=0:=h0.1 o;subst this;exact⟨B7 h,hK⟩
 ·generalize hZ:z.natAbs=Z at *;have a9:Z<2^m:=by rw[<- hZ];exact hz
  rw[Dw (show Z≠0 from o)]at hK;have t:=i.mag;rw[hZ]at t;refine⟨fun l q=>∃(ps:List Nat) (X:Nat) (A B:Option bL) (c y mc:Nat) (g:bD),l=[.slice A ps.length c,.slice B y mc]/\h.le g/\fR q g 197 1 A ps.length c (ps.map fun(d:Nat)=>U32 (d:Int))/\Mg g B y X/\y<=100000000/\(∀d∈ps,d<1000000000)/\Z=pv ps+10^(9*ps.length)*X/\29*ps.length<=m+29,fun l q=>match l with|[_,.slice B n _]=>B1i b32 q B n|_=>0,⟨[],Z,none,A,0,n,c,h,rfl,B7 h,Priv.nil _ _ _ _,t,aa,by simp,by simp[pv],by simp⟩,?_⟩
  rintro A1 n1 c1 B1 y mc q ⟨ps,X,A1',B1',av,ah,an,g,hl,C,P1,M1,q1,al,w,a0⟩;obtain⟨⟨rfl,rfl,rfl⟩,rfl,rfl,rfl⟩:(A1=A1'/\n1=ps.length/\c1=av)/\B1=B1'/\y=ah/\mc=an:=gz0;have a6:=M1.len_zero dc;refine C1 (fun h1=>?_) (fun h1=>?_)
  ·have az:29*ps.length<m:=by
    have h2:2^(29*ps.length)<=10^(9*ps.length):=by
     rw[Nat.pow_mul,Nat.pow_mul];exact dE dc _
    have h3:10^(9*ps.length)*1<=10^(9*ps.length)*X:=eZ _ o;exact(fS (a:=2) dc).1 o
   refine P1.call ?_;refine Nf M1 dc q1 ?_;intro A2 m2 c2 h2 l2 k2 k3 M2 h3 P3;refine⟨_,_,_,_,rfl,?_⟩;refine Ef Sx P3 rfl rfl o o ?_;intro A4 c4 O Q l4 P4;have M4:Mg Q A2 m2 ((X/1000000000:Nat):Int):=M2.mono l4;refine⟨⟨ps++[X%1000000000],X/1000000000,A4,A2,c4,m2,c2,Q,by simp,B0 C (B0 l2 l4),gz0,M4,o,?_,?_,?_⟩,?_⟩;·grind
   ·rw[B8i,aR,eE,Nat.mul_add,eM,w,Nat.add_assoc,dN,<- Nat.mul_add,show 10^(9*1)=1000000000 from dc,Nat.mod_add_div]
   ·grind
   ·show B1i b32 O A2 m2<B1i b32 q B1 y;rw[Bt (M4.mono P4.le),Bt (M1.mono P1.le)];omega
  ·have hX:X=0:=o;subst hX;rw[Nat.mul_zero,fC]at w;have ap:SlV q A1 (ps.map fun(d:Nat)=>U32 (d:Int)):=P1.slV
   have ay:∀V,V<=Z->(dd V).length<=m:=by
    intro V hV;apply U1.2;have:2^m<=10^m:=dE dc _;omega
   have e1:C4 ((ps.length:Int)-1)=(ps.length:Int)-1:=C2 o o;rw[e1];refine⟨fun l O=>∃(k:Nat) (A:Option bL) (n c:Nat) (g:bD),l=[.slice A n c,I ((k:Int)-1)]/\k<=ps.length/\q.le g/\n=(dd (pv (ps.drop k))).length/\fR O g 5 1 A n c (yv (dd (pv (ps.drop k)))),fun l _=>(iAt l 1+1).toNat,⟨ps.length,none,0,0,q,rfl,bC _,B7 q,by simp[pv,O4],by simpa[pv,O4,yv]using Priv.nil _ _ _ _⟩,?_⟩;rintro A2 n2 c2 i2 O ⟨k,A2',ae,ai,Q,a4,hk,lg,G,P2⟩;obtain⟨⟨rfl,rfl,rfl⟩,rfl⟩:(A2=A2'/\n2=ae/\c2=ai)/\i2=(k:Int)-1:=gz0;refine C1 (fun h2=>?_) (fun h2=>?_)
   ·obtain⟨j,rfl⟩:∃j,k=j+1:=⟨k-1,o⟩;have ej:((j+1:Nat):Int)-1=(j:Int):=o;rw[ej];have hj:j<ps.length:=o;have a3:=B8j hj;have aq:ps[j]<1000000000:=al _ (List.getElem_mem hj);have a1:=A8g ps j;refine⟨fun l N=>∃(e:Nat) (A:Option bL) (n c:Nat) (g:bD),l=[.slice A n c,U32 (pw e:Int)]/\e<=9/\q.le g/\n=(dd (pv (ps.drop (j+1))*10^(9-e)+ps[j]/10^e)).length/\fR N g 5 1 A n c (yv (dd (pv (ps.drop (j+1))*10^(9-e)+ps[j]/10^e))),fun l _=>(iAt l 1).toNat,⟨9,A2,n2,c2,Q,rfl,o,lg,?_,?_⟩,?_⟩;·grind
    ·grind
    rintro A5 n5 c5 d N ⟨e,A5',am,ak,g5,a8,he,u,E,P5⟩;obtain⟨⟨rfl,rfl,rfl⟩,rfl⟩:(A5=A5'/\n5=am/\c5=ak)/\d=(pw e:Int):=gz0;generalize hV:pv (ps.drop (j+1))*10^(9-e)+ps[j]/10^e=V at *;refine C1 (fun H=>?_) (fun H=>?_)
    ·obtain⟨f,rfl⟩:∃f,e=f+1:=by
      cases e with
      |zero=>simp[pw]at H
      |succ f=>grind
     have ao:pw (f+1)=10^f:=Zl f;have af:0<10^f:=cX dc
     have a2:10^f<=100000000:=by
      have:10^f<=10^8:=eK dc o;omega
     have a7:pv (ps.drop (j+1))*10^(9-f)+ps[j]/10^f=10*V+ps[j]/10^f%10:=by
      rw[<- hV,show 9-f=(9-(f+1))+1 from o,dS,dS,<- gE,Nat.mul_add];grind
     have L:10*V+ps[j]/10^f%10<=Z:=by
      have t1:10^(9-f)*10^f=1000000000:=by rw[<- eM,show 9-f+f=9 from o]
      have t2:10^(9-f)<=1000000000:=by rw[<- t1];exact Nat.le_mul_of_pos_right _ af
      have t3:pv (ps.drop (j+1))*10^(9-f)<=pv (ps.drop (j+1))*1000000000:=eZ _ t2;have t4:=dB ps[j] (10^f);omega
     have ec:wu8 (J7 ((48:Int)+dG (J7 (cJ (ps[j]:Int) ((pw (f+1):Nat):Int))) 10))=((48+ps[j]/10^f%10:Nat):Int):=by
      rw[ao];have t1:cJ (ps[j]:Int) ((10^f:Nat):Int)=((ps[j]/10^f:Nat):Int):=by rfl
      rw[t1];have t2:ps[j]/10^f<1000000000:=Nat.lt_of_le_of_lt (dB _ _) aq;generalize ps[j]/10^f=D at t2 ⊢;rw[Z9 (n:=(D:Int)) o o]
      have t3:dG (D:Int) 10=((D%10:Nat):Int):=by
       rfl
      rw[t3,Z9 o o,A19 o o];omega
     have r:ps[j]/10^f%10<10:=fP _ dc;have F:SlV N A1 (ps.map fun(d:Nat)=>U32 (d:Int)):=ap.mono (B0 u P5.le);refine⟨fun l H=>∃(A:Option bL) (n c:Nat) (g:bD),l=[.slice A n c]/\q.le g/\n=(dd (10*V+ps[j]/10^f%10)).length/\fR H g 5 1 A n c (yv (dd (10*V+ps[j]/10^f%10))),?_,?_⟩
     ·obtain⟨ad,ac,aj⟩:=SlV.at F (i:=j) gz0;refine⟨ad,ac,o,o,(ps[j]:Int),by simp_all,?_⟩;refine C1 (fun e0=>absurd e0 o) (fun _=>?_);rw[ec];have p:=B9h V (ps[j]/10^f%10) r;have aw:=A9d V;refine⟨fun l R=>l=[.bool (decide (V≠0\/ps[j]/10^f%10≠0))]/\R=N,C1 (fun R=>⟨?_,rfl⟩) (fun R=>⟨?_,rfl⟩),?_⟩;·grind
      ·have e2:∀D:Nat,(((48+D:Nat):Int) != 48)=decide (V≠0\/D≠0):=by
        grind
       rw[e2]
      rintro tb R ⟨a5,rfl⟩;obtain rfl:tb=decide (V≠0\/ps[j]/10^f%10≠0):=gz0;refine C1 (fun h8=>?_) (fun h8=>?_)
      ·rw[iP h8]at p;have T:=ay _ L;rw[p,aR,eE]at T;refine Ef Fb P5 rfl rfl o o ?_;intro A9 M h9 g9 l9 P9;refine⟨A9,n5+1,M,g9,rfl,B0 u l9,gz0,?_⟩;rw[p,Z8]
       have:yv [dch (ps[j]/10^f%10)]=[Y ((48+ps[j]/10^f%10:Nat):Int)]:=by
        simp only[yv,List.map_cons,List.map_nil,Fo r]
       grind
      grind
     ·rintro A9 n9 M h9 ⟨A9',ax,W,g9,ba,ar,bb,P9⟩;obtain⟨rfl,rfl,rfl⟩:A9=A9'/\n9=ax/\M=W:=gz0
      have ed:J7 (cJ ((pw (f+1):Nat):Int) 10)=((pw f:Nat):Int):=by
       have t1:cJ ((pw (f+1):Nat):Int) 10=((pw (f+1)/10:Nat):Int):=by rfl
       rw[t1,B0v,Z9 o (by have:=B0v f;omega)]
      rw[ed];refine⟨⟨f,A9,n9,M,g9,rfl,o,ar,gz0,gz0⟩,?_⟩;simp only[iAt,aF,aJ,aC];have:=B0v f;omega
    ·have S:e=0:=by
      cases e with
      |zero=>rfl
      |succ f=>rw[Zl]at H;grind
     subst S;have au:V=pv (ps.drop j):=o;rw[au]at P5 E;rw[C2 o o];exact⟨⟨j,A5,n5,c5,g5,rfl,o,u,E,P5⟩,by simp only[iAt,aF,aJ];omega⟩
   ·have ag:k=0:=o;subst ag;rw[eO,<- w]at P2 G;refine Jn Fb.und Cu Y4 P2.slV G ?_;exact⟨_,rfl,B0 C (B0 P1.le (B0 lg P2.le)),hK⟩
end
def A3d(a:Array UInt8):({data:=a }:ByteArray)=bs a.toList:=by simp[bs]
def A5p{l:List UInt8}(h:∀c∈l,N7 c):U7 l<2^(4*l.length):=by have d:=Lr h;have e:10^l.length<=16^l.length:=dE dc _;have f:16^l.length=2^(4*l.length):=by{rw[Nat.pow_mul]};omega
section
variable {h h':bD} {K:VP} {A B:Option bL} {n c n' c':Nat} {s s':Bool} {x y z:Int} {m:Nat} {p q:Rat} {a b w:QV} {l:List UInt8}
def Db{n m:Nat}(h:n<2^m):(V7 n).length<=m+1:=by rw[Oo o];have:2^m<=10^(m+1):=Nat.le_trans (dE dc m) (eK dc o);omega
def B05(i:NQ h w q)(hq:Sz m q)(hm:m<=1000000000)(hK:K (.string (bs (F3 q))) h):aW prog 54 #[w.v] h K:=by have u:=i.num.sg;have g:=i.den_zero;refine(fnk func54 (cs:=[(4,[3],[],[.string ⟨#[]⟩])]) (own:=[1])) ?_;have p:=Db hq.num;have r:=Db (n:=q.den) (m:=m) (by have:=hq.den;assumption);refine Ve i.num hq.num hm ⟨_,rfl,?_⟩;refine⟨fun l f=>l=[.string (bs (Qy q.num))]/\f=h,Br.of (fun e=>?_) (fun e=>?_),?_⟩;{refine⟨?_,?_,rfl⟩;{rw[A3d,N3,N3];grind};·rw[A3d,Ov];unfold Qy;grind};{exact⟨by unfold Qy;grind,rfl⟩};rintro t s ⟨k,rfl⟩;obtain rfl:t=bs (Qy q.num):=gz0;have y:(Qy q.num).length<=m+2:=by{unfold Qy;grind};refine C1 (fun e=>?_) (fun e=>?_);{have d:¬q.den=1:=fun j=>by{omega};have c:=i.den;rw[iN d]at c;refine Ve c hq.den hm ⟨_,rfl,?_,?_,?_⟩;{rw[A3d,N3,N3,dH];grind};{rw[A3d,Ov,N3,N3,dH];grind};·rw[A3d,Ov,Ov,dH];unfold F3 at hK;grind};·unfold F3 at hK;grind
end
def ndg(x:Nat):Nat:=x*78913/262144
def B6q:∀x,x<65->2^x<=10^(ndg x+1)/\(ndg x=0\/10^(ndg x-1)<=2^(x-1))/\ndg x<=19:=dc
def A3a{n k:Nat}(h1:10^k<=n)(h2:n<10^(k+1)):(dd n).length=k+1:=by have a:=(U1 (n:=n) (k:=k+1)).2 h2;have b:¬(dd n).length<=k:=fun e=>by{have:=U1.1 e;omega};omega
def C27{d:Nat}(h0:d≠0)(h:d<2^64):(dd d).length=ndg (S9 d)+(if 10^ndg (S9 d)<=d then 1 else 0):=by have j:=Iy h;obtain⟨f,i⟩:=Fq h0;obtain⟨g,c,l⟩:=B6q (S9 d) o;split;{rename_i e;exact A3a e o};·rename_i e;rcases c with c|c;{grind};·obtain⟨k,hk⟩:∃k,ndg (S9 d)=k+1:=by{by_cases m:ndg (S9 d)=0;{grind};·exact⟨ndg (S9 d)-1,o⟩};rw[hk]at e c ⊢;rw[Nat.add_sub_cancel]at c;exact A3a o o
def B8k(w n:Nat):pad (w+2) n=pad w (n/100)++[dch (n/10%10),dch (n%10)]:=by rw[Si,Si,gE];simp
def B16(n:Nat)(h:n=0):pad 0 n=[]:=by subst h;simp[pad,O4]
abbrev b64:Int:=18446744073709551616
abbrev Mw(h:bD)(A:Option bL)(len:Nat)(n:Int):Prop:=Mag .u64 b64 h A len n
structure Win (k:cT) (h g:bD) (b:Nat) (e:cD) (A:Option bL) (pre:List eJ) (xs:List Int) (post:List eJ):Prop where
 free:g b=none
 eq:h=g.put b (.cells (pre++xs.map (bI k)++post).toArray e)
 at_:xs=[]\/A=some ⟨b,pre.length,none⟩
section
variable {k:cT} {h g:bD} {b:Nat} {e:cD} {A:Option bL} {pre post:List eJ} {xs:List Int}
def Win.le(w:Win k h g b e A pre xs post):g.le h:=by rw[w.eq];exact Heap.le_put _ w.free
def Win.sl(w:Win k h g b e A pre xs post):SlI k h A xs:=by rcases w.at_ with rfl|c;{exact SlI.nil};·right;refine⟨_,c,fun i v d=>?_⟩;rw[w.eq,D6,D8];grind
def Win.store{P:dF}{t:cD}(one:P.cellsOf t=1/\(P.info? t).isSome=true)(w:Win k h g b e A pre xs post){a:bL}(ha:A=some a){i v:Int}(h0:0<=i)(h1:i<xs.length){K:Unit->bD->Prop} (x:∀h',Win k h' g b e A pre (xs.set i.toNat v) post->K () h'):wpH P (dO t (.pointer (some (eU a (i.toNat*1)))) (.int k v)) K h:=by have c:A=some ⟨b,pre.length,none⟩:=by{rcases w.at_ with rfl|c;{grind};·exact c};rw[ha]at c;cases c;rw[w.eq,D6,fK];refine Bm one.1 one.2 rfl rfl gz0 ?_;refine x _ ⟨w.free,?_,.inr ha⟩;simp_all
def Win.storeN{P:dF}{t:cD}(one:P.cellsOf t=1/\(P.info? t).isSome=true)(w:Win k h g b e A pre xs post){a:bL}(ha:A=some a){i:Nat}{v:Int}(h1:i<xs.length){K:Unit->bD->Prop} (x:∀h',Win k h' g b e A pre (xs.set i v) post->K () h'):wpH P (dO t (.pointer (some (eU a (i*1)))) (.int k v)) K h:=by have:=w.store one ha (i:=(i:Int)) (v:=v) (K:=K) o o (by assumption);assumption
def Win.call{P:dF}{f:FuncId}{args:Array eJ}(w:Win k h g b e A pre xs post){K:VP}(x:aW P f args g (fun r h0=>∀h',Win k h' h0 b e A pre xs post->K r h')):aW P f args h K:=by rw[w.eq];exact FCall.frame w.free x fun r h0 c d=>d _ ⟨c,rfl,w.at_⟩
def Win.blk(k:cT)(e:cD){g:bD}{b:Nat}(hb:g b=none)(zs:List Int):Win k (Go.Proofs.YtkfhdoblhajcbaaGreatDoor.blk k e g b zs) g b e (some ⟨b,0,none⟩) [] zs []:=⟨hb,by simp[Go.Proofs.YtkfhdoblhajcbaaGreatDoor.blk],.inr rfl⟩
def Win.sub(w:Win k h g b e A pre xs post){l m c:Nat}(hl:l<=m)(hm:m<=xs.length)(hc:xs.length<=c): Win k h g b e (V3 A c l 1) (pre++(xs.take l).map (bI k)) ((xs.drop l).take (m-l)) ((xs.drop m).map (bI k)++post):=by refine⟨w.free,?_,?_⟩;{rw[w.eq];congr 3;have:xs=xs.take l++((xs.drop l).take (m-l)++xs.drop m):=by{have f:xs.drop m=(xs.drop l).drop (m-l):=by{simp_all};rw[f,cU,cU]};grind};·by_cases i:m-l=0;{grind};·right;rcases w.at_ with rfl|d;{grind};·unfold V3;rw[iN o,d];simp only[Option.map_some,D6,fK,aR,fM,aI];grind
def Win.whole{h' g':bD}(w:Win k h g b e A pre xs post){l m:Nat}(hl:l<=m)(hm:m<=xs.length){B:Option bL}{ys:List Int}(hy:ys.length=m-l)(v:Win k h' g' b e B (pre++(xs.take l).map (bI k)) ys ((xs.drop m).map (bI k)++post)): Win k h' g' b e A pre (xs.take l++ys++xs.drop m) post:=by refine⟨v.free,?_,?_⟩;{rw[v.eq];grind};·rcases w.at_ with rfl|c;{grind};grind
def Priv.win{n c:Nat}(p:fR h g e 1 A n c (xs.map (bI k)))(hx:xs≠[]):∃b post,Win k h g b e A [] xs post:=by obtain⟨r,m,i⟩:=p;rcases i with⟨s,rfl⟩|⟨b,d,l,j,rfl,q,f⟩;{simp_all};·refine⟨b,d.drop (n*1),j,?_,.inr l⟩;rw[cG,<- f,cU]
end
def Z6{P:dF}{t:cD}(one:P.cellsOf t=1/\(P.info? t).isSome=true){k:cT}{n:Int}{i:Nat}{g:bD}{b:Nat}{e:cD}{zs:List Int}(hi:i<zs.length){K:Unit->bD->Prop} (x:K () (blk k e g b (zs.set i n))):wpH P (dO t (.pointer (some (eU ⟨b,0,none⟩ (i*1)))) (.int k n)) K (blk k e g b zs):=by have:=U2 (P:=P) (t:=t) one (k:=k) (n:=n) (i:=(i:Int)) (g:=g) (b:=b) (e:=e) (zs:=zs) (K:=K) o (by assumption);assumption
def Em{P:dF}{t e e' ty:cD}{k:cT}{bytes:Nat}(s:SliceT P t e' (.int k 0) 1 bytes){h g:bD}{b:Nat}{A:Option bL}{pre post:List eJ}{xs:List Int}{n c m d:Nat}(w:Win k h g b e A pre xs post)(hn:n=xs.length){B:Option bL}{ys:List Int}(sy:SlI k h B ys)(hm:m=ys.length)(hle:ys.length<=xs.length){K:VP}
 (x:∀h',Win k h' g b e A pre (ys++xs.drop ys.length) post->K (I ys.length) h'):wpH P (dP #[t,t] ty #[.slice A n c,.slice B m d]) K h:=by
 subst hn hm;obtain⟨i,r,y,l,p⟩:=s.parts;unfold dP;simp only[List.getElem?_toArray,aF,aJ,C9,F4 s.und,K5 r,I5,Builtin.lenOf,l];have f:Nat.min ys.length xs.length=ys.length:=aH hle;rw[f];refine O6 (s:=1) (cs:=ys.map (bI k)) (by simp) sy ?_
 cases A with
 |none=>
  rcases w.at_ with j|j
  ·have:ys=[]:=aU gz0;subst this;exact x h (by assumption)
  ·cases j
 |some a=>
  simp only[C9];rcases w.at_ with j|j
  ·have:ys=[]:=aU gz0;subst this;exact x h (by assumption)
  ·cases j;rw[w.eq];refine H9 (ys.map (bI k)) pre.length 0 (pre++xs.map (bI k)++post) gz0 (fun v q=>?_) ?_;·obtain⟨u,_,rfl⟩:=List.mem_map.1 q;rfl
   ·refine x _ ⟨w.free,?_,?_⟩
    ·congr 3;unfold I8;rw[fC,cC pre,dC rfl,fM];rw[fJ,aT (show pre.length<=pre.length+ys.length from o),fV,cG];rw[cY gz0,<- List.map_drop,dZ];grind
    grind
def A6d{P:dF}{nm:String}{x y c:Int}(hc:0<=c/\c<=1){f:Nat×Nat×Nat->eJ}:Pq P (Extern.MathBitsCarry.three nm #[U x,U y,U c] >>= fun p=>pure (f p))=some (f (x.toNat,y.toNat,c.toNat)):=by obtain rfl|rfl:c=0\/c=1:=o;{rfl};·rfl
def B1q:aQ=18446744073709551616:=dc
def Dz{h:bD}{K:VP}{x y c:Int}(hx:0<=x/\x<18446744073709551616)(hy:0<=y/\y<18446744073709551616)(hc:0<=c/\c<=1)(hK:K (.tuple #[U ((x+y+c)%18446744073709551616),U ((x+y+c)/18446744073709551616)]) h):ECall prog 295 #[U x,U y,U c] h K:=by refine B6x A9n (A6d (P:=prog) hc (f:=fun p=>fQ ((p.1+p.2.1+p.2.2)%aQ) ((p.1+p.2.1+p.2.2)/aQ))) ?_;have e:((x.toNat+y.toNat+c.toNat)%aQ:Nat)=(((x+y+c)%18446744073709551616:Int)):=by{rw[B1q];omega};have d:((x.toNat+y.toNat+c.toNat)/aQ:Nat)=(((x+y+c)/18446744073709551616:Int)):=by{rw[B1q];omega};show K (.tuple #[U ((x.toNat+y.toNat+c.toNat)%aQ:Nat),U ((x.toNat+y.toNat+c.toNat)/aQ:Nat)]) h;grind
def Gi{h:bD}{K:VP}{x y c:Int}(hx:0<=x/\x<18446744073709551616)(hy:0<=y/\y<18446744073709551616)(hc:0<=c/\c<=1)(hK:K (.tuple #[U ((x-y-c)%18446744073709551616),U (if x-y-c<0 then 1 else 0)]) h):ECall prog 279 #[U x,U y,U c] h K:=by refine B6x A9m (A6d (P:=prog) hc (f:=fun p=>fQ ((p.1+aQ-p.2.1-p.2.2)%aQ) (if p.1<p.2.1+p.2.2 then 1 else 0))) ?_;have d:((x.toNat+aQ-y.toNat-c.toNat)%aQ:Nat)=(((x-y-c)%18446744073709551616:Int)):=by{rw[B1q];omega};show K (.tuple #[U ((x.toNat+aQ-y.toNat-c.toNat)%aQ:Nat),U ((if x.toNat<y.toNat+c.toNat then 1 else 0:Nat):Nat)]) h;grind
def Sq(x y:Int):Int:=if x<y then -1 else if x>y then 1 else 0
def B1g{h:bD}{K:VP}{x:Int}(hK:K (.bool false) h):aW prog 294 #[I x] h K:=by refine(fnk func294) ?_;grind
def B1f{h:bD}{K:VP}{x:Int}(hK:K (.bool false) h):aW prog 296 #[U x] h K:=by refine(fnk func296) ?_;grind
def Vj{h:bD}{K:VP}{x y:Int}(hK:K (I (Sq x y)) h):aW prog 267 #[I x,I y] h K:=by refine(fnk func267) ?_;refine B1g ⟨_,rfl,B1g ⟨_,rfl,?_⟩⟩;unfold Sq at hK;refine C1 (fun c=>?_) (fun c=>C1 (fun d=>?_) (fun d=>?_));{grind};{grind};grind
def B2p{h:bD}{K:VP}{x y:Int}(hK:K (I (Sq x y)) h):aW prog 274 #[U x,U y] h K:=by refine(fnk func274) ?_;refine B1f ⟨_,rfl,B1f ⟨_,rfl,?_⟩⟩;unfold Sq at hK;refine C1 (fun c=>?_) (fun c=>C1 (fun d=>?_) (fun d=>?_));{grind};{grind};grind
def Nu{h:bD}{K:VP}{x y:Int}(hx:0<=x/\x<18446744073709551616)(hy:0<=y/\y<18446744073709551616)(hK:K (.tuple #[U (x*y/18446744073709551616),U (x*y%18446744073709551616)]) h):aW prog 215 #[U x,U y] h K:=by refine(fnk func215) ?_;rw[Co hx,Co hy];simp only[Wf];obtain⟨g,f,d,e,c⟩:=A5a hx hy (x1:=x/4294967296) (x0:=x%4294967296) (y1:=y/4294967296) (y0:=y%4294967296) o o o o;generalize x/4294967296*(y/4294967296)=p11 at *;generalize x/4294967296*(y%4294967296)=p10 at *;generalize x%4294967296*(y/4294967296)=p01 at *;generalize x%4294967296*(y%4294967296)=p00 at *;rw[C6 (n:=p00) o o,C6 (n:=p10) o o,C6 (n:=p01) o o,C6 (n:=p11) o o];rw[C6 (n:=p10+p00/4294967296) o o,Co o];rw[C6 (n:=(p10+p00/4294967296)%4294967296+p01) o o];rw[C6 (n:=p11+(p10+p00/4294967296)/4294967296) o o,C6 o o,F6];have:p11+(p10+p00/4294967296)/4294967296+((p10+p00/4294967296)%4294967296+p01)/4294967296=x*y/18446744073709551616:=by{omega};grind
def W5{h:bD}{K:VP}{x y c:Int}(hx:0<=x/\x<18446744073709551616)(hy:0<=y/\y<18446744073709551616)(hc:0<=c/\c<18446744073709551616)(hK:K (.tuple #[U ((x*y+c)%18446744073709551616),U ((x*y+c)/18446744073709551616)]) h):aW prog 278 #[U x,U y,U c] h K:=by have d:0<=x*y/\x*y<=18446744073709551615*18446744073709551615:=⟨aO hx.1 hy.1,dI o o hy.1 dc⟩;refine(fnk func278) ?_;refine Nu hx hy ⟨_,_,rfl,?_⟩;refine Dz o hc o ⟨_,_,rfl,?_⟩;rw[C6 o o];grind
def B9k(a:Array UInt8):({data:=a }:ByteArray)=bs a.toList:=by simp[bs]
def B1r:List UInt8:=[0,1,2,2,3,3,3,3,4,4,4,4,4,4,4,4,5,5,5,5,5,5,5,5,5,5,5,5,5,5,5,5]++aE 32 6++aE 64 7++aE 128 8
def A8z:∀i,i<256->(B1r[i]?).map UInt8.toNat=some (S9 i):=dc
def A0n{x s:Nat}(h:2^s<=x):S9 x=s+S9 (x/2^s):=by have d:0<2^s:=cX dc;have c:x/2^s≠0:=by{simp_all};have:=Yi (l:=x%2^s) (t:=x/2^s) (j:=s) (fP _ d) c;rw[Nat.mod_add_div]at this;exact this
def A79{h:bD}{K:VP}{x:Nat}(hx:x<18446744073709551616)(hK:K (I (S9 x)) h):aW prog 297 #[U x] h K:=by
 refine B3b _ ?_
 have r:∀(y s:Nat),s<=64->dJ (y:Int) (2^(min ((s:Int)).toNat 64))=((y/2^s:Nat):Int):=by
  grind
 refine⟨fun l d=>∃(y n:Nat),l=[U y,I n]/\d=h/\y<4294967296/\S9 x=n+S9 y/\n<=32,C1 (fun f=>?_) (fun f=>?_),?_⟩
 ·refine⟨x/2^32,32,?_,rfl,o,A0n o,o⟩;grind
 ·exact⟨x,0,rfl,rfl,o,o,o⟩
 rintro i e d ⟨y,n,q,rfl,p,g,t⟩;obtain⟨rfl,rfl⟩:i=(y:Int)/\e=(n:Int):=gz0;refine⟨fun l m=>∃(y n:Nat),l=[U y,I n]/\m=d/\y<65536/\S9 x=n+S9 y/\n<=48,C1 (fun f=>?_) (fun f=>?_),?_⟩
 ·refine⟨y/2^16,n+16,?_,rfl,o,by rw[g,A0n (x:=y) (s:=16) o];omega,o⟩;rw[show(16:Int)=((16:Nat):Int)from rfl,r y 16 o,C2 o o];rfl
 ·grind
 rintro i e d ⟨y,n,q,rfl,p,g,t⟩;obtain⟨rfl,rfl⟩:i=(y:Int)/\e=(n:Int):=gz0;refine⟨fun l m=>∃(y n:Nat),l=[U y,I n]/\m=d/\y<256/\S9 x=n+S9 y/\n<=56,C1 (fun f=>?_) (fun f=>?_),?_⟩
 ·refine⟨y/2^8,n+8,?_,rfl,o,by rw[g,A0n (x:=y) (s:=8) o];omega,o⟩;rw[show(8:Int)=((8:Nat):Int)from rfl,r y 8 o,C2 o o];rfl
 ·grind
 rintro i e d ⟨y,n,q,rfl,p,g,t⟩;obtain⟨rfl,rfl⟩:i=(y:Int)/\e=(n:Int):=gz0;rw[A19 o o,aC];have w:=A8z y p
 cases hc:B1r[y]? with
 |none=>grind
 |some c=>
  have j:c.toNat=S9 y:=gz0;refine⟨c,⟨o,?_⟩,?_⟩
  ·try unfold A78
   rw[B9k,A7r];exact hc
  ·have u:S9 y<=8:=Iy (k:=8) o;rw[j,C2 (n:=((S9 y:Nat):Int)) o o,C2 o o,<- eC,<- g];exact hK
def U5{h:bD}{K:VP}{x:Nat}(hx:x<18446744073709551616)(hK:K (I ((64-S9 x:Nat):Int)) h):aW prog 275 #[U x] h K:=by refine(fnk func275) ?_;refine A79 hx ⟨_,rfl,?_⟩;have c:S9 x<=64:=Iy (k:=64) o;rw[C2 o o];have:(64:Int)-((S9 x:Nat):Int)=((64-S9 x:Nat):Int):=o;rw[this];exact hK
def A3e{a b:Int}{s:Nat}(ha:0<=a)(hb:0<=b/\b<2^s)(hab:a*2^s+b<18446744073709551616):bor .u64 (a*2^s) b=a*2^s+b:=by have d:0<=a*2^s:=aO ha o;rw[A5v o o];have e:(a*2^s).toNat=2^s*a.toNat:=by{grind};have c:b.toNat<2^s:=by{grind};rw[e,A73 c,<- e];omega
def Bl{s:Nat}(hs:s<=64):(2:Int)^s*2^(64-s)=18446744073709551616:=by rw[<- aV,show s+(64-s)=64 from o];decide
def B46{x:Int}{s:Nat}(hs:s<=64):dJ x (2^(min s 64))=x/2^s:=by grind
def Est.exact{B top u2 v1 v2 U V:Int}(e:Est B 1 top u2 0 v1 v2 0 U V){q:Int}(h:q*(v1*B+v2)<=top*B+u2):q*V<=U:=by have c:=e.hU;have d:=e.hV;grind
section
variable {h:bD} {K:VP}
def B2i{T u2 v1 v2 X Y:Int}{hp:bD}{J:Int->bD->Prop}(es:Est 4294967296 1 T u2 0 v1 v2 0 X Y)(_hT:T<18446744073709551616) (hJ:∀q,0<=q->q*Y<=X->X<(q+1)*Y->J q hp):∃(Inv:Int->Int->bD->Prop) (mu:Int->Int->bD->Nat),Inv (T/v1) (T%v1) hp/\∀q r hp1,Inv q r hp1->(q>=4294967296->Inv q r hp1)/\0<=q/\q<=4294967297/\0<=r/\r<4294967296/\hp1=hp/\ (q<4294967296->¬(q*v2>4294967296*r+u2)->J q hp1)/\ ((q>=4294967296\/q*v2>4294967296*r+u2)->1<=q/\(r+v1>=4294967296->J (q-1) hp1)/\(r+v1<4294967296->Inv (q-1) (r+v1) hp1/\mu (q-1) (r+v1) hp1<mu q r hp1)):=by obtain⟨G,H⟩:=es.first;have p:=es.init;have E:=es.v1r;have s:=es.v2r;have A:=es.u2r;have e:=es.top0;have n:0<=T/v1:=bM e o;have B:=aM T v1;have m:=aP T (show v1≠0 from o);have C:=aK T (show 0<v1 from o);refine⟨fun q r hp1=>hp1=hp/\0<=q/\q<=4294967297/\0<=r/\r<4294967296/\q*v1+r=T/\X<(q+1)*Y,fun q _ _=>q.toNat,⟨rfl,n,o,m,o,gz0,p⟩,?_⟩;rintro q r hp1 ⟨rfl,i,u,w,t,l,d⟩;have key:q*(v1*4294967296+v2)=(T-r)*4294967296+q*v2:=gz0;refine⟨fun _=>⟨rfl,i,u,w,t,l,d⟩,i,u,w,t,rfl,fun j F=>hJ q i (es.exact o) d,fun g=>?_⟩;have z:X<q*Y:=by{rcases g with j|j;{exact es.big j};·exact es.low i o};have k:1<=q:=by{grind};have c:X<(q-1+1)*Y:=gz0;have f:(q-1)*v1+(r+v1)=T:=gz0;refine⟨k,fun D=>?_,fun D=>⟨⟨rfl,o,o,o,o,f,c⟩,gz0⟩⟩;have y:(q-1)*(v1*4294967296+v2)=(T-(r+v1))*4294967296+(q-1)*v2:=gz0;have j:(q-1)*v2<=4294967296*v2:=aD o s.1;exact hJ (q-1) o (es.exact o) c
def So{hi lo:Int}{y:Nat}(hhi:0<=hi/\hi<y)(hlo:0<=lo/\lo<18446744073709551616)(hy:y<18446744073709551616) (hK:K (.tuple #[U ((hi*18446744073709551616+lo)/y),U ((hi*18446744073709551616+lo)%y)]) h):aW prog 281 #[U hi,U lo,U y] h K:=by refine B3c _ _ _ ?_;unfold B7b;refine D5 (fun e=>absurd e o) (fun _=>?_);refine C1 (fun e=>absurd e o) (fun _=>?_);refine D5 (fun e=>?_) (fun a3=>?_);{refine C1 (fun e=>absurd e o) (fun _=>?_);refine C1 (fun e=>absurd e o) (fun _=>?_);subst e;rw[dT,cL]at hK;rw[aX hlo.1,cI hlo.1,C6 (bM hlo.1 o) (cF (dQ _ hlo.1) hlo.2)];exact hK};refine U5 hy ⟨_,rfl,?_⟩;have an:y≠0:=o;obtain⟨bg,bc⟩:=Fq an;have a0:S9 y<=64:=Iy (k:=64) o;have bb:1<=S9 y:=gz0;obtain⟨s,hs⟩:∃s,s=64-S9 y:=⟨_,rfl⟩;rw[<- hs];have a1:s<64:=o;have j:0<(2:Int)^s:=bK dc;have N:=Bl (s:=s) o;have aj:0<(2:Int)^(64-s):=bK dc;have ai:S9 y=64-s:=o;have aq:(y:Int)<2^(64-s):=by{grind};have ad:(2:Int)^(63-s)<=y:=by{grind};have E:(2:Int)^s*2^(63-s)=9223372036854775808:=by{rw[<- aV,show s+(63-s)=63 from o];decide};have ah:C8 (s:Int)=(s:Int):=C6 o o;have ac:C8 ((64:Int)-s)=((64-s:Nat):Int):=by{rw[C6 o o];omega};have F:(y:Int)*2^s<18446744073709551616:=by{rw[<- N,aS];exact bY aq j};have az:9223372036854775808<=(y:Int)*2^s:=by{rw[<- E,aS (y:Int)];exact aG ad o};have eY:C8 ((y:Int)*2^(min s 64))=(y:Int)*2^s:=by{rw[aH o,C6 o F]};have a9:hi*2^s+2^s<=(y:Int)*2^s:=by{have:=aD (show hi+1<=(y:Int)from o) (aN j);grind};have S:0<=hi*2^s:=aO hhi.1 o;have aa:0<=lo/2^(64-s)/\lo/2^(64-s)<2^s:=by{refine⟨bM hlo.1 o,aZ aj ?_⟩;omega};have eT:bor .u64 (C8 (hi*2^(min s 64))) (dJ lo (2^(min (64-s) 64)))=hi*2^s+lo/2^(64-s):=by{rw[aH (show s<=64 from o),C6 S o,B46 o,A3e hhi.1 aa o]};have eL:C8 (lo*2^(min s 64))=lo*2^s%18446744073709551616:=by{rw[aH o,F6]};have ba:0<=lo*2^s%18446744073709551616/\lo*2^s%18446744073709551616<18446744073709551616:=⟨aP _ dc,aK _ dc⟩;have hN:(hi*18446744073709551616+lo)*2^s=(hi*2^s+lo/2^(64-s))*18446744073709551616+lo*2^s%18446744073709551616:=by{have d1:lo*2^s/18446744073709551616=lo/2^(64-s):=by{rw[<- N,aS lo,Int.mul_ediv_mul_of_pos _ _ j]};grind};generalize hTT:hi*2^s+lo/2^(64-s)=T at *;generalize hLL:lo*2^s%18446744073709551616=L at *;generalize hYY:(y:Int)*2^s=Y at *;have t:0<=T/\T<Y:=o;unfold A3t A3v A3s A3u;simp only[ah,ac,aC,eY,eT,eL,Wf];rw[Co o,Co o];have e1:Est 4294967296 1 T (L/4294967296) 0 (Y/4294967296) (Y%4294967296) 0 (T*4294967296+L/4294967296) Y:=⟨dc,dc,o,o,o,o,o,o,t.1,o,o⟩;refine C1 (fun e=>absurd e o) (fun _=>?_);refine C1 (fun e=>absurd e o) (fun _=>?_);refine C1 (fun e=>absurd e o) (fun _=>?_);refine C1 (fun e=>absurd e o) (fun _=>?_);refine C1 (fun e=>absurd e o) (fun _=>?_);have X:∀{q w:Int},0<=q->q<=4294967296->0<=w->w<4294967296->0<=q*w/\q*w<18446744073709551616:=by{intro q w a b c d;refine⟨aO a c,?_⟩;have:=dI b (show w<=4294967295 from o) c dc;omega};refine⟨fun l hp=>∃q,l=[U q]/\hp=h/\0<=q/\q*Y<=T*4294967296+L/4294967296/\T*4294967296+L/4294967296<(q+1)*Y,?_,?_⟩;{obtain⟨Inv,mu,i0,st⟩:=B2i (hp:=h) (J:=fun q hp=>∃i,[U q]=[U i]/\hp=h/\0<=i/\i*Y<=T*4294967296+L/4294967296/\T*4294967296+L/4294967296<(i+1)*Y) e1 o (fun q a b c=>⟨q,rfl,rfl,a,b,c⟩);refine⟨fun l hp=>∃q r,l=[U q,U r]/\Inv q r hp,fun l hp=>mu (iAt l 0) (iAt l 1) hp,⟨T/(Y/4294967296),T%(Y/4294967296),?_,i0⟩,?_⟩;{have dm:=aM T (Y/4294967296);have G:=bM t.1 (show 0<=Y/4294967296 from o);have d1:T/(Y/4294967296)<=T:=dQ _ t.1;have d2:=aP T (show Y/4294967296≠0 from o);rw[aX t.1,C6 (n:=T/(Y/4294967296)) G o,aS (T/(Y/4294967296))];have d3:=aO (show 0<=Y/4294967296 from o) G;rw[C6 (n:=Y/4294967296*(T/(Y/4294967296))) d3 o,C6 o o];have:T-Y/4294967296*(T/(Y/4294967296))=T%(Y/4294967296):=o;rw[this]};rintro q r p ⟨i,r',hl,hI⟩;obtain⟨rfl,rfl⟩:q=i/\r=r':=by{simpa using hl};obtain⟨_,f,g,r0,r1,rfl,ok,D⟩:=st q r p hI;have M:=X (q:=4294967296) (w:=r) o o r0 r1;refine⟨fun l hp=>l=[]/\hp=p/\(q>=4294967296\/q*(Y%4294967296)>4294967296*r+L/4294967296),C1 (fun Q=>⟨rfl,rfl,.inl Q⟩) (fun Q=>?_),?_⟩;{have O:=X (q:=q) (w:=Y%4294967296) f o o o;rw[C6 O.1 O.2,C6 M.1 M.2,C6 (n:=4294967296*r+L/4294967296) o o];exact C1 (fun C=>⟨rfl,rfl,.inr C⟩) (fun C=>ok o C)};·rintro al ⟨_,rfl,m⟩;obtain⟨g1,g2,W⟩:=D m;rw[C6 (n:=r+Y/4294967296) o o,C6 (n:=q-1) o o];exact C1 (fun H=>g2 H) (fun H=>⟨⟨_,_,rfl,(W o).1⟩,(W o).2⟩)};rintro g z ⟨af,a8,rfl,ar,a6,bf⟩;obtain rfl:g=af:=gz0;have ay:g<4294967296:=by{by_cases A:g<4294967296;{exact A};·have:=aD (show 4294967296<=g from o) (show 0<=Y from o);omega};have bh:(g+1)*Y=g*Y+Y:=gz0;have a2:0<=g*Y:=aO ar o;have ag:C8 (C8 (C8 (T*4294967296)+L/4294967296)-C8 (g*Y))=T*4294967296+L/4294967296-g*Y:=by{simp only[F6];omega};simp only[ag];generalize hRR:T*4294967296+L/4294967296-g*Y=R at *;have u:0<=R/\R<Y:=o;refine C1 (fun e=>absurd e o) (fun _=>?_);have e2:Est 4294967296 1 R (L%4294967296) 0 (Y/4294967296) (Y%4294967296) 0 (R*4294967296+L%4294967296) Y:=⟨dc,dc,o,o,o,o,o,o,u.1,o,o⟩;refine⟨fun l hp=>∃q,l=[U q]/\hp=z/\0<=q/\q*Y<=R*4294967296+L%4294967296/\R*4294967296+L%4294967296<(q+1)*Y,?_,?_⟩;{obtain⟨Inv,mu,i0,st⟩:=B2i (hp:=z) (J:=fun q hp=>∃i,[U q]=[U i]/\hp=z/\0<=i/\i*Y<=R*4294967296+L%4294967296/\R*4294967296+L%4294967296<(i+1)*Y) e2 o (fun q a b c=>⟨q,rfl,rfl,a,b,c⟩);refine⟨fun l hp=>∃q r,l=[U r,U q]/\Inv q r hp,fun l hp=>mu (iAt l 1) (iAt l 0) hp,⟨R/(Y/4294967296),R%(Y/4294967296),?_,i0⟩,?_⟩;{have dm:=aM R (Y/4294967296);have G:=bM u.1 (show 0<=Y/4294967296 from o);have d1:R/(Y/4294967296)<=R:=dQ _ u.1;have d2:=aP R (show Y/4294967296≠0 from o);rw[aX u.1,C6 (n:=R/(Y/4294967296)) G o,aS (R/(Y/4294967296))];have d3:=aO (show 0<=Y/4294967296 from o) G;rw[C6 (n:=Y/4294967296*(R/(Y/4294967296))) d3 o,C6 o o];have:R-Y/4294967296*(R/(Y/4294967296))=R%(Y/4294967296):=o;rw[this]};rintro r q p ⟨i,r',hl,hI⟩;obtain⟨rfl,rfl⟩:r=r'/\q=i:=by{simpa using hl};obtain⟨_,f,g,r0,r1,rfl,ok,D⟩:=st q r p hI;have M:=X (q:=4294967296) (w:=r) o o r0 r1;refine⟨fun l hp=>l=[]/\hp=p/\(q>=4294967296\/q*(Y%4294967296)>4294967296*r+L%4294967296),C1 (fun Q=>⟨rfl,rfl,.inl Q⟩) (fun Q=>?_),?_⟩;{have O:=X (q:=q) (w:=Y%4294967296) f o o o;rw[C6 O.1 O.2,C6 M.1 M.2,C6 (n:=4294967296*r+L%4294967296) o o];exact C1 (fun C=>⟨rfl,rfl,.inr C⟩) (fun C=>ok o C)};·rintro al ⟨_,rfl,m⟩;obtain⟨g1,g2,W⟩:=D m;rw[C6 (n:=r+Y/4294967296) o o,C6 (n:=q-1) o o];exact C1 (fun H=>g2 H) (fun H=>⟨⟨_,_,rfl,(W o).1⟩,(W o).2⟩)};rintro f be ⟨ak,a4,rfl,ap,a7,a5⟩;obtain rfl:f=ak:=gz0;refine C1 (fun e=>absurd e o) (fun _=>?_);have au:f<4294967296:=by{by_cases A:f<4294967296;{exact A};·have:=aD (show 4294967296<=f from o) (show 0<=Y from o);omega};have bd:(f+1)*Y=f*Y+Y:=gz0;have av:0<=f*Y:=aO ap o;have ao:C8 (C8 (C8 (R*4294967296)+L%4294967296)-C8 (f*Y))=R*4294967296+L%4294967296-f*Y:=by{simp only[F6];omega};rw[ao,C6 (n:=g*4294967296) o o,C6 (n:=g*4294967296+f) o o,B46 o];have ax:(hi*18446744073709551616+lo)*2^s=(g*4294967296+f)*(y*2^s)+(R*4294967296+L%4294967296-f*Y):=by{grind};have B:R*4294967296+L%4294967296-f*Y=(hi*18446744073709551616+lo-(g*4294967296+f)*y)*2^s:=gz0;rw[B,fB _ (show(2:Int)^s≠0 from o)];have am:0<=hi*18446744073709551616+lo-(g*4294967296+f)*y:=by{by_cases A:0<=hi*18446744073709551616+lo-(g*4294967296+f)*y;{exact A};·have:=aD (show hi*18446744073709551616+lo-(g*4294967296+f)*y <= -1 from o) (aN j);omega};have ae:hi*18446744073709551616+lo-(g*4294967296+f)*y<y:=by{by_cases A:hi*18446744073709551616+lo-(g*4294967296+f)*y<y;{exact A};·have:=aD (show(y:Int)<=hi*18446744073709551616+lo-(g*4294967296+f)*y from o) (aN j);omega};have V:(hi*18446744073709551616+lo)/y=g*4294967296+f:=by{have:hi*18446744073709551616+lo=(hi*18446744073709551616+lo-(g*4294967296+f)*y)+(g*4294967296+f)*y:=o;rw[this,dX _ _ o,bH am ae,cL]};have aw:(hi*18446744073709551616+lo)%y=hi*18446744073709551616+lo-(g*4294967296+f)*y:=by{rw[Int.emod_def,V,aS (y:Int)]};grind
end
def Q7{xs:List Int}(d:Dig b64 xs)(i:Nat):0<=xs.getD i 0/\xs.getD i 0<18446744073709551616:=d.getD dc i
def Fi(c:Int):0<=c%18446744073709551616/\c%18446744073709551616<b64:=⟨aP _ dc,aK _ dc⟩
section
variable {h g:bD} {K:VP} {A B:Option bL} {ac bc:Nat}
def Ew{xs:List Int}(s:SlI .u64 h A xs)(hc:xs.length<=ac)(hl:xs.length<=10000000000)(hK:∀m,m<=xs.length->fG (xs.take m)->val b64 (xs.take m)=val b64 xs->K (.slice A m ac) h):aW prog 239 #[.slice A xs.length ac] h K:=by refine(fnk func239 [(2,[3],[],[I 0])]) ?_;refine⟨fun l g=>∃m:Nat,l=[I m]/\m<=xs.length/\g=h/\val b64 (xs.take m)=val b64 xs,fun l _=>(iAt l 0).toNat,⟨xs.length,rfl,bC _,rfl,by rw[bO]⟩,?_⟩;rintro n r ⟨m,k,f,rfl,c⟩;obtain rfl:n=(m:Int):=gz0;refine C1 (fun q=>?_) (fun q=>?_);{obtain⟨j,rfl⟩:∃j,m=j+1:=⟨m-1,o⟩;have e:C4 (((j+1:Nat):Int)-1)=(j:Int):=by{rw[C2 o o];omega};rw[e];have p:=Q1 b64 (xs:=xs) (i:=j) o;refine s.load rfl o o ?_;refine D5 (fun d=>?_) (fun d=>?_);{exact⟨⟨j,rfl,o,rfl,gz0⟩,by simp only[iAt,aF];omega⟩};·refine⟨⟨o,o⟩,?_⟩;rw[I4,aC,bW,bW];refine hK (j+1) f ?_ c;rw[Sv o];exact A2d d};·have:m=0:=o;subst this;refine⟨⟨o,o⟩,?_⟩;rw[I4,aC,bW,bW];exact hK 0 o Norm.nil c
def T3{xs:List Int}(s:SlI .u64 h A xs)(hd:Dig b64 xs)(hc:xs.length<=ac)(hl:xs.length<=10000000000)(hK:∀m,m<=xs.length->Mw h A m (val b64 xs)->K (.slice A m ac) h):aW prog 239 #[.slice A xs.length ac] h K:=by refine Ew s hc hl ?_;intro m d f e;refine hK m d ⟨xs.take m,gz0,?_,hd.take m,f,e⟩;have:=s.cut (c:=ac) (l:=0) (m:=m) o d hc;simpa[I4]using this
def Cg{w:Int}(hw:0<=w/\w<18446744073709551616)(hK:∀A m c h',h.le h'->m<=c->Mw h' A m w->K (.slice A m c) h'):aW prog 240 #[U w] h K:=by refine(fnk func240) ?_;refine D5 (fun e=>?_) (fun e=>?_);{subst e;exact hK none 0 0 h (B7 h) (bC _) Mag.zero};·refine V6 S8 rfl ?_;intro b d;exact⟨_,_,_,rfl,hK _ _ _ _ (Heap.le_put _ d) (bC _) ⟨[w],rfl,SlI.new h b [w] 195 _,Dig.one hw,by simpa[fG]using e,Ct _ _⟩⟩
def J9{x y:Int}{an bn:Nat}(ma:Mw h A an x)(mb:Mw h B bn y)(hl:an<=10000000000)(hK:K (I (Sq x y)) h):aW prog 234 #[.slice A an ac,.slice B bn bc] h K:=by obtain⟨c,rfl,r,g,E,rfl⟩:=ma;obtain⟨d,rfl,p,f,u,rfl⟩:=mb;refine(fnk func234 [(4,[5],[],[I 0])]) ?_;refine E6 (fun z=>?_) (fun z=>?_);{refine Vj ⟨_,rfl,?_⟩;have:Sq (c.length:Int) (d.length:Int)=Sq (val b64 c) (val b64 d):=by{unfold Sq;by_cases n:c.length<d.length;{have:=Jm dc g f u n;omega};·have:=Jm dc f g E o;omega};grind};·have q:c.length=d.length:=o;refine⟨fun l s=>∃k:Nat,l=[I ((k:Int)-1)]/\k<=c.length/\s=h/\c.drop k=d.drop k,fun l _=>(iAt l 0+1).toNat,⟨c.length,?_,bC _,rfl,?_⟩,?_⟩;{rw[C2 o o]};{grind};rintro i G ⟨k,D,F,rfl,m⟩;obtain rfl:i=(k:Int)-1:=gz0;refine C1 (fun n=>?_) (fun n=>?_);{obtain⟨j,rfl⟩:∃j,k=j+1:=⟨k-1,o⟩;have e:((j+1:Nat):Int)-1=(j:Int):=o;rw[e];refine r.load rfl o o ?_;refine p.load rfl o o ?_;rw[aC];refine E6 (fun C=>?_) (fun C=>?_);{refine r.load rfl o o ?_;refine p.load rfl o o ?_;refine B2p ⟨_,rfl,B7 _,?_⟩;have:Sq (c.getD j 0) (d.getD j 0)=Sq (val b64 c) (val b64 d):=by{unfold Sq;by_cases w:c.getD j 0<d.getD j 0;{have:=Jl dc g f (i:=j) o o m w;omega};·have:=Jl dc f g (i:=j) o o m.symm o;omega};grind};·rw[C2 o o];refine⟨⟨j,rfl,o,rfl,?_⟩,by simp only[iAt,aF];omega⟩;rw[dK (show j<c.length from o),dK (show j<d.length from o),m];grind};·have t:k=0:=o;have:Sq (val b64 c) (val b64 c)=0:=by{unfold Sq;omega};grind
def Fp{xs:List Int}{an:Nat}(s:SlI .u64 h A xs)(hn:an=xs.length)(hl:xs.length<=10000000000)(hK:∀A' c' h' g',h.le g'->fR h' g' 195 1 A' xs.length c' (xs.map (bI .u64))->K (.slice A' xs.length c') h'):aW prog 235 #[.slice A an ac] h K:=by subst hn;refine(fnk func235) ?_;refine Br.of (fun e=>?_) (fun e=>?_);{have j:xs=[]:=by{rcases s with l|⟨a,k,_⟩;{simp_all};grind};subst j;exact hK none 0 h h (B7 h) (by simpa using Priv.nil _ _ _ _)};·refine Da S8 ?_;intro b g;refine⟨_,_,_,rfl,?_⟩;have c:=Heap.le_put (h:=h) (b:=b) (.cells #[] 195) g;refine Bp S8 (Priv.nil _ _ _ _) (ys:=xs.map (bI .u64)) (by simp) (SlI.mono c s) (fun v f=>?_) o o ?_;{obtain⟨a,_,rfl⟩:=List.mem_map.1 f;rfl};·intro A' c' h' g' i d;simp only[fX,cG]at d ⊢;exact⟨_,_,_,rfl,hK _ _ _ _ (B0 c i) d⟩
variable {b:Nat} {e:cD} {pre post:List eJ}
def Jb{xs ys:List Int}{an bn:Nat}(w:Win .u64 h g b e A pre xs post)(hn:an=xs.length)(sy:SlI .u64 g B ys)(hm:bn=ys.length)(dx:Dig b64 xs)(dy:Dig b64 ys)(hle:ys.length<=xs.length)(hfit:val b64 xs+val b64 ys<b64^xs.length)(hl:xs.length<=10000000000) (hK:∀xs' h',xs'.length=xs.length->Dig b64 xs'->val b64 xs'=val b64 xs+val b64 ys->Win .u64 h' g b e A pre xs' post->K (.tuple #[]) h'):aW prog 272 #[.slice A an ac,.slice B bn bc] h K:=by subst hn hm;refine(fnk func272 [(2,[4,10],[],[U 0,I 0]),(7,[4,7],[],[U 0,I 0])]) ?_;refine⟨fun l s=>∃(k:Nat) (c:Int) (zs:List Int),l=[U c,I k]/\k<=ys.length/\zs.length=xs.length/\Dig b64 zs/\(0<=c/\c<=1)/\Win .u64 s g b e A pre zs post/\zs.drop k=xs.drop k/\val b64 (zs.take k)+c*b64^k=val b64 (xs.take k)+val b64 (ys.take k),fun l _=>ys.length-(iAt l 1).toNat,⟨0,0,xs,rfl,o,rfl,dx,o,w,rfl,by rfl⟩,?_⟩;rintro c i s ⟨k,D,zs,G,M,j,m,z,f,d,y⟩;obtain⟨rfl,rfl⟩:c=D/\i=(k:Int):=gz0;refine C1 (fun F=>?_) (fun F=>?_);{have O:=Q7 dy k;have gz:=Q7 m k;have q:=F5 d;have E:=C7 b64 xs k;have Q:=C7 b64 ys k;refine(sy.mono f.le).load rfl o o ?_;refine f.sl.load j.symm o o ?_;simp only[aC];refine Dz gz O z ⟨_,_,rfl,?_⟩;obtain⟨a,t,_⟩:=SlV.at f.sl (i:=k) gz0;refine⟨a,t,o,o,f.storeN (i:=k) G8 t o ?_⟩;intro h' C;rw[C2 (n:=(k:Int)+1) o o];refine⟨⟨k+1,_,_,rfl,o,gz0,m.set (Fi _),o,C,?_,?_⟩,by simp only[iAt,aF,aJ];omega⟩;{rw[E5 o];exact E8 d};·rw[D3 o,F8,aI,aH o,aY,Cn,E,Q,<- q];grind};·have p:k=ys.length:=o;subst p;rw[bO]at y;refine⟨fun l s=>∃(k:Nat) (c:Int) (zs:List Int),l=[U c,I k]/\ys.length<=k/\k<=xs.length/\zs.length=xs.length/\Dig b64 zs/\(0<=c/\c<=1)/\Win .u64 s g b e A pre zs post/\zs.drop k=xs.drop k/\val b64 (zs.take k)+c*b64^k=val b64 (xs.take k)+val b64 ys,fun l _=>xs.length-(iAt l 1).toNat,⟨ys.length,c,zs,rfl,o,o,j,m,z,f,d,y⟩,?_⟩;rintro c i s ⟨k,D,zs,G,N,M,j,m,z,f,d,y⟩;obtain⟨rfl,rfl⟩:c=D/\i=(k:Int):=gz0;have u:=G7 b64 zs (i:=k) o;have r:=G7 b64 xs (i:=k) o;refine E6 (fun L=>C1 (fun F=>?_) (fun F=>?_)) (fun L=>?_);{have gz:=Q7 m k;have q:=F5 d;have E:=C7 b64 xs k;refine f.sl.load j.symm o o ?_;simp only[aC];refine Dz gz o z ⟨_,_,rfl,?_⟩;obtain⟨a,t,_⟩:=SlV.at f.sl (i:=k) gz0;refine⟨a,t,o,o,f.storeN (i:=k) G8 t o ?_⟩;intro h' C;rw[C2 (n:=(k:Int)+1) o o];refine⟨⟨k+1,_,_,rfl,o,o,gz0,m.set (Fi _),o,C,?_,?_⟩,by simp only[iAt,aF,aJ];omega⟩;{rw[E5 o];exact E8 d};·rw[D3 o,F8,aI,aH o,aY,Cn,E,<- q];grind};{exfalso;have p:k=xs.length:=o;subst p;have H:c=1:=o;subst H;rw[bO]at y;have:=D0 dc (m.take xs.length);omega};grind
def Fc{xs ys:List Int}{an bn:Nat}(w:Win .u64 h g b e A pre xs post)(hn:an=xs.length)(sy:SlI .u64 g B ys)(hm:bn=ys.length)(dx:Dig b64 xs)(dy:Dig b64 ys)(hle:ys.length<=xs.length)(hfit:val b64 ys<=val b64 xs)(hl:xs.length<=10000000000) (hK:∀xs' h',xs'.length=xs.length->Dig b64 xs'->val b64 xs'=val b64 xs-val b64 ys->Win .u64 h' g b e A pre xs' post->K (.tuple #[]) h'):aW prog 291 #[.slice A an ac,.slice B bn bc] h K:=by subst hn hm;refine(fnk func291 [(2,[4,10],[],[U 0,I 0]),(7,[4,7],[],[U 0,I 0])]) ?_;have key:∀{z y c:Int},(0<=z/\z<18446744073709551616)->(0<=y/\y<18446744073709551616)->(0<=c/\c<=1)->(z-y-c)%18446744073709551616=z-y-c+18446744073709551616*(if z-y-c<0 then 1 else 0):=by{omega};refine⟨fun l s=>∃(k:Nat) (c:Int) (zs:List Int),l=[U c,I k]/\k<=ys.length/\zs.length=xs.length/\Dig b64 zs/\(0<=c/\c<=1)/\Win .u64 s g b e A pre zs post/\zs.drop k=xs.drop k/\val b64 (zs.take k)=val b64 (xs.take k)-val b64 (ys.take k)+c*b64^k,fun l _=>ys.length-(iAt l 1).toNat,⟨0,0,xs,rfl,o,rfl,dx,o,w,rfl,by rfl⟩,?_⟩;rintro c i s ⟨k,E,zs,L,O,j,m,q,f,d,t⟩;obtain⟨rfl,rfl⟩:c=E/\i=(k:Int):=gz0;refine C1 (fun H=>?_) (fun H=>?_);{have M:=Q7 dy k;have gz:=Q7 m k;have p:=F5 d;have F:=C7 b64 xs k;have R:=C7 b64 ys k;refine(sy.mono f.le).load rfl o o ?_;refine f.sl.load j.symm o o ?_;simp only[aC];refine Gi gz M q ⟨_,_,rfl,?_⟩;obtain⟨a,u,_⟩:=SlV.at f.sl (i:=k) gz0;refine⟨a,u,o,o,f.storeN (i:=k) G8 u o ?_⟩;intro h' D;rw[C2 (n:=(k:Int)+1) o o];refine⟨⟨k+1,_,_,rfl,o,by simp_all,m.set (Fi _),o,D,?_,?_⟩,by simp only[iAt,aF,aJ];omega⟩;{rw[E5 o];exact E8 d};·rw[D3 o,F8,aI,aH o,aY,F,R,<- p,t,key gz M q];grind};·have G:k=ys.length:=o;subst G;rw[bO]at t;refine⟨fun l s=>∃(k:Nat) (c:Int) (zs:List Int),l=[U c,I k]/\ys.length<=k/\k<=xs.length/\zs.length=xs.length/\Dig b64 zs/\(0<=c/\c<=1)/\Win .u64 s g b e A pre zs post/\zs.drop k=xs.drop k/\val b64 (zs.take k)=val b64 (xs.take k)-val b64 ys+c*b64^k,fun l _=>xs.length-(iAt l 1).toNat,⟨ys.length,c,zs,rfl,o,o,j,m,q,f,d,t⟩,?_⟩;rintro c i s ⟨k,E,zs,L,Q,O,j,m,q,f,d,t⟩;obtain⟨rfl,rfl⟩:c=E/\i=(k:Int):=gz0;have C:=G7 b64 zs (i:=k) o;have r:=G7 b64 xs (i:=k) o;refine E6 (fun N=>C1 (fun H=>?_) (fun H=>?_)) (fun N=>?_);{have gz:=Q7 m k;have p:=F5 d;have F:=C7 b64 xs k;refine f.sl.load j.symm o o ?_;simp only[aC];refine Gi gz o q ⟨_,_,rfl,?_⟩;obtain⟨a,u,_⟩:=SlV.at f.sl (i:=k) gz0;refine⟨a,u,o,o,f.storeN (i:=k) G8 u o ?_⟩;intro h' D;rw[C2 (n:=(k:Int)+1) o o];refine⟨⟨k+1,_,_,rfl,o,o,gz0,m.set (Fi _),o,D,?_,?_⟩,by simp only[iAt,aF,aJ];omega⟩;{rw[E5 o];exact E8 d};·rw[D3 o,F8,aI,aH o,aY,F,<- p,t,key gz (y:=0) o q];grind};{exfalso;have:=O5 dc (m.take xs.length);grind};grind
def A0p{x y:Int}{an bn:Nat}(ma:Mw h A an x)(mb:Mw h B bn y)(hab:bn<=an)(hl:an<=4000000000)(hb0:bn≠0)(hK:∀A' m c' h',h.le h'->m<=c'->Mw h' A' m (x+y)->K (.slice A' m c') h'): wpH prog (Instr.makeSlice 217 (I (C4 ((an:Int)+1))) (I (C4 ((an:Int)+1)))) (fun v hp1=>∃(t20A:Option bL) (t20n:Nat) (t20c:Nat),v= .slice t20A t20n t20c/\∀ty,wpH prog (dP #[217,217] ty #[.slice t20A t20n t20c,.slice A an ac]) (fun v1 hp2=>∃(t23:Int),v1=I t23/\aW prog 272 #[.slice t20A t20n t20c,.slice B bn bc] hp2 (fun r hp3=>r= .tuple #[]/\aW prog 239 #[.slice t20A t20n t20c] hp3 (fun r1 hp4=>∃(t28A:Option bL) (t28n:Nat) (t28c:Nat),r1= .slice t28A t28n t28c/\K (.slice t28A t28n t28c) hp4))) hp1) h:=by obtain⟨c,rfl,D,q,N,rfl⟩:=ma;obtain⟨M,rfl,w,n,H,rfl⟩:=mb;have F:C4 ((c.length:Int)+1)=((c.length+1:Nat):Int):=by{rw[C2 o o];omega};rw[F];refine N4 S8 o o o ?_;intro b u;refine⟨_,_,_,rfl,fun ty=>?_⟩;have l:=Win.blk .u64 195 u (aE (c.length+1) 0);refine Em S8 l (by simp) (SlI.mono l.le D) rfl (by simp) ?_;intro L j;refine⟨_,rfl,?_⟩;have d:(aE (c.length+1) (0:Int)).drop c.length=[0]:=by{simp_all};rw[d]at j;have f:val b64 (c++[0])=val b64 c:=by{rw[F8];omega};have s:=O5 dc q;have C:=O5 dc n;have t:=D9 (B:=b64) dc hab;refine Jb j (by simp) w rfl (q.append (Dig.one dc)) n gz0 ?_ gz0 ?_;{grind};intro zs G z g i p;refine⟨rfl,?_⟩;have e:zs.length=c.length+1:=gz0;rw[<- e];refine T3 p.sl g o o ?_;intro m E k;rw[i,f]at k;exact⟨_,_,_,rfl,hK _ _ _ _ p.le E k⟩
def U9{x y:Int}{an bn:Nat}(ma:Mw h A an x)(mb:Mw h B bn y)(ha:an<=ac)(hb:bn<=bc)(hl:an<=4000000000)(hl2:bn<=4000000000)(hK:∀A' m c' h',h.le h'->m<=c'->Mw h' A' m (x+y)->K (.slice A' m c') h'):aW prog 264 #[.slice A an ac,.slice B bn bc] h K:=by refine(fnk func264 (cs:=[(3,[0,1],[],[.slice none 0 0,.slice none 0 0])]) (wr:=[272])) ?_;refine⟨fun l h'=>h'=h/\∃(A1 B1:Option bL) (c d c1 c2:Nat) (n p:Int),l=[.slice A1 c c1,.slice B1 d c2]/\Mw h A1 c n/\Mw h B1 d p/\d<=c/\c<=4000000000/\c<=c1/\n+p=x+y,C1 (fun t=>?_) (fun t=>?_),?_⟩;{grind};{grind};·rintro A1 c c1 B1 d c2 C ⟨rfl,A1',B1',g,f,j,i,n,p,u,s,r,z,k,q,e⟩;obtain⟨⟨rfl,rfl,rfl⟩,rfl,rfl,rfl⟩:(A1=A1'/\c=g/\c1=j)/\B1=B1'/\d=f/\c2=i:=gz0;rw[<- e]at hK;refine D5 (fun w=>?_) (fun w=>?_);{have:=(r.len_zero dc).2 o;subst this;rw[dV]at hK;exact hK _ _ _ _ (B7 _) q s};·refine Ji _ (A0p (ac:=c1) (bc:=c2) s r z k o hK) ?_;grind
def I7{x y:Int}{an bn:Nat}(ma:Mw h A an x)(mb:Mw h B bn y)(ha:an<=ac)(hl:an<=4000000000)(hxy:y<=x)(hK:∀A' m c' h',h.le h'->m<=c'->Mw h' A' m (x-y)->K (.slice A' m c') h'):aW prog 265 #[.slice A an ac,.slice B bn bc] h K:=by have g:bn<=an:=mb.len_le dc (cF hxy (ma.lt dc));refine(fnk func265 (wr:=[291])) ?_;refine D5 (fun p=>?_) (fun p=>?_);{have:=(mb.len_zero dc).2 o;subst this;rw[Int.sub_zero]at hK;exact hK _ _ _ _ (B7 _) ha ma};·obtain⟨D,rfl,r,t,G,rfl⟩:=ma;obtain⟨F,rfl,q,s,w,rfl⟩:=mb;refine Fp r rfl o ?_;intro A1 c1 z C k f;refine⟨_,_,_,rfl,?_⟩;obtain⟨b,j,n⟩:=f.win gz0;refine Fc n rfl (q.mono k) rfl t s g hxy o ?_;intro zs u d c e l;refine⟨rfl,?_⟩;rw[<- d];refine T3 l.sl c (by have:=f.2.1;omega) o ?_;intro m E i;rw[e]at i;exact⟨_,_,_,rfl,hK _ _ _ _ (B0 k l.le) (by have:=f.2.1;omega) i⟩
def Ja{zs xs:List Int}{an bn:Nat}{wd:Int}(w:Win .u64 h g b e A pre zs post)(hn:an=zs.length)(sx:SlI .u64 g B xs)(hm:bn=xs.length)(dz:Dig b64 zs)(dx:Dig b64 xs)(hle:zs.length=xs.length)(hw:0<=wd/\wd<18446744073709551616)(hl:xs.length<=10000000000) (hK:∀zs' c h',zs'.length=zs.length->Dig b64 zs'->(0<=c/\c<18446744073709551616)->val b64 zs'+c*b64^zs.length=val b64 zs+val b64 xs*wd->Win .u64 h' g b e A pre zs' post->K (U c) h'):aW prog 270 #[.slice A an ac,.slice B bn bc,U wd] h K:=by subst hn hm;refine(fnk func270 [(3,[7,16],[],[U 0,I 0])]) ?_;refine⟨fun l r=>∃(k:Nat) (c:Int) (d:List Int),l=[U c,I k]/\k<=xs.length/\d.length=zs.length/\Dig b64 d/\(0<=c/\c<18446744073709551616)/\Win .u64 r g b e A pre d post/\d.drop k=zs.drop k/\val b64 (d.take k)+c*b64^k=val b64 (zs.take k)+val b64 (xs.take k)*wd,fun l _=>xs.length-(iAt l 1).toNat,⟨0,0,zs,rfl,o,rfl,dz,o,w,rfl,by simp[val]⟩,?_⟩;rintro c i r ⟨k,y,d,C,G,m,q,D,j,f,H⟩;obtain⟨rfl,rfl⟩:c=y/\i=(k:Int):=gz0;refine C1 (fun z=>?_) (fun z=>?_);{have s:=Q7 dx k;have gz:=Q7 q k;have p:=F5 f;have E:=C7 b64 xs k;have F:=C7 b64 zs k;have hm:0<=xs.getD k 0*wd/\xs.getD k 0*wd<=18446744073709551615*18446744073709551615:=⟨aO s.1 hw.1,dI o o hw.1 dc⟩;refine(sx.mono j.le).load rfl o o ?_;rw[aC];refine Nu s hw ⟨_,_,rfl,?_⟩;generalize hmm:xs.getD k 0*wd=mm at *;refine Dz o D o ⟨_,_,rfl,?_⟩;refine j.sl.load m.symm o o ?_;rw[aC];refine Dz gz o o ⟨_,_,rfl,?_⟩;obtain⟨a,t,_⟩:=SlV.at j.sl (i:=k) gz0;refine⟨a,t,o,o,j.storeN (i:=k) G8 t o ?_⟩;intro h' u;rw[C2 (n:=(k:Int)+1) o o];rw[C6 (n:=mm/18446744073709551616+(mm%18446744073709551616+c+0)/18446744073709551616) o o];rw[C6 o o];refine⟨⟨k+1,_,_,rfl,o,gz0,q.set (Fi _),o,u,?_,?_⟩,by simp only[iAt,aF,aJ];omega⟩;{rw[E5 o];exact E8 f};·rw[D3 o,F8,aI,aH o,aY,E,F,<- p];grind};grind
def Jx{zs xs:List Int}{an bn:Nat}{wd:Int}(w:Win .u64 h g b e A pre zs post)(hn:an=zs.length)(sx:SlI .u64 g B xs)(hm:bn=xs.length)(dz:Dig b64 zs)(dx:Dig b64 xs)(hle:zs.length=xs.length)(hw:0<=wd/\wd<18446744073709551616)(hl:xs.length<=10000000000) (hK:∀zs' c h',zs'.length=zs.length->Dig b64 zs'->(0<=c/\c<18446744073709551616)->val b64 zs'=val b64 zs-val b64 xs*wd+c*b64^zs.length->Win .u64 h' g b e A pre zs' post->K (U c) h'):aW prog 306 #[.slice A an ac,.slice B bn bc,U wd] h K:=by subst hn hm;refine(fnk func306 [(3,[7,16],[],[U 0,I 0])]) ?_;refine⟨fun l r=>∃(k:Nat) (c:Int) (d:List Int),l=[U c,I k]/\k<=xs.length/\d.length=zs.length/\Dig b64 d/\(0<=c/\c<18446744073709551616)/\Win .u64 r g b e A pre d post/\d.drop k=zs.drop k/\val b64 (d.take k)=val b64 (zs.take k)-val b64 (xs.take k)*wd+c*b64^k,fun l _=>xs.length-(iAt l 1).toNat,⟨0,0,zs,rfl,o,rfl,dz,o,w,rfl,by simp[val]⟩,?_⟩;rintro c i r ⟨k,z,d,D,H,m,q,E,j,f,y⟩;obtain⟨rfl,rfl⟩:c=z/\i=(k:Int):=gz0;refine C1 (fun C=>?_) (fun C=>?_);{have s:=Q7 dx k;have gz:=Q7 q k;have p:=F5 f;have F:=C7 b64 xs k;have G:=C7 b64 zs k;have hm:0<=xs.getD k 0*wd/\xs.getD k 0*wd<=18446744073709551615*18446744073709551615:=⟨aO s.1 hw.1,dI o o hw.1 dc⟩;refine(sx.mono j.le).load rfl o o ?_;rw[aC];refine Nu s hw ⟨_,_,rfl,?_⟩;generalize hmm:xs.getD k 0*wd=mm at *;refine Dz o E o ⟨_,_,rfl,?_⟩;refine j.sl.load m.symm o o ?_;rw[aC];refine Gi gz o o ⟨_,_,rfl,?_⟩;obtain⟨a,t,_⟩:=SlV.at j.sl (i:=k) gz0;refine⟨a,t,o,o,j.storeN (i:=k) G8 t o ?_⟩;intro h' u;rw[C2 (n:=(k:Int)+1) o o];rw[C6 (n:=mm/18446744073709551616+(mm%18446744073709551616+c+0)/18446744073709551616) o o];rw[C6 o o];refine⟨⟨k+1,_,_,rfl,o,gz0,q.set (Fi _),o,u,?_,?_⟩,by simp only[iAt,aF,aJ];omega⟩;{rw[E5 o];exact E8 f};·rw[D3 o,F8,aI,aH o,aY,F,G,<- p,y];have key:(d.getD k 0-(mm%18446744073709551616+c+0)%18446744073709551616-0)%18446744073709551616=d.getD k 0-mm-c+18446744073709551616*(mm/18446744073709551616+(mm%18446744073709551616+c+0)/18446744073709551616+(if d.getD k 0-(mm%18446744073709551616+c+0)%18446744073709551616-0<0 then 1 else 0)):=o;grind};grind
end
def Xr{x z:Int}{s:Nat}(hs:s<=64)(_hx:0<=x/\x<18446744073709551616)(hz:0<=z/\z<(2:Int)^s): bor .u64 z (x*2^s%18446744073709551616)=z+x*2^s%18446744073709551616/\z+x*2^s%18446744073709551616<18446744073709551616/\x*2^s%18446744073709551616=2^s*(x%2^(64-s)):=by have j:=Bl hs;have e:0<(2:Int)^s:=bK dc;have m:0<(2:Int)^(64-s):=bK dc;have c:z<18446744073709551616:=by{have:(2:Int)^s*1<=2^s*2^(64-s):=aG o o;omega};have k:x*2^s%18446744073709551616=2^s*(x%2^(64-s)):=by{rw[<- j,aS x,Int.mul_emod_mul_of_pos _ _ e]};have g:=Fi (x*2^s);have l:0<=x%2^(64-s):=aP _ o;have i:(x*2^s%18446744073709551616).toNat=2^s*(x%2^(64-s)).toNat:=by{grind};have f:z.toNat<2^s:=by{grind};have d:bor .u64 z (x*2^s%18446744073709551616)=z+x*2^s%18446744073709551616:=by{rw[A5v ⟨hz.1,c⟩ g,i,Nat.or_comm,A73 f,<- i];omega};refine⟨d,?_,k⟩;rw[<- d,A5v ⟨hz.1,c⟩ g];have:z.toNat ||| (x*2^s%18446744073709551616).toNat<2^64:=Nat.or_lt_two_pow o o;omega
def Ky(k:Nat):b64^k=(2:Int)^(64*k):=by rw[show b64=(2:Int)^64 from dc,<- Int.pow_mul]
section
variable {h g:bD} {K:VP} {A B:Option bL} {ac bc:Nat}
def Aa{x:Int}{an s:Nat}(ma:Mw h A an x)(ha:an<=ac)(hl:an<=1000000000)(hs:s<=10000000000)(hK:∀A' m c' h',h.le h'->m<=c'->Mw h' A' m (x*2^s)->K (.slice A' m c') h'):aW prog 298 #[.slice A an ac,U s] h K:=by have p:=ma.len_zero dc;refine(fnk func298 [(6,[31],[],[I 0])]) ?_;refine D5 (fun C=>?_) (fun C=>D5 (fun j=>?_) (fun j=>?_));{have:=p.2 o;subst this;rw[dT]at hK;exact hK _ _ _ _ (B7 _) ha ma};{have:s=0:=o;subst this;rw[gF,Int.mul_one]at hK;exact hK _ _ _ _ (B7 _) ha ma};·obtain⟨c,rfl,V,dx,nx,rfl⟩:=ma;obtain⟨k0,hk0⟩:∃k0,k0=s/64:=⟨_,rfl⟩;obtain⟨r,hr⟩:∃r,r=s%64:=⟨_,rfl⟩;have X:C4 (C8 (cJ (s:Int) 64))=(k0:Int):=by{rw[aX o,C6 o o,C2 o o];omega};have R:dG (s:Int) 64=(r:Int):=gz0;have z:C8 ((64:Int)-(r:Int))=((64-r:Nat):Int):=by{rw[C6 o o];omega};simp only[X,R,z,aC];have e1:C4 (C4 ((c.length:Int)+k0)+1)=((c.length+k0+1:Nat):Int):=by{rw[C2 (n:=(c.length:Int)+k0) o o,C2 o o];omega};rw[e1];refine N4 S8 o o o ?_;intro b D;rw[aC];refine⟨_,_,_,rfl,?_⟩;have aa:0<(2:Int)^r:=bK dc;have q:0<(2:Int)^(64-r):=bK dc;have L:=Bl (s:=r) o;refine⟨fun l h'=>∃(k:Nat) (zs:List Int),l=[I k]/\k<=c.length/\zs.length=c.length+k0+1/\Dig b64 zs/\h'=blk .u64 195 h b zs/\zs.drop (k+k0+1)=aE (c.length-k) 0/\zs.getD (k+k0) 0<2^r/\val b64 (zs.take (k+k0+1))=val b64 (c.take k)*2^s,fun l _=>c.length-(iAt l 0).toNat,⟨0,_,rfl,o,by simp,J1 dc _,rfl,?_,?_,?_⟩,?_⟩;{grind};{grind};{rw[cM,Cs];simp[val]};rintro i hp ⟨k,zs,ae,hk,d,f,rfl,t,E,y⟩;obtain rfl:i=(k:Int):=gz0;have u:=Dd (k:=.u64) (e:=195) D zs;refine C1 (fun j=>?_) (fun j=>?_);{have w:=Q7 dx k;have gz:=Q7 f (k+k0);have F:=C7 b64 c k;have W:=C7 b64 zs (k+k0);have O:C4 ((k:Int)+k0)=((k+k0:Nat):Int):=by{rw[C2 o o];omega};have e3:C4 (((k+k0:Nat):Int)+1)=((k+k0+1:Nat):Int):=by{rw[C2 o o];omega};rw[O,e3];refine(V.mono u).load rfl o o ?_;refine(Bo .u64 195 h b zs).load d.symm o o ?_;simp only[aC];refine C1 (fun e=>absurd e o) (fun _=>?_);refine⟨_,rfl,o,o,?_⟩;obtain⟨Q,N,o3⟩:=Xr (s:=r) o w ⟨gz.1,E⟩;rw[aH (show r<=64 from o),F6,Q,B46 (show 64-r<=64 from o)];have M:=Fi (c.getD k 0*2^r);refine Z6 (zs:=zs) (i:=k+k0) G8 o ?_;refine C1 (fun e=>absurd e o) (fun _=>?_);refine⟨_,rfl,o,o,?_⟩;refine Z6 (zs:=zs.set (k+k0) (zs.getD (k+k0) 0+c.getD k 0*2^r%18446744073709551616)) (i:=k+k0+1) G8 gz0 ?_;have H:0<=c.getD k 0/2^(64-r)/\c.getD k 0/2^(64-r)<2^r:=⟨bM w.1 o,aZ q o⟩;have S:(2:Int)^r<=9223372036854775808:=by{have:=D9 (B:=2) dc (show r<=63 from o);omega};rw[C2 (n:=(k:Int)+1) o o];refine⟨⟨k+1,(zs.set (k+k0) (zs.getD (k+k0) 0+c.getD k 0*2^r%18446744073709551616)).set (k+k0+1) (c.getD k 0/2^(64-r)),rfl,o,gz0,(f.set ⟨o,N⟩).set ⟨H.1,gz0⟩,rfl,?_,?_,?_⟩,by simp only[iAt,aF];omega⟩;{rw[show k+1+k0+1=(k+k0+1)+1 from o,E5 o,E5 o,<- cQ,t,bJ];congr 1};{grind};·rw[show k+1+k0+1=(k+k0+1)+1 from o,D3 gz0,F8,D3 o,F8];simp only[aI,aR,eE];rw[aH (show k+k0<=zs.length from o),aY,F];rw[W]at y;have ad:(2:Int)^s=b64^k0*2^r:=by{rw[Ky,<- aV];congr 1;omega};have T:b64^(k+k0)=b64^k*b64^k0:=aV _ _ _;have G:=aM (c.getD k 0) (2^(64-r));grind};·have g:k=c.length:=o;subst g;rw[bO,aL o]at y;rw[<- d];refine T3 (Bo _ _ _ _ _) f (bC _) o ?_;grind
def Hf{x:Int}{an s:Nat}(ma:Mw h A an x)(hl:an<=1000000000)(hs:s<=1000000000000)(hK:∀A' m c' h',h.le h'->m<=c'->Mw h' A' m (x/2^s)->K (.slice A' m c') h'):aW prog 303 #[.slice A an ac,U s] h K:=by have N:=ma.nonneg dc;have V:=ma.lt dc;refine(fnk func303 [(6,[27],[],[I 0])]) ?_;obtain⟨k0,hk0⟩:∃k0,k0=s/64:=⟨_,rfl⟩;obtain⟨r,hr⟩:∃r,r=s%64:=⟨_,rfl⟩;have M:C8 (cJ (s:Int) 64)=(k0:Int):=by{rw[aX o,C6 o o];omega};have y:C4 (k0:Int)=(k0:Int):=C2 o o;have em:dG (s:Int) 64=(r:Int):=gz0;have er:C8 ((64:Int)-(r:Int))=((64-r:Nat):Int):=by{rw[C6 o o];omega};have en:C8 (an:Int)=(an:Int):=C6 o o;simp only[M,y,em,er,en,aC];have n:(2:Int)^s=b64^k0*2^r:=by{rw[Ky,<- aV];grind};refine C1 (fun h1=>?_) (fun h1=>?_);{have:x/2^s=0:=by{apply bH N;rw[n];have t1:=D9 (B:=b64) dc (show an<=k0 from o);have O:b64^k0*1<=b64^k0*2^r:=aG (by have:0<(2:Int)^r:=bK dc;omega) (aN (E7 dc _));omega};rw[this]at hK;exact hK _ _ _ _ (B7 _) (bC _) Mag.zero};·obtain⟨c,rfl,S,q,nx,rfl⟩:=ma;have e1:C4 ((c.length:Int)-k0)=((c.length-k0:Nat):Int):=by{rw[C2 o o];omega};rw[e1];refine N4 S8 o o o ?_;intro b hb;rw[aC];refine⟨_,_,_,rfl,?_⟩;have R:0<(2:Int)^r:=bK dc;have j:=Bl (s:=r) o;have L:0<(2:Int)^(64-r):=bK dc;have ad:(c.drop k0).length=c.length-k0:=bX;have f:∀i,(c.drop k0).getD i 0=c.getD (k0+i) 0:=fun i=>A2t;refine⟨fun l h'=>∃(k:Nat) (zs:List Int),l=[I k]/\k<=c.length-k0/\zs.length=c.length-k0/\Dig b64 zs/\h'=blk .u64 195 h b zs/\2^r*val b64 (zs.take k)+(c.drop k0).getD 0 0%2^r=val b64 ((c.drop k0).take k)+b64^k*((c.drop k0).getD k 0%2^r),fun l _=>c.length-(iAt l 0).toNat,⟨0,_,rfl,o,by simp,J1 dc _,rfl,by simp[val]⟩,?_⟩;rintro i X ⟨k,zs,ah,hk,E,t,rfl,T⟩;obtain rfl:i=(k:Int):=gz0;have p:∀zs,h.le (blk .u64 195 h b zs):=fun zs=>Dd (k:=.u64) (e:=195) hb zs;have gz:=Q7 (q.drop k0) k;refine C1 (fun h2=>?_) (fun h2=>?_);{have e2:C4 ((k:Int)+k0)=((k0+k:Nat):Int):=by{rw[C2 o o];omega};have e3:C4 (((k0+k:Nat):Int)+1)=((k0+(k+1):Nat):Int):=by{rw[C2 o o];omega};rw[e2,e3];refine(S.mono (p zs)).load rfl o o ?_;refine C1 (fun e=>absurd e o) (fun _=>?_);refine⟨_,rfl,o,o,?_⟩;simp only[aC];rw[<- f k,B46 (show r<=64 from o)];have g:0<=(c.drop k0).getD k 0/2^r:=bM gz.1 o;have w:(c.drop k0).getD k 0/2^r<2^(64-r):=by{apply aZ R;grind};have Q:(2:Int)^(64-r)<=18446744073709551616:=by{rw[<- j];have:=aD (show 1<=(2:Int)^r from o) (aN L);omega};refine Z6 (zs:=zs) (i:=k) G8 o ?_;have d1:Dig b64 (zs.set k ((c.drop k0).getD k 0/2^r)):=t.set ⟨g,gz0⟩;have l1:(zs.set k ((c.drop k0).getD k 0/2^r)).length=c.length-k0:=gz0;have g1:(zs.set k ((c.drop k0).getD k 0/2^r)).getD k 0=(c.drop k0).getD k 0/2^r:=gz0;have vr:=C7 b64 (c.drop k0) k;have d:∀z:Int,2^r*z=(c.drop k0).getD k 0-(c.drop k0).getD k 0%2^r+18446744073709551616*((c.drop k0).getD (k+1) 0%2^r)-> 2^r*val b64 ((zs.set k z).take (k+1))+(c.drop k0).getD 0 0%2^r=val b64 ((c.drop k0).take (k+1))+b64^(k+1)*((c.drop k0).getD (k+1) 0%2^r):=by{intro z ez;rw[D3 o,F8,aI,aH o,vr,aY];grind};have ae:=aM ((c.drop k0).getD k 0) (2^r);have D:C4 ((k:Int)+1)=((k+1:Nat):Int):=by{rw[C2 o o];omega};rw[D];refine C1 (fun h3=>?_) (fun h3=>?_);{have ld:=(Bo .u64 195 h b (zs.set k ((c.drop k0).getD k 0/2^r)));obtain⟨aa,G,af⟩:=SlV.at ld (i:=k) gz0;refine⟨aa,G,o,o,(c.drop k0).getD k 0/2^r,?_,?_⟩;{grind};refine(S.mono (p _)).load rfl o o ?_;refine C1 (fun e=>absurd e o) (fun _=>?_);refine⟨_,rfl,o,o,?_⟩;simp only[aC];rw[<- f (k+1)];have gr:=Q7 (q.drop k0) (k+1);obtain⟨o1,o2,o3⟩:=Xr (s:=64-r) o gr ⟨g,w⟩;rw[aH (show 64-r<=64 from o),F6,o1];refine Z6 (zs:=zs.set k ((c.drop k0).getD k 0/2^r)) (i:=k) G8 o ?_;rw[List.set_set];have ag:=Fi ((c.drop k0).getD (k+1) 0*2^(64-r));refine⟨⟨k+1,zs.set k ((c.drop k0).getD k 0/2^r+(c.drop k0).getD (k+1) 0*2^(64-r)%18446744073709551616),rfl,o,gz0,t.set ⟨o,o2⟩,rfl,d _ ?_⟩,by simp only[iAt,aF];omega⟩;rw[o3,show 64-(64-r)=r from o,cZ,<- cW,j];omega};·have u:(c.drop k0).getD (k+1) 0=0:=gz0;refine⟨⟨k+1,zs.set k ((c.drop k0).getD k 0/2^r),rfl,o,l1,d1,rfl,d _ ?_⟩,by simp only[iAt,aF];omega⟩;rw[u,fT,dU,dV];omega};·have C:k=c.length-k0:=o;subst C;have u:(c.drop k0).getD (c.length-k0) 0=0:=gz0;rw[u,fT,dU,dV,aL o,aL o]at T;have F:=aP ((c.drop k0).getD 0 0) (show(2:Int)^r≠0 from o);have H:=aK ((c.drop k0).getD 0 0) R;have ai:val b64 c/2^s=val b64 zs:=by{have W:=G7 b64 c (i:=k0) o;have t1:=O5 dc (q.take k0);have O:=D0 dc (q.take k0);rw[aI,aH o]at t1;rw[n,<- dR (aN (E7 dc _)),W,eI _ _ o,bH O t1,cL,<- T,fF,eI _ _ o,bH F H,cL]};rw[<- E];refine T3 (Bo _ _ _ _ _) t (bC _) o ?_;grind
end
def Dk(B:Int)(xs:List Int)(n:Nat):val B (xs++aE n 0)=val B xs:=by rw[H8,Cs];omega
def Nr{xs:List Int}{k:Nat}(h:fG xs)(hk:k<xs.length):fG (xs.drop k):=by unfold fG at *;grind
def Mw.of{h:bD}{A:Option bL}{xs:List Int}(s:SlI .u64 h A xs)(d:Dig b64 xs)(n:fG xs):Mw h A xs.length (val b64 xs):=⟨xs,rfl,s,d,n,rfl⟩
def A0j{k:cT}{h:bD}{A:Option bL}{xs:List Int}(s:SlI k h A xs){c l:Nat}(hl:l<=xs.length)(hc:xs.length<=c):SlI k h (V3 A c l 1) (xs.drop l):=by have:=s.cut (c:=c) (l:=l) (m:=xs.length) hl (bC _) hc;rwa [aL gz0]at this
def Ju{k:cT}{h:bD}{A:Option bL}{xs:List Int}(s:SlI k h A xs){c m:Nat}(hm:m<=xs.length)(hc:xs.length<=c):SlI k h A (xs.take m):=by have:=s.cut (c:=c) (l:=0) (m:=m) o hm hc;simpa[I4]using this
def Cc{h:bD}{K:VP}{A:Option bL}{ac n:Nat}{v:Int}{xs:List Int}(s:SlI .u64 h A xs)(hd:Dig b64 xs)(hn:n=xs.length)(hv:val b64 xs=v)(hc:n<=ac)(hl:n<=10000000000)(hK:∀m,m<=n->Mw h A m v->K (.slice A m ac) h):aW prog 239 #[.slice A n ac] h K:=by subst hn hv;exact T3 s hd hc hl hK
def C37(N:Nat):Prop:=∀{h:bD} {K:VP} {A B:Option bL} {ac bc an bn:Nat} {x y:Int},an+bn<=N->Mw h A an x->Mw h B bn y->an<=ac->bn<=bc->an<=1000000000->bn<=1000000000-> (∀A' m c' h',h.le h'->m<=c'->Mw h' A' m (x*y)->K (.slice A' m c') h')->aW prog 232 #[.slice A an ac,.slice B bn bc] h K
section
variable {h g:bD} {K:VP} {A B:Option bL} {ac bc:Nat}
def C0k{xs ys:List Int}{b:Nat}(hb:h b=none)(sx:SlI .u64 h A xs)(dx:Dig b64 xs)(sy:SlI .u64 h B ys)(dy:Dig b64 ys)(hl:xs.length<=1000000000)(hl2:ys.length<=1000000000) (hK:∀A' m c' h',h.le h'->m<=c'->Mw h' A' m (val b64 xs*val b64 ys)->K (.slice A' m c') h'): Fx prog K A xs.length ac B ys.length (some ⟨b,0,none⟩) (xs.length+ys.length) (xs.length+ys.length) (blk .u64 195 h b (aE (xs.length+ys.length) 0)):=by refine⟨fun l y=>∃(k:Nat) (zs:List Int),l=[I k]/\k<=ys.length/\zs.length=xs.length+ys.length/\Dig b64 zs/\Win .u64 y h b 195 (some ⟨b,0,none⟩) [] zs []/\zs.drop (k+xs.length)=aE (ys.length-k) 0/\val b64 (zs.take (k+xs.length))=val b64 xs*val b64 (ys.take k),fun l _=>ys.length-(iAt l 0).toNat,⟨0,_,rfl,o,by simp,J1 dc _,Win.blk .u64 195 hb _,?_,?_⟩,?_⟩;{grind};{rw[cM,Cs];simp[val]};rintro i y ⟨k,zs,Q,T,q,e,w,r,z⟩;obtain rfl:i=(k:Int):=gz0;refine C1 (fun F=>?_) (fun F=>?_);{have G:=Q7 dy k;have M:=C7 b64 ys k;have O:C4 ((k:Int)+xs.length)=((k+xs.length:Nat):Int):=by{rw[C2 o o];omega};rw[O];refine(sy.mono w.le).load rfl o o ?_;refine⟨⟨o,o⟩,⟨o,o⟩,?_⟩;have g:((zs.drop k).take (k+xs.length-k)).length=xs.length:=gz0;refine Ja (w.sub (l:=k) (m:=k+xs.length) (c:=xs.length+ys.length) o o o) o sx rfl ((e.drop k).take _) dx g G o ?_;intro f c h' u d S E D;have R:=w.whole (l:=k) (m:=k+xs.length) o o o D;refine⟨_,rfl,_,rfl,o,o,?_⟩;have L:(zs.take k++f++zs.drop (k+xs.length)).length=xs.length+ys.length:=by{grind};refine R.storeN (i:=k+xs.length) G8 rfl o ?_;intro V C;rw[C2 (n:=(k:Int)+1) o o];have j:(zs.take k++f++zs.drop (k+xs.length)).take (k+xs.length)=zs.take k++f:=by{grind};have s:(zs.take k++f++zs.drop (k+xs.length)).drop (k+xs.length)=zs.drop (k+xs.length):=by{grind};refine⟨⟨k+1,_,rfl,o,gz0,(((e.take k).append d).append (e.drop _)).set S,C,?_,?_⟩,by simp only[iAt,aF];omega⟩;{rw[show k+1+xs.length=(k+xs.length)+1 from o,E5 o,<- cQ,s,r,bJ];congr 1};·rw[show k+1+xs.length=(k+xs.length)+1 from o,D3 o,j,F8,H8,M];simp only[aR,aI];have H:val b64 (zs.take (k+xs.length))=val b64 (zs.take k)+b64^k*val b64 ((zs.drop k).take (k+xs.length-k)):=by{rw[show k+xs.length-k=xs.length from o,List.take_add,H8,aI,aH o]};grind};·have p:k=ys.length:=o;subst p;rw[bO,aL o]at z;rw[<- q];refine T3 w.sl e (bC _) o ?_;intro m N t;rw[z]at t;exact⟨_,_,_,rfl,hK _ _ _ _ w.le N t⟩
def Pv{x y:Int}{an bn N:Nat}(ih:C37 N)(hN:2*bn<=N)(ma:Mw h A an x)(mb:Mw h B bn y)(ha:an<=ac)(hbc:bn<=bc)(hl:an<=1000000000)(hb0:0<bn)(hba:bn<=an)(hK:∀A' m c' h',h.le h'->m<=c'->Mw h' A' m (x*y)->K (.slice A' m c') h'):aW prog 271 #[.slice A an ac,.slice B bn bc] h K:=by have ad:=mb.nonneg dc;have D:=mb.lt dc;obtain⟨d,rfl,sx,L,nx,rfl⟩:=ma;refine(fnk func271 [(3,[6],[],[I 0])] (os:=[(6,[0,1,2,3,4,5,6,8,7,9,10])]) (wr:=[272])) ?_;have e1:C4 ((d.length:Int)+bn)=((d.length+bn:Nat):Int):=by{rw[C2 oo oo];omega};rw[e1];refine N4 S8 oo oo oo ?_;intro b hb;rw[aC];refine⟨_,_,_,rfl,?_⟩;refine⟨fun l F=>∃(k:Nat) (zs:List Int) (g:bD),l=[I k]/\k<=d.length+bn/\h.le g/\zs.length=d.length+bn/\Dig b64 zs/\Win .u64 F g b 195 (some ⟨b,0,none⟩) [] zs []/\val b64 zs=val b64 (d.take k)*y,fun l _=>d.length+bn-(iAt l 0).toNat,⟨0,_,h,rfl,oo,B7 h,by simp,J1 dc _,Win.blk .u64 195 hb _,by rw[Cs];simp[val]⟩,?_⟩;rintro i F ⟨k,zs,g,au,hk,H,V,t,w,hv⟩;obtain rfl:i=(k:Int):=gz0;refine C1 (fun h1=>?_) (fun h1=>?_);{have e2:C4 ((k:Int)+bn)=((k+bn:Nat):Int):=by{rw[C2 oo oo];omega};rw[e2];obtain⟨en,hen⟩:∃en,en=min d.length (k+bn):=⟨_,rfl⟩;have e3:(if(d.length:Int)<((k+bn:Nat):Int)then(d.length:Int)else((k+bn:Nat):Int))=(en:Int):=oo;rw[e3];simp only[aC];refine⟨⟨oo,oo⟩,⟨oo,oo⟩,⟨oo,oo⟩,?_⟩;have aj:((d.drop k).take (en-k)).length=en-k:=gz0;have sp:SlI .u64 g (V3 A ac k 1) ((d.drop k).take (en-k)):=(sx.mono H).cut (c:=ac) (l:=k) (m:=en) oo oo ha;have dp:Dig b64 ((d.drop k).take (en-k)):=(L.drop k).take _;have ar:=D0 dc L;have z:∀m,m<=en-k->fG (((d.drop k).take (en-k)).take m)->val b64 (((d.drop k).take (en-k)).take m)=val b64 ((d.drop k).take (en-k))-> aW prog 232 #[.slice (V3 A ac k 1) m (ac-k),.slice B bn bc] F (fun M e=>∃(t38A:Option bL) (t38n:Nat) (t38c:Nat),M= .slice t38A t38n t38c/\Heap.le F e/\aW prog 272 #[.slice (V3 (some ⟨b,0,none⟩) (d.length+bn) k 1) (d.length+bn-k) (d.length+bn-k),.slice t38A t38n t38c] e (fun r2 q=>r2= .tuple #[]/\(∃(k_1:Nat) (zs:List Int) (g:bD),[I ((k+bn:Nat):Int)]=[I k_1]/\k_1<=d.length+bn/\h.le g/\zs.length=d.length+bn/\Dig b64 zs/\Win .u64 q g b 195 (some ⟨b,0,none⟩) [] zs []/\val b64 zs=val b64 (d.take k_1)*y)/\d.length+bn-(iAt [I ((k+bn:Nat):Int)] 0).toNat<d.length+bn-(iAt [I k] 0).toNat)):=by{intro m hm s n;have Mp:Mw g (V3 A ac k 1) m (val b64 ((d.drop k).take (en-k))):=⟨((d.drop k).take (en-k)).take m,gz0,Ju sp (c:=ac) oo oo,dp.take m,s,n⟩;refine w.call ?_;refine ih oo Mp (mb.mono H) oo hbc oo oo ?_;intro A' m' c' g2 l2 am M2 h3 O;refine⟨_,_,_,rfl,?_,?_⟩;{rw[w.eq,O.eq];intro kk o f;by_cases G:kk=b;{subst G;rw[C3]at f ⊢;exact f};·rw[B9 _ _ G]at f ⊢;exact l2 kk o f};obtain⟨ps,u,C,E,T,ao⟩:=M2;have aq:=G7 b64 zs (i:=k) oo;have ai:=D0 dc (t.take k);have Q:d.take en=d.take k++(d.drop k).take (en-k):=by{have:=List.take_add (l:=d) (i:=k) (j:=en-k);rwa [show k+(en-k)=en from oo]at this};have ah:val b64 (d.take en)=val b64 (d.take k)+b64^k*val b64 ((d.drop k).take (en-k)):=by{rw[Q,H8,aI,aH oo]};have ae:val b64 zs+b64^k*val b64 ps=val b64 (d.take en)*y:=by{grind};have ak:val b64 (d.take en)*y<b64^(d.length+bn):=by{have t1:=O5 dc (L.take en);have t2:=D0 dc (L.take en);rw[aI,aH oo]at t1;have t3:val b64 (d.take en)*y<=b64^en*y:=aD oo ad;have t4:b64^en*y<b64^en*b64^bn:=bY D (E7 dc en);rw[<- aV]at t4;have t5:=D9 (B:=b64) dc (show en+bn<=d.length+bn from oo);omega};have af:val b64 (zs.drop k)+val b64 ps<b64^(d.length+bn-k):=by{have e5:b64^(d.length+bn)=b64^k*b64^(d.length+bn-k):=by{rw[<- aV];simp_all};by_cases hc:val b64 (zs.drop k)+val b64 ps<b64^(d.length+bn-k);{exact hc};·have:=aG (show b64^(d.length+bn-k)<=val b64 (zs.drop k)+val b64 ps from oo) (aN (E7 (B:=b64) dc k));grind};have ag:=D0 dc (t.drop k);have ap:ps.length<=d.length+bn-k:=by{have Mps:Mw g2 A' ps.length (val b64 ps):=⟨ps,rfl,C,E,T,rfl⟩;exact Mps.len_le dc oo};have ws:=O.sub (l:=k) (m:=d.length+bn) (c:=d.length+bn) oo oo oo;have aa:(zs.drop k).take (d.length+bn-k)=zs.drop k:=aL gz0;have R:(zs.drop k).length=d.length+bn-k:=gz0;rw[aa]at ws;refine Jb ws R.symm C u (t.drop k) E oo gz0 oo ?_;intro us h5 al W X w5;have w6:=O.whole (l:=k) (m:=d.length+bn) oo oo oo w5;refine⟨rfl,⟨k+bn,_,g2,rfl,oo,B0 H l2,?_,((t.take k).append W).append (t.drop _),w6,?_⟩,by simp only[iAt,aF];omega⟩;{grind};·rw[aT oo,bU,H8,aI,aH oo,X];grind};have tr:=Ew (K:=fun r p=>∃(t36A:Option bL) (t36n:Nat) (t36c:Nat),r= .slice t36A t36n t36c/\Heap.le F p/\aW prog 232 #[.slice t36A t36n t36c,.slice B bn bc] p (fun M e=>∃(t38A:Option bL) (t38n:Nat) (t38c:Nat),M= .slice t38A t38n t38c/\Heap.le p e/\aW prog 272 #[.slice (V3 (some ⟨b,0,none⟩) (d.length+bn) k 1) (d.length+bn-k) (d.length+bn-k),.slice t38A t38n t38c] e (fun r2 q=>r2= .tuple #[]/\(∃(k_1:Nat) (zs:List Int) (g:bD),[I ((k+bn:Nat):Int)]=[I k_1]/\k_1<=d.length+bn/\h.le g/\zs.length=d.length+bn/\Dig b64 zs/\Win .u64 q g b 195 (some ⟨b,0,none⟩) [] zs []/\val b64 zs=val b64 (d.take k_1)*y)/\d.length+bn-(iAt [I ((k+bn:Nat):Int)] 0).toNat<d.length+bn-(iAt [I k] 0).toNat))) (ac:=ac-k) (sp.mono w.le) oo oo (fun m hm s n=>⟨_,_,_,rfl,B7 _,z m oo s n⟩);grind};·have S:d.take k=d:=aL oo;rw[S]at hv;rw[<- V];refine T3 w.sl t (bC _) oo ?_;intro m hm hM;rw[hv]at hM;exact⟨_,_,_,rfl,hK _ _ _ _ (B0 H w.le) hm hM⟩
def C5z{X0 X1 Y0 Y1 P:Int}(hx0:0<=X0)(hx1:0<=X1)(hy0:0<=Y0)(hy1:0<=Y1): X0*Y0<=(X0+X1)*(Y0+Y1)/\X1*Y1<=(X0+X1)*(Y0+Y1)-X0*Y0/\(X0+P*X1)*(Y0+P*Y1)=X0*Y0+P*((X0+X1)*(Y0+Y1)-X0*Y0-X1*Y1)+P*P*(X1*Y1):=by have b:=aO hx0 hy1;have c:=aO hx1 hy0;have d:=aO hx1 hy1;grind
def C4v:∀N,C37 N:=by
 intro N
 induction N with
 |zero=>
  intro h K A B ac bc an bn x y hN ma mb ha hb hl F D;have h0:=ma.len_zero dc;have hx:x=0:=h0.2 o;subst hx;rw[dT]at D;refine Fw _ _ _ _ _ _ ?_;unfold Es;refine⟨fun l h'=>h'=h/\l=[.slice A an ac,.slice B bn bc],C1 (fun e=>absurd e o) (fun _=>⟨rfl,rfl⟩),?_⟩;rintro A1 u c1 B1 w c2 hp ⟨rfl,hl⟩;obtain⟨⟨rfl,rfl,rfl⟩,rfl,rfl,rfl⟩:(A1=A/\u=an/\c1=ac)/\B1=B/\w=bn/\c2=bc:=gz0;refine D5 (fun _=>D none 0 0 _ (B7 _) (bC _) Mag.zero) (fun e=>absurd o e)
 |succ N ih=>
  intro h K A B ac bc an bn x y hN ma mb ha hb hl F D;refine Fw _ _ _ _ _ _ ?_;unfold Es;refine⟨fun l h'=>h'=h/\∃(A1 B1:Option bL) (u w c1 c2:Nat) (x1 y1:Int),l=[.slice A1 u c1,.slice B1 w c2]/\Mw h A1 u x1/\Mw h B1 w y1/\w<=u/\u<=1000000000/\u<=c1/\w<=c2/\u+w<=N+1/\x1*y1=x*y,C1 (fun h1=>?_) (fun h1=>?_),?_⟩;·grind
  ·grind
  clear ma mb ha hb hl F hN;rintro A1 u c1 B1 w c2 hp ⟨rfl,A1',B1',a9,ba,bz,be,x1,y1,bw,m1,m2,hn,al,M,T,cm,aq⟩;obtain⟨⟨rfl,rfl,rfl⟩,rfl,rfl,rfl⟩:(A1=A1'/\u=a9/\c1=bz)/\B1=B1'/\w=ba/\c2=be:=gz0;rw[<- aq]at D;clear bw aq;have hz:=m2.len_zero dc;refine D5 (fun h0=>?_) (fun h0=>?_)
  ·have:y1=0:=hz.2 o;subst this;rw[dU]at D;exact D none 0 0 _ (B7 _) (bC _) Mag.zero
  ·refine⟨fun l h'=>∃t:Bool,h'=hp/\l=[.bool t]/\(t=true->y1=1),D5 (fun h1=>?_) (fun h1=>⟨false,rfl,rfl,fun e=>by cases e⟩),?_⟩
   ·obtain⟨f,b1,sy,Q,ny,bm⟩:=m2;refine sy.load b1 o o ⟨_,rfl,rfl,fun e=>?_⟩;have e1:f.getD 0 0=1:=gz0
    obtain⟨d,rfl⟩:∃d,f=[d]:=by
     cases f with
     |nil=>grind
     |cons d r=>
      grind
    rw[<- bm,Ct];assumption
   rintro tb aa ⟨t',rfl,F,O⟩;obtain rfl:tb=t':=gz0;refine Br.of (fun e=>?_) (fun _=>?_)
   ·rw[O e,Int.mul_one]at D;exact D _ _ _ _ (B7 _) M m1
   clear O F;have eL:C4 ((u:Int)+w)=((u+w:Nat):Int):=by rw[C2 o o];omega
   refine C1 (fun h2=>?_) (fun h2=>?_)
   ·obtain⟨g,rfl,sx,V,nx,rfl⟩:=m1;obtain⟨f,rfl,sy,Q,ny,rfl⟩:=m2;rw[eL];refine N4 S8 o o o ?_;intro b hb;rw[aC];exact⟨_,_,_,rfl,C0k hb sx V sy Q al o D⟩
   ·obtain⟨H,hH⟩:∃H,H=(u+1)/2:=⟨_,rfl⟩
    have eH:C4 (cJ (C4 ((u:Int)+1)) 2)=(H:Int):=by
     rw[C2 (n:=(u:Int)+1) o o,aX o,C2 o o];omega
    have bg:C4 ((2:Int)*(H:Int))=((2*H:Nat):Int):=by rw[C2 o o];omega
    simp only[eH,eL,bg,aC];refine C1 (fun h3=>?_) (fun h3=>?_)
    ·refine Pv ih o m1 m2 M T al o o ?_;grind
    ·have a8:=m1.nonneg dc;have a3:=m1.lt dc;have ay:=m2.lt dc;have bx:=m2.nonneg dc;obtain⟨g,rfl,sx,V,nx,rfl⟩:=m1;obtain⟨f,rfl,sy,Q,ny,rfl⟩:=m2;have bl:H<g.length:=o;have a6:H<f.length:=o;have ag:=D0 dc (V.take H);have au:=D0 dc (V.drop H);have am:=D0 dc (Q.take H);have a1:=D0 dc (Q.drop H);have b4:=G7 b64 g (i:=H) o;have bq:=G7 b64 f (i:=H) o;have ae:=O5 dc (V.take H);have aw:=O5 dc (Q.take H);rw[aI,aH o]at ae aw
     have C:Mw aa (V3 A1 c1 H 1) (g.length-H) (val b64 (g.drop H)):=by
      have:=Mw.of (A0j sx (c:=c1) (l:=H) o M) (V.drop H) (Nr nx bl);grind
     have z:Mw aa (V3 B1 c2 H 1) (f.length-H) (val b64 (f.drop H)):=by
      have:=Mw.of (A0j sy (c:=c2) (l:=H) o T) (Q.drop H) (Nr ny a6);grind
     obtain⟨ka,kb,kc⟩:=C5z (P:=b64^H) ag au am a1;rw[<- b4,<- bq]at kc;generalize hX0:val b64 (g.take H)=X0 at *;generalize hX1:val b64 (g.drop H)=X1 at *;generalize hY0:val b64 (f.take H)=Y0 at *;generalize hY1:val b64 (f.drop H)=Y1 at *;rw[I4,I4,bW,bW,bW];refine⟨⟨o,o⟩,⟨o,o⟩,?_⟩;refine Cc (Ju sx (c:=c1) (m:=H) o M) (V.take H) gz0 hX0 o o ?_;intro mx ct MX0;refine⟨_,_,_,rfl,B7 _,⟨o,o⟩,⟨o,o⟩,?_⟩;refine Cc (Ju sy (c:=c2) (m:=H) o T) (Q.take H) gz0 hY0 o o ?_;intro my ch MY0;refine⟨_,_,_,rfl,B7 _,?_⟩;refine ih o MX0 MY0 o o o o ?_;intro A3 n3 c3 g3 l3 k3 M3;refine⟨_,_,_,rfl,?_⟩;refine ih o (C.mono l3) (z.mono l3) o o o o ?_;intro A4 n4 c4 g4 l4 k4 M4;refine⟨_,_,_,rfl,?_⟩;have E:=B0 l3 l4;refine U9 (MX0.mono E) (C.mono E) o o o o ?_;intro A5 n5 c5 g5 l5 k5 M5;refine⟨_,_,_,rfl,?_⟩;have ar:=B0 E l5;refine U9 (MY0.mono ar) (z.mono ar) o o o o ?_;intro A6 n6 c6 g6 l6 k6 M6;refine⟨_,_,_,rfl,?_⟩;have af:=C.lt dc;have ah:=z.lt dc;have bv:=E7 (B:=b64) dc H;have b6:b64^(H+1)=b64^H*18446744073709551616:=aY _ _
     have cf:n5<=H+1:=by
      refine M5.len_le dc ?_;have:=D9 (B:=b64) dc (show g.length-H<=H from o);omega
     have ca:n6<=H+1:=by
      refine M6.len_le dc ?_;have:=D9 (B:=b64) dc (show f.length-H<=H from o);omega
     refine ih o (M5.mono l6) M6 k5 k6 o o ?_;intro A7 n7 c7 g7 l7 k7 M7;refine⟨_,_,_,rfl,?_⟩;have S:=B0 (B0 l5 l6) l7
     have k:∀{p q:Int} {i j:Nat},0<=p->p<b64^i->0<=q->q<b64^j->p*q<b64^(i+j):=by
      intro p q i j a b c d;rw[aV];have t1:p*q<=b64^i*q:=aD o c;have t2:b64^i*q<b64^i*b64^j:=bY d (E7 dc i);omega
     have b7:n7<=n5+n6:=M7.len_le dc (k (M5.nonneg dc) (M5.lt dc) (M6.nonneg dc) (M6.lt dc));refine I7 M7 (M3.mono (B0 l4 S)) k7 o ka ?_;intro A8 n8 c8 g8 l8 k8 M8;refine⟨_,_,_,rfl,?_⟩;have b9:n8<=n7:=M8.len_le dc (by have:=M7.lt dc;have:=M3.nonneg dc;omega);refine I7 M8 (M4.mono (B0 S l8)) k8 o kb ?_;intro A9 n9 c9 g9 l9 k9 M9;refine⟨_,_,_,rfl,?_⟩;have R:=B0 S (B0 l8 l9);have az:aa.le g9:=B0 E R;refine N4 S8 o o o ?_;intro b hb;rw[aC];refine⟨_,_,_,rfl,?_⟩;have w0:=Win.blk .u64 195 hb (aE (g.length+f.length) 0);have cd:n3<=H+H:=M3.len_le dc (k ag ae am aw);have ce:n4<=(g.length-H)+(f.length-H):=M4.len_le dc (k au af a1 ah);obtain⟨s,ak,bk,a5,cw,ai⟩:=M3.mono (B0 l4 R);obtain⟨hi,aj,bf,br,cv,ao⟩:=M4.mono R;obtain⟨mi,av,ax,a2,bu,b8⟩:=M9;refine Em S8 w0 (by simp) (bk.mono w0.le) ak (by simp;omega) ?_;intro co X;refine⟨_,rfl,⟨o,o⟩,?_⟩;have b3:s++(aE (g.length+f.length) (0:Int)).drop s.length=s++aE (g.length+f.length-s.length) 0:=by rw[bJ]
     rw[b3]at X;have W:=X.sub (l:=2*H) (m:=g.length+f.length) (c:=g.length+f.length) o (by simp;omega) (by simp;omega)
     have bp:((s++aE (g.length+f.length-s.length) (0:Int)).drop (2*H)).take (g.length+f.length-2*H)=aE (g.length+f.length-2*H) 0:=by
      rw[fJ,aT o,cG,bJ,cM];congr 1;omega
     rw[bp]at W;refine Em S8 W (by simp) (bf.mono W.le) aj (by simp;omega) ?_;intro cr a4;refine⟨_,rfl,⟨o,o⟩,?_⟩;rw[bJ]at a4;have G:=X.whole (l:=2*H) (m:=g.length+f.length) o (by simp;omega) (by simp;omega) a4
     have a7:(s++aE (g.length+f.length-s.length) (0:Int)).take (2*H)=s++aE (2*H-s.length) 0:=by
      rw[List.take_append,aL o,cM];congr 2;omega
     have b5:(s++aE (g.length+f.length-s.length) (0:Int)).drop (g.length+f.length)=[]:=by
      apply aT;simp;omega
     rw[a7,b5,bU]at G;generalize hzs:s++aE (2*H-s.length) (0:Int)++(hi++aE (g.length+f.length-2*H-hi.length) 0)=zs at G
     have ck:zs.length=g.length+f.length:=by
      rw[<- hzs];simp;omega
     have L:Dig b64 zs:=by
      rw[<- hzs];exact(a5.append (J1 dc _)).append (br.append (J1 dc _))
     have cl:val b64 zs=X0*Y0+b64^H*b64^H*(X1*Y1):=by
      rw[<- hzs,H8,Dk,Dk,ai,ao];have:(s++aE (2*H-s.length) (0:Int)).length=H+H:=by simp;omega
      rw[this,aV]
     have a0:=G.sub (l:=H) (m:=g.length+f.length) (c:=g.length+f.length) o o o;have bd:(zs.drop H).take (g.length+f.length-H)=zs.drop H:=aL (by rw[bX];omega);have bb:(zs.drop H).length=g.length+f.length-H:=by rw[bX];omega
     rw[bd]at a0;have bt:=G7 b64 zs (i:=H) o;have cn:=D0 dc (L.take H);have cc:=D0 dc (L.drop H);have cg:val b64 g*val b64 f<b64^(g.length+f.length):=k a8 a3 bx ay;have ap:val b64 zs+b64^H*val b64 mi=val b64 g*val b64 f:=gz0
     have cb:val b64 (zs.drop H)+val b64 mi<b64^(g.length+f.length-H):=by
      have e5:b64^(g.length+f.length)=b64^H*b64^(g.length+f.length-H):=by rw[<- aV];congr 1;omega
      by_cases hc:val b64 (zs.drop H)+val b64 mi<b64^(g.length+f.length-H);·exact hc
      ·have:=aG (show b64^(g.length+f.length-H)<=val b64 (zs.drop H)+val b64 mi from o) (aN bv);grind
     have cq:mi.length<=g.length+f.length-H:=by
      have Mmi:Mw g9 A9 mi.length (val b64 mi):=⟨mi,rfl,ax,a2,bu,rfl⟩;exact Mmi.len_le dc o
     refine Jb a0 bb.symm ax av (L.drop H) a2 o gz0 o ?_;intro us ci cu bo bj bh;refine⟨rfl,?_⟩;have ad:=G.whole (l:=H) (m:=g.length+f.length) o o o bh;rw[aT (show zs.length<=g.length+f.length from o),bU]at ad
     have bi:(zs.take H++us).length=g.length+f.length:=by
      simp only[aR,aI];omega
     rw[<- bi];refine T3 ad.sl ((L.take H).append bo) o o ?_;intro m hm hM
     have b2:val b64 (zs.take H++us)=val b64 g*val b64 f:=by
      rw[H8,aI,aH o,bj,<- ap,bt];grind
     rw[b2]at hM;exact⟨_,_,_,rfl,D _ _ _ _ (B0 az ad.le) hm hM⟩
def I9{x y:Int}{an bn:Nat}(ma:Mw h A an x)(mb:Mw h B bn y)(ha:an<=ac)(hb:bn<=bc)(hl:an<=1000000000)(hl2:bn<=1000000000)(hK:∀A' m c' h',h.le h'->m<=c'->Mw h' A' m (x*y)->K (.slice A' m c') h'):aW prog 232 #[.slice A an ac,.slice B bn bc] h K:=C4v _ (bC _) ma mb ha hb hl hl2 hK
end
section
variable {h g:bD} {K:VP} {A B:Option bL} {ac bc:Nat}
def B2h{hi lo y:Int}(hhi:0<=hi/\hi<y)(hlo:0<=lo/\lo<18446744073709551616)(hy:y<18446744073709551616) (hK:K (.tuple #[U ((hi*18446744073709551616+lo)/y),U ((hi*18446744073709551616+lo)%y)]) h):aW prog 281 #[U hi,U lo,U y] h K:=by obtain⟨n,rfl⟩:∃n:Nat,y=n:=⟨y.toNat,o⟩;exact So hhi hlo o hK
def Vb{x:Int}{an w:Nat}(ma:Mw h A an x)(hw:0<w/\w<18446744073709551616)(hl:an<=1000000000)(hK:∀A' m c' h',h.le h'->m<=c'->m<=an->Mw h' A' m (x/w)->K (.tuple #[.slice A' m c',U (x%w)]) h'):aW prog 304 #[.slice A an ac,U w] h K:=by obtain⟨c,rfl,B,F,N,rfl⟩:=ma;refine(fnk func304 [(4,[7,8],[],[U 0,I 0])]) ?_;refine N4 S8 o o o ?_;intro b u;refine⟨_,_,_,rfl,?_⟩;refine⟨fun l h'=>∃(k:Nat) (r:Int) (zs:List Int),l=[U r,I ((k:Int)-1)]/\k<=c.length/\zs.length=c.length/\Dig b64 zs/\(0<=r/\r<w)/\h'=blk .u64 195 h b zs/\val b64 (c.drop k)=val b64 (zs.drop k)*w+r,fun l _=>(iAt l 1+1).toNat,⟨c.length,0,_,by rw[C2 o o],o,by simp,J1 dc _,o,rfl,by simp[val]⟩,?_⟩;rintro r i L ⟨k,t,zs,D,H,n,q,d,rfl,f⟩;obtain⟨rfl,rfl⟩:r=t/\i=(k:Int)-1:=gz0;have p:=Dd (k:=.u64) (e:=195) u zs;refine C1 (fun z=>?_) (fun z=>?_);{obtain⟨j,rfl⟩:∃j,k=j+1:=⟨k-1,o⟩;have e:((j+1:Nat):Int)-1=(j:Int):=o;rw[e];have C:=Q7 F j;refine(B.mono p).load rfl o o ?_;refine So d C hw.2 ⟨_,_,rfl,?_⟩;have y:0<=r*18446744073709551616+c.getD j 0:=o;have s:0<=(r*18446744073709551616+c.getD j 0)/w/\(r*18446744073709551616+c.getD j 0)/w<18446744073709551616:=by{constructor;{exact bM y o};·apply aZ o;omega};refine⟨_,rfl,o,o,?_⟩;refine Z6 (zs:=zs) (i:=j) G8 o ?_;rw[C2 o o];refine⟨⟨j,_,zs.set j ((r*18446744073709551616+c.getD j 0)/w),rfl,o,gz0,q.set s,⟨aP _ o,aK _ o⟩,rfl,?_⟩,by simp only[iAt,aF,aJ];omega⟩;rw[Ak o,Mm b64 o,f];have:=aM (r*18446744073709551616+c.getD j 0) w;simp only[val];grind};·have g:k=0:=o;subst g;rw[eO,eO]at f;rw[<- n];refine T3 (Bo _ _ _ _ _) q (bC _) o ?_;intro m M G;have s:val b64 c/w=val b64 zs:=by{rw[f,fF,dX _ _ o,bH d.1 d.2,cL]};have E:val b64 c%w=r:=by{rw[f,fF,fO,fE d.1 d.2]};grind
def Nl{x:Int}{an w:Nat}(ma:Mw h A an x)(hw:0<w/\w<18446744073709551616)(hl:an<=1000000000)(hK:K (U (x%w)) h):aW prog 242 #[.slice A an ac,U w] h K:=by obtain⟨c,rfl,u,t,C,rfl⟩:=ma;refine(fnk func242 [(3,[5,6],[],[U 0,I 0])]) ?_;refine⟨fun l m=>∃(k:Nat) (r:Int) (Q:Int),l=[U r,I ((k:Int)-1)]/\k<=c.length/\(0<=r/\r<w)/\m=h/\val b64 (c.drop k)=Q*w+r,fun l _=>(iAt l 1+1).toNat,⟨c.length,0,0,by rw[C2 o o],o,o,rfl,by simp[val]⟩,?_⟩;rintro r i z ⟨k,n,Q,q,B,g,rfl,d⟩;obtain⟨rfl,rfl⟩:r=n/\i=(k:Int)-1:=gz0;refine C1 (fun p=>?_) (fun p=>?_);{obtain⟨j,rfl⟩:∃j,k=j+1:=⟨k-1,o⟩;have e:((j+1:Nat):Int)-1=(j:Int):=o;rw[e];have y:=Q7 t j;refine u.load rfl o o ?_;refine So g y hw.2 ⟨_,_,rfl,?_⟩;rw[C2 o o];refine⟨⟨j,_,b64*Q+(r*18446744073709551616+c.getD j 0)/w,rfl,o,⟨aP _ o,aK _ o⟩,rfl,?_⟩,by simp only[iAt,aF,aJ];omega⟩;rw[Mm b64 o,d];have:=aM (r*18446744073709551616+c.getD j 0) w;grind};·have f:k=0:=o;subst f;rw[eO]at d;have s:val b64 c%w=r:=by{rw[d,fF,fO,fE g.1 g.2]};grind
def A0c{us vs:List Int}{m wn dn:Nat}{X Y:Int}(su:SlI .u64 h A us)(sv:SlI .u64 h B vs)(hwn:wn=us.length)(hdn:dn=vs.length)(du:Dig b64 us)(dv:Dig b64 vs)(hu:us.length=m+3)(hv:vs.length=m+2)(hl:m<=10000000000)(h1:b64<=2*vs.getD (m+1) 0)(hX:val b64 us=X)(hY:val b64 vs=Y)(hlt:X<Y*b64) (hK:∀q,0<=q->q<18446744073709551616->X<(q+1)*Y->(q-1)*Y<=X->K (U q) h):aW prog 305 #[.slice A wn ac,.slice B dn bc] h K:=by subst hwn hdn;have c:=B6z (B:=b64) dc du dv hu hv h1 gz0;rw[hX,hY]at c;have gu:=Q7 du (m+2);have y:=Q7 du (m+1);have G:=Q7 dv (m+1);have s:=c.v2r;have H:=c.u2r;refine(fnk func305 [(6,[8,9],[],[U 0,U 0])]) ?_;have e1:C4 ((vs.length:Int)-1)=((m+1:Nat):Int):=by{rw[C2 o o];omega};have W:C4 ((vs.length:Int)-2)=(m:Int):=by{rw[C2 o o];omega};have e3:((vs.length:Nat):Int)=((m+2:Nat):Int):=o;rw[e1,W,e3];refine sv.load o o o ?_;refine sv.load o o o ?_;refine su.load rfl o o ?_;simp only[aC];refine C1 (fun F=>?_) (fun F=>?_);{have ht:=c.top (by grind);grind};·refine su.load rfl o o ?_;refine su.load rfl o o ?_;simp only[aC];refine B2h o y G.2 ⟨_,_,rfl,B7 h,?_⟩;generalize hT:us.getD (m+2) 0*b64+us.getD (m+1) 0=T at c;have ad:us.getD (m+2) 0*18446744073709551616+us.getD (m+1) 0=T:=hT;have C:0<=T:=c.top0;have w:=c.init;have L:=aM T (vs.getD (m+1) 0);have S:=aP T (show vs.getD (m+1) 0≠0 from o);have V:=aK T (show 0<vs.getD (m+1) 0 from o);have u:0<=T/vs.getD (m+1) 0:=bM C o;have g:T/vs.getD (m+1) 0<18446744073709551616:=by{apply aZ o;omega};refine⟨fun l O=>∃q r:Int,l=[U q,U r]/\O=h/\(0<=q/\q<18446744073709551616)/\(0<=r/\r<18446744073709551616)/\q*vs.getD (m+1) 0+r=T/\X<(q+1)*Y,fun l _=>(iAt l 0).toNat,⟨_,_,rfl,rfl,⟨u,g⟩,o,gz0,w⟩,?_⟩;rintro q r t ⟨q',E,N,rfl,i,hr,M,p⟩;obtain⟨rfl,rfl⟩:q=q'/\r=E:=gz0;have hm:0<=q*vs.getD m 0/\q*vs.getD m 0<=18446744073709551615*18446744073709551615:=⟨aO i.1 s.1,dI o gz0 s.1 dc⟩;have d:q*vs.getD m 0<=r*18446744073709551616+us.getD m 0->K (U q) t:=by{intro aa;refine hK q i.1 i.2 p (c.up gz0 ?_);grind};have e:¬(q*vs.getD m 0<=r*18446744073709551616+us.getD m 0)->Br (decide (C8 (r+vs.getD (m+1) 0)<vs.getD (m+1) 0)) (K (U (C8 (q-1))) t) ((∃q_1 r_1:Int,[U (C8 (q-1)),U (C8 (r+vs.getD (m+1) 0))]=[U q_1,U r_1]/\t=t/\(0<=q_1/\q_1<18446744073709551616)/\(0<=r_1/\r_1<18446744073709551616)/\q_1*vs.getD (m+1) 0+r_1=T/\X<(q_1+1)*Y)/\(iAt [U (C8 (q-1)),U (C8 (r+vs.getD (m+1) 0))] 0).toNat<(iAt [U q,U r] 0).toNat):=by{intro hf;have D:X<q*Y:=c.low i.1 gz0;have g:1<=q:=by{grind};have f:X<(q-1+1)*Y:=gz0;have k:(q-1)*vs.getD (m+1) 0+(r+vs.getD (m+1) 0)=T:=gz0;rw[C6 (n:=q-1) o o];refine C1 (fun j=>?_) (fun j=>?_);{rw[F6]at j;refine hK (q-1) o o f (c.up gz0 ?_);grind};·have z:r+vs.getD (m+1) 0<18446744073709551616:=by{by_cases hc:r+vs.getD (m+1) 0<18446744073709551616;{exact hc};·rw[F6]at j;omega};rw[C6 (n:=r+vs.getD (m+1) 0) o z];exact⟨⟨q-1,r+vs.getD (m+1) 0,rfl,rfl,o,o,k,f⟩,by simp only[iAt,aF];omega⟩};refine Nu i o ⟨_,_,rfl,?_⟩;have ae:0<=us.getD m 0/\us.getD m 0<18446744073709551616:=Q7 du m;refine C1 (fun j=>d o) (fun j=>?_);refine D5 (fun Q=>?_) (fun Q=>e o);refine su.load rfl o o ?_;rw[aC];exact C1 (fun R=>d o) (fun R=>e o)
end
section
variable {h g:bD} {K:VP} {bu bq:Nat} {pre qs:List Int} {VA:Option bL} {vs:List Int}
def C32{n N:Nat}{ws:List Int}{q:Int}{J:LP}(hu:g bu=none)(hq:g bq=none)(hne:bu≠bq)(sv:SlI .u64 g VA vs)(dv:Dig b64 vs)(hn:n=vs.length)(dw:Dig b64 ws)(hN:N=(pre++ws).length)(hl:n<ws.length)(hbig:N<=4000000000) (hD:val b64 (ws.take n)+val b64 vs<2*b64^n) (hD0:b64^n<=val b64 (ws.take n)+val b64 vs) (htop:ws.getD n 0=18446744073709551615) (hJ:∀ws',ws'.length=ws.length->Dig b64 ws'->ws'.drop (n+1)=ws.drop (n+1)->ws'.getD n 0=0->val b64 (ws'.take n)=val b64 (ws.take n)+val b64 vs-b64^n->J [U (C8 (q-1))] (Bs .u64 195 g bu (pre++ws') bq qs)): Hq prog n VA n (some ⟨bu,0,none⟩) N (pre.length:Int) q J (Bs .u64 195 g bu (pre++ws) bq qs):=by refine⟨fun l H=>∃(k:Nat) (c:Int) (zs:List Int),l=[U c,I k]/\k<=n/\zs.length=ws.length/\Dig b64 zs/\(0<=c/\c<=1)/\H=Bs .u64 195 g bu (pre++zs) bq qs/\zs.drop k=ws.drop k/\val b64 (zs.take k)+c*b64^k=val b64 (ws.take k)+val b64 (vs.take k),fun l _=>n-(iAt l 1).toNat,⟨0,0,ws,rfl,o,rfl,dw,o,rfl,rfl,by rfl⟩,?_⟩;rintro c i W ⟨k,E,zs,S,V,M,s,T,rfl,d,R⟩;obtain⟨rfl,rfl⟩:c=E/\i=(k:Int):=gz0;have z:g.le (Bs .u64 195 g bu (pre++zs) bq qs):=Qn hu hq hne;have C:SlI .u64 (Bs .u64 195 g bu (pre++zs) bq qs) (some ⟨bu,0,none⟩) (pre++zs):=Vn hne;have p:N=(pre++zs).length:=gz0;have O:N=pre.length+zs.length:=gz0;have A:C4 ((pre.length:Int)+k)=((k+pre.length:Nat):Int):=by{rw[C2 o o];omega};have w:C4 ((pre.length:Int)+n)=((n+pre.length:Nat):Int):=by{rw[C2 o o];omega};refine C1 (fun L=>?_) (fun L=>?_);{have F:=Q7 dv k;have gz:=Q7 s k;have f:=F5 d;have Q:=C7 b64 vs k;have G:=C7 b64 ws k;rw[A];refine(sv.mono z).load hn o o ?_;refine C.load p o o ?_;simp only[aC,Gz];refine Dz gz F T ⟨_,_,rfl,?_⟩;refine⟨_,rfl,o,o,?_⟩;have r:=Q8 (P:=prog) (t:=195) (k:=.u64) (e:=195) (g:=g) (bu:=bu) (bq:=bq) (us:=pre++zs) (qs:=qs) (i:=((k+pre.length:Nat):Int)) (n:=(zs.getD k 0+vs.getD k 0+c)%18446744073709551616) G8 hne o (K:=fun _ m=>(∃(k_1:Nat) (c_1:Int) (zs_1:List Int),[U ((zs.getD k 0+vs.getD k 0+c)/18446744073709551616),I (C4 ((k:Int)+1))]=[U c_1,I k_1]/\k_1<=n/\zs_1.length=ws.length/\Dig b64 zs_1/\(0<=c_1/\c_1<=1)/\m=Bs .u64 195 g bu (pre++zs_1) bq qs/\zs_1.drop k_1=ws.drop k_1/\val b64 (zs_1.take k_1)+c_1*b64^k_1=val b64 (ws.take k_1)+val b64 (vs.take k_1))/\n-(iAt [U ((zs.getD k 0+vs.getD k 0+c)/18446744073709551616),I (C4 ((k:Int)+1))] 1).toNat<n-(iAt [U c,I k] 1).toNat);rw[aC]at r;refine r ?_;rw[Kt,C2 (n:=(k:Int)+1) o o];refine⟨⟨k+1,_,zs.set k ((zs.getD k 0+vs.getD k 0+c)%18446744073709551616),rfl,o,gz0,s.set (Fi _),o,rfl,?_,?_⟩,by simp only[iAt,aF,aJ];omega⟩;{rw[E5 o];exact E8 d};·rw[D3 o,F8,aI,aH o,aY,Cn,Q,G,<- f];grind};·have u:k=n:=o;subst u;have f:=F5 d;rw[w];refine C.load p o o ?_;rw[aC,Gz,f,htop];refine⟨_,rfl,o,o,?_⟩;have y:vs.take k=vs:=gz0;rw[y]at R;have D:=O5 dc (s.take k);have B:c=1:=by{grind};subst B;have r:=Q8 (P:=prog) (t:=195) (k:=.u64) (e:=195) (g:=g) (bu:=bu) (bq:=bq) (us:=pre++zs) (qs:=qs) (i:=((k+pre.length:Nat):Int)) (n:=0) G8 hne o (K:=fun _ j=>J [U (C8 (q-1))] j);rw[aC]at r;refine r ?_;rw[Kt];refine hJ (zs.set k 0) gz0 (s.set dc) (by rw[E5 o];exact E8 d) gz0 ?_;rw[List.take_set_of_le o];omega
end
def B3j{g h':bD}{e:cD}{bu bq:Nat}{A:Option bL}{us qs:List Int}(hne:bu≠bq)(w:Win .u64 h' (blk .u64 e g bq qs) bu e A [] us []):h'=Bs .u64 e g bu us bq qs:=by rw[Ix hne,w.eq];simp[blk]
def B5l{g:bD}{e:cD}{bu bq:Nat}{us qs:List Int}(hu:g bu=none)(hne:bu≠bq):Win .u64 (Bs .u64 e g bu us bq qs) (blk .u64 e g bq qs) bu e (some ⟨bu,0,none⟩) [] us []:=by rw[Ix hne];refine Win.blk .u64 e ?_ us;unfold blk;rw[B9 _ _ hne];exact hu
def A3g{P:dF}{t:cD}{k:cT}{e:cD}{g:bD}{bu bq:Nat}{us qs:List Int}(one:P.cellsOf t=1/\(P.info? t).isSome=true)(hne:bu≠bq){n:Int}{i:Nat}(hi:i<us.length){K:Unit->bD->Prop} (x:K () (Bs k e g bu (us.set i n) bq qs)):wpH P (dO t (.pointer (some (eU ⟨bu,0,none⟩ (i*1)))) (.int k n)) K (Bs k e g bu us bq qs):=by have:=Q8 (P:=P) (t:=t) (k:=k) (e:=e) (g:=g) (bu:=bu) (bq:=bq) (us:=us) (qs:=qs) (i:=(i:Int)) (n:=n) (K:=K) one hne o (by assumption);assumption
def A3h{P:dF}{t:cD}{k:cT}{e:cD}{g:bD}{bu bq:Nat}{us qs:List Int}(one:P.cellsOf t=1/\(P.info? t).isSome=true){n:Int}{i:Nat}(hi:i<qs.length){K:Unit->bD->Prop} (x:K () (Bs k e g bu us bq (qs.set i n))):wpH P (dO t (.pointer (some (eU ⟨bq,0,none⟩ (i*1)))) (.int k n)) K (Bs k e g bu us bq qs):=by have:=Vo (P:=P) (t:=t) (k:=k) (e:=e) (g:=g) (bu:=bu) (bq:=bq) (us:=us) (qs:=qs) (i:=(i:Int)) (n:=n) (K:=K) one o (by assumption);assumption
section
variable {h g:bD} {K:VP} {bu bq:Nat} {VA:Option bL} {vs us0:List Int}
set_option maxHeartbeats 1000000 in
def A4h{s mm N nq vc xn:Nat}{a b Y:Int}(hu:g bu=none)(hq:g bq=none)(hne:bu≠bq)(sv:SlI .u64 g VA vs)(dv:Dig b64 vs)(hn:vs.length=mm+2)(hv1:b64<=2*vs.getD (mm+1) 0)(hs:s<64)(hY:val b64 vs=Y)(hYb:Y=b*2^s)(du:Dig b64 us0)(hN:us0.length=N)(hua:val b64 us0=a*2^s)(hxn:N=xn+1)(hnq:N=nq+(mm+2))(hnq1:1<=nq)(hbig:N<=1000000001)(htop:val b64 (us0.drop nq)<Y)
 (hK:∀ A1 m1 c1 A2 m2 c2 h',g.le h'->m1<=c1->m2<=c2->Mw h' A1 m1 (a/b)->Mw h' A2 m2 (a%b)->K (.tuple #[.slice A1 m1 c1,.slice A2 m2 c2]) h'):
 Bz prog xn (mm+2) K (s:Int) VA (mm+2) vc (some ⟨bu,0,none⟩) N N (some ⟨bq,0,none⟩) nq nq (Bs .u64 195 g bu us0 bq (aE nq 0)):=by
 have hp:0<(2:Int)^s:=bK dc
 have a3:Y<b64^(mm+2):=by rw [<- hY,<- hn];exact O5 dc dv
 have ba:0<Y:=by have:=D0 dc (du.drop nq);omega
 have e0:C4 ((xn:Int)-((mm+2:Nat):Int))=(nq:Int)-1:=by rw [C2 o o];omega
 unfold Bz
 refine ⟨fun l h'=>∃ (k:Nat) (us qs:List Int),l=[I ((k:Int)-1)]/\k<=nq/\us.length=N/\qs.length=nq/\Dig b64 us/\Dig b64 qs/\h'=Bs .u64 195 g bu us bq qs/\val b64 (us.drop k)<Y/\val b64 us0=val b64 (qs.drop k)*Y*b64^k+val b64 us,fun l _=>(iAt l 0+1).toNat,⟨nq,us0,_,by rw [e0],o,hN,by simp,du,J1 dc _,rfl,htop,by simp [val]⟩,?_⟩
 rintro j a8 ⟨k,us,qs,ax,hk,M,af,u,ai,rfl,ao,hv⟩
 obtain rfl:j=(k:Int)-1:=by simpa using ax
 have ad:g.le (Bs .u64 195 g bu us bq qs):=Qn hu hq hne
 have su:SlI .u64 (Bs .u64 195 g bu us bq qs) (some ⟨bu,0,none⟩) us:=Vn hne
 unfold Hr
 refine C1 (fun h1=>?_) (fun h1=>?_)
 ·obtain ⟨j,rfl⟩:∃ j,k=j+1:=⟨k-1,o⟩
  have ej:((j+1:Nat):Int)-1=(j:Int):=o
  rw [ej]
  have e1:C4 ((j:Int)+((mm+2:Nat):Int))=((j+(mm+2):Nat):Int):=by rw [C2 o o];omega
  have e2:C4 (((j+(mm+2):Nat):Int)+1)=((j+(mm+3):Nat):Int):=by rw [C2 o o];omega
  simp only [e1,e2,aC]
  have z:=u.drop j
  have L:(us.drop j).length=N-j:=by rw [bX,M]
  have y:val b64 ((us.drop j).drop (mm+3))=0:=by
   have:=Eb (B:=b64) dc (n:=mm+2) (u.drop (j+1)) o
   rw [cQ] at this ⊢
   rw [show j+(mm+3)=j+1+(mm+2) from o];exact this
  have aj:=A1d b64 us j
  have au:val b64 (us.drop j)<Y*b64:=by
   have bd:=Q7 u j
   rw [aj]
   have t1:b64*(val b64 (us.drop (j+1))+1)<=b64*Y:=aG o dc
   have t2:b64*(val b64 (us.drop (j+1))+1)=b64*val b64 (us.drop (j+1))+18446744073709551616:=by show (18446744073709551616:Int)*_=_;grind
   have t3:Y*b64=b64*Y:=aS _ _
   omega
  have H:=G7 b64 (us.drop j) (i:=mm+3) o
  rw [y,dU,dV] at H
  have aw:=I0 b64 (us.drop j) (mm+2)
  have hX:val b64 (us.drop j)=val b64 ((us.drop j).take (mm+2))+b64^(mm+2)*(us.drop j).getD (mm+2) 0:=by rw [H];exact aw
  refine ⟨⟨o,o⟩,⟨o,o⟩,?_⟩
  have sw:SlI .u64 (Bs .u64 195 g bu us bq qs) (V3 (some ⟨bu,0,none⟩) N j 1) ((us.drop j).take (mm+3)):=by
   have:=su.cut (c:=N) (l:=j) (m:=j+(mm+3)) o o o
   rwa [show j+(mm+3)-j=mm+3 from o] at this
  generalize hXX:val b64 (us.drop j)=X at *
  refine A0c (m:=mm) (X:=X) (Y:=Y) sw (sv.mono ad) (by rw [aI,L];omega) hn.symm (z.take _) dv (by rw [aI,L];omega) hn o hv1 H.symm hY au ?_
  intro q q0 q1 q2 q3
  refine ⟨_,rfl,⟨o,o⟩,⟨o,o⟩,?_⟩
  have w0:=B5l (e:=195) (us:=us) (qs:=qs) hu hne
  have ay:SlI .u64 (blk .u64 195 g bq qs) VA vs:=sv.mono (Dd hq qs)
  have hW:(us.drop j).take (j+(mm+2)-j)=(us.drop j).take (mm+2):=by rw [show j+(mm+2)-j=mm+2 from o]
  have w1:=w0.sub (l:=j) (m:=j+(mm+2)) (c:=N) o o o
  rw [hW] at w1
  have O:((us.drop j).take (mm+2)).length=mm+2:=by rw [aI,L];omega
  refine Jx w1 (by rw [O];omega) ay hn.symm (z.take _) dv (by rw [O,hn]) ⟨q0,q1⟩ o ?_
  intro W c h2 p D w G w2
  rw [O] at p G
  refine ⟨_,rfl,?_⟩
  have w3:=w0.whole (l:=j) (m:=j+(mm+2)) o o o w2
  have aa:=B3j hne w3
  have f:(us.take j).length=j:=by rw [aI,M];omega
  have ak:us.drop (j+(mm+2))=(us.drop j).drop (mm+2):=by rw [cQ]
  rw [cC,ak] at aa
  subst aa
  generalize hws:us.drop j=ws at *
  have r:(W++ws.drop (mm+2)).length=ws.length:=by rw [aR,bX];omega
  have dW:Dig b64 (W++ws.drop (mm+2)):=D.append (z.drop _)
  have V:(W++ws.drop (mm+2)).getD (mm+2) 0=ws.getD (mm+2) 0:=by
   simp only [fI]
   rw [List.getElem?_append_right o,p,Nat.sub_self,List.getElem?_drop,fC]
  have T:=Q7 z (mm+2)
  have a0:(us.take j++(W++ws.drop (mm+2))).length=N:=by rw [aR,r,f];omega
  have al:SlI .u64 (Bs .u64 195 g bu (us.take j++(W++ws.drop (mm+2))) bq qs) (some ⟨bu,0,none⟩) (us.take j++(W++ws.drop (mm+2))):=Vn hne
  have a2:j+(mm+2)=(mm+2)+(us.take j).length:=o
  refine al.load a0.symm o o ?_
  rw [aC,a2,Gz,V]
  refine ⟨_,rfl,o,o,?_⟩
  refine A3g (i:=mm+2+(us.take j).length) G8 hne o ?_
  rw [Kt]
  have hP:0<b64^(mm+2):=E7 dc _
  have ap:=O5 dc D
  have a7:=D0 dc D
  rw [p] at ap
  rw [hY] at G
  have hD:X-q*Y=val b64 W+(ws.getD (mm+2) 0-c)*b64^(mm+2):=by rw [G,hX];grind
  have R:X-q*Y<Y:=by
   have:(q+1)*Y=q*Y+Y:=gz0
   omega
  have a6: -Y<=X-q*Y:=by
   have:(q-1)*Y=q*Y-Y:=gz0
   omega
  have be:0<=X:=by
   have t1:=D0 dc (z.take (mm+2))
   have t2:=aO (aN hP) T.1
   omega
  have a4:ws.getD (mm+2) 0-c=0\/ws.getD (mm+2) 0-c= -1:=by
   have t2:ws.getD (mm+2) 0-c<1:=by
    by_cases w:ws.getD (mm+2) 0-c<1
    ·exact w
    ·have:=aD (show 1<=ws.getD (mm+2) 0-c from o) (aN hP);omega
   have t3: -2<ws.getD (mm+2) 0-c:=by
    by_cases w: -2<ws.getD (mm+2) 0-c
    ·exact w
    ·have:=aD (show ws.getD (mm+2) 0-c <= -2 from o) (aN hP);omega
   omega
  have A:∀ v,((W++ws.drop (mm+2)).set (mm+2) v).take (mm+2)=W:=by
   intro v
   rw [List.take_set_of_le o,dC p]
  have ac:∀ v,((W++ws.drop (mm+2)).set (mm+2) v).getD (mm+2) 0=v:=by
   intro v
   rw [fI,List.getElem?_set_self o];rfl
  have ah:∀ v,((W++ws.drop (mm+2)).set (mm+2) v).drop (mm+3)=ws.drop (mm+3):=by
   intro v
   rw [E5 o,show mm+3=(mm+2)+1 from o,<- cQ,fN p,cQ]
  refine ⟨fun l h'=>∃ d t,l=[U t]/\h'=Bs .u64 195 g bu (us.take j++d) bq qs/\d.length=ws.length/\Dig b64 d/\d.drop (mm+3)=ws.drop (mm+3)/\d.getD (mm+2) 0=0/\val b64 (d.take (mm+2))=X-t*Y/\0<=X-t*Y/\X-t*Y<Y/\0<=t/\t<18446744073709551616,C1 (fun h3=>?_) (fun h3=>?_),?_⟩
  ·have F:ws.getD (mm+2) 0-c= -1:=o
   rw [F] at hD ⊢
   have ag:C8 (-1)=18446744073709551615:=by rw [F6];omega
   rw [ag]
   have az:1<=q:=by
    by_cases w:1<=q
    ·exact w
    ·have:q=0:=o
     subst this;omega
   have e5:(q-1)*Y=q*Y-Y:=gz0
   have bk:=C32 (g:=g) (bu:=bu) (bq:=bq) (pre:=us.take j) (qs:=qs) (VA:=VA) (vs:=vs) (n:=mm+2) (N:=N) (ws:=(W++ws.drop (mm+2)).set (mm+2) 18446744073709551615) (q:=q)
    (J:=fun l h'=>∃ d t,l=[U t]/\h'=Bs .u64 195 g bu (us.take j++d) bq qs/\d.length=ws.length/\Dig b64 d/\d.drop (mm+3)=ws.drop (mm+3)/\d.getD (mm+2) 0=0/\val b64 (d.take (mm+2))=X-t*Y/\0<=X-t*Y/\X-t*Y<Y/\0<=t/\t<18446744073709551616)
    hu hq hne sv dv hn.symm (dW.set dc) (by rw [aR,eB,r,f];omega) (by rw [eB,r];omega) o (by rw [A,hY];omega) (by rw [A,hY];omega) (ac _) ?_
   ·rw [f] at bk;exact bk
   ·intro d g1 g2 g3 g4 g5
    rw [A,hY] at g5
    rw [C6 (n:=q-1) o o]
    refine ⟨d,q-1,rfl,rfl,by rw [g1,eB,r],g2,by rw [g3,ah],g4,o,o,o,o,o⟩
  ·have E:ws.getD (mm+2) 0-c=0:=o
   rw [E] at hD ⊢
   have ar:C8 0=0:=by rw [F6];omega
   rw [ar]
   exact ⟨(W++ws.drop (mm+2)).set (mm+2) 0,q,rfl,rfl,by rw [eB,r],dW.set dc,ah _,ac _,by rw [A];omega,o,R,q0,q1⟩
  ·rintro q4 a5 ⟨d,t,an,rfl,g1,g2,g3,g4,g5,g6,g7,g8,g9⟩
   obtain rfl:q4=t:=by simpa using an
   refine ⟨_,rfl,o,o,?_⟩
   refine A3h (i:=j) G8 o ?_
   rw [C2 o o]
   have S:val b64 d=X-q4*Y:=by
    have z1:=G7 b64 d (i:=mm+3) o
    rw [g3,y,I0,g4,g5] at z1
    simp at z1
    omega
   refine ⟨⟨j,us.take j++d,qs.set j q4,rfl,o,by rw [aR,g1,f];omega,by simpa using af,(u.take j).append g2,ai.set ⟨g8,g9⟩,rfl,?_,?_⟩,by simp only [iAt,aF];omega⟩
   ·rw [fN f,S];exact g7
   ·have Q:=G7 b64 us (i:=j) o
    rw [hws,hXX] at Q
    rw [hv,Ak o,H8,f,S,Q,aY]
    simp only [val]
    grind
 ·have aq:k=0:=o
  subst aq
  simp at ao hv
  have bc:0<b:=by
   by_cases w:0<b
   ·exact w
   ·have:=aD (show b<=0 from o) (aN hp);omega
  have a9:=D0 dc u
  have hR:val b64 us=(a-val b64 qs*b)*2^s:=by
   rw [hua,hYb] at hv
   grind
  have av:0<=a-val b64 qs*b:=by
   by_cases w:0<=a-val b64 qs*b
   ·exact w
   ·have:=aD (show a-val b64 qs*b <= -1 from o) (aN hp);omega
  have am:a-val b64 qs*b<b:=by
   by_cases w:a-val b64 qs*b<b
   ·exact w
   ·have:=aD (show b<=a-val b64 qs*b from o) (aN hp);omega
  have C:a/b=val b64 qs:=by
   have:a=(a-val b64 qs*b)+val b64 qs*b:=o
   rw [this,dX _ _ o,bH av am,cL]
  have ae:a%b=a-val b64 qs*b:=by
   have:=Int.emod_def a b
   rw [this,C,aS]
  rw [C,ae] at hK
  rw [<- af]
  refine T3 B78 ai (bC _) o ?_
  intro m1 ag M1
  refine ⟨_,_,_,rfl,?_⟩
  rw [<- M]
  refine T3 su u (bC _) o ?_
  intro m2 bb M2
  refine ⟨_,_,_,rfl,?_⟩
  rw [C6 o o]
  refine Hf M2 (by have:=M2.len_le dc (j:=mm+2) o;omega) o ?_
  intro A3 m3 c3 h3 l3 k3 M3
  have a1:val b64 us/2^s=a-val b64 qs*b:=by rw [hR,fB _ o]
  rw [a1] at M3
  exact ⟨_,_,_,rfl,hK _ _ _ _ _ _ _ (B0 ad l3) o k3 (M1.mono l3) M3⟩
end
section
variable {h g:bD} {K:VP} {A B:Option bL} {ac bc:Nat}
set_option maxHeartbeats 1000000 in
def Fm{x y:Int}{an bn:Nat}(ma:Mw h A an x)(mb:Mw h B bn y)(ha:an<=ac)(hbc:bn<=bc)(hy:y≠0)(hl:an<=1000000000)(hl2:bn<=1000000000)
 (hK:∀ A1 m1 c1 A2 m2 c2 h',h.le h'->m1<=c1->m2<=c2->Mw h' A1 m1 (x/y)->Mw h' A2 m2 (x%y)->K (.tuple #[.slice A1 m1 c1,.slice A2 m2 c2]) h'):aW prog 277 #[.slice A an ac,.slice B bn bc] h K:=by
 have M:=ma.nonneg dc
 have ar:=mb.nonneg dc
 have a6:=mb.len_zero dc
 have C:=ma.lt dc
 have ba:=mb.lt dc
 refine Rw _ _ _ _ _ _ ?_
 unfold Oz
 refine J9 ma mb o ⟨_,rfl,C1 (fun E=>?_) (fun E=>D5 (fun h2=>?_) (fun h2=>?_))⟩
 ·have O:x<y:=by
   unfold Sq at E
   by_cases g:x<y
   ·exact g
   ·rw [iN g] at E
    by_cases Q:x>y
    ·rw [iP Q] at E;omega
    ·rw [iN Q] at E;omega
  rw [bH M O,fE M O] at hK
  exact hK none 0 0 _ _ _ _ (B7 h) (bC _) ha Mag.zero ma
 ·obtain ⟨c,rfl,sy,dy,ny,rfl⟩:=mb
  have S:c.length=1:=o
  obtain ⟨d,rfl⟩:∃ d,c=[d]:=by
   cases c with
   | nil=>simp at S
   | cons d r=>
    cases r with
    | nil=>exact ⟨d,rfl⟩
    | cons _ _=>simp at S
  rw [Ct] at hy ar hK
  have hd:=dy d (by simp)
  obtain ⟨w,rfl⟩:∃ w:Nat,d=w:=⟨d.toNat,o⟩
  refine sy.load rfl o (by simp) ?_
  show aW _ _ #[_,U (w:Int)] _ _
  have hw:w<18446744073709551616:=by have:=hd.2;have:(w:Int)<18446744073709551616:=this;omega
  refine Vb ma ⟨o,hw⟩ hl ?_
  intro A' m c' h' al hm a7 hM
  refine ⟨_,_,_,_,rfl,?_⟩
  refine Cg ⟨aP _ o,by have:=aK x (show (0:Int)<w from o);omega⟩ ?_
  intro A2 m2 c2 h3 H k3 M3
  exact ⟨_,_,_,rfl,hK _ _ _ _ _ _ _ (B0 al H) hm k3 (hM.mono H) M3⟩
 ·have au:y<=x:=by
   unfold Sq at E
   by_cases g:x<y
   ·rw [iP g] at E;omega
   ·omega
  have a9:bn<=an:=mb.len_le dc (cF au C)
  have az:=mb
  have am:=ma
  obtain ⟨c,rfl,sy,dy,ny,rfl⟩:=mb
  obtain ⟨mm,hmm⟩:∃ mm,c.length=mm+2:=⟨c.length-2,o⟩
  have gt:=Q7 dy (mm+1)
  have aq:=A1i (m:=mm+1) hmm ny
  obtain ⟨L,u⟩:=Cl (B:=b64) dc dy (m:=mm+1) hmm
  have e1:C4 ((c.length:Int)-1)=((mm+1:Nat):Int):=by rw [C2 o o];omega
  rw [e1]
  refine sy.load rfl o o ?_
  rw [aC]
  obtain ⟨t,ht⟩:∃ t:Nat,c.getD (mm+1) 0=t:=⟨(c.getD (mm+1) 0).toNat,o⟩
  rw [ht] at gt aq L u ⊢
  have q:t≠0:=o
  refine U5 o ⟨_,rfl,?_⟩
  obtain ⟨a0,a2⟩:=Fq q
  have a3:S9 t<=64:=Iy (k:=64) o
  have a1:1<=S9 t:=by unfold S9;rw [iN q];omega
  obtain ⟨s,hs⟩:∃ s,s=64-S9 t:=⟨_,rfl⟩
  rw [<- hs]
  have aa:s<64:=o
  have f:0<(2:Int)^s:=bK dc
  have ap:=Bl (s:=s) o
  have D:S9 t=64-s:=o
  have aw:(t:Int)+1<=2^(64-s):=by
   rw [<- D]
   have:((t+1:Nat):Int)<=((2^S9 t:Nat):Int):=o
   simpa using this
  have ao:(2:Int)^(63-s)<=t:=by
   have:((2^(S9 t-1):Nat):Int)<=((t:Nat):Int):=o
   rw [show S9 t-1=63-s from o] at this
   simpa using this
  have G:(2:Int)^s*2^(63-s)=9223372036854775808:=by
   rw [<- aV,show s+(63-s)=63 from o];decide
  have ak:C8 (s:Int)=(s:Int):=C6 o o
  rw [ak]
  have j:=E7 (B:=b64) dc (mm+1)
  have aj:val b64 c*2^s<b64^(mm+2):=by
   have t2:val b64 c*2^s<((t:Int)+1)*b64^(mm+1)*2^s:=bG L f
   have t3:((t:Int)+1)*b64^(mm+1)*2^s=((t:Int)+1)*2^s*b64^(mm+1):=gz0
   have t4:((t:Int)+1)*2^s*b64^(mm+1)<=18446744073709551616*b64^(mm+1):=by
    apply aD _ (aN j)
    rw [<- ap,aS (2^s)]
    exact aD aw (aN f)
   have t5:b64^(mm+2)=18446744073709551616*b64^(mm+1):=by rw [aY b64 (mm+1),aS]
   omega
  have a8:9223372036854775808*b64^(mm+1)<=val b64 c*2^s:=by
   have t1:(t:Int)*b64^(mm+1)*2^s<=val b64 c*2^s:=aD u (aN f)
   have t2:9223372036854775808*b64^(mm+1)<=(t:Int)*2^s*b64^(mm+1):=by
    apply aD _ (aN j)
    rw [<- G,aS (t:Int)]
    exact aG ao o
   have t3:(t:Int)*2^s*b64^(mm+1)=(t:Int)*b64^(mm+1)*2^s:=gz0
   omega
  refine Aa az hbc hl2 o ?_
  intro A1 n1 c1 g1 l1 k1 M1
  refine ⟨_,_,_,rfl,?_⟩
  have ae:n1=mm+2:=by
   have q1:=M1.len_le dc aj
   have q2:=M1.lt dc
   by_cases g:n1=mm+2
   ·exact g
   ·have:=D9 (B:=b64) dc (show n1<=mm+1 from o)
    omega
  subst ae
  obtain ⟨vs,W,sv,dv,nv,ad⟩:=M1
  have ah:b64<=2*vs.getD (mm+1) 0:=by
   obtain ⟨q1,q2⟩:=Cl (B:=b64) dc dv (m:=mm+1) W.symm
   rw [ad] at q1
   have:9223372036854775808<vs.getD (mm+1) 0+1:=by
    by_cases g:9223372036854775808<vs.getD (mm+1) 0+1
    ·exact g
    ·have:=aD (show vs.getD (mm+1) 0+1<=9223372036854775808 from o) (aN j);omega
   show (18446744073709551616:Int)<=_
   omega
  have eN:C4 ((an:Int)+1)=((an+1:Nat):Int):=by rw [C2 o o];omega
  rw [eN]
  refine N4 S8 o o o ?_
  intro bu av
  rw [aC]
  refine ⟨_,_,_,rfl,?_⟩
  have w0:=Win.blk .u64 195 av (aE (an+1) 0)
  refine w0.call ?_
  refine Aa (am.mono l1) ha hl o ?_
  intro A3 n3 c3 g3 H k3 M3 h4 w4
  refine ⟨_,_,_,rfl,?_⟩
  have ax:x*2^s<b64^(an+1):=by
   have t1:x*2^s<b64^an*2^s:=bG C f
   have t2:b64^an*2^s<=b64^an*18446744073709551616:=by
    apply aG _ (aN (E7 dc an))
    have:=D9 (B:=2) dc (show s<=64 from o)
    have e:(2:Int)^64=18446744073709551616:=dc
    omega
   rw [aY];show _<b64^an*(18446744073709551616:Int);omega
  have a5:=M3.len_le dc ax
  obtain ⟨us,ay,ai,af,a4,T⟩:=M3
  refine Em S8 w4 (by simp) (ai.mono w4.le) ay (by simp;omega) ?_
  intro h5 w5
  refine ⟨_,rfl,?_⟩
  rw [bJ] at w5
  generalize hu0:us++aE (an+1-us.length) (0:Int)=us0 at w5
  have X:us0.length=an+1:=by rw [<- hu0];simp;omega
  have z:Dig b64 us0:=by rw [<- hu0];exact af.append (J1 dc _)
  have p:val b64 us0=x*2^s:=by rw [<- hu0,Dk];exact T
  obtain ⟨nq,hnq⟩:∃ nq,an+1=nq+(mm+2):=⟨an+1-(mm+2),o⟩
  have eq:C4 (C4 ((an:Int)-(c.length:Int))+1)=(nq:Int):=by
   rw [C2 (n:=(an:Int)-(c.length:Int)) o o,C2 o o];omega
  rw [eq]
  refine N4 S8 o o o ?_
  intro bq l
  rw [aC]
  refine ⟨_,_,_,rfl,?_⟩
  have ag:h5=blk .u64 195 g3 bu us0:=by rw [w5.eq];simp [blk]
  subst ag
  have V:g3 bu=none:=w5.free
  have F:bu≠bq:=by
   rintro rfl
   unfold blk at l
   rw [C3] at l;cases l
  have R:g3 bq=none:=by
   have:=l
   unfold blk at this
   rwa [B9 _ _ F.symm] at this
  rw [hmm]
  refine A4h (us0:=us0) (N:=an+1) (xn:=an) V R F (sv.mono H) dv W.symm ah aa ad rfl z X p rfl hnq o o ?_ ?_
  ·have s1:=G7 b64 us0 (i:=nq) o
   have s2:=D0 dc (z.take nq)
   have s3:val b64 us0<b64^an*2^s:=by
    rw [p];exact bG C f
   have s4:b64^(mm+1)<=val b64 c:=by
    have:=aD (show 1<=(t:Int) from o) (aN j);omega
   have s5:b64^nq*(b64^(mm+1)*2^s)<=b64^nq*(val b64 c*2^s):=aG (aD s4 (aN f)) (aN (E7 dc nq))
   have s6:b64^nq*(b64^(mm+1)*2^s)=b64^an*2^s:=by
    rw [<- cW,<- aV,show nq+(mm+1)=an from o]
   by_cases g:val b64 (us0.drop nq)<val b64 c*2^s
   ·exact g
   ·have:=aG (show val b64 c*2^s<=val b64 (us0.drop nq) from o) (aN (E7 (B:=b64) dc nq));omega
  ·intro A5 m5 c5 A6 m6 c6 h6 l6 k5 k6 M5 M6
   exact hK _ _ _ _ _ _ _ (B0 l1 (B0 H l6)) k5 k6 M5 M6
end
def A5q{x a b p:Int}(h:a+p*b=x)(h0:0<=a)(h1:a<p):x/p=b/\x%p=a:=(Int.ediv_emod_unique o).2 ⟨h,h0,h1⟩
def Ki{P:dF}{h:bD}{A:Option bL}{n m c s:Nat}{cs:List eJ}(hl:cs.length=n*s)(hc:cs=[]\/∃a,A=some a/\∀j v,cs[j]? = some v->h.cell? (a.add j)=some v){K:Array eJ->bD->Prop}(x:K cs.toArray h):
 wpH P (Builtin.firstCells s n (.slice A m c)) K h:=by
 cases A with
 |none=>
  rcases hc with rfl|⟨a,e,_⟩;·exact x
  ·cases e
 |some a=>
  show wpH P (loadCells a (n*s)) K h;rcases hc with rfl|⟨d,e,hc⟩;·exact Ac (cs:=[]) hl.symm (fun j v e=>by simp at e) x
  ·cases e;exact Ac hl.symm hc x
def B5h{P:dF}{t e ty:cD}{k:cT}{bytes:Nat}(s:SliceT P t e (.int k 0) 1 bytes){h g:bD}{b:Nat}{A:Option bL}{pre post:List eJ}{xs:List Int}{n c m d:Nat}(w:Win k h g b e A pre xs post)(hn:n=xs.length){B:Option bL}{ys:List Int}(sy:SlI k h B ys)(hm:min m xs.length=ys.length){K:VP}
 (x:∀h',Win k h' g b e A pre (ys++xs.drop ys.length) post->K (I ys.length) h'):wpH P (dP #[t,t] ty #[.slice A n c,.slice B m d]) K h:=by
 subst hn;obtain⟨i,r,y,l,p⟩:=s.parts;unfold dP;simp only[List.getElem?_toArray,aF,aJ,C9,F4 s.und,K5 r,I5,Builtin.lenOf,l];have f:Nat.min m xs.length=ys.length:=hm;rw[f];refine Ki (s:=1) (cs:=ys.map (bI k)) (by simp) sy ?_
 cases A with
 |none=>
  rcases w.at_ with j|j
  ·have:ys=[]:=aU gz0;subst this;exact x h (by assumption)
  ·cases j
 |some a=>
  simp only[C9];rcases w.at_ with j|j
  ·have:ys=[]:=aU gz0;subst this;exact x h (by assumption)
  ·cases j;rw[w.eq];refine H9 (ys.map (bI k)) pre.length 0 (pre++xs.map (bI k)++post) gz0 (fun v q=>?_) ?_;·obtain⟨u,_,rfl⟩:=List.mem_map.1 q;rfl
   ·refine x _ ⟨w.free,?_,?_⟩
    ·congr 3;unfold I8;rw[fC,cC pre,dC rfl,fM];rw[fJ,aT (show pre.length<=pre.length+ys.length from o),fV,cG];rw[cY gz0,<- List.map_drop,dZ];grind
    grind
section
variable {h g:bD} {K:VP} {A B:Option bL} {ac bc:Nat}
def B6r(a n:Nat):(if(a:Int)<(n:Int)then(a:Int)else(n:Int))=((min n a:Nat):Int):=o
def Ml{xs:List Int}(d:Dig b64 xs)(n:Nat):val b64 xs/b64^n=val b64 (xs.drop (min n xs.length))/\val b64 xs%b64^n=val b64 (xs.take (min n xs.length)):=by by_cases f:n<=xs.length;{rw[aH f];have g:=G7 b64 xs f;have c:=D0 dc (d.take n);have e:=O5 dc (d.take n);rw[aI,aH f]at e;exact A5q g.symm c e};·rw[fH o,List.drop_length,bO];have c:=D0 dc d;have e:=O5 dc d;have i:=D9 (B:=b64) dc (show xs.length<=n from o);exact A5q (by simp[val]) c o
def Bj{x:Int}{an n:Nat}(ma:Mw h A an x)(ha:an<=ac)(hK:∀A' m c',m<=c'->m<=an->Mw h A' m (x/b64^n)->K (.slice A' m c') h):aW prog 300 #[.slice A an ac,I n] h K:=by obtain⟨c,rfl,f,d,g,rfl⟩:=ma;refine(fnk func300) ?_;rw[B6r,aC];refine⟨⟨o,o⟩,hK _ _ _ o o ?_⟩;rw[(Ml d n).1,<- bX];refine Mw.of (A0j f o ha) (d.drop _) ?_;by_cases e:min n c.length<c.length;{exact Nr g e};·rw[aT o];exact Norm.nil
def Gy{x:Int}{an n:Nat}(ma:Mw h A an x)(ha:an<=ac)(hl:an<=10000000000)(hK:∀A' m c',m<=c'->m<=n->m<=an->Mw h A' m (x%b64^n)->K (.slice A' m c') h):aW prog 299 #[.slice A an ac,I n] h K:=by obtain⟨d,rfl,e,c,f,rfl⟩:=ma;refine(fnk func299) ?_;rw[B6r,aC,I4,bW,bW];refine⟨⟨o,o⟩,Cc (Ju e (m:=min n d.length) o ha) (c.take _) gz0 (Ml c n).2.symm o o ?_⟩;grind
def Io{x y:Int}{an bn n:Nat}(ma:Mw h A an x)(mb:Mw h B bn y)(hbn:bn<=n)(hl:n+an<=5000000000)(hK:∀A' m c' h',h.le h'->m<=c'->Mw h' A' m (x*b64^n+y)->K (.slice A' m c') h'):aW prog 302 #[.slice A an ac,.slice B bn bc,I n] h K:=by obtain⟨d,rfl,s,C,G,rfl⟩:=ma;obtain⟨g,rfl,q,u,E,rfl⟩:=mb;refine(fnk func302) ?_;have w:C4 ((n:Int)+d.length)=((n+d.length:Nat):Int):=by{rw[C2 o o];omega};rw[w];refine N4 S8 o o o ?_;intro b p;rw[aC];refine⟨_,_,_,rfl,?_⟩;have k:=Win.blk .u64 195 p (aE (n+d.length) 0);refine Em S8 k gz0 (q.mono k.le) rfl gz0 ?_;intro F e;refine⟨_,rfl,⟨o,o⟩,?_⟩;rw[bJ]at e;generalize hz:g++aE (n+d.length-g.length) (0:Int)=zs at e;have r:zs.length=n+d.length:=gz0;have z:=e.sub (l:=n) (m:=n+d.length) (c:=n+d.length) o o o;refine Em S8 z gz0 (s.mono e.le) rfl gz0 ?_;intro D j;rw[aT gz0,bU]at j;have f:=e.whole (l:=n) (m:=n+d.length) o o o j;rw[aT (show zs.length<=n+d.length from o),bU]at f;have i:zs.take n=g++aE (n-g.length) 0:=by{rw[<- hz,List.take_append,aL o,cM];grind};rw[i]at f;refine⟨_,rfl,Cc f.sl ((u.append (J1 dc _)).append C) gz0 rfl o o ?_⟩;intro m t M;refine⟨_,_,_,rfl,hK _ _ _ _ f.le t ?_⟩;rw[H8,Dk]at M;grind
def B2t{x y:Int}(hx:0<=x/\x<18446744073709551616)(hy:0<=y/\y<18446744073709551616)(hK:K (.tuple #[U (x*y/18446744073709551616),U (x*y%18446744073709551616)]) h):aW prog 165 #[U x,U y] h K:=by refine(fnk func165) ?_;exact Nu hx hy ⟨_,_,rfl,hK⟩
def A4q{v:Int}{n:Nat}(s:SlI .u64 h A [v])(hn:0<n)(hl:n<=1000000000)(hK:∀A' h',h.le h'->SlI .u64 h' A' (aE n v)->K (.slice A' n n) h'):aW prog 314 #[.slice A 1 ac,I n] h K:=by refine(fnk func314 [(8,[8],[],[I 0])]) ?_;refine C1 (fun e=>o) (fun _=>?_);rw[C6 (n:=((1:Nat):Int)) o o,C6 (n:=(n:Int)) o o];refine B2t o o ⟨_,_,rfl,?_⟩;have B:((1:Nat):Int)*(n:Int)/18446744073709551616=0:=o;have z:((1:Nat):Int)*(n:Int)%18446744073709551616=n:=o;rw[B,z];refine C1 (fun e=>o) (fun _=>?_);refine C1 (fun e=>o) (fun _=>?_);rw[C2 (n:=(n:Int)) o o];refine N4 S8 o o o ?_;intro b r;refine⟨_,_,_,rfl,?_⟩;have p:=Win.blk .u64 195 r (aE n 0);refine Em S8 p (by simp) (s.mono p.le) rfl gz0 ?_;intro e g;refine⟨_,rfl,?_⟩;rw[bJ]at g;refine⟨fun l f=>∃k:Nat,l=[I k]/\0<k/\k<=n/\Win .u64 f h b 195 (some ⟨b,0,none⟩) [] (aE k v++aE (n-k) 0) [],fun l _=>n-(iAt l 0).toNat,⟨1,rfl,o,hn,g⟩,?_⟩;rintro i f ⟨k,D,u,d,w⟩;obtain rfl:i=(k:Int):=gz0;refine C1 (fun q=>?_) (fun q=>?_);{have y:(aE k v++aE (n-k) (0:Int)).length=n:=gz0;refine⟨⟨o,o⟩,⟨o,o⟩,?_⟩;simp only[aC,I4,bW];have E:=w.sub (l:=k) (m:=n) (c:=n) o o o;have t:SlI .u64 f (some ⟨b,0,none⟩) (aE (min k (n-k)) v):=by{have:=Ju w.sl (c:=n) (m:=min k (n-k)) o o;grind};refine B5h S8 E (by simp) t (by simp) ?_;intro H j;rw[bZ]at j ⊢;have F:=w.whole (l:=k) (m:=n) o o (by simp;omega) j;have C:C4 ((k:Int)+(min k (n-k):Nat))=((k+min k (n-k):Nat):Int):=by{rw[C2 o o];omega};refine⟨_,rfl,?_⟩;rw[C];refine⟨⟨_,rfl,o,o,?_⟩,?_⟩;{have G:(aE k v++aE (n-k) (0:Int)).take k++(aE (min k (n-k)) v++(aE (n-k) (0:Int)).drop (min k (n-k)))++(aE k v++aE (n-k) (0:Int)).drop n=aE (k+min k (n-k)) v++aE (n-(k+min k (n-k))) 0:=by{rw[dC (by simp),aT (show(aE k v++aE (n-k) (0:Int)).length<=n from o),bU,bJ,<- cC,cR];grind};grind};·simp only[iAt,aF];omega};·have d:k=n:=o;subst d;have:=w.sl;rw[Nat.sub_self,List.replicate_zero,bU]at this;exact hK _ _ w.le this
end
def Mw.high{h:bD}{A:Option bL}{an ac k:Nat}{x:Int}(ma:Mw h A an x)(ha:an<=ac)(hk:k<=an):Mw h (V3 A ac k 1) (an-k) (x/b64^k):=by obtain⟨f,rfl,g,d,i,rfl⟩:=ma;have e:=(Ml d k).1;rw[aH hk]at e;rw[e,<- bX];refine Mw.of (A0j g hk ha) (d.drop _) ?_;by_cases c:k<f.length;{exact Nr i c};·rw[aT o];exact Norm.nil
def B3q{x P X2 yh top:Int}(hP:0<P)(h1:x<P*P*(X2+1))(h2:P*top<=x)(hlt:X2<yh):top<P*yh:=by by_cases c:top<P*yh;{exact c};·have t1:P*(P*yh)<=P*top:=aG o o;have d:P*P*(X2+1)<=P*P*yh:=aG o (aO o o);grind
def B3r{x P X2 yh top:Int}(hP:0<P)(h1:P*P*X2<=x)(h2:x<P*(top+1))(hge:yh<=X2):P*yh<=top:=by by_cases c:P*yh<=top;{exact c};·have t1:P*(top+1)<=P*(P*yh):=aG o o;have d:P*P*yh<=P*P*X2:=aG o (aO o o);grind
def B7a(N:Nat):Prop:=∀{h:bD} {K:VP} {A B:Option bL} {ac bc an bn:Nat} {x y:Int},bn<=N->Mw h A an x->Mw h B bn y->an<=ac->bn<=bc->an<=1000000000->bn<=200000000->0<bn->9223372036854775808*b64^(bn-1)<=y->x<b64^bn*y-> (∀A1 m1 c1 A2 m2 c2 h',h.le h'->m1<=c1->m2<=c2->Mw h' A1 m1 (x/y)->Mw h' A2 m2 (x%y)->K (.tuple #[.slice A1 m1 c1,.slice A2 m2 c2]) h')->aW prog 301 #[.slice A an ac,.slice B bn bc] h K
section
variable {h g:bD} {K:VP} {A B:Option bL} {ac bc:Nat}
def Dx{x y:Int}:Sq x y<0↔x<y:=by unfold Sq;omega
set_option maxHeartbeats 1000000 in
def A4a{x y q0 R0 pr:Int}{m bn nq cq np cp nr cr:Nat}{Aq Ap Ar:Option bL}(hx0:0<=x)(mb:Mw h B bn y)(hb:bn<=bc)(hl2:bn<=200000000)(hbm:bn=2*m)(mq:Mw h Aq nq q0)(hq:nq<=cq)(mp:Mw h Ap np pr)(hp2:pr<b64^bn)
 (mr:Mw h Ar nr R0) (hr:nr<=cr) (hq0:q0<b64^m) (hR:R0-pr=x-q0*y) (hy:x-q0*y<y)
 (hK:∀ A1 m1 c1 A2 m2 c2 h',h.le h'->m1<=c1->m2<=c2->Mw h' A1 m1 (x/y)->Mw h' A2 m2 (x%y)->K (.tuple #[.slice A1 m1 c1,.slice A2 m2 c2]) h'):
 By prog B bn bc K Aq nq cq Ap np cp Ar nr cr h:=by
 have H:=mb.lt dc
 have M:=mb.nonneg dc
 have F:=mp.nonneg dc
 unfold By
 refine ⟨fun l c=>∃ (Aq Ar:Option bL) (nq cq nr cr:Nat) (q R:Int),l=[.slice Aq nq cq,.slice Ar nr cr]/\h.le c/\Mw c Aq nq q/\nq<=cq/\Mw c Ar nr R/\nr<=cr/\q<b64^m/\R-pr=x-q*y/\x-q*y<y,fun l c=>match l with|[.slice A n _,_]=>B1i b64 c A n|_=>0,⟨_,_,_,_,_,_,_,_,rfl,B7 h,mq,hq,mr,hr,hq0,hR,hy⟩,?_⟩
 rintro A1 L c1 A2 N c2 c ⟨Aq,Ar,nq,cq,nr,cr,q,R,t,e,mq,hq,mr,hr,hq0,hR,hy⟩
 simp only [cH,cP,and_true] at t
 obtain ⟨⟨rfl,rfl,rfl⟩,rfl,rfl,rfl⟩:=t
 have C:N<=bn+1:=mr.len_le dc (by
  rw [aY]
  show R<b64^bn*18446744073709551616
  omega)
 have G:L<=m:=mq.len_le dc hq0
 refine J9 mr (mp.mono e) o ⟨_,rfl,?_⟩
 refine C1 (fun g=>?_) (fun g=>?_)
 ·rw [Dx] at g
  have w:=mq.nonneg dc
  have r:1<=q:=by
   by_cases O:1<=q
   ·exact O
   ·obtain rfl:q=0:=o
    omega
  refine U9 mr (mb.mono e) hr hb o o ?_
  intro A3 z c3 j d f M3
  refine ⟨_,_,_,rfl,V6 S8 rfl ?_⟩
  intro b k
  refine ⟨_,_,_,rfl,?_⟩
  have i:=Heap.le_put (.cells #[U 1] 195) k
  have M1:Mw (j.put b (.cells #[U 1] 195)) (some ⟨b,0,none⟩) 1 1:=⟨[1],rfl,SlI.new j b [1] 195 _,Dig.one dc,by simp [fG],Ct _ _⟩
  refine I7 ((mq.mono d).mono i) M1 hq o r ?_
  intro A5 Q c5 S s E M5
  refine ⟨_,_,_,rfl,⟨_,_,_,_,_,_,_,_,rfl,B0 e (B0 d (B0 i s)),M5,E,(M3.mono i).mono s,f,o,?_,?_⟩,?_⟩
  ·rw [Int.sub_mul];omega
  ·rw [Int.sub_mul];omega
  ·simp only [Bt M5,Bt mq];omega
 ·rw [Dx] at g
  refine I7 mr (mp.mono e) hr o o ?_
  intro A3 z c3 j d f M3
  obtain ⟨D,u⟩:=A5q (x:=x) (a:=R-pr) (b:=q) (p:=y) (by rw [hR,aS y];omega) o o
  refine ⟨_,_,_,rfl,hK _ _ _ _ _ _ _ (B0 e d) hq f ?_ ?_⟩
  ·rw [D];exact mq.mono d
  ·rw [u];exact M3
set_option maxHeartbeats 1000000 in
def Su{N:Nat}(ih:B7a N){x y:Int}{an bn m:Nat}(hm:0<m)(hN:m<=N)(hbm:bn=2*m)(ma:Mw h A an x)(mb:Mw h B bn y)(ha:an<=ac)(hb:bn<=bc)(hl:an<=1000000000)(hl2:bn<=200000000)(htop:9223372036854775808*b64^(bn-1)<=y)(hxy:x<b64^m*y)
 (hK:∀ A1 m1 c1 A2 m2 c2 h',h.le h'->m1<=c1->m2<=c2->Mw h' A1 m1 (x/y)->Mw h' A2 m2 (x%y)->K (.tuple #[.slice A1 m1 c1,.slice A2 m2 c2]) h'):aW prog 312 #[.slice A an ac,.slice B bn bc] h K:=by
 have ag:=ma.nonneg dc
 have a4:=mb.nonneg dc
 have a3:=mb.lt dc
 have p:=E7 (B:=b64) dc m
 have al:b64^bn=b64^m*b64^m:=by rw [<- aV];congr 1;omega
 have s:b64^(2*m)=b64^m*b64^m:=by rw [<- aV];congr 1;omega
 have ap:b64^(bn-1)=b64^m*b64^(m-1):=by rw [<- aV];congr 1;omega
 have d:=mb.high (k:=m) hb o
 rw [show bn-m=m from o] at d
 have e:=d.nonneg dc
 have av:=d.lt dc
 have dy:b64^m*(y/b64^m)+y%b64^m=y:=aM _ _
 have V:=aP y (b:=b64^m) o
 have a0:=aK y p
 have dx:b64^m*(x/b64^m)+x%b64^m=x:=aM _ _
 have a2:=aP x (b:=b64^m) o
 have ba:=aK x p
 have ay:=E7 (B:=b64) dc (m-1)
 have af:9223372036854775808*b64^(m-1)<=y/b64^m:=by
  by_cases hc:9223372036854775808*b64^(m-1)<=y/b64^m
  ·exact hc
  ·have t1:b64^m*(y/b64^m+1)<=b64^m*(9223372036854775808*b64^(m-1)):=aG o o
   have O:b64^m*(9223372036854775808*b64^(m-1))=9223372036854775808*(b64^m*b64^(m-1)):=gz0
   rw [ap] at htop
   rw [cZ] at t1
   omega
 obtain ⟨ys,am,sy,f,W,rfl⟩:=mb
 have mb:Mw h B bn (val b64 ys):=⟨ys,am,sy,f,W,rfl⟩
 generalize hyv:val b64 ys=y at *
 refine Rv _ _ _ _ _ _ ?_
 unfold Oy
 have eh:C4 (cJ ((bn:Nat):Int) 2)=(m:Int):=by rw [aX o,C2 o o];omega
 have aa:C4 (2*(m:Int))=((2*m:Nat):Int):=by rw [C2 o o];omega
 simp only [eh,aa,aC,bW,I4]
 rw [show bn-m=m from o]
 refine ⟨⟨o,o⟩,⟨o,o⟩,Cc (Ju sy (m:=m) (c:=bc) o o) (f.take m) (by rw [aI];omega) rfl o o ?_⟩
 intro yn a7 Myl
 have t:=(Ml f m).2
 rw [aH o,hyv] at t
 rw [<- t] at Myl
 refine ⟨_,_,_,rfl,B7 h,Bj ma ha ?_⟩
 intro A1 n1 c1 k1 a6 M1
 refine ⟨_,_,_,rfl,?_⟩
 have E:=M1.nonneg dc
 refine ⟨fun l S=>∃ (Aq Ar:Option bL) (R cq T cr:Nat) (q r:Int),l=[.slice Aq R cq,.slice Ar T cr]/\h.le S/\Mw S Aq R q/\R<=cq/\Mw S Ar T r/\T<=cr/\q<b64^m/\x/b64^m=q*(y/b64^m)+r/\x-q*y<y,?_,?_⟩
 ·refine Bj ma ha ?_
  intro A2 n2 c2 k2 a5 M2
  refine ⟨_,_,_,rfl,J9 M2 d o ⟨_,rfl,?_⟩⟩
  have ar:b64^(2*m)*(x/b64^(2*m))+x%b64^(2*m)=x:=aM _ _
  have ae:=aP x (b:=b64^(2*m)) (by have:=E7 (B:=b64) dc (2*m);omega)
  have ad:=aK x (E7 (B:=b64) dc (2*m))
  generalize x/b64^(2*m)=X2 at *
  rw [s] at ar ae ad
  refine C1 (fun Q=>?_) (fun Q=>?_)
  ·rw [Dx] at Q
   have X:=B3q (x:=x) (top:=x/b64^m) p (by rw [cZ];omega) o Q
   refine ih hN M1 d k1 o o o hm af X ?_
   intro A3 n3 c3 A4 n4 c4 h3 n k3 k4 M3 M4
   have H:0<y/b64^m:=o
   have d1:=aM (x/b64^m) (y/b64^m)
   have d2:=aK (x/b64^m) H
   have d0:=M3.nonneg dc
   refine ⟨_,_,_,_,_,_,rfl,_,_,_,_,_,_,_,_,rfl,n,M3,k3,M4,k4,aZ H X,by rw [aS];omega,?_⟩
   generalize (x/b64^m)/(y/b64^m)=q at *
   generalize (x/b64^m)%(y/b64^m)=r at *
   generalize x/b64^m=top at *
   generalize y/b64^m=yh at *
   generalize y%b64^m=yl at *
   generalize x%b64^m=xl at *
   generalize b64^m=P at *
   have t1:P*(r+1)<=P*yh:=aG o o
   have O:x-q*y=P*r+xl-q*yl:=by rw [<- dx,<- dy,<- d1];grind
   have t3:=aO d0 V
   rw [cZ] at t1
   omega
  ·rw [Dx] at Q
   have X:=B3r (x:=x) (top:=x/b64^m) (yh:=y/b64^m) (X2:=X2) p o (by rw [cZ];omega) o
   refine V6 S8 rfl ?_
   intro b aj
   refine ⟨_,_,_,rfl,?_⟩
   have l4:=Heap.le_put (.cells #[U 18446744073709551615] 195) aj
   refine A4q (v:=18446744073709551615) (SlI.new h b [18446744073709551615] 195 _) hm o ?_
   intro A5 h5 w s5
   refine ⟨_,_,_,rfl,?_⟩
   have L:=B0 l4 w
   refine Io (d.mono L) (Mag.zero (k:=.u64) (B:=b64)) o o ?_
   intro A6 n6 c6 h6 l6 k6 M6
   refine ⟨_,_,_,rfl,?_⟩
   have i:=B0 L l6
   refine I7 (M1.mono i) M6 k1 o (by rw [aS];omega) ?_
   intro A7 n7 c7 h7 u k7 M7
   have a8:n7<=an:=M7.len_le dc (by
    have:=ma.lt dc
    have t1:=aO e (aN p)
    have O:1*(x/b64^m)<=b64^m*(x/b64^m):=aD o E
    omega)
   refine ⟨_,_,_,rfl,?_⟩
   refine U9 M7 ((d.mono i).mono u) k7 o o o ?_
   intro A8 n8 c8 h8 l8 k8 M8
   have D:∀ j:Nat,val b64 (aE j 18446744073709551615)=b64^j-1:=by
    intro j
    induction j with
    | zero=>rfl
    | succ j ihj=>
     rw [List.replicate_succ,val,ihj,aY]
     show (18446744073709551615:Int)+18446744073709551616*(b64^j-1)=b64^j*18446744073709551616-1
     omega
   have M5:Mw h5 A5 m (b64^m-1):=by
    refine ⟨aE m 18446744073709551615,by simp,s5,?_,?_,D m⟩
    ·intro z hz
     have:=List.eq_of_mem_replicate hz
     subst this;decide
    ·obtain ⟨j,rfl⟩:∃ j,m=j+1:=⟨m-1,o⟩
     unfold fG
     rw [List.replicate_succ']
     simp
   refine ⟨_,_,_,rfl,_,_,_,_,_,_,_,_,rfl,B0 i (B0 u l8),((M5.mono l6).mono u).mono l8,bC _,M8,k8,o,?_,?_⟩
   ·grind
   ·have:(b64^m-1)*y=b64^m*y-y:=gz0
    omega
 ·rintro Aq' ai az Ar' ak aw S ⟨Aq,Ar,R,cq,T,cr,q,r,F,lh,M,hq,mr,hr,g,ah,ao⟩
  simp only [cH,cP,and_true] at F
  obtain ⟨⟨rfl,rfl,rfl⟩,rfl,rfl,rfl⟩:=F
  have C:=M.nonneg dc
  have a1:=mr.nonneg dc
  have a9:ai<=m:=M.len_le dc g
  have ax:ak<=an:=mr.len_le dc (by
   have:=ma.lt dc
   have t1:=aO C e
   have O:1*(x/b64^m)<=b64^m*(x/b64^m):=aD o E
   omega)
  refine I9 M (Myl.mono lh) hq o o o ?_
  intro A3 n3 c3 h3 n k3 M3
  refine ⟨_,_,_,rfl,Gy (ma.mono (B0 lh n)) ha o ?_⟩
  intro A4 n4 c4 k4 aq au M4
  refine ⟨_,_,_,rfl,Io (mr.mono n) M4 aq o ?_⟩
  intro A5 n5 c5 h5 w k5 M5
  have G:=B0 lh (B0 n w)
  refine ⟨_,_,_,rfl,A4a (q0:=q) (m:=m) ag (mb.mono G) hb hl2 hbm ((M.mono n).mono w) hq (M3.mono w) ?_ M5 k5 g ?_ ao ?_⟩
  ·rw [al]
   have t1:q*(y%b64^m)<=q*b64^m:=aG o C
   have O:q*b64^m<b64^m*b64^m:=bG g p
   omega
  ·generalize x/b64^m=top at *
   generalize y/b64^m=yh at *
   generalize y%b64^m=yl at *
   generalize x%b64^m=xl at *
   generalize b64^m=P at *
   rw [<- dx,<- dy,ah];grind
  ·intro A6 n6 c6 A7 n7 c7 h7 u k6 k7 M6 M7
   exact hK _ _ _ _ _ _ _ (B0 G u) k6 k7 M6 M7
end
set_option maxHeartbeats 1000000 in
def C2h:∀ N,B7a N:=by
 intro N
 induction N with
 | zero=>intro h K A B T H X d x y V _ _ _ _ _ _ u;omega
 | succ N ih=>
  intro h K A B T H X d x y hN k g C n hl j ae f i W
  have aa:=k.nonneg dc
  have ah:=g.nonneg dc
  have e:0<y:=by
   have:=E7 (B:=b64) dc (d-1);omega
  refine (fnk func301) ?_
  have c:aW prog 277 #[.slice A X T,.slice B d H] h (fun r hp=>∃ (t22aA:Option bL) (t22an:Nat) (t22ac:Nat) (t22bA:Option bL) (t22bn:Nat) (t22bc:Nat),r= .tuple #[.slice t22aA t22an t22ac,.slice t22bA t22bn t22bc]/\K (.tuple #[.slice t22aA t22an t22ac,.slice t22bA t22bn t22bc]) hp):=by
   refine Fm k g C n o hl o ?_
   intro A1 m1 c1 A2 m2 c2 h' l D M M1 M2
   exact ⟨_,_,_,_,_,_,rfl,W _ _ _ _ _ _ _ l D M M1 M2⟩
  refine C1 (fun V=>c) (fun V=>?_)
  refine E6 (fun u=>c) (fun u=>?_)
  rw [cI o] at u
  obtain ⟨m,hbm⟩:∃ m,d=2*m:=⟨d/2,o⟩
  have eh:C4 (cJ ((d:Nat):Int) 2)=(m:Int):=by rw [aX o,C2 o o];omega
  simp only [eh]
  have S:=E7 (B:=b64) dc m
  have w:b64^d=b64^m*b64^m:=by rw [<- aV];congr 1;omega
  have dx:b64^m*(x/b64^m)+x%b64^m=x:=aM _ _
  have ag:=aP x (b:=b64^m) o
  have ak:=aK x S
  rw [w] at i
  refine Bj k C ?_
  intro A1 n1 c1 D ai M1
  refine ⟨_,_,_,rfl,?_⟩
  have G:x/b64^m<b64^m*y:=by
   by_cases hc:x/b64^m<b64^m*y
   ·exact hc
   ·have t1:b64^m*(b64^m*y)<=b64^m*(x/b64^m):=aG o o
    rw [cW] at i
    omega
  refine Su ih o o hbm M1 g D n o j f G ?_
  intro A2 n2 c2 A3 n3 c3 h3 q M k3 M2 M3
  refine ⟨_,_,_,_,_,_,rfl,Gy (k.mono q) C o ?_⟩
  intro A4 n4 c4 k4 F Q M4
  have d1:=aM (x/b64^m) y
  have d2:=aK (x/b64^m) e
  have d3:=aP (x/b64^m) (b:=y) o
  have E:x/b64^m/y<b64^m:=aZ e G
  have ad:n3<=d:=M3.len_le dc (by have:=g.lt dc;omega)
  have aj:n2<=m:=M2.len_le dc E
  refine ⟨_,_,_,rfl,Io M3 M4 F o ?_⟩
  intro A5 n5 c5 h5 s k5 M5
  refine ⟨_,_,_,rfl,?_⟩
  have O:(x/b64^m)%y*b64^m+x%b64^m<b64^m*y:=by
   have t1:b64^m*((x/b64^m)%y+1)<=b64^m*y:=aG o o
   rw [cZ,aS] at t1
   omega
  have af:n5<=d+m:=M5.len_le dc (by
   have t1:b64^m*y<b64^m*b64^d:=bY (g.lt dc) S
   rw [Nat.add_comm,aV];omega)
  refine Su ih o o hbm M5 (g.mono (B0 q s)) k5 n o j f O ?_
  intro A6 n6 c6 A7 n7 c7 h7 L k6 k7 M6 M7
  have z:n6<=m:=M6.len_le dc (aZ e O)
  refine ⟨_,_,_,_,_,_,rfl,Io ((M2.mono s).mono L) M6 z o ?_⟩
  intro A8 n8 c8 h8 R k8 M8
  refine ⟨_,_,_,rfl,?_⟩
  have e1:=aM ((x/b64^m)%y*b64^m+x%b64^m) y
  have e2:=aK ((x/b64^m)%y*b64^m+x%b64^m) e
  have e3:=aP ((x/b64^m)%y*b64^m+x%b64^m) (b:=y) o
  have M7':=M7.mono R
  have t:=B0 q (B0 s (B0 L R))
  generalize ((x/b64^m)%y*b64^m+x%b64^m)/y=q2 at *
  obtain ⟨f1,f2⟩:=A5q (x:=x) (a:=((x/b64^m)%y*b64^m+x%b64^m)%y) (b:=x/b64^m/y*b64^m+q2) (p:=y) (by
   generalize ((x/b64^m)%y*b64^m+x%b64^m)%y=r2 at *
   generalize x/b64^m/y=q1 at *
   generalize x/b64^m%y=r1 at *
   generalize x/b64^m=top at *
   generalize x%b64^m=xl at *
   generalize b64^m=P at *
   grind) e3 e2
  refine W _ _ _ _ _ _ _ t k8 k7 ?_ ?_
  ·rw [f1];exact M8
  ·rw [f2];exact M7'
def Xt{ys:List Int}{k t s:Nat}(dy:Dig b64 ys)(hk:ys.length=k+1)(ht:ys.getD k 0=(t:Int))(ht0:t≠0)(hs:s=64-S9 t):s<64/\val b64 ys*2^s<b64^(k+1)/\9223372036854775808*b64^k<=val b64 ys*2^s:=by have y:=Q7 dy k;obtain⟨f,c⟩:=Cl (B:=b64) dc dy (m:=k) hk;rw[ht]at y f c;obtain⟨r,q⟩:=Fq ht0;have p:S9 t<=64:=Iy (k:=64) o;have u:1<=S9 t:=gz0;have i:s<64:=o;have d:0<(2:Int)^s:=bK dc;have j:=Bl (s:=s) o;have n:(t:Int)+1<=2^(64-s):=by{grind};have l:(2:Int)^(63-s)<=t:=by{grind};have g:(2:Int)^s*2^(63-s)=9223372036854775808:=by{rw[<- aV,show s+(63-s)=63 from o];decide};have e:=E7 (B:=b64) dc k;refine⟨i,?_,?_⟩;{have w:val b64 ys*2^s<((t:Int)+1)*b64^k*2^s:=bG f d;have z:((t:Int)+1)*2^s*b64^k<=18446744073709551616*b64^k:=by{apply aD _ (aN e);rw[<- j,aS (2^s)];exact aD n (aN d)};grind};·have t1:(t:Int)*b64^k*2^s<=val b64 ys*2^s:=aD c (aN d);have w:9223372036854775808*b64^k<=(t:Int)*2^s*b64^k:=by{apply aD _ (aN e);rw[<- g,aS (t:Int)];exact aG l o};grind
section
variable {h g:bD} {K:VP} {A B:Option bL} {ac bc:Nat}
set_option maxHeartbeats 1000000 in
def A5w{D V a b:Int}{S sh dn dc vc bn bq:Nat}{pieces t46:Int}{DA VA:Option bL}(hS:C4 ((C4 (cJ (C4 ((C4 (((bn:Nat):Int)+pieces))-(1:Int))) pieces))*pieces)=(S:Int))
 (hsh:C8 (C4 ((C4 ((64:Int)*(C4 ((S:Int)-((bn:Nat):Int)))))+t46))=(sh:Int)) (hS0:0<S) (hS2:S<=200000000) (hsh2:sh<=100000000000) (hb:h bq=none) (hD:Mw h DA dn D) (hdc:dn<=dc) (hdn:0<dn) (hdl:dn<=2000000000) (hV:Mw h VA S V) (hvc:S<=vc) (hVt:9223372036854775808*b64^(S-1)<=V)
 (hDa:D=a*2^sh) (hVb:V=b*2^sh)
 (hK:∀ A1 m1 c1 A2 m2 c2 h',h.le h'->m1<=c1->m2<=c2->Mw h' A1 m1 (a/b)->Mw h' A2 m2 (a%b)->K (.tuple #[.slice A1 m1 c1,.slice A2 m2 c2]) h'):
 Ca prog bn K pieces t46 VA S vc DA dn dc (some ⟨bq,0,none⟩) (dn+S) (dn+S) (blk .u64 195 h bq (aE (dn+S) 0)):=by
 have M:=hD.nonneg (by decide)
 have ak:=hD.lt (by decide)
 have L:=hV.lt (by decide)
 have q:0<V:=by have:=E7 (B:=b64) (by decide) (S-1);omega
 have hp:0<(2:Int)^sh:=bK (by decide)
 have hQ:=E7 (B:=b64) (by decide) S
 unfold Ca
 simp only [hS,hsh]
 obtain ⟨nb,hnb⟩:∃ nb,nb=(dn-1)/S:=⟨_,rfl⟩
 have am:nb*S<=dn-1:=by rw [hnb];exact Nat.div_mul_le_self _ _
 have al:dn-1<nb*S+S:=by
  have R:=dY (dn-1) S
  have h2:=fP (dn-1) hS0
  rw [<- hnb,fY] at R
  omega
 have e1:C4 (C4 (cJ (C4 ((dn:Int)-1)) (S:Int))*(S:Int))=((nb+1:Nat):Int)*S-S:=by
  rw [C2 (n:=(dn:Int)-1) o o,show (dn:Int)-1=((dn-1:Nat):Int) from o,<- Int.ofNat_tdiv,<- hnb]
  have:nb<=dn-1:=by rw [hnb];exact dB _ _
  have T:(nb:Int)*(S:Int)=((nb*S:Nat):Int):=by simp
  rw [C2 (n:=(nb:Int)) o o,T,C2 o o,eC,Int.add_mul,T]
  omega
 refine ⟨fun l hp=>∃ (j n c:Nat) (A:Option bL) (d:List Int) (r:Int) (g:bD),l=[.slice A n c,I ((j:Int)*S-S)]/\h.le g/\j*S+d.length=dn+S/\Dig b64 d/\Win .u64 hp g bq 195 (some ⟨bq,0,none⟩) [] (aE (j*S) 0++d) []/\Mw g A n r/\n<=c/\r=(D/b64^(j*S))%V/\val b64 d=(D/b64^(j*S))/V,fun l _=>(iAt l 1+S).toNat,⟨nb+1,0,0,none,aE (dn-1+1-nb*S) 0,0,h,by rw [e1],B7 h,?_,J1 (by decide) _,?_,Mag.zero,bC _,?_,?_⟩,?_⟩
 ·rw [bZ,dM,dL];omega
 ·rw [cR,show (nb+1)*S+(dn-1+1-nb*S)=dn+S by rw [dM,dL];omega]
  exact Win.blk .u64 195 hb _
 ·have:=D9 (B:=b64) (by decide) (show dn<=(nb+1)*S by rw [dM,dL];omega)
  rw [bH M o,fT]
 ·have:=D9 (B:=b64) (by decide) (show dn<=(nb+1)*S by rw [dM,dL];omega)
  rw [bH M o,Int.zero_ediv,Cs]
 rintro A1 n1 c1 st a1 ⟨j,n,c,A',d,r,g,N,lg,t,H,w,Mr,aw,y,f⟩
 simp only [cH,cP,fL,and_true,true_and] at N
 obtain ⟨⟨rfl,rfl,rfl⟩,rfl⟩:=N
 refine C1 (fun R=>?_) (fun R=>?_)
 ·obtain ⟨i,rfl⟩:∃ i,j=i+1:=⟨j-1,by
   rcases j with _|j
   ·simp at R;omega
   ·rfl⟩
  obtain ⟨e,he⟩:∃ e,e=i*S:=⟨_,rfl⟩
  have C:(i+1)*S=e+S:=by rw [he,dM,dL]
  have af:((i+1:Nat):Int)*(S:Int)-(S:Int)=(e:Int):=by rw [<- bV,C];omega
  rw [C] at t w y f
  rw [af]
  have a2:=E7 (B:=b64) (by decide) e
  refine w.call (Bj (hD.mono lg) hdc ?_)
  intro A2 n2 c2 k2 a0 M2 h2 w2
  refine ⟨_,_,_,rfl,w2.call (Gy M2 k2 o ?_)⟩
  intro A3 n3 c3 k3 ah aj M3 T w3
  have av:=Mr.nonneg (by decide)
  have an:r<V:=by rw [y];exact aK _ q
  have ao:n1<=S:=Mr.len_le (by decide) o
  refine ⟨_,_,_,rfl,w3.call (Io Mr M3 ah o ?_)⟩
  intro A4 n4 c4 g4 l4 k4 M4 h4 w4
  have ac:D/b64^(e+S)=D/b64^e/b64^S:=by rw [aV,dR o]
  rw [ac] at y f
  have dm:=aM (D/b64^e) (b64^S)
  have au:=aP (D/b64^e) (b:=b64^S) o
  have ay:=aK (D/b64^e) hQ
  generalize hD1:D/b64^e=D1 at *
  have s:r*b64^S+D1%b64^S<b64^S*V:=by
   have t1:b64^S*(r+1)<=b64^S*V:=aG o o
   rw [cZ,aS] at t1
   omega
  have az:n4<=S+S:=M4.len_le (by decide) (by
   have t1:b64^S*V<b64^S*b64^S:=bY L hQ
   rw [aV];omega)
  have z:=B0 lg l4
  refine ⟨_,_,_,rfl,w4.call (C2h S (bC _) M4 (hV.mono z) k4 hvc o hS2 hS0 hVt s ?_)⟩
  intro A5 n5 c5 A6 n6 c6 g6 l6 k5 k6 M5 M6 h6 X
  have ar:n5<=S:=M5.len_le (by decide) (aZ q s)
  refine ⟨_,_,_,_,_,_,rfl,⟨o,o⟩,?_⟩
  rw [aC]
  have ad:aE (e+S) (0:Int)++d=aE e 0++(aE S 0++d):=by rw [<- cC,cR]
  rw [ad] at X
  have ap:(aE e (0:Int)++(aE S 0++d)).length=dn+S:=by simp only [aR,bZ];omega
  have w7:=X.sub (l:=e) (m:=dn+S) (c:=dn+S) o o o
  have e7:((aE e (0:Int)++(aE S 0++d)).drop e).take (dn+S-e)=aE S 0++d:=by
   rw [fN (by simp),aL (by simp only [aR,bZ];omega)]
  rw [e7] at w7
  obtain ⟨u,E,ae,ai,ax,G⟩:=M5
  refine Em S8 w7 (by simp only [aR,bZ];omega) (ae.mono X.le) E (by simp only [aR,bZ];omega) ?_
  intro h8 w8
  rw [cY (by simp;omega),bJ,<- cC u] at w8
  have k:(u++aE (S-u.length) (0:Int)).length=S:=by simp;omega
  have w9:=X.whole (l:=e) (m:=dn+S) o o (by rw [aR,k];omega) w8
  rw [dC (by simp),aT (show (aE e (0:Int)++(aE S 0++d)).length<=dn+S from o),bU] at w9
  have e8:C4 ((e:Int)-(S:Int))=((i:Nat):Int)*S-S:=by
   rw [C2 o o,he,bV]
  have aq:=aM (r*b64^S+D1%b64^S) V
  have F:=aP (r*b64^S+D1%b64^S) (b:=V) o
  have O:=aK (r*b64^S+D1%b64^S) q
  have aa:=aM (D1/b64^S) V
  rw [<- y,<- f] at aa
  obtain ⟨f1,f2⟩:=A5q (x:=D1) (a:=(r*b64^S+D1%b64^S)%V) (b:=val b64 u+b64^S*val b64 d) (p:=V) (by
   rw [G]
   generalize (r*b64^S+D1%b64^S)%V=r2 at *
   generalize hq2:(r*b64^S+D1%b64^S)/V=q2 at *
   generalize D1%b64^S=bl at *
   generalize D1/b64^S=D2 at *
   generalize b64^S=Q at *
   generalize val b64 d=W at *
   grind) F O
  refine ⟨_,rfl,?_⟩
  rw [e8]
  refine ⟨⟨i,_,_,_,(u++aE (S-u.length) 0)++d,_,g6,rfl,B0 z l6,?_,?_,?_,M6,k6,?_,?_⟩,?_⟩
  ·rw [aR,k];omega
  ·exact (ai.append (J1 (by decide) _)).append H
  ·rw [<- he];exact w9
  ·rw [<- he,hD1,f2]
  ·rw [<- he,hD1,f1,H8,k,Dk]
  ·simp only [iAt,aJ,aF]
   rw [<- bV,<- he]
   omega
 ·obtain rfl:j=0:=by
   rcases j with _|j
   ·rfl
   ·rw [<- bV,dM,dL] at R
    omega
  rw [fW,List.replicate_zero,cG] at w
  rw [fW,gF,Int.ediv_one] at y f
  rw [fW,fX] at t
  have ag:0<b:=by
   by_cases hc:0<b
   ·exact hc
   ·have:=aD (show b<=0 from o) (aN hp);omega
  obtain ⟨f1,f2⟩:=A5q (x:=D) (a:=(a%b)*2^sh) (b:=a/b) (p:=V) (by
   have:=aM a b
   rw [hDa,hVb]
   conv=>rhs;rw [<- this]
   grind) (aO (aP _ o) o) (by rw [hVb];exact bG (aK _ ag) hp)
  refine Cc w.sl H t.symm f o o ?_
  intro m2 k2 M2
  refine ⟨_,_,_,rfl,?_⟩
  refine Hf (Mr.mono w.le) (by have:=Mr.len_le (j:=S) (by decide) (by have:=aK D q;omega);omega) o ?_
  intro A3 n3 c3 T l3 k3 M3
  rw [y,f2,fB _ o] at M3
  rw [f1] at M2
  exact ⟨_,_,_,rfl,hK _ _ _ _ _ _ _ (B0 lg (B0 w.le l3)) k2 k3 (M2.mono l3) M3⟩
set_option maxHeartbeats 1000000 in
def Qi{x y:Int}{an bn:Nat}(ma:Mw h A an x)(mb:Mw h B bn y)(ha:an<=ac)(hbc:bn<=bc)(hl:an<=800000000)(hl2:bn<=100000000)(ha0:0<an)(hb0:0<bn)
 (hK:∀ A1 m1 c1 A2 m2 c2 h',h.le h'->m1<=c1->m2<=c2->Mw h' A1 m1 (x/y)->Mw h' A2 m2 (x%y)->K (.tuple #[.slice A1 m1 c1,.slice A2 m2 c2]) h'):aW prog 276 #[.slice A an ac,.slice B bn bc] h K:=by
 have aj:=ma.nonneg dc
 have af:=ma.len_zero dc
 have u:=ma.lt dc
 refine Rx _ _ _ _ _ _ ?_
 unfold Pa Je
 refine ⟨fun l hp=>hp=h/\∃ p:Nat,l=[I p]/\0<p/\p<=bn,fun l _=>bn-(iAt l 0).toNat,⟨rfl,1,rfl,o,o⟩,?_⟩
 rintro C hp ⟨rfl,p,X,w,ad⟩
 obtain rfl:=sI1 X
 have e1:C4 (cJ (C4 (C4 ((bn:Int)+(p:Int))-1)) (p:Int))=(((bn+p-1)/p:Nat):Int):=by
  rw [C2 (n:=(bn:Int)+p) o o,C2 (n:=(bn:Int)+p-1) o o,show (bn:Int)+p-1=((bn+p-1:Nat):Int) from o,<- Int.ofNat_tdiv]
  have:(bn+p-1)/p<=bn+p-1:=dB _ _
  generalize (bn+p-1)/p=q at *
  rw [C2 o o]
 refine C1 (fun g=>o) (fun _=>?_)
 obtain ⟨S,hS⟩:∃ S,S=(bn+p-1)/p*p:=⟨_,rfl⟩
 have ag:bn<=S/\S<=bn+p-1:=by
  have g:=dY (bn+p-1) p
  have E:=fP (bn+p-1) w
  rw [fY,<- hS] at g
  omega
 have e2:C4 ((C4 (cJ (C4 (C4 ((bn:Int)+(p:Int))-1)) (p:Int)))*(p:Int))=(S:Int):=by
  rw [e1,<- bV,<- hS,C2 o o]
 refine C1 (fun g=>?_) (fun g=>?_)
 ·rw [e1] at g
  have E:80<=(bn+p-1)/p:=o
  rw [Nat.le_div_iff_mul_le w] at E
  have Q:C4 ((p:Int)*2)=((p*2:Nat):Int):=by rw [C2 o o];omega
  rw [Q]
  exact ⟨⟨rfl,_,rfl,o,o⟩,by simp only [iAt,aF];omega⟩
 ·refine C1 (fun g=>o) (fun _=>?_)
  obtain ⟨k,hk⟩:∃ k,bn=k+1:=⟨bn-1,o⟩
  have R:=mb
  obtain ⟨c,N,sy,dy,ny,rfl⟩:=mb
  have f:c.length=k+1:=o
  have gt:=Q7 dy k
  have T:=A1i f ny
  have Q:C4 ((bn:Int)-1)=(k:Int):=by rw [C2 o o];omega
  rw [Q]
  subst N
  refine sy.load rfl o o ?_
  rw [aC]
  obtain ⟨t,ht⟩:∃ t:Nat,c.getD k 0=t:=⟨(c.getD k 0).toNat,o⟩
  rw [ht] at gt T ⊢
  refine U5 o ⟨_,rfl,?_⟩
  obtain ⟨s,hs⟩:∃ s,s=64-S9 t:=⟨_,rfl⟩
  rw [<- hs]
  obtain ⟨aa,O,M⟩:=Xt dy f ht o hs
  simp only [e2]
  obtain ⟨sh,hsh⟩:∃ sh,sh=64*(S-c.length)+s:=⟨_,rfl⟩
  have e4:C8 (C4 (C4 (64*C4 ((S:Int)-(c.length:Int)))+(s:Int)))=(sh:Int):=by
   rw [C2 (n:=(S:Int)-(c.length:Int)) o o,C2 (n:=64*((S:Int)-(c.length:Int))) o o,C2 o o,C6 o o]
   omega
  simp only [e4]
  have i:(2:Int)^sh=2^s*b64^(S-c.length):=by rw [hsh,aV,Ky,aS]
  have j:=E7 (B:=b64) dc (S-c.length)
  have ai:0<(2:Int)^s:=bK dc
  have r:0<(2:Int)^sh:=bK dc
  have ae:val b64 c*2^sh=val b64 c*2^s*b64^(S-c.length):=by rw [i,cW]
  have F:val b64 c*2^sh<b64^S:=by
   have t1:val b64 c*2^s*b64^(S-c.length)<b64^(k+1)*b64^(S-c.length):=bG O j
   rw [<- aV,show k+1+(S-c.length)=S from o] at t1
   omega
  have W:9223372036854775808*b64^(S-1)<=val b64 c*2^sh:=by
   have t1:9223372036854775808*b64^k*b64^(S-c.length)<=val b64 c*2^s*b64^(S-c.length):=aD M (aN j)
   rw [cW,<- aV,show k+(S-c.length)=S-1 from o] at t1
   omega
  refine Aa R hbc o o ?_
  intro A1 d c1 g l1 k1 M1
  refine ⟨_,_,_,rfl,?_⟩
  have H:d=S:=by
   have q1:=M1.len_le dc F
   have q2:=M1.lt dc
   by_cases hc:d=S
   ·exact hc
   ·have:=D9 (B:=b64) dc (show d<=S-1 from o)
    have:=E7 (B:=b64) dc (S-1)
    omega
  subst H
  refine Aa (ma.mono l1) ha o o ?_
  intro A2 m c2 E l2 k2 M2
  refine ⟨_,_,_,rfl,?_⟩
  have ah:m<=an+(1+(d-c.length)):=M2.len_le dc (by
   have t1:x*2^sh<b64^an*2^sh:=bG u r
   have t2:(2:Int)^sh<=b64^(1+(d-c.length)):=by
    rw [i,aV]
    apply aD _ (aN j)
    have:=D9 (B:=2) dc (show s<=64 from o)
    have e:(2:Int)^64=18446744073709551616:=dc
    show (2:Int)^s<=b64^1
    rw [aY,gF]
    show (2:Int)^s<=1*18446744073709551616
    omega
   have t3:b64^an*2^sh<=b64^an*b64^(1+(d-c.length)):=aG t2 (aN (E7 dc an))
   rw [aV b64 an]
   omega)
  have z:0<m:=by
   rcases Nat.eq_zero_or_pos m with G|G
   ·have:=(M2.len_zero dc).2 G
    rcases Int.mul_eq_zero.1 this with h3|h3<;>omega
   ·exact G
  have e5:C4 ((m:Int)+(d:Int))=((m+d:Nat):Int):=by rw [C2 o o];omega
  rw [e5]
  refine N4 S8 o o o ?_
  intro bq L
  rw [aC]
  refine ⟨_,_,_,rfl,?_⟩
  refine C1 (fun g=>o) (fun _=>?_)
  refine A5w (D:=x*2^sh) (V:=val b64 c*2^sh) (sh:=sh) (S:=d) e2 e4 o o o L M2 k2 z o (M1.mono l2) k1 W rfl rfl ?_
  intro A3 n3 c3 A4 n4 c4 h4 l4 k3 k4 M3 M4
  exact hK _ _ _ _ _ _ _ (B0 l1 (B0 l2 l4)) k3 k4 M3 M4
def W7{x y:Int}{an bn:Nat}(ma:Mw h A an x)(mb:Mw h B bn y)(ha:an<=ac)(hbc:bn<=bc)(hy:y≠0)(hl:an<=800000000)(hl2:bn<=100000000) (hK:∀A1 m1 c1 A2 m2 c2 h',h.le h'->m1<=c1->m2<=c2->Mw h' A1 m1 (x/y)->Mw h' A2 m2 (x%y)->K (.tuple #[.slice A1 m1 c1,.slice A2 m2 c2]) h'):aW prog 237 #[.slice A an ac,.slice B bn bc] h K:=by refine(fnk func237) ?_;have c:aW prog 277 #[.slice A an ac,.slice B bn bc] h (fun r e=>∃(t22aA:Option bL) (t22an:Nat) (t22ac:Nat) (t22bA:Option bL) (t22bn:Nat) (t22bc:Nat),r= .tuple #[.slice t22aA t22an t22ac,.slice t22bA t22bn t22bc]/\K (.tuple #[.slice t22aA t22an t22ac,.slice t22bA t22bn t22bc]) e):=by{refine Fm ma mb ha hbc hy o o ?_;grind};refine C1 (fun f=>C1 (fun d=>?_) (fun _=>c)) (fun _=>c);rw[C2 o o]at d;refine Qi ma mb ha hbc hl hl2 o o ?_;grind
end
def TZ(x k:Nat):Prop:=∃m,x=2^k*(2*m+1)
def TZ.ex:∀{x:Nat},x≠0->∃k,TZ x k:=by
 intro x
 induction x using Nat.strongRecOn with
 |_ x ih=>
  intro h;rcases Nat.mod_two_eq_zero_or_one x with d|d
  ·obtain⟨k,m,c⟩:=ih (x/2) o o;refine⟨k+1,m,?_⟩;rw[dS,fY (2^k),dN,<- c];omega
  ·exact⟨0,x/2,o⟩
def TZ.lt{x k n:Nat}(h:TZ x k)(hx:x<2^n):k<n:=by obtain⟨m,rfl⟩:=h;have c:2^k*1<=2^k*(2*m+1):=eZ _ o;exact(fS (a:=2) dc).1 o
def B19{a u v:Nat}:(2^a*u) ||| (2^a*v)=2^a*(u ||| v):=by apply Nat.eq_of_testBit_eq;grind
def B6l{u v:Nat}(h:u%2=1\/v%2=1):(u ||| v)%2=1:=by simp_all
def TZ.or'{x y a b:Nat}(hx:TZ x a)(hy:TZ y b)(hab:a<=b):TZ (x ||| y) a/\TZ (y ||| x) a:=by obtain⟨m,rfl⟩:=hx;obtain⟨n,rfl⟩:=hy;obtain⟨d,rfl⟩:∃d,b=a+d:=⟨b-a,o⟩;rw[eM,dN,B19,B19];have c:=B6l (u:=2*m+1) (v:=2^d*(2*n+1)) (.inl o);have e:=B6l (u:=2^d*(2*n+1)) (v:=2*m+1) (.inr o);exact⟨⟨_/2,by rw[<- dY (_ ||| _) 2,c]⟩,⟨_/2,by rw[<- dY (_ ||| _) 2,e]⟩⟩
def TZ.or{x y a b:Nat}(hx:TZ x a)(hy:TZ y b):TZ (x ||| y) (min a b):=by by_cases h:a<=b;{rw[aH h];exact(hx.or' hy h).1};·rw[fH o];exact(hy.or' hx o).2
def TZ.bit{x k:Nat}(h:TZ x k)(hx:x<2^64):x &&& (2^64-x)=2^k:=by obtain⟨m,rfl⟩:=h;have j:0<2^k:=cX dc;have c:2^k*(2*m+1)=2^k*(2*m)+(2^k-1)+1:=gz0;apply Nat.eq_of_testBit_eq;intro i;rw[Nat.testBit_and];have g:(2^64-2^k*(2*m+1)).testBit i=(decide (i<64) && !(2^k*(2*m)+(2^k-1)).testBit i):=by{rw[c];exact Nat.testBit_two_pow_sub_succ o i};rw[g,Nat.testBit_two_pow_mul_add _ o,Nat.testBit_two_pow_mul,Nat.testBit_two_pow];by_cases l:i<k;{grind};·by_cases e:i=k;{subst e;have f:i<64:=TZ.lt ⟨m,rfl⟩ hx;grind};·obtain⟨d,hd⟩:∃d,i-k=d+1:=⟨i-k-1,o⟩;grind
def Yw{o k:Nat}(h:o%2=1):Nat.Coprime (2^k) o:=Nat.Coprime.pow_left k (by unfold Nat.Coprime;rw[Nat.gcd_rec,h];rfl)
def B95{x y a b m:Nat}(hx:x=2^a*(2*m+1))(hy:TZ y b):cV x y=2^(min a b)*cV (2*m+1) y:=by obtain⟨n,rfl⟩:=hy;subst hx;have c:cV (2*m+1) (2^b*(2*n+1))=cV (2*m+1) (2*n+1):=cK (2*n+1) (Yw o);rw[c];by_cases h:a<=b;{obtain⟨d,rfl⟩:∃d,b=a+d:=⟨b-a,o⟩;rw[aH h,eM,dN,Nat.gcd_mul_left,cK _ (Yw o)]};·obtain⟨d,rfl⟩:∃d,a=b+d:=⟨a-b,o⟩;rw[fH o,eM,dN,Nat.gcd_mul_left,Nat.Coprime.gcd_mul_left_cancel _ (Yw o)]
def A49(k:Nat):Nat:=(2^k*285870213051353865%18446744073709551616)/2^58
def Gtz(h:bD):Prop:=∀k,k<64->h.cell? (eU ⟨0,0,none⟩ (A49 k*1))=some (Y k)
def Gtz.mono{h h':bD}(g:Gtz h)(l:h.le h'):Gtz h':=fun k c=>C0 l (g k c)
section
variable {h g:bD} {K:VP} {A B:Option bL} {ac bc:Nat}
def Kr{x k:Nat}(gl:Gtz h)(tz:TZ x k)(hx:x<18446744073709551616)(hK:K (I k) h):aW prog 280 #[U x] h K:=by have c:=tz.lt (n:=64) hx;have g:x≠0:=by{obtain⟨m,rfl⟩:=tz;grind};refine Ly _ ?_;refine D5 (fun e=>o) (fun _=>?_);have d:C8 (0-(x:Int))=((2^64-x:Nat):Int):=by{rw[F6];omega};have i:A0y .u64 (x:Int) ((2^64-x:Nat):Int)=((2^k:Nat):Int):=by{rw[B2w o o,aC,aC,tz.bit hx]};have f:dJ (C8 (((2^k:Nat):Int)*285870213051353865)) (2^(min ((58:Int)).toNat 64))=((A49 k:Nat):Int):=by{show dJ _ (2^(min 58 64))=_;rw[B46 dc,F6];rfl};rw[d,i,f,aC];have j:A49 k<64:=by{unfold A49;omega};refine⟨⟨o,o⟩,_,gl k c,?_⟩;rw[C2 o o];exact hK
def A2u{x y:Nat}(gl:Gtz h)(hx:x<18446744073709551616)(hy:y<18446744073709551616)(hK:K (U (cV x y:Nat)) h):aW prog 241 #[U x,U y] h K:=by refine(fnk func241 [(5,[0,1],[],[U 0,U 0])]) ?_;refine D5 (fun e=>?_) (fun e=>?_);{obtain rfl:x=0:=o;rw[A5v o o];grind};refine D5 (fun D=>?_) (fun D=>?_);{obtain rfl:y=0:=o;rw[A5v o o];grind};obtain⟨a,j⟩:=TZ.ex (x:=x) o;obtain⟨b,w⟩:=TZ.ex (x:=y) o;have R:=j.lt (n:=64) hx;rw[A5v o o,aC,aC];have p:x ||| y<18446744073709551616:=Nat.or_lt_two_pow (n:=64) hx hy;refine Kr gl (j.or w) p ⟨_,rfl,?_⟩;refine Kr gl j hx ⟨_,rfl,?_⟩;refine C1 (fun i=>o) (fun _=>?_);obtain⟨m,r⟩:=j;have C:=B95 r w;have M:dJ (x:Int) (2^(min ((a:Int)).toNat 64))=((2*m+1:Nat):Int):=by{rw[aC,B46 o,show((2:Int)^a)=((2^a:Nat):Int) by simp,<- Int.natCast_ediv,r,fU _ (cX dc)]};rw[M];have t:2*m+1<=x:=by{rw[r];exact fZ _ (cX dc)};refine⟨fun l G=>G=h/\∃u v:Nat,l=[U u,U v]/\u%2=1/\u<18446744073709551616/\v<18446744073709551616/\cV u v=cV (2*m+1) y,fun l _=>(iAt l 0+iAt l 1).toNat,⟨rfl,2*m+1,y,rfl,o,o,hy,rfl⟩,?_⟩;rintro S Q F ⟨rfl,u,v,H,L,B,f,d⟩;obtain⟨rfl,rfl⟩:=H;refine E6 (fun i=>?_) (fun i=>?_);{obtain⟨c,k⟩:=TZ.ex (x:=v) o;have T:=k.lt (n:=64) f;refine Kr gl k f ⟨_,rfl,?_⟩;refine C1 (fun i=>o) (fun _=>?_);obtain⟨n,q⟩:=k;have E:dJ (v:Int) (2^(min ((c:Int)).toNat 64))=((2*n+1:Nat):Int):=by{rw[aC,B46 o,show((2:Int)^c)=((2^c:Nat):Int) by simp,<- Int.natCast_ediv,q,fU _ (cX dc)]};have z:2*n+1<=v:=by{rw[q];exact fZ _ (cX dc)};have g:cV u (2*n+1)=cV u v:=by{rw[q,cK _ (Yw L)]};rw[E];refine C1 (fun A=>?_) (fun A=>?_);{have s:C8 ((u:Int)-((2*n+1:Nat):Int))=((u-(2*n+1):Nat):Int):=by{rw[C6 o o];omega};rw[s];refine⟨⟨rfl,_,_,rfl,o,o,o,?_⟩,?_⟩;{rw[gC o,gD,g,d]};·simp only[iAt,aF,aJ];omega};·have s:C8 (((2*n+1:Nat):Int)-(u:Int))=((2*n+1-u:Nat):Int):=by{rw[C6 o o];omega};rw[s];refine⟨⟨rfl,_,_,rfl,o,o,o,?_⟩,?_⟩;{rw[gC o,g,d]};·simp only[iAt,aF,aJ];omega};·refine C1 (fun i=>o) (fun _=>?_);obtain rfl:v=0:=o;rw[aC,aH (show min a b<=64 from o)];have N:(u:Int)*2^(min a b)=((cV x y:Nat):Int):=by{rw[C,<- d,bV,aS];simp};have O:cV x y<=x:=Nat.le_of_dvd o (Nat.gcd_dvd_left x y);rw[N,C6 o o];exact hK
end
def B03{xs:List Int}(d:Dig b64 xs){k s:Nat}(hl:xs.length<=k+2)(hs:s<=64):val b64 xs/(b64^k*2^(64-s))=xs.getD (k+1) 0*2^s+xs.getD k 0/2^(64-s):=by have i:=C7 b64 xs (k+1);have l:=C7 b64 xs k;rw[aL (show xs.length<=k+1+1 from o)]at i;have e:=E7 (B:=b64) dc k;have g:0<(2:Int)^(64-s):=bK dc;have c:=Bl (s:=s) hs;have j:=D0 dc (d.take k);have m:=O5 dc (d.take k);have n:=D9 (B:=b64) dc (show(xs.take k).length<=k from gz0);rw[<- dR (aN e)];have f:val b64 xs/b64^k=xs.getD k 0+18446744073709551616*xs.getD (k+1) 0:=by{refine(A5q (a:=val b64 (xs.take k)) ?_ j o).1;grind};rw[f,<- c,aS (2^s),cW,eI _ _ o,aS (2^s)];omega
section
variable {h g:bD} {K:VP} {A B:Option bL} {ac bc:Nat}
def B9q(a b u0 u1 v0 v1:Int)(odd:Bool):Prop:=(0<=u0/\u0<18446744073709551616)/\(0<=u1/\u1<18446744073709551616)/\(0<=v0/\v0<18446744073709551616)/\(0<=v1/\v1<18446744073709551616)/\(v0≠0->Leh a b u0 v0 u1 v1 (Qc a b u0 v0 odd) (Qb a b u1 v1 odd))
def B45{a b F S W t20 t26 t33:Int}(hF:F=bor .u64 (C8 (t26*2^(min (C8 t20).toNat 64))) (dJ t33 (2^(min (C8 ((64:Int)-(C8 t20))).toNat 64))))(hW:0<W)(hFa:F=a/W)(hSb:S=b/W)(hb0:0<=b)(hba:b<=a)(hF64:F<18446744073709551616) (hK:∀u0 u1 v0 v1 odd,B9q a b u0 u1 v0 v1 odd->K (.agg #[U u0,U u1,U v0,U v1,.bool odd]) h):Jd prog K t20 t26 t33 S h:=by have da:=aM a W;have db:=aM b W;have t:=aP a (b:=W) o;have w:=aK a hW;have y:=aP b (b:=W) o;have z:=aK b hW;have u:0<=S:=by{rw[hSb];exact bM hb0 o};have s:S<=F:=by{rw[hSb,hFa];exact Int.ediv_le_ediv hW hba};unfold Jd;rw[<- hF];refine⟨fun l B=>B=h/\∃(first c g d u0 u1 v0 v1:Int) (odd:Bool),l=[U first,U c,U g,U d,U u0,U u1,U v0,U v1,.bool odd]/\LS F S first c u0 v0 u1 v1 g d odd/\B9q a b u0 u1 v0 v1 odd/\g<=F/\d<=(if F=0 then 1 else F),fun l _=>(iAt l 1).toNat,⟨rfl,_,_,_,_,_,_,_,_,_,rfl,LS.init u s,⟨o,o,o,o,fun e=>absurd rfl e⟩,o,o⟩,?_⟩;rintro first c g d u0 u1 v0 v1 odd B ⟨rfl,q,k,G,N,Q,ac,V,aa,C,T,i,r,L,M⟩;obtain⟨rfl,rfl,rfl,rfl,rfl,rfl,rfl,rfl,rfl⟩:=T;have A:=i.v2pos;have m:=i.ord;have R:=i.hF;refine C1 (fun h1=>?_) (fun _=>hK _ _ _ _ _ r);have p:1<=c:=o;have X:=i.bound2 p;have H:first<=F:=by{have t1:1*first<=d*first:=aD o o;have t2:=aO (show 0<=v1 from o) m.1;omega};rw[C6 (n:=first-c) o o,C6 (n:=v1+d) o o];refine C1 (fun h2=>?_) (fun _=>hK _ _ _ _ _ r);refine C1 (fun e=>o) (fun _=>?_);refine C1 (fun e=>o) (fun _=>?_);rw[cI o,aX o];have f:=i.step o o;have ad:=f.bound p;have j:0<=first/c:=bM o o;have E:first/c<=first:=dQ _ o;have D:=aO j (show 0<=g from o);have O:=aO j (show 0<=d from o);rw[C6 (n:=first/c) o o,C6 (n:=first/c*g) o o,C6 (n:=first/c*d) o o,C6 (n:=u1+first/c*g) o o,C6 (n:=v1+first/c*d) o o];refine⟨⟨rfl,_,_,_,_,_,_,_,_,_,rfl,f,⟨⟨o,r.2.1.2⟩,⟨o,o⟩,⟨o,r.2.2.2.1.2⟩,⟨o,o⟩,fun e=>f.leh e hW (al:=a%W) (bl:=b%W) ?_ ?_ ⟨t,w⟩ ⟨y,z⟩⟩,o,o⟩,?_⟩;{grind};{grind};·have:=aK first (show 0<c from o);simp only[iAt,aJ,aF];omega
set_option maxHeartbeats 1000000 in
def Ze{a b:Int}{an bn:Nat}(ma:Mw h A an a)(mb:Mw h B bn b)(hba:b<=a)(hb2:2<=bn)(hl:an<=1000000000)
 (hK:∀ u0 u1 v0 v1 odd,B9q a b u0 u1 v0 v1 odd->K (.agg #[U u0,U u1,U v0,U v1,.bool odd]) h):aW prog 236 #[.slice A an ac,.slice B bn bc] h K:=by
 have S:=mb.nonneg dc
 have ah:bn<=an:=mb.len_le dc (cF hba (ma.lt dc))
 obtain ⟨k,rfl⟩:∃ k,an=k+2:=⟨an-2,o⟩
 obtain ⟨w,g,V,H,nx,rfl⟩:=ma
 obtain ⟨f,n,N,X,ny,rfl⟩:=mb
 refine A3n _ _ _ _ _ _ ?_
 unfold A3o
 have e1:C4 (((k+2:Nat):Int)-1)=((k+1:Nat):Int):=by rw [C2 o o];omega
 have e2:C4 (((k+2:Nat):Int)-2)=(k:Int):=by rw [C2 o o];omega
 simp only [e1,e2]
 have gt:=Q7 H (k+1)
 have R:=Q7 H k
 have aa:=A1i (m:=k+1) g.symm nx
 obtain ⟨t,ht⟩:∃ t:Nat,w.getD (k+1) 0=t:=⟨(w.getD (k+1) 0).toNat,o⟩
 rw [g]
 refine V.load rfl o o ?_
 rw [aC,ht]
 rw [ht] at gt aa
 refine U5 o ⟨_,rfl,?_⟩
 obtain ⟨s,hs⟩:∃ s,s=64-S9 t:=⟨_,rfl⟩
 rw [<- hs]
 obtain ⟨ad,r,ag⟩:=Xt H g.symm ht o hs
 refine V.load rfl o o ?_
 simp only [aC,ht]
 have i:C8 (s:Int)=s:=C6 o o
 have d:C8 (64-(s:Int))=((64-s:Nat):Int):=by rw [C6 o o];omega
 refine C1 (fun e=>by rw [i] at e;omega) (fun _=>?_)
 refine V.load rfl o o ?_
 simp only [aC]
 refine C1 (fun e=>by rw [i,d] at e;omega) (fun _=>?_)
 have W:0<(2:Int)^s:=bK dc
 have q:0<(2:Int)^(64-s):=bK dc
 have C:=Bl (s:=s) o
 have T:=E7 (B:=b64) dc k
 have Q:0<b64^k*2^(64-s):=Int.mul_pos T q
 have j:=B03 H (k:=k) (s:=s) o o
 have c:=B03 X (k:=k) (s:=s) o o
 have D:val b64 w/(b64^k*2^(64-s))<18446744073709551616:=by
  apply aZ Q
  have t1:18446744073709551616*(b64^k*2^(64-s))*2^s=18446744073709551616*b64^k*(2^s*2^(64-s)):=gz0
  rw [C] at t1
  have L:b64^(k+1+1)=18446744073709551616*b64^k*18446744073709551616:=by
   rw [aY,aY]
   show b64^k*18446744073709551616*18446744073709551616=_
   grind
  rw [L,<- t1] at r
  exact Int.lt_of_mul_lt_mul_right r o
 have af:val b64 f/(b64^k*2^(64-s))<=val b64 w/(b64^k*2^(64-s)):=Int.ediv_le_ediv Q hba
 have q1:∀ z:Int,0<=z/\z<18446744073709551616->0<=z/2^(64-s)/\z/2^(64-s)<2^s:=fun z G=>
  ⟨bM G.1 o,aZ q (by rw [C];exact G.2)⟩
 have y:∀ u z:Int,0<=u->0<=z/\z<18446744073709551616->u*2^s+z/2^(64-s)<18446744073709551616->bor .u64 (C8 (u*2^(min (C8 (s:Int)).toNat 64))) (dJ z (2^(min (C8 (64-C8 (s:Int))).toNat 64)))=u*2^s+z/2^(64-s):=by
  intro u z hu G M
  have:=q1 z G
  have:=aO hu (aN W)
  rw [i,d,aC,aC,B46 o,aH (show s<=64 from o),C6 o o,A3e hu o M]
 have gy:=Q7 X (k+1)
 have O:=Q7 X k
 rw [ht] at j
 refine ⟨fun l hp=>hp=h/\l=[U (val b64 f/(b64^k*2^(64-s)))],?_,?_⟩
 ·refine D5 (fun e=>?_) (fun e=>?_)
  ·rw [n]
   refine N.load rfl o o ?_
   simp only [aC]
   refine C1 (fun e=>by rw [i] at e;omega) (fun _=>?_)
   refine N.load rfl o o ?_
   simp only [aC]
   refine C1 (fun e=>by rw [i,d] at e;omega) (fun _=>?_)
   rw [y _ _ gy.1 O o,c]
   first|exact ⟨rfl,rfl⟩|exact ⟨trivial,rfl⟩
  ·refine D5 (fun e=>?_) (fun e=>?_)
   ·rw [n]
    refine N.load rfl o o ?_
    simp only [aC]
    refine C1 (fun e=>by rw [i,d] at e;omega) (fun _=>?_)
    have:f.getD (k+1) 0=0:=by simp [fI,eG (show f.length<=k+1 from o)]
    rw [this,dT,cL] at c
    rw [i,d,aC,B46 o,c]
    first|exact ⟨rfl,rfl⟩|exact ⟨trivial,rfl⟩
   ·have t1:f.getD (k+1) 0=0:=by simp [fI,eG (show f.length<=k+1 from o)]
    have L:f.getD k 0=0:=by simp [fI,eG (show f.length<=k from o)]
    rw [t1,L,dT,cL,Int.zero_ediv] at c
    rw [c]
    exact ⟨rfl,rfl⟩
 ·rintro E ae ⟨rfl,p⟩
  simp only [cH,fL,and_true,true_and] at p
  subst p
  exact B45 (F:=val b64 w/(b64^k*2^(64-s))) (by rw [y _ _ o R o,j]) Q rfl rfl S hba D hK
end
def Win.swap{k k':cT}{h g1 g:bD}{ba bb:Nat}{e e':cD}{A B:Option bL}{pa qa pb qb:List eJ}{us bs:List Int}(wa:Win k h g1 ba e A pa us qa)(wb:Win k' g1 g bb e' B pb bs qb):∃g2,Win k' h g2 bb e' B pb bs qb/\Win k g2 g ba e A pa us qa:=by have c:ba≠bb:=by{rintro rfl;have:=wa.free;rw[wb.eq,C3]at this;cases this};have d:g ba=none:=by{have:=wa.free;rwa [wb.eq,B9 _ _ c]at this};refine⟨g.put ba (.cells (pa++us.map (bI k)++qa).toArray e),⟨?_,?_,wb.at_⟩,⟨d,rfl,wa.at_⟩⟩;{rw[B9 _ _ c.symm];exact wb.free};·rw[wa.eq,wb.eq];exact Heap.put_comm _ _ _ c.symm
def Za{z y c:Int}(hz:0<=z/\z<18446744073709551616)(hy:0<=y/\y<18446744073709551616)(hc:0<=c/\c<=1):(z-y-c)%18446744073709551616=z-y-c+18446744073709551616*(if z-y-c<0 then 1 else 0):=by omega
def A2l(z:Int):z%18446744073709551616=z-18446744073709551616*(z/18446744073709551616):=o
def Oc{x y c:Int}(hx:0<=x/\x<18446744073709551616)(hy:0<=y/\y<18446744073709551616)(hc:0<=c/\c<18446744073709551616):0<=(x*y+c)/18446744073709551616/\(x*y+c)/18446744073709551616<18446744073709551616:=by have e:=aO hx.1 hy.1;have d:x*y<=18446744073709551615*y:=aD o hy.1;omega
def pin{v w B m:Int}(h:v=w+B*m)(hv:0<=v/\v<B)(hw:0<=w/\w<B):v=w:=by have c:0<B:=o;by_cases e:m <= -1;{have:=aG e (aN c);omega};·by_cases d:1<=m;{have:=aG d (aN c);omega};grind
section
variable {h g g1:bD} {K:VP} {A B:Option bL} {ac bc an bn ba bb:Nat} {e:cD} {qa qb:List eJ}
set_option maxHeartbeats 1000000 in
def A9g{us bs:List Int}{u0 u1 v0 v1:Int}{odd:Bool}(wa:Win .u64 h g1 ba e A [] us qa)(wb:Win .u64 g1 g bb e B [] bs qb)(ha:an=us.length)(hb:bn=bs.length)(hab:us.length=bs.length)(da:Dig b64 us)(db:Dig b64 bs)(hl:us.length<=1000000000)(hu0:0<=u0/\u0<18446744073709551616)(hu1:0<=u1/\u1<18446744073709551616)(hv0:0<=v0/\v0<18446744073709551616)(hv1:0<=v1/\v1<18446744073709551616)
 (hX0:0<=Qc (val b64 us) (val b64 bs) u0 v0 odd/\Qc (val b64 us) (val b64 bs) u0 v0 odd<b64^us.length) (hX1:0<=Qb (val b64 us) (val b64 bs) u1 v1 odd/\Qb (val b64 us) (val b64 bs) u1 v1 odd<b64^us.length)
 (hK:∀ us' bs' h' g1',us'.length=us.length->bs'.length=us.length->Dig b64 us'->Dig b64 bs'->val b64 us'=Qc (val b64 us) (val b64 bs) u0 v0 odd->val b64 bs'=Qb (val b64 us) (val b64 bs) u1 v1 odd->Win .u64 h' g1' ba e A [] us' qa->Win .u64 g1' g bb e B [] bs' qb->K (.tuple #[]) h'):
 aW prog 238 #[.agg #[U u0,U u1,U v0,U v1,.bool odd],.slice A an ac,.slice B bn bc] h K:=by
 subst ha hb
 refine (fnk func238 [(4,[6,7,8,9,10,11,21],[],[U 0,U 0,U 0,U 0,U 0,U 0,I 0])] (own:=[3])) ?_
 refine ⟨fun l hp=>∃ (k:Nat) (d f j m X lo:Int) (D E:List Int) (g1:bD),l=[U d,U f,U j,U m,U X,U lo,I k]/\k<=us.length/\D.length=us.length/\E.length=us.length/\Dig b64 D/\Dig b64 E/\(0<=d/\d<18446744073709551616)/\(0<=f/\f<18446744073709551616)/\(0<=j/\j<18446744073709551616)/\(0<=m/\m<18446744073709551616)/\(0<=X/\X<=1)/\(0<=lo/\lo<=1)/\Win .u64 hp g1 ba e A [] D qa/\Win .u64 g1 g bb e B [] E qb/\D.drop k=us.drop k/\E.drop k=bs.drop k/\
  val b64 (D.take k)=Qc (val b64 (us.take k)) (val b64 (bs.take k)) u0 v0 odd+b64^k*((if odd then f-d else d-f)+X)/\val b64 (E.take k)=Qb (val b64 (us.take k)) (val b64 (bs.take k)) u1 v1 odd+b64^k*((if odd then m-j else j-m)+lo),fun l _=>us.length-(iAt l 6).toNat,⟨0,0,0,0,0,0,0,us,bs,g1,rfl,o,rfl,hab.symm,da,db,o,o,o,o,o,o,wa,wb,rfl,rfl,by simp [val,Qc],by simp [val,Qb]⟩,?_⟩
 rintro d f j m X lo i hp ⟨k,af,aj,ae,ag,ah,ak,D,E,g1,aa,hk,c,s,T,S,hP,hQ,hR,hT,n,F,R,V,H,N,u,G⟩
 simp only [cH,fL,and_true,true_and] at aa
 obtain ⟨rfl,rfl,rfl,rfl,rfl,rfl,rfl⟩:=aa
 refine C1 (fun h1=>?_) (fun h1=>?_)
 ·have gx:=Q7 T k
  have gy:=Q7 S k
  have z:=F5 H
  have w:=F5 N
  have vx:=C7 b64 us k
  have vy:=C7 b64 bs k
  obtain ⟨g2,ad,ai⟩:=R.swap V
  refine R.sl.load c.symm o o ?_
  refine ad.sl.load o o o ?_
  simp only [aC]
  obtain ⟨aA,hA,_⟩:=SlV.at R.sl (i:=k) (by simp;omega)
  obtain ⟨aB,hB,_⟩:=SlV.at V.sl (i:=k) (by simp;omega)
  generalize hx0:D.getD k 0=x at *
  generalize hy0:E.getD k 0=y at *
  refine W5 gx hu0 hP ⟨_,_,rfl,?_⟩
  refine W5 gy hv0 hQ ⟨_,_,rfl,?_⟩
  refine W5 gy hv1 hR ⟨_,_,rfl,?_⟩
  refine W5 gx hu1 hT ⟨_,_,rfl,?_⟩
  have bP:=Oc gx hu0 hP
  have bQ:=Oc gy hv0 hQ
  have bR:=Oc gy hv1 hR
  have bT:=Oc gx hu1 hT
  have mP:=Fi (x*u0+d)
  have mQ:=Fi (y*v0+f)
  have mR:=Fi (y*v1+j)
  have mT:=Fi (x*u1+m)
  have kP:=A2l (x*u0+d)
  have kQ:=A2l (y*v0+f)
  have kR:=A2l (y*v1+j)
  have kT:=A2l (x*u1+m)
  have ek:C4 ((k:Int)+1)=((k+1:Nat):Int):=by rw [C2 o o];omega
  rw [ek]
  generalize (x*u0+d)/18446744073709551616=cP2 at *
  generalize (y*v0+f)/18446744073709551616=cQ2 at *
  generalize (y*v1+j)/18446744073709551616=cR2 at *
  generalize (x*u1+m)/18446744073709551616=cT2 at *
  generalize (x*u0+d)%18446744073709551616=p at *
  generalize (y*v0+f)%18446744073709551616=q at *
  generalize (y*v1+j)%18446744073709551616=r at *
  generalize (x*u1+m)%18446744073709551616=t at *
  have C:b64^(k+1)=b64^k*18446744073709551616:=aY _ _
  cases odd with
  | true=>
   refine Br.of (fun _=>?_) (fun e=>by cases e)
   refine Gi mP mQ n ⟨_,_,rfl,aA,hA,o,o,R.storeN (i:=k) G8 hA o ?_⟩
   intro h2 w2
   refine Gi mR mT F ⟨_,_,rfl,aB,hB,o,o,?_⟩
   obtain ⟨g3,L,Q⟩:=w2.swap V
   refine L.storeN (i:=k) G8 hB o ?_
   intro h4 w4
   obtain ⟨g5,M,O⟩:=w4.swap Q
   refine ⟨⟨k+1,_,_,_,_,_,_,_,_,g5,rfl,o,by simpa using c,by simpa using s,T.set (Fi _),S.set (Fi _),bP,bQ,bR,bT,by split<;>omega,by split<;>omega,M,O,?_,?_,?_,?_⟩,by simp only [iAt,aF,aJ];omega⟩
   ·rw [E5 o];exact E8 H
   ·rw [E5 o];exact E8 N
   ·rw [D3 o,F8,aI,aH o,C,vx,vy,<- z,<- w,u,Za mP mQ n]
    simp only [Qc,if_true]
    grind
   ·rw [D3 o,F8,aI,aH o,C,vx,vy,<- z,<- w,G,Za mR mT F]
    simp only [Qb,if_true]
    grind
  | false=>
   refine Br.of (fun e=>by cases e) (fun _=>?_)
   refine Gi mQ mP n ⟨_,_,rfl,aA,hA,o,o,R.storeN (i:=k) G8 hA o ?_⟩
   intro h2 w2
   refine Gi mT mR F ⟨_,_,rfl,aB,hB,o,o,?_⟩
   obtain ⟨g3,L,Q⟩:=w2.swap V
   refine L.storeN (i:=k) G8 hB o ?_
   intro h4 w4
   obtain ⟨g5,M,O⟩:=w4.swap Q
   refine ⟨⟨k+1,_,_,_,_,_,_,_,_,g5,rfl,o,by simpa using c,by simpa using s,T.set (Fi _),S.set (Fi _),bP,bQ,bR,bT,by split<;>omega,by split<;>omega,M,O,?_,?_,?_,?_⟩,by simp only [iAt,aF,aJ];omega⟩
   ·rw [E5 o];exact E8 H
   ·rw [E5 o];exact E8 N
   ·rw [D3 o,F8,aI,aH o,C,vx,vy,<- z,<- w,u,Za mQ mP n]
    simp only [Qc,Bool.false_eq_true,if_false]
    grind
   ·rw [D3 o,F8,aI,aH o,C,vx,vy,<- z,<- w,G,Za mT mR F]
    simp only [Qb,Bool.false_eq_true,if_false]
    grind
 ·obtain rfl:k=us.length:=o
  rw [aL (show D.length<=us.length from o),bO,aL (show bs.length<=us.length from o)] at u
  rw [aL (show E.length<=us.length from o),bO,aL (show bs.length<=us.length from o)] at G
  have bx:=O5 dc T
  have W:=O5 dc S
  rw [c] at bx
  rw [s] at W
  exact hK D E hp g1 c s T S (pin u ⟨D0 dc T,bx⟩ hX0) (pin G ⟨D0 dc S,W⟩ hX1) R V
end
def Win.priv{k:cT}{h g:bD}{b m c:Nat}{e:cD}{A:Option bL}{xs:List Int}{post:List eJ}(w:Win k h g b e A [] xs post)(hx:xs≠[])(hc:c=xs.length+post.length)(hm:m<=xs.length):fR h g e 1 A m c ((xs.take m).map (bI k)):=by refine⟨gz0,o,.inr ⟨b,xs.map (bI k)++post,?_,w.free,?_,gz0,?_⟩⟩;{rcases w.at_ with d|d;{grind};omega};{have:=w.eq;assumption};·rw[fK,List.take_append_of_le_length gz0,List.map_take]
def Fz{k:cT}{h g:bD}{n c:Nat}{e:cD}{A:Option bL}{xs:List Int}(p:fR h g e 1 A n c (xs.map (bI k)))(hx:xs≠[]):∃b post,Win k h g b e A [] xs post/\c=xs.length+post.length:=by obtain⟨r,m,i⟩:=p;rcases i with⟨s,rfl⟩|⟨b,d,l,j,rfl,q,f⟩;{simp_all};·refine⟨b,d.drop (n*1),⟨j,?_,.inr l⟩,?_⟩;{rw[cG,<- f,cU]};grind
def Priv.swap{h g1 g:bD}{e e':cD}{s s' n c m d:Nat}{A B:Option bL}{xs ys:List eJ}(pa:fR h g1 e s A n c xs)(pb:fR g1 g e' s' B m d ys):∃g2,fR h g2 e' s' B m d ys/\fR g2 g e s A n c xs:=by obtain⟨t,u,E⟩:=pa;obtain⟨l,r,y⟩:=pb;rcases E with⟨H,rfl⟩|⟨k,j,z,f,rfl,C⟩;{exact⟨g,⟨l,r,y⟩,⟨t,u,.inl ⟨H,rfl⟩⟩⟩};·rcases y with⟨D,rfl⟩|⟨w,q,G,p,rfl,F⟩;{exact⟨_,⟨l,r,.inl ⟨D,rfl⟩⟩,⟨t,u,.inr ⟨k,j,z,f,rfl,C⟩⟩⟩};·have i:k≠w:=by{rintro rfl;rw[C3]at f;cases f};rw[B9 _ _ i]at f;refine⟨g.put k (.cells j.toArray e),⟨l,r,.inr ⟨w,q,G,?_,Heap.put_comm _ _ _ i.symm,F⟩⟩,⟨t,u,.inr ⟨k,j,z,f,rfl,C⟩⟩⟩;rw[B9 _ _ i.symm];exact p
abbrev Pw(h g:bD)(A:Option bL)(n c:Nat)(us:List Int):Prop:=fR h g 195 1 A n c (us.map (bI .u64))
def GI(h:bD)(G:Nat)(hp:bD)(A:Option bL)(n c:Nat)(B:Option bL)(m d:Nat):Prop:=∃(us vs:List Int) (g1 g:bD),h.le g/\Pw hp g1 A n c us/\Pw g1 g B m d vs/\Dig b64 us/\Dig b64 vs/\fG us/\fG vs/\n=us.length/\m=vs.length/\val b64 vs<=val b64 us/\fD (val b64 us) (val b64 vs)=G/\us.length<=100000000
def B1z{a b:Int}(ha:0<=a)(hb:0<=b):fD b (a%b)=fD a b:=by obtain⟨x,rfl⟩:=cO ha;obtain⟨y,rfl⟩:=cO hb;rw[<- Int.natCast_emod,cN,cN,gD x,gD y,<- Nat.gcd_rec]
section
variable {h g:bD} {K:VP} {A B:Option bL} {ac bc:Nat}
set_option maxHeartbeats 1000000 in
def B53{G an bn:Nat}{hp:bD}(gl:Gtz h)(gi:GI h G hp A an ac B bn bc)(hK:∀ A' m c' h',h.le h'->m<=c'->Mw h' A' m (G:Int)->K (.slice A' m c') h'):Lu prog K A an ac B bn bc hp:=by
 unfold Lu
 refine ⟨fun l hp=>∃ (A B:Option bL) (n c m d:Nat),l=[.slice A n c,.slice B m d]/\GI h G hp A n c B m d,fun l hp=>match l with|[_,.slice B n _]=>B1i b64 hp B n|_=>0,⟨_,_,_,_,_,_,rfl,gi⟩,?_⟩
 rintro A1 n1 c1 B1 m1 d1 hp ⟨A,B,n,c,m,d,hl,u,p,g1,g,lg,T,pb,du,dv,nu,nv,hn,hm,X,i,bt⟩
 simp only [cH,cP,and_true] at hl
 obtain ⟨⟨rfl,rfl,rfl⟩,rfl,rfl,rfl⟩:=hl
 have Ma:Mw hp A1 n1 (val b64 u):=⟨u,hn,T.slV,du,nu,rfl⟩
 have Mb:Mw hp B1 m1 (val b64 p):=⟨p,hm,SlV.mono T.le pb.slV,dv,nv,rfl⟩
 have aa:=T.2.1
 have a8:=pb.2.1
 have O:=D0 dc du
 have bg:=D0 dc dv
 have a2:m1<=n1:=Mb.len_le dc (cF X (Ma.lt dc))
 have W:h.le hp:=B0 lg (B0 pb.le T.le)
 have aw:=Mb.len_zero dc
 refine C1 (fun h1=>?_) (fun h1=>?_)
 ·refine Ze Ma Mb X o o ?_
  intro u0 u1 v0 v1 bp st
  refine ⟨_,_,_,_,_,rfl,D5 (fun e=>?_) (fun e=>?_)⟩
  ·refine W7 Ma Mb aa a8 o o o ?_
   intro A2 m2 c2 A3 m3 c3 h6 l6 s k3 M2 M3
   refine ⟨_,_,_,_,_,_,rfl,?_⟩
   have bu:m3<=m1:=M3.len_le dc (by have:=aK (val b64 u) (show 0<val b64 p from o);have:=Mb.lt dc;omega)
   obtain ⟨ws,bd,a3,Q,ar,a6⟩:=M3
   refine Fp a3 bd o ?_
   intro A4 c4 h7 g7 l7 p7
   obtain ⟨g2,S,L⟩:=T.swap pb
   obtain ⟨g8,l8,a1⟩:=S.after (B0 l6 l7)
   obtain ⟨g9,av,a7⟩:=Priv.swap p7 a1
   have bm:=aK (val b64 u) (show 0<val b64 p from o)
   have Mn:Mw h7 A4 ws.length (val b64 ws):=⟨ws,rfl,p7.slV,Q,ar,rfl⟩
   refine ⟨_,_,_,rfl,⟨_,_,_,_,_,_,rfl,p,ws,g9,g8,B0 lg (B0 L.le l8),av,a7,dv,Q,nv,ar,hm,rfl,o,?_,o⟩,?_⟩
   ·rw [a6,B1z O bg];exact i
   ·simp only [Bt Mn,Bt Mb]
    have:=D0 dc Q
    omega
  ·obtain ⟨ag,ap,al,am,lh⟩:=st
   have lh:=lh e
   unfold Rm
   obtain ⟨g2,S,L⟩:=T.swap pb
   refine ⟨fun l hp=>∃ (B:Option bL) (m d j:Nat) (g1 g:bD),l=[.slice B m d]/\h.le g/\Pw hp g1 B m d (p++aE j 0)/\Pw g1 g A1 n1 c1 u/\m=p.length+j/\m<=n1,fun l _=>match l with|[.slice _ m _]=>n1-m|_=>0,⟨B1,m1,d1,0,g2,g,rfl,lg,by simpa using S,L,o,a2⟩,?_⟩
   rintro B2 m2 d2 br ⟨B',m',d',j,g3,g4,ak,ad,ai,au,bo,bh⟩
   simp only [cH,cP,and_true] at ak
   obtain ⟨rfl,rfl,rfl⟩:=ak
   refine C1 (fun h2=>?_) (fun h2=>?_)
   ·refine Ef S8 ai rfl rfl o o ?_
    intro A5 c5 h5 g5 l5 p5
    obtain ⟨g6,l6,be⟩:=au.after l5
    refine ⟨⟨A5,m2+1,c5,j+1,g5,g6,rfl,B0 ad l6,?_,be,o,o⟩,by simp only;omega⟩
    have p6:=p5
    rw [<- List.map_singleton (f:=bI .u64),<- dZ,cC,<- List.replicate_succ'] at p6
    exact p6
   ·obtain ⟨g5,az,a5⟩:=ai.swap au
    have C:(p++aE j (0:Int)).length=u.length:=by simp;omega
    have k:u≠[]:=by rintro rfl;simp at hn;omega
    have aj:p++aE j (0:Int)≠[]:=by intro h0;rw [h0] at C;simp at C;exact k (aU C.symm)
    obtain ⟨ba,qa,wa,bl⟩:=Fz az k
    obtain ⟨bb,qb,wb,bq⟩:=Fz a5 aj
    have ay:=lh.gcd
    have bi:=lh.ord
    have a4:=lh.le
    have bj:val b64 p<b64^u.length:=by rw [<- hn];exact cF X (Ma.lt dc)
    refine A9g wa wb hn o C.symm du (dv.append (J1 dc _)) o ag ap al am (by rw [Dk];omega) (by rw [Dk];omega) ?_
    intro z q h6 g6 D E ax ae V y M ah
    rw [Dk] at V y
    have F:z≠[]:=by rintro rfl;simp at D;exact k (aU D.symm)
    have H:q≠[]:=by rintro rfl;simp at E;exact k (aU E.symm)
    refine ⟨rfl,?_⟩
    rw [show n1=z.length from o]
    refine Ew M.sl o o ?_
    intro k1 a9 bf af
    refine ⟨_,_,_,rfl,?_⟩
    rw [show m2=q.length from o]
    refine Ew (SlV.mono M.le ah.sl) o o ?_
    intro s a0 aq N
    have pA:=M.priv (m:=k1) (c:=c1) F o a9
    have pB:=ah.priv (m:=s) (c:=d2) H o a0
    have e1:(z.take k1).length=k1:=by rw [aI];omega
    have e2:(q.take s).length=s:=by rw [aI];omega
    have Mn:Mw h6 B2 s (val b64 (q.take s)):=⟨q.take s,e2.symm,SlV.mono pA.le pB.slV,ae.take _,aq,rfl⟩
    refine ⟨_,_,_,rfl,⟨_,_,_,_,_,_,rfl,z.take k1,q.take s,_,_,ad,pA,pB,ax.take _,ae.take _,bf,aq,e1.symm,e2.symm,?_,?_,o⟩,?_⟩
    ·rw [af,N,V,y];omega
    ·rw [af,N,V,y,ay];exact i
    ·simp only [Bt Mn,Bt Mb]
     rw [N,y];omega
 ·refine D5 (fun h2=>?_) (fun h2=>?_)
  ·have h0:val b64 p=0:=aw.2 o
   rw [h0,Int.gcd_zero_right] at i
   refine hK _ _ _ _ W aa ?_
   rw [<- i,Int.natAbs_of_nonneg O];exact Ma
  ·have bv:m1=1:=o
   obtain ⟨w,rfl⟩:∃ w,p=[w]:=by
    rcases p with _|⟨w,_|⟨w',r⟩⟩
    ·simp at hm;omega
    ·exact ⟨w,rfl⟩
    ·simp at hm;omega
   have hw:=dv w (by simp)
   rw [Ct] at *
   obtain ⟨t,rfl⟩:∃ t:Nat,w=(t:Int):=cO hw.1
   have bk:(t:Int)<18446744073709551616:=hw.2
   have ao:0<t:=o
   have sb:SlI .u64 hp B1 [(t:Int)]:=SlV.mono T.le pb.slV
   refine sb.load hm o o ?_
   refine sb.load hm o o ?_
   show aW _ _ #[_,U ((t:Nat):Int)] _ _
   refine Nl Ma ⟨ao,o⟩ o ⟨_,rfl,B7 _,?_⟩
   have r0:=aP (val b64 u) (b:=(t:Int)) o
   have r1:=aK (val b64 u) (show (0:Int)<(t:Int) from o)
   have R:=B1z O (show (0:Int)<=(t:Int) from o)
   obtain ⟨r,hr⟩:=cO r0
   rw [hr] at r1 R ⊢
   show aW _ _ #[U ((t:Nat):Int),_] _ _
   refine A2u (gl.mono W) o o ⟨_,rfl,B7 _,?_⟩
   rw [cN] at R
   have a4:cV t r<=t:=Nat.le_of_dvd ao (Nat.gcd_dvd_left t r)
   refine Cg o ?_
   intro A2 m2 c2 h2 l2 s M2
   rw [R,i] at M2
   exact ⟨_,_,_,rfl,l2,hK _ _ _ _ (B0 W l2) s M2⟩
def Oi{x y:Int}{an bn:Nat}(gl:Gtz h)(ma:Mw h A an x)(mb:Mw h B bn y)(ha:an<=ac)(hb:bn<=bc)(hl:an<=100000000)(hl2:bn<=100000000)(hK:∀A' m c' h',h.le h'->m<=c'->Mw h' A' m (fD x y:Int)->K (.slice A' m c') h'):aW prog 189 #[.slice A an ac,.slice B bn bc] h K:=by refine A3q _ _ _ _ _ _ ?_;refine⟨fun l t=>t=h/\∃(A B:Option bL) (n c m d:Nat) (g e:Int),l=[.slice A n c,.slice B m d]/\Mw h A n g/\Mw h B m e/\e<=g/\n<=c/\m<=d/\n<=100000000/\m<=100000000/\fD g e=fD x y,?_,?_⟩;{refine J9 ma mb o ⟨_,rfl,C1 (fun f=>?_) (fun f=>?_)⟩;{rw[Dx]at f;exact⟨rfl,_,_,_,_,_,_,_,_,rfl,mb,ma,o,hb,ha,hl2,hl,Int.gcd_comm _ _⟩};·rw[Dx]at f;grind};·rintro A1 n1 c1 B1 X T t ⟨rfl,A2,B2,n,c,m,d,g,e,p,M1,M2,k,u,k2,l1,l2,r⟩;obtain⟨⟨rfl,rfl,rfl⟩,rfl,rfl,rfl⟩:=p;refine D5 (fun f=>?_) (fun f=>?_);{have:e=0:=(M2.len_zero dc).2 o;subst this;rw[Int.gcd_zero_right]at r;refine hK _ _ _ _ (B7 _) u ?_;grind};·obtain⟨Q,j,D,du,M,rfl⟩:=M1;obtain⟨G,i,N,E,nv,rfl⟩:=M2;refine Fp D j o ?_;intro A3 c3 W g3 s q;refine⟨_,_,_,rfl,?_⟩;refine Fp (SlV.mono (B0 s q.le) N) i o ?_;intro A4 c4 S V L z;refine⟨_,_,_,rfl,?_⟩;obtain⟨O,F,w⟩:=q.after L;obtain⟨C,R,H⟩:=Priv.swap z w;exact B53 gl ⟨Q,G,C,O,B0 s F,R,H,du,E,M,nv,rfl,rfl,k,r,o⟩ hK
end
structure ZI (h:bD) (s:Bool) (A:Option bL) (n c:Nat) (z:Int):Prop where
 cap:n<=c
 mag:Mw h A n (z.natAbs:Int)
 sgn:s=decide (z<0)
def ZI.mono{h h':bD}{s:Bool}{A:Option bL}{n c:Nat}{z:Int}(i:ZI h s A n c z)(l:h.le h'):ZI h' s A n c z:=⟨i.cap,i.mag.mono l,i.sgn⟩
def ZI.zero{h:bD}{A:Option bL}:ZI h false A 0 0 0:=⟨bC _,Mag.zero,rfl⟩
def ZI.len{h:bD}{s:Bool}{A:Option bL}{n c m:Nat}{z:Int}(i:ZI h s A n c z)(hz:ZB m z)(hm:m<=6400000000):n<=100000000:=by obtain⟨k,hk⟩:∃k,k=100000000:=⟨_,rfl⟩;rw[<- hk];refine i.mag.len_le dc ?_;rw[Ky];have d:(z.natAbs:Int)<2^m:=by{have:((z.natAbs:Nat):Int)<((2^m:Nat):Int):=Int.ofNat_lt.2 hz;simpa using this};have e:=D9 (B:=2) dc (show m<=64*k from o);exact Int.lt_of_lt_of_le d e
def ZI.zeroIff{h:bD}{s:Bool}{A:Option bL}{n c:Nat}{z:Int}(i:ZI h s A n c z):z=0↔n=0:=by have:=i.mag.len_zero dc;omega
section
variable {h g:bD} {K:VP} {A B:Option bL} {s s':Bool} {an ac bn bc m:Nat} {x y:Int}
def Q3{v:Nat}{n c:Nat}{neg:Bool}(M:Mw h A n (v:Int))(hc:n<=c)(hK:∀s,ZI h s A n c (if neg then -(v:Int)else v)->K (.agg #[.bool s,.slice A n c]) h):aW prog 263 #[.bool neg,.slice A n c] h K:=by
 have d:=M.len_zero dc;refine(fnk func263 (own:=[4])) ?_
 cases neg with
 |true=>
  refine Br.of (fun _=>hK _ ⟨hc,?_,?_⟩) (fun e=>by cases e);·simpa using M
  ·simp only[if_true,decide_eq_decide];omega
 |false=>
  refine Br.of (fun e=>by cases e) (fun _=>hK _ ⟨hc,?_,?_⟩);·simpa using M
  ·simp
def Cq(i:ZI h s A an ac x)(hK:∀s',ZI h s' A an ac (-x)->K (.agg #[.bool s',.slice A an ac]) h):aW prog 250 #[.agg #[.bool s,.slice A an ac]] h K:=by refine(fnk func250 (own:=[1,2])) ?_;refine Q3 (neg:=!s) i.mag i.cap ?_;intro f c;have e:(if(!s)=true then -(x.natAbs:Int)else x.natAbs)= -x:=by{have:=i.sgn;by_cases d:x<0;{simp only[d,decide_true]at this;subst this;simp;omega};·simp only[d,decide_false]at this;subst this;simp;omega};rw[e]at c;exact⟨_,_,_,_,rfl,hK _ c⟩
def Me(i:ZI h s A an ac x)(j:ZI h s' B bn bc y)(hx:ZB m x)(hy:ZB m y)(hm:m<=6400000000)(hK:∀s1 A' n' c' h',h.le h'->ZI h' s1 A' n' c' (x+y)->K (.agg #[.bool s1,.slice A' n' c']) h'):aW prog 217 #[.agg #[.bool s,.slice A an ac],.agg #[.bool s',.slice B bn bc]] h K:=by
 have t:=i.len hx hm;have u:=j.len hy hm;have k:=i.sgn;have c:=j.sgn;refine(fnk func217 (own:=[2,3,4])) ?_;refine Br.of (fun e=>?_) (fun e=>?_)
 ·have e:s=s':=by simpa using e
  subst e;refine U9 i.mag j.mag i.cap j.cap o o ?_;intro A1 r c1 d g l M1;refine⟨_,_,_,rfl,g,?_⟩;rw[<- eC]at M1;refine Q3 (neg:=s) M1 l ?_;intro s1 f;refine⟨_,_,_,_,rfl,B7 _,hK _ _ _ _ _ g ?_⟩
  have p:(if s=true then -((x.natAbs+y.natAbs:Nat):Int)else((x.natAbs+y.natAbs:Nat):Int))=x+y:=by
   cases s with
   |true=>have d:=of_decide_eq_true k.symm;have n:=of_decide_eq_true c.symm;simp;omega
   |false=>have d:=of_decide_eq_false k.symm;have n:=of_decide_eq_false c.symm;simp;omega
  rw[p]at f;exact f
 ·have e:s≠s':=by simpa using e
  refine J9 i.mag j.mag o ⟨_,rfl,C1 (fun d=>?_) (fun d=>?_)⟩
  ·have q:¬(x.natAbs:Int)<y.natAbs:=by rw[<- Dx];omega
   refine I7 i.mag j.mag i.cap o o ?_;intro A1 r c1 d g l M1;refine⟨_,_,_,rfl,g,?_⟩;rw[show(x.natAbs:Int)-y.natAbs=((x.natAbs-y.natAbs:Nat):Int)from o]at M1;refine Q3 (neg:=s) M1 l ?_;intro s1 f;refine⟨_,_,_,_,rfl,B7 _,hK _ _ _ _ _ g ?_⟩
   have p:(if s=true then -((x.natAbs-y.natAbs:Nat):Int)else((x.natAbs-y.natAbs:Nat):Int))=x+y:=by
    cases s with
    |true=>cases s' with
     |true=>exact absurd rfl e
     |false=>have d:=of_decide_eq_true k.symm;have n:=of_decide_eq_false c.symm;rw[iP rfl];omega
    |false=>cases s' with
     |true=>have d:=of_decide_eq_false k.symm;have n:=of_decide_eq_true c.symm;rw[iN (by simp)];omega
     |false=>exact absurd rfl e
   rw[p]at f;exact f
  ·have q:(x.natAbs:Int)<y.natAbs:=by rw[<- Dx];omega
   refine I7 j.mag i.mag j.cap o o ?_;intro A1 r c1 d g l M1;refine⟨_,_,_,rfl,g,?_⟩;rw[show(y.natAbs:Int)-x.natAbs=((y.natAbs-x.natAbs:Nat):Int)from o]at M1;refine Q3 (neg:=s') M1 l ?_;intro s1 f;refine⟨_,_,_,_,rfl,B7 _,hK _ _ _ _ _ g ?_⟩
   have p:(if s'=true then -((y.natAbs-x.natAbs:Nat):Int)else((y.natAbs-x.natAbs:Nat):Int))=x+y:=by
    cases s with
    |true=>cases s' with
     |true=>exact absurd rfl e
     |false=>have d:=of_decide_eq_true k.symm;have n:=of_decide_eq_false c.symm;rw[iN (by simp)];omega
    |false=>cases s' with
     |true=>have d:=of_decide_eq_false k.symm;have n:=of_decide_eq_true c.symm;rw[iP rfl];omega
     |false=>exact absurd rfl e
   rw[p]at f;exact f
def Q9(i:ZI h s A an ac x)(j:ZI h s' B bn bc y)(hx:ZB m x)(hy:ZB m y)(hm:m<=6400000000)(hK:∀s1 A' n' c' h',h.le h'->ZI h' s1 A' n' c' (x*y)->K (.agg #[.bool s1,.slice A' n' c']) h'):aW prog 218 #[.agg #[.bool s,.slice A an ac],.agg #[.bool s',.slice B bn bc]] h K:=by
 have n:=i.len hx hm;have q:=j.len hy hm;have d:=i.sgn;have c:=j.sgn;refine(fnk func218 (own:=[2,3,4])) ?_;refine I9 i.mag j.mag i.cap j.cap o o ?_;intro A1 p c1 l f g M1;refine⟨_,_,_,rfl,f,?_⟩;rw[<- bV]at M1;refine Q3 (neg:=!(s==s')) M1 g ?_;intro s1 e;refine⟨_,_,_,_,rfl,B7 _,hK _ _ _ _ _ f ?_⟩
 have k:(if(!(s==s'))=true then -((x.natAbs*y.natAbs:Nat):Int)else((x.natAbs*y.natAbs:Nat):Int))=x*y:=by
  rw[bV]
  cases s with
  |true=>cases s' with
   |true=>rw[show(x.natAbs:Int)= -x by have:=of_decide_eq_true d.symm;omega,show(y.natAbs:Int)= -y by have:=of_decide_eq_true c.symm;omega];show -x * -y=x*y;exact Int.neg_mul_neg x y
   |false=>rw[show(x.natAbs:Int)= -x by have:=of_decide_eq_true d.symm;omega,show(y.natAbs:Int)=y by have:=of_decide_eq_false c.symm;omega];show -(-x*y)=x*y;rw[Int.neg_mul,Int.neg_neg]
  |false=>cases s' with
   |true=>rw[show(x.natAbs:Int)=x by have:=of_decide_eq_false d.symm;omega,show(y.natAbs:Int)= -y by have:=of_decide_eq_true c.symm;omega];show -(x * -y)=x*y;rw[Int.mul_neg,Int.neg_neg]
   |false=>rw[show(x.natAbs:Int)=x by have:=of_decide_eq_false d.symm;omega,show(y.natAbs:Int)=y by have:=of_decide_eq_false c.symm;omega];rfl
 rw[k]at e;exact e
def Cr(gl:Gtz h)(i:ZI h s A an ac x)(j:ZI h s' B bn bc y)(hx:ZB m x)(hy:ZB m y)(hm:m<=6400000000)(hK:∀A' n' c' h',h.le h'->ZI h' false A' n' c' (fD x y:Int)->K (.agg #[.bool false,.slice A' n' c']) h'):aW prog 142 #[.agg #[.bool s,.slice A an ac],.agg #[.bool s',.slice B bn bc]] h K:=by have e:=i.len hx hm;have f:=j.len hy hm;refine(fnk func142 (own:=[2,3,4])) ?_;refine Oi gl i.mag j.mag i.cap j.cap e f ?_;intro A1 k c1 g d c M1;refine⟨_,_,_,rfl,hK _ _ _ _ d ⟨c,?_,?_⟩⟩;{rw[cN]at M1;rw[dH];exact M1};·simp
def Pg(i:ZI h s A an ac x)(hK:K (I (Int.sign x)) h):aW prog 249 #[.agg #[.bool s,.slice A an ac]] h K:=by have f:=i.zeroIff;have d:=i.sgn;refine(fnk func249 (own:=[1])) ?_;refine D5 (fun e=>?_) (fun e=>?_);{obtain rfl:x=0:=o;simpa using hK};·refine Br.of (fun c=>?_) (fun c=>?_);{subst c;have:=of_decide_eq_true d.symm;rw[Int.sign_eq_neg_one_of_neg this]at hK;exact hK};·subst c;have:=of_decide_eq_false d.symm;rw[Int.sign_eq_one_of_pos o]at hK;exact hK
end
section
variable {h g:bD} {K:VP} {A B:Option bL} {s s':Bool} {an ac bn bc m:Nat} {x y:Int}
def Fd(hs:s=decide (x<0)):(s=true/\x= -(x.natAbs:Int))\/(s=false/\x=(x.natAbs:Int)):=by grind
def B3t(a b:Nat):(a:Int).tdiv b=((a/b:Nat):Int)/\(-(a:Int)).tdiv (-(b:Int))=((a/b:Nat):Int)/\(-(a:Int)).tdiv b= -((a/b:Nat):Int)/\(a:Int).tdiv (-(b:Int))= -((a/b:Nat):Int):=by simp_all
def Yx(a b:Nat):(a:Int).tmod b=((a%b:Nat):Int)/\(-(a:Int)).tmod (-(b:Int))= -((a%b:Nat):Int)/\(-(a:Int)).tmod b= -((a%b:Nat):Int)/\(a:Int).tmod (-(b:Int))=((a%b:Nat):Int):=by refine⟨(eQ a b).symm,?_,?_,?_⟩;{rw[Int.neg_tmod,Int.tmod_neg,eQ]};{rw[Int.neg_tmod,eQ]};·rw[Int.tmod_neg,eQ]
def A13(i:ZI h s A an ac x)(j:ZI h s' B bn bc y)(hx:ZB m x)(hy:ZB m y)(hm:m<=6400000000)(hy0:y≠0)(hK:∀s1 A1 n1 c1 s2 A2 n2 c2 h',h.le h'->ZI h' s1 A1 n1 c1 (x.tdiv y)->ZI h' s2 A2 n2 c2 (x.tmod y)->K (.tuple #[.agg #[.bool s1,.slice A1 n1 c1],.agg #[.bool s2,.slice A2 n2 c2]]) h'):aW prog 254 #[.agg #[.bool s,.slice A an ac],.agg #[.bool s',.slice B bn bc]] h K:=by have r:=i.len hx hm;have w:=j.len hy hm;have z:=j.zeroIff;have c:=Fd i.sgn;have d:=Fd j.sgn;refine(fnk func254 (os:=[(4,[0,1,2,3,4,5,7,8,9,6,10,11,12])]) (own:=[2,3,4,5])) ?_;refine D5 (fun e=>o) (fun _=>?_);refine W7 i.mag j.mag i.cap j.cap o o o ?_;intro A1 u c1 A2 n c2 p k f g M1 M2;refine⟨_,_,_,_,_,_,rfl,?_⟩;refine Q3 (neg:=!(s==s')) M1 f ?_;intro s1 l;refine⟨_,_,_,_,rfl,B7 _,?_⟩;refine Q3 (neg:=s) M2 g ?_;intro s2 q;refine⟨_,_,_,_,rfl,B7 _,hK _ _ _ _ _ _ _ _ _ k ?_ ?_⟩;{have e:(if(!(s==s'))=true then -((x.natAbs/y.natAbs:Nat):Int)else((x.natAbs/y.natAbs:Nat):Int))=x.tdiv y:=by{have t:=B3t x.natAbs y.natAbs;rcases c with⟨rfl,hx'⟩|⟨rfl,hx'⟩<;>rcases d with⟨rfl,hy'⟩|⟨rfl,hy'⟩<;>rw[<- hx',<- hy']at t;{exact t.2.1.symm};{exact t.2.2.1.symm};{exact t.2.2.2.symm};grind};grind};·have e:(if s=true then -((x.natAbs%y.natAbs:Nat):Int)else((x.natAbs%y.natAbs:Nat):Int))=x.tmod y:=by{have t:=Yx x.natAbs y.natAbs;rcases c with⟨rfl,hx'⟩|⟨rfl,hx'⟩<;>rcases d with⟨rfl,hy'⟩|⟨rfl,hy'⟩<;>rw[<- hx',<- hy']at t;{exact t.2.1.symm};{exact t.2.2.1.symm};{exact t.2.2.2.symm};grind};grind
def G2(i:ZI h s A an ac x)(hK:K (.bool (decide (x=0))) h):aW prog 201 #[.agg #[.bool s,.slice A an ac]] h K:=by have c:=i.zeroIff;refine(fnk func201 (own:=[1])) ?_;have:((an:Int)==0)=decide (x=0):=by{grind};grind
def T2(i:ZI h s A an ac x)(hK:K (.bool (decide (x=1))) h):aW prog 143 #[.agg #[.bool s,.slice A an ac]] h K:=by have g:=Fd i.sgn;have t:=i.zeroIff;have M:=i.mag;refine(fnk func143 (own:=[1])) ?_;rcases g with⟨rfl,l⟩|⟨rfl,l⟩;{refine Br.of (fun e=>by cases e) (fun _=>?_);rw[show decide (x=1)=false from gz0]at hK;exact hK};·refine Br.of (fun _=>?_) (fun e=>by cases e);obtain⟨f,c,k,q,p,d⟩:=M;refine D5 (fun e=>?_) (fun e=>?_);{obtain⟨w,rfl⟩:∃w,f=[w]:=by{rcases f with _|⟨w,_|⟨m,r⟩⟩;{grind};{grind};grind};refine k.load c o o ?_;rw[Ct]at d;grind};·have:¬x=1:=by{rintro rfl;have n:=i.mag.len_le (j:=1) dc dc;omega};grind
def T1(i:ZI h s A an ac x)(j:ZI h s' B bn bc y)(hx:ZB m x)(hy:ZB m y)(hm:m<=6400000000)(hy0:y≠0)(hK:∀s1 A1 n1 c1 h',h.le h'->ZI h' s1 A1 n1 c1 (x.tdiv y)->K (.agg #[.bool s1,.slice A1 n1 c1]) h'):aW prog 203 #[.agg #[.bool s,.slice A an ac],.agg #[.bool s',.slice B bn bc]] h K:=by refine(fnk func203 (own:=[2,3,4,5,6])) ?_;refine T2 j ⟨_,rfl,C1 (fun e=>?_) (fun e=>?_)⟩;{subst e;exact hK _ _ _ _ _ (B7 _) gz0};·refine A13 i j hx hy hm hy0 ?_;grind
def A3z(i:ZI h s A an ac x)(j:ZI h s' B bn bc y)(hx:ZB m x)(hm:m<=6400000000)(hK:K (.bool (decide (x=y))) h):aW prog 252 #[.agg #[.bool s,.slice A an ac],.agg #[.bool s',.slice B bn bc]] h K:=by have g:=i.len hx hm;have f:=i.sgn;have d:=j.sgn;refine(fnk func252 (own:=[2,3])) ?_;refine Br.of (fun e=>?_) (fun e=>?_);{refine J9 i.mag j.mag o ⟨_,rfl,?_⟩;have:(Sq (x.natAbs:Int) y.natAbs==0)=decide (x=y):=by{by_cases c:x=y;{subst c;unfold Sq;simp};·unfold Sq;grind};grind};·have:¬x=y:=gz0;grind
def Eu{n:Int}(h1: -9223372036854775808<=n)(h2:n<=9223372036854775807)(hK:∀s1 A1 n1 c1 h',h.le h'->ZI h' s1 A1 n1 c1 n->K (.agg #[.bool s1,.slice A1 n1 c1]) h'):aW prog 202 #[I n] h K:=by refine(fnk func202 (own:=[2])) ?_;refine C1 (fun g=>?_) (fun g=>?_);{have e:C8 (0-C8 n)=(n.natAbs:Int):=by{rw[F6,F6];omega};rw[e];refine Cg o ?_;intro A1 f c1 h1 d c M1;exact⟨_,_,_,rfl,hK _ _ _ _ _ d ⟨c,M1,gz0⟩⟩};·have e:C8 n=(n.natAbs:Int):=by{rw[F6];omega};rw[e];refine Cg o ?_;intro A1 f c1 h1 d c M1;exact⟨_,_,_,rfl,hK _ _ _ _ _ d ⟨c,M1,gz0⟩⟩
end
def A82{P:dF}{t d e:cD}(ht:P.underlying t=some .string)(hd:P.underlying d=some (.slice e))(he:P.underlying e=some (.int .u8)){h:bD}{l:List UInt8}{K:VP}
 (x:∀A c h',h.le h'->l.length<=c->SlV h' A (yv l)->K (.slice A l.length c) h'):wpH P (convert t d (.string (bs l))) K h:=by
 unfold convert;simp only[C9,F4 ht,F4 hd,F4 he];unfold Conv.stringToBytes;simp only[C9];refine Jj rfl (fun tt=>?_);have n:(bs l).size=l.length:=by rfl
 have f:l.length<=(Question.appendCap (bs l).size 0 e).cut tt:=by
  simp only[Question.cut];omega
 generalize (Question.appendCap (bs l).size 0 e).cut tt=cap at *;intro b r;generalize hcs:((bs l).data.map (fun b=>bI .u8 b.toNat)++Array.replicate (cap-(bs l).size) (bI .u8 0))=cs;have j:h.le (h.put b (.cells cs e (cs.size,cs.size+1))):=Heap.le_put _ r
 have m:(h.put b (.cells cs e)).freeze { block:=b,off:=cs.size } 1=h.put b (.cells cs e (cs.size,cs.size+1)):=by
  unfold Heap.freeze;rw[iN dc];funext k;by_cases g:k=b
  ·subst g;simp only[if_true,C3,Option.map_some];rfl
  ·rw[iN g,B9 _ _ g,B9 _ _ g]
 refine⟨cs,e,_,C3 _ _ _,?_⟩;refine⟨⟨_,C3 _ _ _⟩,?_⟩;show K (.slice (some ⟨b,0,none⟩) (bs l).size cap) ((h.put b (.cells cs e)).freeze { block:=b,off:=cs.size } 1)
 rw[m,n];refine x _ _ _ j f (.inr ⟨_,rfl,?_⟩);intro i v p
 have s:i<l.length:=by
  have:=(List.getElem?_eq_some_iff.1 p).1;simpa[yv]using this
 have q:eU ⟨b,0,none⟩ i=⟨b,i,none⟩:=by rw[D6,fX]
 rw[q,D8,<- hcs,Array.getElem?_append_left (by simp_all)];rw[<- p];simp[yv,bs]
def ZB.tdiv{m:Nat}{x y:Int}(h:ZB m x):ZB m (x.tdiv y):=by unfold ZB at *;rw[Int.natAbs_tdiv];exact Nat.lt_of_le_of_lt (dB _ _) h
section
variable {h g:bD} {K:VP} {A B:Option bL} {s s':Bool} {an ac bn bc m:Nat} {x y:Int}
end
def A8o{ws:List Int}{k:Nat}(d:Dig b64 ws)(hl:ws.length=k+1)(h:b64^k<=val b64 ws):fG ws:=by intro e;have:=(Cl (B:=b64) dc d hl).1;grind
section
variable {h g:bD} {K:VP} {A B:Option bL} {ac bc:Nat}
def B5j{Invv:LP}{muv:LN}{d1:ByteArray}{n c:Nat}{chunk base:Int}{us:List Int}{hp hp2:bD}(p:Pw hp2 g A n c us)(hn:n=us.length)(du:Dig b64 us)(nu:fG us)(hl:n<=100000000)(hch:0<=chunk/\chunk<18446744073709551616)(hba:1<=base/\base<18446744073709551616) (hK:∀A' n' c' us' h' g',g.le g'->Pw h' g' A' n' c' us'->n'=us'.length->n'<=n+1->Dig b64 us'->fG us'->val b64 us'=chunk+base*val b64 us->Invv [.string ((d1).extract ((C4 ((dG (C4 (((eR d1:Nat):Int)-(1:Int))) (19:Int))+(1:Int))).toNat) ((d1).size)),.slice A' n' c'] h'/\muv [.string ((d1).extract ((C4 ((dG (C4 (((eR d1:Nat):Int)-(1:Int))) (19:Int))+(1:Int))).toNat) ((d1).size)),.slice A' n' c'] h'<muv [.string d1,.slice A n c] hp): Dg prog Invv muv d1 A n c chunk base hp hp2:=by have F:=D0 dc du;refine⟨fun l q=>∃(k:Nat) (e:Int) (d:List Int),l=[U e,I k]/\k<=n/\(0<=e/\e<18446744073709551616)/\d.length=us.length/\Dig b64 d/\Pw q g A n c d/\d.drop k=us.drop k/\val b64 (d.take k)+b64^k*e=chunk+base*val b64 (us.take k),fun l _=>n-(iAt l 1).toNat,⟨0,chunk,us,rfl,o,hch,rfl,du,p,rfl,by simp[val]⟩,?_⟩;rintro e i q ⟨k,E,d,aa,hk,j,s,t,pw,y,z⟩;obtain⟨rfl,rfl⟩:e=E/\i=(k:Int):=gz0;refine C1 (fun X=>?_) (fun X=>?_);{have N:=Q7 t k;have D:=F5 y;have S:=C7 b64 us k;have C:d≠[]:=by{rintro rfl;simp at s;omega};obtain⟨b,O,w,hc⟩:=Fz pw C;refine w.sl.load o o o ?_;simp only[aC];generalize hx:d.getD k 0=x at *;refine W5 N o j ⟨_,_,rfl,?_⟩;obtain⟨a,Q,_⟩:=SlV.at w.sl (i:=k) (by simp_all);refine⟨a,Q,o,o,w.storeN G8 Q o ?_⟩;intro h4 R;have V:=Oc N (show 0<=base/\base<18446744073709551616 from o) j;have kP:=A2l (x*base+e);have W:C4 ((k:Int)+1)=((k+1:Nat):Int):=by{rw[C2 o o];omega};rw[W];have G:=R.priv (m:=n) (c:=c) (by simp_all) (by simp_all) (by simp_all);rw[aL (by simp_all)]at G;refine⟨⟨k+1,_,_,rfl,o,V,by simp_all,t.set (Fi _),G,?_,?_⟩,by simp only[iAt,aF,aJ];omega⟩;{rw[E5 o];exact E8 y};·rw[D3 o,F8,aI,aH o,aY,S,<- D,kP];grind};·obtain rfl:k=n:=o;rw[aL (show d.length<=k from o),aL (show us.length<=k from o)]at z;refine E6 (fun L=>?_) (fun L=>?_);{refine Ef S8 pw rfl rfl o o ?_;intro A5 c5 h5 g5 T H;rw[<- List.map_singleton (f:=bI .u64),<- dZ]at H;refine hK A5 (k+1) c5 (d++[e]) h5 g5 T H (by simp_all) o (t.append (Dig.one j)) ?_ ?_;{unfold fG;simp_all};·rw[F8,<- z,s,<- hn]};·subst L;rw[dU,dV]at z;refine hK A k c d q g (B7 _) pw o o t ?_ z;rcases us with _|⟨u,r⟩;{simp_all};·refine A8o (k:=r.length) t o ?_;have M:Mw hp2 A k (val b64 (u::r)):=⟨_,hn,p.slV,du,nu,rfl⟩;have B:=M.ge dc (by simp_all);rw[show k-1=r.length by simp_all]at B;have:1*val b64 (u::r)<=base*val b64 (u::r):=aD hba.1 F;omega
end
section
variable {h g:bD} {K:VP} {A B:Option bL} {ac bc:Nat}
def B63{k:Nat}(h:k<=19):10^k<=10000000000000000000:=Nat.le_trans (eK dc h) dc
def A9f{Invv:LP}{muv:LN}{d1:ByteArray}{n c tn:Nat}{T:Option bL}{l:List UInt8}{hp hp1:bD}(sv:SlV hp1 T (yv l))(ht:tn=l.length)(hd:∀c∈l,N7 c)(h19:l.length<=19) (hK:(0<=C4 ((dG (C4 (((eR d1:Nat):Int)-(1:Int))) (19:Int))+(1:Int))/\C4 ((dG (C4 (((eR d1:Nat):Int)-(1:Int))) (19:Int))+(1:Int))<=(((d1).size:Nat):Int))/\Dg prog Invv muv d1 A n c (U7 l:Int) ((10^l.length:Nat):Int) hp hp1): Kp prog Invv muv d1 A n c T tn hp1 hp:=by refine⟨fun s hp=>hp=hp1/\∃k:Nat,s=[U (U7 (l.take k)),U ((10^k:Nat):Int),I k]/\k<=l.length,fun s _=>l.length-(iAt s 2).toNat,⟨rfl,0,by rfl,o⟩,?_⟩;rintro B C i y ⟨rfl,k,f,z⟩;obtain⟨rfl,rfl,rfl⟩:=f;refine C1 (fun u=>?_) (fun u=>?_);{have hkl:k<l.length:=o;obtain⟨a,r,j⟩:=SlV.at sv (i:=k) (by rw[Ie];omega);have g:=hd l[k] (List.getElem_mem hkl);have e:=Lr (l:=l.take k) (fun c j=>hd c (List.mem_of_mem_take j));rw[aI,aH o]at e;have q:=B63 (k:=k+1) o;have d:10^(k+1)=10^k*10:=dS _ _;refine⟨a,r,o,o,((l[k].toNat:Nat):Int),?_,?_⟩;{rw[aC,fK,j];simp[yv]};·unfold N7 at g;have m:C8 (wu8 (((l[k].toNat:Nat):Int)-48))=((l[k].toNat-48:Nat):Int):=by{rw[A19 o o,C6 o o];omega};have w:C8 (C8 (10*((U7 (l.take k):Nat):Int))+C8 (wu8 (((l[k].toNat:Nat):Int)-48)))=((U7 (l.take (k+1)):Nat):Int):=by{rw[m,C6 (n:=10*((U7 (l.take k):Nat):Int)) o o,C6 o o,List.take_succ_eq_append_getElem hkl,Om];omega};have p:C8 (((10^k:Nat):Int)*10)=((10^(k+1):Nat):Int):=by{rw[C6 o o,d];simp};have t:C4 ((k:Int)+1)=((k+1:Nat):Int):=by{rw[C2 o o];omega};rw[w,p,t];exact⟨⟨rfl,k+1,rfl,o⟩,by simp only[iAt,aF,aJ];omega⟩};grind
def Rq{l:List UInt8}(hd:∀c∈l,N7 c)(hl:l.length<=100000000)(hK:∀A n c h',h.le h'->n<=c->Mw h' A n (U7 l:Int)->K (.slice A n c) h'):aW prog 273 #[.string (bs l)] h K:=by
 refine Vs _ ?_;refine⟨fun s E=>∃(i e:List UInt8) (f:List Int) (A:Option bL) (n c:Nat) (g:bD),s=[.string (bs e),.slice A n c]/\l=i++e/\h.le g/\Pw E g A n c f/\n=f.length/\Dig b64 f/\fG f/\val b64 f=(U7 i:Int)/\n<=i.length,fun s _=>match s with|[.string d,_]=>d.size|_=>0,⟨[],l,[],none,0,0,h,rfl,rfl,B7 h,Priv.nil _ _ _ _,rfl,Dig.nil,Norm.nil,rfl,o⟩,?_⟩
 rintro d1 A1 n1 c1 E ⟨i,e,f,A2,n2,c2,g,X,j,C,p,H,du,G,M,W⟩;obtain⟨rfl,rfl,rfl,rfl⟩:=X;have D:l.length=i.length+e.length:=gz0;rw[N3];refine C1 (fun R=>?_) (fun R=>?_)
 ·obtain⟨sz,hsz⟩:∃sz,sz=(e.length-1)%19+1:=⟨_,rfl⟩
  have B:C4 (dG (C4 ((e.length:Int)-1)) 19+1)=(sz:Int):=by
   rw[C2 (n:=(e.length:Int)-1) o o,cI o,C2 o o];omega
  rw[B,aC,U8];refine⟨⟨o,o⟩,A82 Y4 Fb.und Cu ?_⟩;intro T tc h2 l2 ac F;refine⟨_,_,_,rfl,?_⟩;have V:(e.drop 0).take (sz-0)=e.take sz:=by simp
  rw[V]at F ⊢;have L:(e.take sz).length=sz:=gz0;obtain⟨g2,q,O⟩:=p.after l2;refine A9f F rfl (fun c hc=>hd c gz0) o ?_;rw[N3,B];refine⟨⟨o,o⟩,?_⟩;have m:=Lr (l:=e.take sz) (fun c hc=>hd c gz0);rw[L]at m ⊢;have ht:=B63 (k:=sz) o;refine B5j O H du G o o o ?_;intro A' N Q t h' S r p' y aa w z u;rw[N3,B,aC,U8,aL gz0];refine⟨⟨i++e.take sz,e.drop sz,t,A',N,Q,S,rfl,by simp_all,B0 C (B0 q r),p',y,w,z,?_,gz0⟩,?_⟩;·rw[u,M,Ls,L,eC,bV,aS];omega
  ·simp only[N3,bX];omega
 ·have:e=[]:=aU o;subst this;rw[bU]at j;subst j;exact hK _ _ _ _ (B0 C p.le) p.2.1 ⟨f,H,p.slV,du,G,M⟩
end
