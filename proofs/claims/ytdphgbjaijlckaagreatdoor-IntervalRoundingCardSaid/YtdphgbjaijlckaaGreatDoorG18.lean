/- A part. -/
import Derived.Test.YtdphgbjaijlckaaGreatDoorG16
import Derived.Test.YtdphgbjaijlckaaGreatDoorG17
open Go.Proofs.Tryz
set_option linter.all false
open Int renaming toNat_natCast->aI,natAbs_natCast->aJ
open List renaming getElem?_cons_zero->aE,getElem?_cons_succ->aF,getElem?_eq_getElem->aK,take_succ_eq_append_getElem->aM,drop_eq_getElem_cons->aN,take_of_length_le->aO
open Nat renaming pow_le_pow_right->aC,lt_of_lt_of_le->aD,pow_le_pow_left->aG,lt_of_le_of_lt->aH,pow_succ->aL
namespace Go.Proofs.YtdphgbjaijlckaaGreatDoor
set_option maxRecDepth 20000
open Go
def R8:prog.underlying 5=some (.int .u8):=by kernel_rfl
def K9:prog.underlying 9=some .string:=by kernel_rfl
def pv:List Nat->Nat
 | []=>0
 | d::r=>d+1000000000*pv r
def A13(ps:List Nat)(d:Nat):pv (ps++[d])=pv ps+10^(9*ps.length)*d:=by
 induction ps with
 | nil=>simp [pv]
 | cons p ps ih=>
  simp only [List.cons_append,pv,ih,List.length_cons]
  grind
def Rq(ps:List Nat)(k:Nat):pv (ps.drop k)<=pv ps:=by
 induction ps generalizing k with
 | nil=>simp
 | cons p ps ih=>
  cases k with
  | zero=>simp
  | succ k=>have:=ih k;simp only [List.drop_succ_cons,pv];omega
def A14{ps:List Nat}{k:Nat}(h:k<ps.length):pv (ps.drop k)=ps[k]+1000000000*pv (ps.drop (k+1)):=by
 rw [aN h];rfl
def pw(e:Nat):Nat:=if e=0 then 0 else 10^(e-1)
def Kj(e:Nat):pw (e+1)=10^e:=by simp [pw]
def Ui(e:Nat):pw (e+1)/10=pw e:=by
 rw [Kj]
 cases e with
 | zero=>simp [pw]
 | succ e=>rw [Kj,aL,Nat.mul_div_cancel _ dc]
def A1i(V d:Nat)(hd:d<10):dd (10*V+d)=if V≠0\/d≠0 then dd V++[dch d] else dd V:=by
 by_cases h:10*V+d=0
 ·grind
 ·rw [iP o,L3 h,show (10*V+d)/10=V from o,show (10*V+d)%10=d from o]
def Sh(n:Nat):(dd n).length=0↔n=0:=by
 constructor
 ·intro h
  by_cases a:n=0
  ·exact a
  ·exact absurd (List.eq_nil_of_length_eq_zero h) (Yq a)
 ·rintro rfl;rw [E9];rfl
section
variable {h h':Heap} {K:VP} {A B:Option Addr} {n c n' c':Nat} {s s':Bool} {x y z:Int} {m:Nat} {p q:Rat} {a b w:QV}
def Fy{D:Nat}(i:NI h s A n c z)(hz:ZB m z)(hm:m<=575000000000000)(hD:z.natAbs<10^D)(hD2:D<=140737488355232)(hK:K (.string (bs (H2 z.natAbs))) h):FCall prog 74 #[.agg #[.bool s,.slice A n c]] h K:=by
 have h0:=i.zero_iff
 have ab:=i.len hz hm
 refine FCall.pure ((fnk func74 [(5,[3,4],[],[.slice none 0 0,.slice none 0 0]),(11,[7,8],[],[.slice none 0 0,I 0]),(14,[7,9],[],[.slice none 0 0,U32 0])] (cs:=[(15,[7],[],[.slice none 0 0]),(18,[56],[],[.bool false])]) (own:=[1])) ?_)
 refine D6 (fun e=>?_) (fun e=>?_)
 ·have:z=0:=h0.1 o
  subst this
  exact ⟨B3 h,hK⟩
 ·generalize hZ:z.natAbs=Z at *
  have a9:Z<2^m:=by rw [<- hZ];exact hz
  rw [T4 (show Z≠0 from o)] at hK
  have u:=i.mag
  rw [hZ] at u
  refine ⟨fun l q=>∃ (b:List Nat) (X:Nat) (A B:Option Addr) (c mn mc:Nat) (g:Heap),l=[.slice A b.length c,.slice B mn mc]/\h.le g/\Priv q g 173 1 A b.length c (b.map fun (d:Nat)=>U32 (d:Int))/\Mg g B mn X/\mn<=18000000000000/\(∀ d∈b,d<1000000000)/\Z=pv b+10^(9*b.length)*X/\29*b.length<=m+29,fun l q=>match l with|[_,.slice B n _]=>Uu b32 q B n|_=>0,⟨[],Z,none,A,0,n,c,h,rfl,B3 h,Priv.nil _ _ _ _,u,ab,by simp,by simp [pv],by simp⟩,?_⟩
  rintro A1 n1 c1 B1 mn mc q ⟨b,X,A1',B1',av,ah,an,g,hl,y,P1,M1,q1,al,x,a0⟩
  obtain ⟨⟨rfl,rfl,rfl⟩,rfl,rfl,rfl⟩:(A1=A1'/\n1=b.length/\c1=av)/\B1=B1'/\mn=ah/\mc=an:=gz0
  have a6:=M1.len_zero dc
  refine B5 (fun h1=>?_) (fun h1=>?_)
  ·have az:29*b.length<m:=by
    have h2:2^(29*b.length)<=10^(9*b.length):=by
     rw [Nat.pow_mul,Nat.pow_mul]
     exact aG dc _
    have h3:10^(9*b.length)*1<=10^(9*b.length)*X:=Nat.mul_le_mul_left _ o
    exact (Nat.pow_lt_pow_iff_right (a:=2) dc).1 o
   refine P1.call ?_
   refine Dh M1 dc q1 ?_
   intro A2 m2 N h2 l2 k2 k3 M2 h3 P3
   refine ⟨_,_,_,_,rfl,?_⟩
   refine Au Ha P3 rfl rfl o o ?_
   intro A4 c4 Q R l4 P4
   have M4:Mg R A2 m2 ((X/1000000000:Nat):Int):=M2.mono l4
   refine ⟨⟨b++[X%1000000000],X/1000000000,A4,A2,c4,m2,N,R,by simp,A0 y (A0 l2 l4),gz0,M4,o,?_,?_,?_⟩,?_⟩
   ·grind
   ·rw [A13,List.length_append,List.length_singleton,Nat.mul_add,Nat.pow_add,x,Nat.add_assoc,Nat.mul_assoc,<- Nat.mul_add,show 10^(9*1)=1000000000 from dc,Nat.mod_add_div]
   ·grind
   ·show Uu b32 Q A2 m2<Uu b32 q B1 mn
    rw [P6 (M4.mono P4.le),P6 (M1.mono P1.le)]
    omega
  ·have hX:X=0:=o
   subst hX
   rw [Nat.mul_zero,Nat.add_zero] at x
   have ap:SlV q A1 (b.map fun (d:Nat)=>U32 (d:Int)):=P1.slV
   have ay:∀ V,V<=Z->(dd V).length<=D:=by
    intro V hV
    exact J0.2 (aH hV hD)
   have e1:B6 ((b.length:Int)-1)=(b.length:Int)-1:=B4 o o
   rw [e1]
   refine ⟨fun l Q=>∃ (k:Nat) (A:Option Addr) (n c:Nat) (g:Heap),l=[.slice A n c,I ((k:Int)-1)]/\k<=b.length/\q.le g/\n=(dd (pv (b.drop k))).length/\Priv Q g 5 1 A n c (yv (dd (pv (b.drop k)))),fun l _=>(iAt l 1+1).toNat,⟨b.length,none,0,0,q,rfl,Nat.le_refl _,B3 q,by simp [pv,E9],by simpa [pv,E9,yv] using Priv.nil _ _ _ _⟩,?_⟩
   rintro A2 n2 N i2 Q ⟨k,A2',ae,ai,R,a4,hk,lg,G,P2⟩
   obtain ⟨⟨rfl,rfl,rfl⟩,rfl⟩:(A2=A2'/\n2=ae/\N=ai)/\i2=(k:Int)-1:=gz0
   refine B5 (fun h2=>?_) (fun h2=>?_)
   ·obtain ⟨j,rfl⟩:∃ j,k=j+1:=⟨k-1,o⟩
    have ej:((j+1:Nat):Int)-1=(j:Int):=o
    rw [ej]
    have hj:j<b.length:=o
    have a3:=A14 hj
    have aq:b[j]<1000000000:=al _ (List.getElem_mem hj)
    have a1:=Rq b j
    refine ⟨fun l O=>∃ (e:Nat) (A:Option Addr) (n c:Nat) (g:Heap),l=[.slice A n c,U32 (pw e:Int)]/\e<=9/\q.le g/\n=(dd (pv (b.drop (j+1))*10^(9-e)+b[j]/10^e)).length/\Priv O g 5 1 A n c (yv (dd (pv (b.drop (j+1))*10^(9-e)+b[j]/10^e))),fun l _=>(iAt l 1).toNat,⟨9,A2,n2,N,R,rfl,o,lg,?_,?_⟩,?_⟩
    ·grind
    ·grind
    rintro A5 n5 c5 d O ⟨e,A5',am,ak,g5,a8,he,w,C,P5⟩
    obtain ⟨⟨rfl,rfl,rfl⟩,rfl⟩:(A5=A5'/\n5=am/\c5=ak)/\d=(pw e:Int):=gz0
    generalize hV:pv (b.drop (j+1))*10^(9-e)+b[j]/10^e=V at *
    refine B5 (fun H=>?_) (fun H=>?_)
    ·obtain ⟨f,rfl⟩:∃ f,e=f+1:=by
      cases e with
      | zero=>simp [pw] at H
      | succ f=>grind
     have ao:pw (f+1)=10^f:=Kj f
     have af:0<10^f:=Nat.pow_pos dc
     have a2:10^f<=100000000:=by
      have:10^f<=10^8:=aC dc o
      omega
     have a7:pv (b.drop (j+1))*10^(9-f)+b[j]/10^f=10*V+b[j]/10^f%10:=by
      rw [<- hV,show 9-f=(9-(f+1))+1 from o,aL,aL,<- Nat.div_div_eq_div_mul,Nat.mul_add]
      grind
     have L:10*V+b[j]/10^f%10<=Z:=by
      have F:10^(9-f)*10^f=1000000000:=by rw [<- Nat.pow_add,show 9-f+f=9 from o]
      have t2:10^(9-f)<=1000000000:=by rw [<- F];exact Nat.le_mul_of_pos_right _ af
      have t3:pv (b.drop (j+1))*10^(9-f)<=pv (b.drop (j+1))*1000000000:=Nat.mul_le_mul_left _ t2
      have t4:=Nat.div_le_self b[j] (10^f)
      omega
     have ec:wu8 (F0 ((48:Int)+Int.tmod (F0 (Int.tdiv (b[j]:Int) ((pw (f+1):Nat):Int))) 10))=((48+b[j]/10^f%10:Nat):Int):=by
      rw [ao]
      have F:Int.tdiv (b[j]:Int) ((10^f:Nat):Int)=((b[j]/10^f:Nat):Int):=by rfl
      rw [F]
      have t2:b[j]/10^f<1000000000:=aH (Nat.div_le_self _ _) aq
      generalize b[j]/10^f=D at t2 ⊢
      rw [I6 (n:=(D:Int)) o o]
      have t3:Int.tmod (D:Int) 10=((D%10:Nat):Int):=by
       rfl
      rw [t3,I6 o o,Iq o o];omega
     have r:b[j]/10^f%10<10:=Nat.mod_lt _ dc
     have E:SlV O A1 (b.map fun (d:Nat)=>U32 (d:Int)):=ap.mono (A0 w P5.le)
     refine ⟨fun l H=>∃ (A:Option Addr) (n c:Nat) (g:Heap),l=[.slice A n c]/\q.le g/\n=(dd (10*V+b[j]/10^f%10)).length/\Priv H g 5 1 A n c (yv (dd (10*V+b[j]/10^f%10))),?_,?_⟩
     ·obtain ⟨ad,ac,aj⟩:=SlV.at E (i:=j) gz0
      refine ⟨ad,ac,o,o,(b[j]:Int),by simp_all,?_⟩
      refine B5 (fun e0=>absurd e0 o) (fun _=>?_)
      rw [ec]
      have p:=A1i V (b[j]/10^f%10) r
      have aw:=Sh V
      refine ⟨fun l S=>l=[.bool (decide (V≠0\/b[j]/10^f%10≠0))]/\S=O,B5 (fun S=>⟨?_,rfl⟩) (fun S=>⟨?_,rfl⟩),?_⟩
      ·grind
      ·have e2:∀ D:Nat,(((48+D:Nat):Int) != 48)=decide (V≠0\/D≠0):=by
        grind
       rw [e2]
      rintro tb S ⟨a5,rfl⟩
      obtain rfl:tb=decide (V≠0\/b[j]/10^f%10≠0):=gz0
      refine B5 (fun h8=>?_) (fun h8=>?_)
      ·rw [iP h8] at p
       have W:=ay _ L
       rw [p,List.length_append,List.length_singleton] at W
       refine Au U7 P5 rfl rfl o o ?_
       intro A9 M h9 g9 l9 P9
       refine ⟨A9,n5+1,M,g9,rfl,A0 w l9,gz0,?_⟩
       rw [p,L4]
       have:yv [dch (b[j]/10^f%10)]=[Y ((48+b[j]/10^f%10:Nat):Int)]:=by
        simp only [yv,List.map_cons,List.map_nil,V4 r]
       grind
      grind
     ·rintro A9 n9 M h9 ⟨A9',ax,aa,g9,ba,ar,bb,P9⟩
      obtain ⟨rfl,rfl,rfl⟩:A9=A9'/\n9=ax/\M=aa:=gz0
      have ed:F0 (Int.tdiv ((pw (f+1):Nat):Int) 10)=((pw f:Nat):Int):=by
       have F:Int.tdiv ((pw (f+1):Nat):Int) 10=((pw (f+1)/10:Nat):Int):=by rfl
       rw [F,Ui,I6 o (by have:=Ui f;omega)]
      rw [ed]
      refine ⟨⟨f,A9,n9,M,g9,rfl,o,ar,gz0,gz0⟩,?_⟩
      simp only [iAt,aE,aF,aI]
      have:=Ui f
      omega
    ·have T:e=0:=by
      cases e with
      | zero=>rfl
      | succ f=>rw [Kj] at H;grind
     subst T
     have au:V=pv (b.drop j):=o
     rw [au] at P5 C
     rw [B4 o o]
     exact ⟨⟨j,A5,n5,c5,g5,rfl,o,w,C,P5⟩,by simp only [iAt,aE,aF];omega⟩
   ·have ag:k=0:=o
    subst ag
    rw [List.drop_zero,<- x] at P2 G
    refine Bu U7.und R8 K9 P2.slV G ?_
    exact ⟨_,rfl,A0 y (A0 P1.le (A0 lg P2.le)),hK⟩
end
def Jn(a:Array UInt8):({ data:=a }:ByteArray)=bs a.toList:=by simp [bs]
def S1{l:List UInt8}(h:∀ c∈l,E6 c):F9 l<2^(4*l.length):=by
 have a:=U1 h
 have b:10^l.length<=16^l.length:=aG dc _
 have d:16^l.length=2^(4*l.length):=by rw [Nat.pow_mul]
 omega
def Zt{h:Heap}{A:Option Addr}{n m:Nat}{X:Nat}(M:Mg h A n X)(hx:X<2^m)(hm:m<=575000000000000):n<=18000000000000:=by
 have:=Uy (j:=32) dc M (m:=m) gz0
 omega
section
variable {h h':Heap} {K:VP} {A B:Option Addr} {n c n' c':Nat} {s s':Bool} {x y z:Int} {m:Nat} {p q:Rat} {a b w:QV} {l:List UInt8}
def Ba(hl:l.length<=140737488351232)(hK:∀ s A n c ok h',h.le h'->(ok=true->(∀ c∈l,E6 c)/\l≠[]/\NI h' s A n c (F9 l))->(ok=false->¬ ((∀ c∈l,E6 c)/\l≠[]))->K (.tuple #[.agg #[.bool s,.slice A n c],.bool ok]) h'):FCall prog 142 #[.string (bs l)] h K:=by
 refine (fnk func142 [(3,[4,5],[(2,2)],[.slice none 0 0,I 0,.bool false,.slice none 0 0]),(6,[5,6,7,8],[(2,2)],[I 0,U32 0,U32 0,I 0,.bool false,.slice none 0 0])] (cs:=[(12,[5,6,7],[(2,2)],[I 0,U32 0,U32 0,.bool false,.slice none 0 0])]) (own:=[2])) ?_
 simp only [F8]
 refine ⟨fun L w=>∃ (i:Nat) (A:Option Addr) (n c:Nat),L=[.slice A n c,I i,.bool false,.slice none 0 0]/\i<=l.length/\h.le w/\(∀ c∈l.take i,E6 c)/\Mg w A n (F9 (l.take i))/\n<=c,fun L _=>l.length-(iAt L 1).toNat,⟨0,none,0,0,rfl,o,B3 h,by simp,Mag.zero,Nat.le_refl _⟩,?_⟩
 rintro A1 n1 c1 i1 V A2 n2 c2 w ⟨i,A1',ad,Q,hL,hi,ac,r,M,hc⟩
 obtain ⟨⟨rfl,rfl,rfl⟩,rfl,rfl,rfl,rfl,rfl⟩:(A1=A1'/\n1=ad/\c1=Q)/\i1=(i:Int)/\V=false/\A2=none/\n2=0/\c2=0:=gz0
 refine B5 (fun h1=>?_) (fun h1=>?_)
 ·refine ⟨fun L R=>∃ (k:Nat),L=[I ((i+k:Nat):Int),U32 (F9 ((l.drop i).take k):Nat),U32 ((10^k:Nat):Int),.bool false,.slice none 0 0]/\0<k/\k<=9/\i+k<=l.length/\R=w/\(∀ c∈(l.drop i).take k,E6 c),?_,?_⟩
  ·refine ⟨fun L R=>∃ (k:Nat),L=[I ((i+k:Nat):Int),U32 (F9 ((l.drop i).take k):Nat),U32 ((10^k:Nat):Int),I k,.bool false,.slice none 0 0]/\k<=9/\i+k<=l.length/\R=w/\(∀ c∈(l.drop i).take k,E6 c),fun L _=>9-(iAt L 3).toNat,⟨0,by rfl,o,o,rfl,by simp⟩,?_⟩
   rintro H v f k2 y A3 O W F ⟨k,ae,T,u,rfl,g⟩
   obtain ⟨rfl,rfl,rfl,rfl,rfl,rfl,rfl,rfl⟩:H=((i+k:Nat):Int)/\v=((F9 ((l.drop i).take k):Nat):Int)/\f=((10^k:Nat):Int)/\k2=(k:Int)/\y=false/\A3=none/\O=0/\W=0:=gz0
   refine B5 (fun h2=>B5 (fun h3=>?_) (fun h3=>?_)) (fun h2=>?_)
   ·have E:i+k<l.length:=o
    have a:(bs l)[((i+k:Nat):Int).toNat]? = some l[i+k]:=by rw [aI,Jo,aK E]
    have d:¬ E6 l[i+k]->∀ s A n c,K (.tuple #[.agg #[.bool s,.slice A n c],.bool false]) F:=by
     grind
    refine ⟨l[i+k],⟨o,a⟩,B5 (fun z=>?_) (fun z=>?_)⟩
    ·exact d (fun C=>by unfold E6 at C;omega) _ _ _ _
    ·refine ⟨l[i+k],⟨o,a⟩,B5 (fun h5=>?_) (fun h5=>?_)⟩
     ·exact d (fun C=>by unfold E6 at C;omega) _ _ _ _
     ·have ag:E6 l[i+k]:=by unfold E6;omega
      refine ⟨l[i+k],⟨o,a⟩,?_⟩
      have j:(l.drop i).take (k+1)=(l.drop i).take k++[l[i+k]]:=by
       rw [aM gz0];simp
      have S:F9 ((l.drop i).take k)<10^k:=by
       have:=U1 g
       grind
      have X:10^k<=100000000:=by
       have:10^k<=10^8:=aC dc o
       omega
      have e1:B6 (((i+k:Nat):Int)+1)=((i+(k+1):Nat):Int):=by rw [B4 o o];omega
      have e2:B6 ((k:Int)+1)=((k+1:Nat):Int):=by rw [B4 o o];omega
      have e3:F0 (((10^k:Nat):Int)*10)=((10^(k+1):Nat):Int):=by rw [aL,I6 o o];omega
      have e4:F0 (F0 (((F9 ((l.drop i).take k):Nat):Int)*10)+F0 (wu8 ((l[i+k].toNat:Int)-48)))=((F9 ((l.drop i).take (k+1)):Nat):Int):=by
       rw [j,Bc,Iq o o,I6 (n:=(l[i+k].toNat:Int)-48) o o,I6 (n:=((F9 ((l.drop i).take k):Nat):Int)*10) o o,I6 o o];omega
      rw [e1,e2,e3,e4]
      refine ⟨⟨k+1,rfl,o,o,rfl,?_⟩,by simp only [iAt,aE,aF];omega⟩
      grind
   ·grind
   grind
  ·rintro H v f x A3 O W p ⟨k,ae,af,T,u,rfl,g⟩
   obtain ⟨rfl,rfl,rfl,rfl,rfl,rfl,rfl⟩:H=((i+k:Nat):Int)/\v=((F9 ((l.drop i).take k):Nat):Int)/\f=((10^k:Nat):Int)/\x=false/\A3=none/\O=0/\W=0:=gz0
   have S:F9 ((l.drop i).take k)<10^k:=by
    have:=U1 g
    grind
   have X:0<10^k/\10^k<=1000000000:=by
    have:10^k<=10^9:=aC dc o
    omega
   have ab:((l.drop i).take k).length=k:=gz0
   have j:l.take (i+k)=l.take i++(l.drop i).take k:=List.take_add
   have q:∀ c∈l.take (i+k),E6 c:=by
    grind
   have ah:F9 (l.take (i+k))=F9 (l.take i)*10^k+F9 ((l.drop i).take k):=by rw [j,Y5,ab]
   have G:F9 (l.take i)<2^(4*l.length):=aD (S1 r) (aC dc gz0)
   have ai:F9 (l.take (i+k))<2^(4*l.length):=aD (S1 q) (aC dc gz0)
   have aa:=Zt M G o
   refine P7 Ha rfl ?_
   intro B D
   refine ⟨_,_,_,rfl,?_⟩
   have lf:=Heap.le_put (h:=p) (b:=B) (.cells #[U32 ((10^k:Nat):Int)] 173) D
   have Mf:Mg (p.put B (.cells #[U32 ((10^k:Nat):Int)] 173)) (some ⟨B,0,none⟩) 1 ((10^k:Nat):Int):=
    ⟨[((10^k:Nat):Int)],rfl,SlI.new p B [((10^k:Nat):Int)] 173 _,Dig.one ⟨o,gz0⟩,by simp only [Norm,List.getLast?_singleton,ne_eq,Option.some.injEq];omega,N2 _ _⟩
   refine Pb (M.mono lf) Mf aa o ?_
   intro A4 m4 c4 z l4 k4 M4
   refine ⟨_,_,_,rfl,?_⟩
   refine P7 Ha rfl ?_
   intro bv N
   refine ⟨_,_,_,rfl,?_⟩
   have lv:=Heap.le_put (h:=z) (b:=bv) (.cells #[U32 ((F9 ((l.drop i).take k):Nat):Int)] 173) N
   refine S8 (xs:=[((F9 ((l.drop i).take k):Nat):Int)]) (SlI.new z bv _ 173 _) (Dig.one ⟨o,gz0⟩) (Nat.le_refl _) (by simp) ?_
   intro m5 k5 M5
   refine ⟨_,_,_,rfl,?_⟩
   rw [N2] at M5
   have e4:((F9 (l.take i):Nat):Int)*((10^k:Nat):Int)=((F9 (l.take i)*10^k:Nat):Int):=by rw [Int.natCast_mul]
   rw [e4] at M4
   refine Ps (M4.mono lv) M5 (Zt M4 (m:=4*l.length) o o) gz0 ?_
   intro A6 m6 c6 h6 l6 k6 M6
   have e6:((F9 (l.take i)*10^k:Nat):Int)+((F9 ((l.drop i).take k):Nat):Int)=((F9 (l.take (i+k)):Nat):Int):=o
   rw [e6] at M6
   exact ⟨_,_,_,rfl,⟨i+k,A6,m6,c6,rfl,u,A0 ac (A0 lf (A0 l4 (A0 lv l6))),q,M6,k6⟩,by simp only [iAt,aE,aF];omega⟩
 ·refine R2 M hc ?_
  intro s1 i1
  refine ⟨_,_,_,_,rfl,?_⟩
  have e:(!((bs l).toList==({ data:=#[] }:ByteArray).toList))=decide (l≠[]):=by
   rw [Jn,Fz];simp
  grind
def S2{n m:Nat}(h:n<2^m):(H2 n).length<=m+1:=by
 rw [Dx o]
 have:2^m<=10^(m+1):=Nat.le_trans (aG dc m) (aC dc o)
 omega
def Is{D:Nat}(i:NQ h w q)(hq:Sz m q)(hm:m<=575000000000000)(hD:q.num.natAbs<10^D/\q.den<10^D)(hD2:D<=140737488355232)(hK:K (.string (bs (D5 q))) h):FCall prog 21 #[w.v] h K:=by
 have s:=i.num.sg
 have d:=i.den_zero
 refine (fnk func21 (cs:=[(4,[3],[],[.string ⟨#[]⟩])]) (own:=[1])) ?_
 have k:=S2 hq.num
 have p:=S2 (n:=q.den) (m:=m) (by have:=hq.den;assumption)
 refine Fy i.num hq.num hm hD.1 hD2 ⟨_,rfl,?_⟩
 refine ⟨fun l c=>l=[.string (bs (Ag q.num))]/\c=h,Br.of (fun e=>?_) (fun e=>?_),?_⟩
 ·refine ⟨?_,?_,rfl⟩
  ·rw [Jn,F8,F8];grind
  ·rw [Jn,Eb];unfold Ag;grind
 ·exact ⟨by unfold Ag;grind,rfl⟩
 rintro t r ⟨j,rfl⟩
 obtain rfl:t=bs (Ag q.num):=gz0
 have u:(Ag q.num).length<=m+2:=by
  unfold Ag;grind
 refine B5 (fun e=>?_) (fun e=>?_)
 ·have b:¬ q.den=1:=fun g=>by omega
  have a:=i.den
  rw [iN b] at a
  refine Fy a hq.den hm hD.2 hD2 ⟨_,rfl,?_,?_,?_⟩
  ·rw [Jn,F8,F8,aJ];grind
  ·rw [Jn,Eb,F8,F8,aJ];grind
  ·rw [Jn,Eb,Eb,aJ]
   unfold D5 at hK
   grind
 ·unfold D5 at hK
  grind
def Tl(i:NQ h w q)(hq:Sz m q)(hm:m<=140000000000000)(hK:K (.string (bs (D5 q))) h):FCall prog 21 #[w.v] h K:=
 Is (D:=m) i hq o ⟨aD hq.num (aG dc _),aD (by have:=hq.den;assumption) (aG dc _)⟩ o hK
def A0b{t a r a' r':List UInt8}(h1:t=a++r)(h2:∀ c∈a,c≠47)(h3:r=[]\/r.head? = some 47)(g1:t=a'++r')(g2:∀ c∈a',c≠47)(g3:r'=[]\/r'.head? = some 47):a=a'/\r=r':=by
 induction a generalizing t a' with
 | nil=>
  cases a' with
  | nil=>grind
  | cons c a'=>
   grind
 | cons c a ih=>
  cases a' with
  | nil=>
   grind
  | cons c' a'=>
   grind
def Td(q:Rat):D5 q=(if q.num<0 then [45] else [])++(H2 q.num.natAbs++(if q.den=1 then [] else 47::H2 q.den)):=by
 unfold D5 Ag;grind
def Vu(n:Nat):∀ c∈H2 n,c≠47:=fun c a=>(Qu (Dz n c a)).2
def Hq{neg:Bool}{q:Rat}(h:neg=decide (q.num<0)):Rat.divInt (if neg=true then -((q.num.natAbs:Nat):Int) else ((q.num.natAbs:Nat):Int)) q.den=q:=by
 have:(if neg=true then -((q.num.natAbs:Nat):Int) else ((q.num.natAbs:Nat):Int))=q.num:=by
  grind
 simp_all
def Tw(hl:l.length<=140737488351232)(hK1:∀ q,l=D5 q->∀ w h',h.le h'->NQ h' w q->K (.tuple #[w.v,.bool true]) h')(hK0:¬ IsNum l->∀ (w:QV) h',h.le h'->K (.tuple #[w.v,.bool false]) h'):FCall prog 75 #[.string (bs l)] h K:=by
 refine (fnk func75 [(7,[6,7],[],[I 0,I 0])] (cs:=[(3,[5],[],[.bool false]),(5,[4],[],[.string ⟨#[]⟩]),(11,[6],[],[I 0])]) (os:=[(20,[0,1,3,2,4,5,6])]) (own:=[2,8,10,11])) ?_
 simp only [F8]
 refine ⟨fun L h'=>L=[.bool (l.head? == some 45)]/\h'=h,B5 (fun B=>?_) (fun B=>?_),?_⟩
 ·cases l with
  | nil=>grind
  | cons c r=>
   refine ⟨c,⟨o,by rfl⟩,?_,rfl⟩
   have:((c.toNat:Int)==45)=((c::r).head? == some 45):=by
    rw [Bool.eq_iff_iff,beq_iff_eq,beq_iff_eq,List.head?_cons,Option.some.injEq]
    constructor
    ·intro e;apply UInt8.toNat_inj.1;grind
    simp_all
   rw [this]
 ·simp_all
 rintro neg hp ⟨hL,rfl⟩
 obtain rfl:neg=(l.head? == some 45):=gz0
 refine ⟨fun L h'=>L=[.string (bs (if (l.head? == some 45) then l.drop 1 else l))]/\h'=hp,Br.of (fun e=>?_) (fun e=>?_),?_⟩
 ·have af:1<=l.length:=by
   grind
  refine ⟨⟨o,o⟩,?_,rfl⟩
  rw [iP e,I0,aO gz0];rfl
 ·grind
 rintro t0 F ⟨ak,rfl⟩
 generalize ht:(if (l.head? == some 45) then l.drop 1 else l)=t at *
 obtain rfl:t0=bs t:=gz0
 have ao:t.length<=l.length:=gz0
 have aa:l=(if (l.head? == some 45) then [45] else [])++t:=by
  rw [<- ht]
  cases l with
  | nil=>simp
  | cons c r=>
   grind
 have s:∀ q,l=D5 q->(l.head? == some 45)=decide (q.num<0)/\t=H2 q.num.natAbs++(if q.den=1 then [] else 47::H2 q.den):=by
  intro q e
  have f:=U6 q
  rw [<- e] at f
  have hh:=f.head
  refine ⟨hh.symm,?_⟩
  have E:=aa
  rw [<- hh,e,Td q] at E
  grind
 refine ⟨fun L h'=>∃ b:Nat,L=[I b]/\h'=F/\b<=t.length/\(∀ c∈t.take b,c≠47)/\(t.drop b=[]\/(t.drop b).head? = some 47),?_,?_⟩
 ·simp only [F8]
  refine ⟨fun L h'=>∃ i:Nat,L=[I t.length,I i]/\h'=F/\i<=t.length/\(∀ c∈t.take i,c≠47),fun L _=>t.length-(iAt L 1).toNat,⟨0,rfl,rfl,o,by simp⟩,?_⟩
  rintro X i1 am ⟨i,al,rfl,hi,y⟩
  obtain ⟨rfl,rfl⟩:X=(t.length:Int)/\i1=(i:Int):=gz0
  refine B5 (fun B=>?_) (fun B=>?_)
  ·have z:i<t.length:=o
   refine ⟨t[i],⟨o,by rw [aI,Jo,aK z]⟩,D6 (fun O=>?_) (fun O=>?_)⟩
   ·refine ⟨i,rfl,rfl,hi,y,.inr ?_⟩
    rw [List.head?_drop,aK z]
    congr 1
    apply UInt8.toNat_inj.1
    grind
   ·rw [B4 o o]
    refine ⟨⟨i+1,rfl,rfl,o,?_⟩,by simp only [iAt,aE,aF];omega⟩
    rw [aM z]
    intro c W
    rcases List.mem_append.1 W with T|T
    ·grind
    ·rw [List.mem_singleton.1 T]
     intro e;rw [e] at O;grind
  grind
 rintro ae R ⟨b,ai,rfl,an,y,g⟩
 obtain rfl:ae=(b:Int):=gz0
 simp only [F8,I0,aI,List.drop_zero,Nat.sub_zero]
 refine ⟨⟨o,o⟩,?_⟩
 have m:t=t.take b++t.drop b:=(List.take_append_drop b t).symm
 have d:∀ q,l=D5 q->t.take b=H2 q.num.natAbs/\t.drop b=(if q.den=1 then [] else 47::H2 q.den):=by
  intro q e
  refine A0b m y g (s q e).2 (Vu _) ?_
  split
  ·left;rfl
  grind
 refine Ba gz0 ?_
 intro s1 A1 n1 c1 aj B M k1 k0
 refine ⟨_,_,_,_,_,rfl,Br.not (Br.of (fun e=>?_) (fun e=>?_))⟩
 ·obtain ⟨dg,ad,iN⟩:=k1 e
  have ab:ZB (4*l.length) (F9 (t.take b):Int):=by
   exact aD (S1 dg) (aC dc gz0)
  have im:=iN.mag
  refine R2 im iN.cap ?_
  intro s2 i2
  refine ⟨_,_,_,_,rfl,?_⟩
  have j:ZB (4*l.length) (if (l.head? == some 45)=true then -((F9 (t.take b):Nat):Int) else ((F9 (t.take b):Nat):Int)):=by
   split
   ·exact ab.neg
   omega
  have p:∀ Q:List UInt8,(∀ c∈Q,E6 c)->Q.length<=l.length->F9 Q<10^l.length:=fun Q B O=>aD (U1 B) (aC dc O)
  have C:∀ (A:Rat) (w:QV) (u:Heap),R.le u->NQ u w A->Sz (4*l.length+1) A->(A.num.natAbs<10^l.length/\A.den<10^l.length)->(∀ q,l=D5 q->q=A)->
   FCall prog 21 #[w.v] u (fun r5 D=>∃ (t79:ByteArray),r5= .string t79/\Heap.le u D/\K (.tuple #[w.v,.bool (ByteArray.toList t79==ByteArray.toList (bs l))]) D):=by
   intro A w u l5 iq S ac ap
   refine Is iq S o ac o ⟨_,rfl,B3 _,?_⟩
   rw [Fz]
   by_cases W:D5 A=l
   ·grind
   ·rw [decide_eq_false W]
    refine hK0 ?_ w u l5
    rintro ⟨q,e⟩
    grind
  refine B5 (fun E=>?_) (fun E=>?_)
  ·have e3:B6 ((b:Int)+1)=((b+1:Nat):Int):=by rw [B4 o o];omega
   rw [e3]
   refine ⟨⟨o,o⟩,?_⟩
   rw [aI,aO (show (t.drop (b+1)).length<=t.length-(b+1) from gz0)]
   have hb:t.drop b=47::t.drop (b+1):=by
    rcases g with h0|h0
    ·grind
    ·rw [List.head?_drop] at h0
     have H:b<t.length:=o
     rw [aN H]
     grind
   refine Ba gz0 ?_
   intro s3 A3 n3 c3 ah T N j1 j0
   have n:∀ q,l=D5 q->q.den≠1/\t.drop (b+1)=H2 q.den:=by
    intro q e
    by_cases hd:q.den=1
    ·grind
    grind
   refine ⟨_,_,_,_,_,rfl,Br.not (Br.of (fun e4=>?_) (fun e4=>?_))⟩
   ·obtain ⟨G,ag,iD⟩:=j1 e4
    refine Ts iD ⟨_,rfl,D6 (fun e5=>?_) (fun e5=>?_)⟩
    ·refine hK0 ?_ ⟨false,none,0,0,false,none,0,0⟩ _ (A0 M N)
     rintro ⟨q,e⟩
     have h6:=(n q e).2
     have h7:((F9 (t.drop (b+1)):Nat):Int)=0:=Int.sign_eq_zero_iff_zero.1 e5
     rw [h6,O8] at h7
     exact q.den_nz o
    ·have k:((F9 (t.drop (b+1)):Nat):Int)≠0:=fun e6=>e5 (by rw [e6];rfl)
     have x:ZB (4*l.length) (F9 (t.drop (b+1)):Int):=by
      exact aD (S1 G) (aC dc gz0)
     refine Vi (i2.mono N) iD k j x o ?_
     intro w u l5 iq
     refine ⟨_,_,_,_,_,_,_,_,rfl,?_⟩
     refine C _ w u (A0 M (A0 N l5)) iq ((Ii k j x).mono o) ?_ ?_
     ·have q1:=Dw (a:=if (l.head? == some 45)=true then -((F9 (t.take b):Nat):Int) else ((F9 (t.take b):Nat):Int)) k
      have q2:(if (l.head? == some 45)=true then -((F9 (t.take b):Nat):Int) else ((F9 (t.take b):Nat):Int)).natAbs=F9 (t.take b):=by split<;>omega
      rw [q2,aJ] at q1
      exact ⟨aH q1.1 (p _ dg gz0),aH q1.2 (p _ G gz0)⟩
     intro q e
     rw [(d q e).1,(n q e).2,O8,O8]
     exact (Hq (s q e).1).symm
   ·refine hK0 ?_ ⟨false,none,0,0,false,none,0,0⟩ _ (A0 M N)
    rintro ⟨q,e⟩
    exact j0 e4 (by rw [(n q e).2];exact ⟨Dz _,Hw _⟩)
  ·refine C _ ⟨s2,A1,n1,c1,false,none,0,0⟩ B M (NQ.whole i2) (Sz.int (j.mono o) o) ?_ ?_
   ·have V:1<=l.length:=by have:=List.length_pos_iff.2 ad;grind
    refine ⟨?_,?_⟩
    ·rw [Rat.num_intCast]
     refine aH (Nat.le_of_eq ?_) (p _ dg gz0)
     split<;>omega
    ·rw [Rat.den_intCast];exact aD dc (aC dc V)
   intro q e
   have hd:q.den=1:=by
    grind
   rw [(d q e).1,O8]
   have:=Hq (s q e).1
   rw [hd] at this
   rw [<- Sf]
   exact this.symm
 ·refine hK0 ?_ ⟨false,none,0,0,false,none,0,0⟩ _ M
  rintro ⟨q,E⟩
  exact k0 e (by rw [(d q E).1];exact ⟨Dz _,Hw _⟩)
def Xy(hl:l.length<=140737488351232)(hK:∀ w h',h.le h'->NQ h' w (rv l)->K w.v h'):FCall prog 22 #[.string (bs l)] h K:=by
 refine (fnk func22 (own:=[2,3])) ?_
 refine Tw hl ?_ ?_
 ·intro q e w b a c
  refine ⟨_,_,_,_,_,_,_,_,_,rfl,Br.not ?_⟩
  refine hK w b a ?_
  rw [e,C3];exact c
 ·intro d w b a
  refine ⟨_,_,_,_,_,_,_,_,_,rfl,Br.not ?_⟩
  refine hK ⟨false,none,0,0,false,none,0,0⟩ b a ?_
  rw [Qg d];exact NQ.zero
end
def mn(p q:Rat):Rat:=if q<p then q else p
def mx(p q:Rat):Rat:=if q>p then q else p
def mnL(p:Rat)(l:List Rat):Rat:=l.foldl mn p
def mxL(p:Rat)(l:List Rat):Rat:=l.foldl mx p
def Yf(p q:Rat)(l:List Rat):mnL p (q::l)=mnL (mn p q) l:=rfl
def Yb(p q:Rat)(l:List Rat):mxL p (q::l)=mxL (mx p q) l:=rfl
def Ye(p q:Rat)(l:List Rat):mnL p (l++[q])=mn (mnL p l) q:=by simp [mnL]
def Ya(p q:Rat)(l:List Rat):mxL p (l++[q])=mx (mxL p l) q:=by simp [mxL]
def A5i(p q:Rat):mn p q=p\/mn p q=q:=by unfold mn;split<;>simp
def A5g(p q:Rat):mx p q=p\/mx p q=q:=by unfold mx;split<;>simp
def Rr(a b:Rat)(k:Nat):Rat:=if 0<k/\k%2=0/\a<0/\0<b then mnL 0 [a^k,b^k] else mn (a^k) (b^k)
def Rs(a b:Rat)(k:Nat):Rat:=if 0<k/\k%2=0/\a<0/\0<b then mxL 0 [a^k,b^k] else mx (a^k) (b^k)
def Yc(a b c d:Rat):Rat:=mnL (a*c) [a*d,b*c,b*d]
def Yd(a b c d:Rat):Rat:=mxL (a*c) [a*d,b*c,b*d]
