/- A part. -/
import Derived.Test.YtmbfcbbkbefgfaaGreatDoorG14
import Derived.Test.YtmbfcbbkbefgfaaGreatDoorG15
open Go.Proofs.Tryz
set_option linter.all false
open Int renaming toNat_natCast->aE,natAbs_natCast->aJ
open List renaming length_drop->aD,length_take->aF,getElem?_cons_zero->aG,getElem?_cons_succ->aH,getElem?_eq_getElem->aK,eq_nil_of_length_eq_zero->aL,length_append->aO,length_singleton->aP,take_succ_eq_append_getElem->aT,drop_eq_getElem_cons->aU,take_of_length_le->aV
open Nat renaming pow_le_pow_right->aC,pow_le_pow_left->aM,lt_of_lt_of_le->aN,le_refl->aQ,pow_succ->aS
open Rat renaming pow_succ->aI,le_trans->aR
namespace Go.Proofs.YtmbfcbbkbefgfaaGreatDoor
set_option maxRecDepth 20000
open Go
def Av:prog.underlying F1=some (.int .u8):=by kernel_rfl
def Q3:prog.underlying A89=some .string:=by kernel_rfl
def pv:List Nat->Nat
 | []=>0
 | d::r=>d+1000000000*pv r
def B6y(ps:List Nat)(d:Nat):pv (ps++[d])=pv ps+10^(9*ps.length)*d:=by
 induction ps with
 | nil=>simp [pv]
 | cons p ps ih=>
  simp only [List.cons_append,pv,ih,List.length_cons]
  rw [show 9*(ps.length+1)=9*ps.length+9 by omega,Nat.pow_add,show 10^9=1000000000 by decide]
  grind
def A6h(ps:List Nat)(k:Nat):pv (ps.drop k)<=pv ps:=by
 induction ps generalizing k with
 | nil=>simp
 | cons p ps ih=>
  cases k with
  | zero=>simp
  | succ k=>have:=ih k;simp only [List.drop_succ_cons,pv];omega
def B6z{ps:List Nat}{k:Nat}(h:k<ps.length):pv (ps.drop k)=ps[k]+1000000000*pv (ps.drop (k+1)):=by
 rw [aU h];rfl
def pw(e:Nat):Nat:=if e=0 then 0 else 10^(e-1)
def Xo(e:Nat):pw (e+1)=10^e:=by simp [pw]
def A8w(e:Nat):pw (e+1)/10=pw e:=by
 rw [Xo]
 cases e with
 | zero=>simp [pw]
 | succ e=>rw [Xo,aS,Nat.mul_div_cancel _ (by decide)]
def B7j(V d:Nat)(hd:d<10):dd (10*V+d)=if V≠0\/d≠0 then dd V++[dch d] else dd V:=by
 by_cases h:10*V+d=0
 ·have b:V=0:=by omega
  have a:d=0:=by omega
  subst b a
  simp
 ·rw [iP (by omega),N5 h,show (10*V+d)/10=V by omega,show (10*V+d)%10=d by omega]
def A6t(n:Nat):(dd n).length=0↔n=0:=by
 constructor
 ·intro h
  by_cases a:n=0
  ·exact a
  ·exact absurd (aL h) (B3w a)
 ·rintro rfl;rw [F7];rfl
section
variable {h h':Heap} {K:VP} {A B:Option Addr} {n c n' c':Nat} {s s':Bool} {x y z:Int} {m:Nat} {p q:Rat} {a b w:QV}
def So(i:NI h s A n c z)(hz:ZB m z)(hm:m<=1000000000)(hK:K (.string (bs (J3 z.natAbs))) h):FCall prog Kx #[.agg #[.bool s,.slice A n c]] h K:=by
 have h0:=i.zero_iff
 have am:=i.len hz hm
 refine FCall.pure (A7n _ _ _ _ ?_)
 unfold B1t
 refine D9 (fun e=>?_) (fun e=>?_)
 ·have:z=0:=h0.1 (by omega)
  subst this
  exact ⟨B3 h,hK⟩
 ·have ba:z≠0:=fun e1=>e (by have:=h0.2 e1;omega)
  generalize hZ:z.natAbs=Z at *
  have a9:Z<2^m:=by rw [<- hZ];exact hz
  rw [V8 (show Z≠0 by omega)] at hK
  have y:=i.mag
  rw [hZ] at y
  refine ⟨fun l q=>∃ (b:List Nat) (X:Nat) (A B:Option Addr) (c mn mc:Nat) (g:Heap),l=[.slice A b.length c,.slice B mn mc]/\h.le g/\Priv q g C1 1 A b.length c (b.map fun (d:Nat)=>U32 (d:Int))/\Mg g B mn X/\mn<=100000000/\(∀ d∈b,d<1000000000)/\Z=pv b+10^(9*b.length)*X/\29*b.length<=m+29,fun l q=>match l with|[_,.slice B n _]=>A9a b32 q B n|_=>0,⟨[],Z,none,A,0,n,c,h,rfl,B3 h,Priv.nil _ _ _ _,y,am,by simp,by simp [pv],by simp⟩,?_⟩
  rintro A1 n1 c1 B1 mn mc q ⟨b,X,A1',B1',aa,ap,an,g,hl,Q,P1,M1,q1,S,p,a3⟩
  obtain ⟨⟨rfl,rfl,rfl⟩,rfl,rfl,rfl⟩:(A1=A1'/\n1=b.length/\c1=aa)/\B1=B1'/\mn=ap/\mc=an:=by simpa using hl
  have a8:=M1.len_zero (by decide)
  refine B4 (fun h1=>?_) (fun h1=>?_)
  ·have hX:X≠0:=by omega
   have a7:29*b.length<m:=by
    have h2:2^(29*b.length)<=10^(9*b.length):=by
     rw [Nat.pow_mul,Nat.pow_mul]
     exact aM (by decide) _
    have h3:10^(9*b.length)*1<=10^(9*b.length)*X:=Nat.mul_le_mul_left _ (by omega)
    exact (Nat.pow_lt_pow_iff_right (a:=2) (by decide)).1 (by omega)
   refine P1.call ?_
   refine Jx M1 (by decide) q1 ?_
   intro A2 m2 c2 h2 l2 k2 k3 M2 h3 P3
   refine ⟨_,_,_,_,rfl,?_⟩
   have M:((X:Int)%1000000000)=((X%1000000000:Nat):Int):=by omega
   have O:((X:Int)/1000000000)=((X/1000000000:Nat):Int):=by omega
   rw [O] at M2
   rw [M]
   refine Ft Mm P3 rfl rfl (by omega) (by omega) ?_
   intro A4 c4 h4 g4 l4 P4
   have M4:Mg g4 A2 m2 ((X/1000000000:Nat):Int):=M2.mono l4
   refine ⟨⟨b++[X%1000000000],X/1000000000,A4,A2,c4,m2,c2,g4,by simp,A0 Q (A0 l2 l4),by simpa using P4,M4,by omega,?_,?_,?_⟩,?_⟩
   ·intro d hd
    rcases List.mem_append.1 hd with x|x
    ·exact S d x
    ·rw [List.mem_singleton.1 x];exact Nat.mod_lt _ (by decide)
   ·rw [B6y,aO,aP,Nat.mul_add,Nat.pow_add,p,Nat.add_assoc,Nat.mul_assoc,<- Nat.mul_add,show 10^(9*1)=1000000000 by decide,Nat.mod_add_div]
   ·rw [aO,aP];omega
   ·show A9a b32 h4 A2 m2<A9a b32 q B1 mn
    rw [Y3 (M4.mono P4.le),Y3 (M1.mono P1.le)]
    simp only [aE]
    exact Nat.div_lt_self (by omega) (by decide)
  ·have hX:X=0:=by omega
   subst hX
   rw [Nat.mul_zero,Nat.add_zero] at p
   have a0:SlV q A1 (b.map fun (d:Nat)=>U32 (d:Int)):=P1.slV
   have a6:b.length≠0:=by
    intro e0
    rw [aL e0] at p
    simp [pv] at p;omega
   have ab:∀ V,V<=Z->(dd V).length<=m:=by
    intro V hV
    apply N6.2
    have:2^m<=10^m:=aM (by decide) _
    omega
   have e1:B5 ((b.length:Int)-1)=(b.length:Int)-1:=B6 (by omega) (by omega)
   rw [e1]
   refine ⟨fun l h4=>∃ (k:Nat) (A:Option Addr) (n c:Nat) (g:Heap),l=[.slice A n c,I ((k:Int)-1)]/\k<=b.length/\q.le g/\n=(dd (pv (b.drop k))).length/\Priv h4 g F1 1 A n c (yv (dd (pv (b.drop k)))),fun l _=>(iAt l 1+1).toNat,⟨b.length,none,0,0,q,rfl,aQ _,B3 q,by simp [pv,F7],by simpa [pv,F7,yv] using Priv.nil _ _ _ _⟩,?_⟩
   rintro A2 n2 c2 i2 h4 ⟨k,A2',ae,ar,g4,aw,hk,lg,E,P2⟩
   obtain ⟨⟨rfl,rfl,rfl⟩,rfl⟩:(A2=A2'/\n2=ae/\c2=ar)/\i2=(k:Int)-1:=by simpa using aw
   refine B4 (fun h2=>?_) (fun h2=>?_)
   ·obtain ⟨j,rfl⟩:∃ j,k=j+1:=⟨k-1,by omega⟩
    have ej:((j+1:Nat):Int)-1=(j:Int):=by omega
    rw [ej]
    have hj:j<b.length:=by omega
    have ai:=B6z hj
    have F:b[j]<1000000000:=S _ (List.getElem_mem hj)
    have a4:=A6h b j
    refine ⟨fun l x=>∃ (e:Nat) (A:Option Addr) (n c:Nat) (g:Heap),l=[.slice A n c,U32 (pw e:Int)]/\e<=9/\q.le g/\n=(dd (pv (b.drop (j+1))*10^(9-e)+b[j]/10^e)).length/\Priv x g F1 1 A n c (yv (dd (pv (b.drop (j+1))*10^(9-e)+b[j]/10^e))),fun l _=>(iAt l 1).toNat,⟨9,A2,n2,c2,g4,rfl,by omega,lg,?_,?_⟩,?_⟩
    ·rw [Nat.div_eq_of_lt (by simpa using F)];simpa using E
    ·rw [Nat.div_eq_of_lt (by simpa using F)];simpa using P2
    rintro A5 n5 c5 d x ⟨e,A5',ay,av,g5,a1,he,r,u,P5⟩
    obtain ⟨⟨rfl,rfl,rfl⟩,rfl⟩:(A5=A5'/\n5=ay/\c5=av)/\d=(pw e:Int):=by simpa using a1
    generalize hV:pv (b.drop (j+1))*10^(9-e)+b[j]/10^e=V at *
    refine B4 (fun L=>?_) (fun L=>?_)
    ·obtain ⟨f,rfl⟩:∃ f,e=f+1:=by
      cases e with
      | zero=>simp [pw] at L
      | succ f=>exact ⟨f,rfl⟩
     have G:pw (f+1)=10^f:=Xo f
     have ak:0<10^f:=Nat.pow_pos (by decide)
     have a5:10^f<=100000000:=by
      have:10^f<=10^8:=aC (by decide) (by omega)
      simpa using this
     have C:pv (b.drop (j+1))*10^(9-f)+b[j]/10^f=10*V+b[j]/10^f%10:=by
      rw [<- hV,show 9-f=(9-(f+1))+1 by omega,aS,aS,<- Nat.div_div_eq_div_mul,Nat.mul_add]
      have:=Nat.div_add_mod (b[j]/10^f) 10
      grind
     have R:10*V+b[j]/10^f%10<=Z:=by
      rw [<- C]
      have J:10^(9-f)*10^f=1000000000:=by rw [<- Nat.pow_add,show 9-f+f=9 by omega]
      have t2:10^(9-f)<=1000000000:=by rw [<- J];exact Nat.le_mul_of_pos_right _ ak
      have t3:pv (b.drop (j+1))*10^(9-f)<=pv (b.drop (j+1))*1000000000:=Nat.mul_le_mul_left _ t2
      have t4:=Nat.div_le_self b[j] (10^f)
      omega
     have ec:wu8 (E9 ((48:Int)+Int.tmod (E9 (Int.tdiv (b[j]:Int) ((pw (f+1):Nat):Int))) 10))=((48+b[j]/10^f%10:Nat):Int):=by
      rw [G]
      have J:Int.tdiv (b[j]:Int) ((10^f:Nat):Int)=((b[j]/10^f:Nat):Int):=by rw [<- Int.ofNat_tdiv]
      rw [J]
      have t2:b[j]/10^f<1000000000:=Nat.lt_of_le_of_lt (Nat.div_le_self _ _) F
      clear J
      generalize b[j]/10^f=D at t2 ⊢
      rw [K5 (n:=(D:Int)) (by omega) (by omega)]
      have t3:Int.tmod (D:Int) 10=((D%10:Nat):Int):=by
       rw [Int.tmod_eq_emod_of_nonneg (by omega)];omega
      rw [t3,K5 (by omega) (by omega),Ut (by omega) (by omega)];omega
     have w:b[j]/10^f%10<10:=Nat.mod_lt _ (by decide)
     have N:SlV x A1 (b.map fun (d:Nat)=>U32 (d:Int)):=a0.mono (A0 r P5.le)
     refine ⟨fun l L=>∃ (A:Option Addr) (n c:Nat) (g:Heap),l=[.slice A n c]/\q.le g/\n=(dd (10*V+b[j]/10^f%10)).length/\Priv L g F1 1 A n c (yv (dd (10*V+b[j]/10^f%10))),?_,?_⟩
     ·obtain ⟨ad,ax,H⟩:=SlV.at N (i:=j) (by simpa using hj)
      refine ⟨ad,ax,by omega,by omega,(b[j]:Int),by rw [aE,Nat.mul_one,H];simp,?_⟩
      refine B4 (fun e0=>absurd e0 (by omega)) (fun _=>?_)
      rw [ec]
      have o:=B7j V (b[j]/10^f%10) w
      have aq:=A6t V
      refine ⟨fun l W=>l=[.bool (decide (V≠0\/b[j]/10^f%10≠0))]/\W=x,B4 (fun W=>⟨?_,rfl⟩) (fun W=>⟨?_,rfl⟩),?_⟩
      ·have:V≠0:=by omega
       simp [this]
      ·have:V=0:=by omega
       have e2:∀ D:Nat,(((48+D:Nat):Int) != 48)=decide (V≠0\/D≠0):=by
        intro D
        rw [Bool.eq_iff_iff,bne_iff_ne,decide_eq_true_iff];omega
       rw [e2]
      rintro tb W ⟨a2,rfl⟩
      obtain rfl:tb=decide (V≠0\/b[j]/10^f%10≠0):=by simpa using a2
      refine B4 (fun h8=>?_) (fun h8=>?_)
      ·rw [iP h8] at o
       have al:=ab _ R
       rw [o,aO,aP] at al
       refine Ft Ct P5 rfl rfl (by omega) (by omega) ?_
       intro A9 T h9 g9 l9 P9
       refine ⟨A9,n5+1,T,g9,rfl,A0 r l9,by rw [o,aO,u];rfl,?_⟩
       rw [o,Q8]
       have:yv [dch (b[j]/10^f%10)]=[Y ((48+b[j]/10^f%10:Nat):Int)]:=by
        simp only [yv,List.map_cons,List.map_nil,Df w]
       rw [this];exact P9
      ·rw [iN h8] at o
       exact ⟨A5,n5,c5,g5,rfl,r,by rw [o];exact u,by rw [o];exact P5⟩
     ·rintro A9 n9 T h9 ⟨A9',af,ah,g9,au,az,ao,P9⟩
      obtain ⟨rfl,rfl,rfl⟩:A9=A9'/\n9=af/\T=ah:=by simpa using au
      have ed:E9 (Int.tdiv ((pw (f+1):Nat):Int) 10)=((pw f:Nat):Int):=by
       have J:Int.tdiv ((pw (f+1):Nat):Int) 10=((pw (f+1)/10:Nat):Int):=by rw [Int.natCast_ediv,Int.tdiv_eq_ediv_of_nonneg (by omega)];rfl
       rw [J,A8w,K5 (by omega) (by have:=A8w f;rw [G] at this;omega)]
      rw [ed]
      refine ⟨⟨f,A9,n9,T,g9,rfl,by omega,az,by rw [C];exact ao,by rw [C];exact P9⟩,?_⟩
      simp only [iAt,aG,aH,aE]
      have:=A8w f
      rw [G] at this ⊢
      omega
    ·have aj:e=0:=by
      cases e with
      | zero=>rfl
      | succ f=>rw [Xo] at L;have:0<10^f:=Nat.pow_pos (by decide);omega
     subst aj
     have ac:V=pv (b.drop j):=by rw [<- hV,ai];simp;omega
     rw [ac] at P5 u
     rw [B6 (by omega) (by omega)]
     exact ⟨⟨j,A5,n5,c5,g5,rfl,by omega,r,u,P5⟩,by simp only [iAt,aG,aH];omega⟩
   ·have ag:k=0:=by omega
    subst ag
    rw [List.drop_zero,<- p] at P2 E
    refine Hj Ct.und Av Q3 P2.slV E ?_
    exact ⟨_,rfl,A0 Q (A0 P1.le (A0 lg P2.le)),hK⟩
end
def Vt(a:Array UInt8):({ data:=a }:ByteArray)=bs a.toList:=by simp [bs]
def Bh{l:List UInt8}(h:∀ c∈l,F8 c):H4 l<2^(4*l.length):=by
 have b:=Em h
 have a:10^l.length<=16^l.length:=aM (by decide) _
 have d:16^l.length=2^(4*l.length):=by rw [Nat.pow_mul]
 omega
def B5a{h:Heap}{A:Option Addr}{n m:Nat}{X:Nat}(M:Mg h A n X)(hx:X<2^m)(hm:m<=1000000000):n<=100000000:=by
 have:=A9f (j:=32) (by decide) M (m:=m) (by have:((X:Nat):Int)<((2^m:Nat):Int):=by omega
                                            simpa using this)
 omega
section
variable {h h':Heap} {K:VP} {A B:Option Addr} {n c n' c':Nat} {s s':Bool} {x y z:Int} {m:Nat} {p q:Rat} {a b w:QV} {l:List UInt8}
def Gb(hl:l.length<=200000000)(hK:∀ s A n c ok h',h.le h'->(ok=true->(∀ c∈l,F8 c)/\l≠[]/\NI h' s A n c (H4 l))->(ok=false->¬ ((∀ c∈l,F8 c)/\l≠[]))->K (.tuple #[.agg #[.bool s,.slice A n c],.bool ok]) h'):FCall prog Af #[.string (bs l)] h K:=by
 refine Un _ ?_
 unfold Ts
 simp only [G7]
 refine ⟨fun L F=>∃ (i:Nat) (A:Option Addr) (n c:Nat),L=[.slice A n c,I i,.bool false,.slice none 0 0]/\i<=l.length/\h.le F/\(∀ c∈l.take i,F8 c)/\Mg F A n (H4 (l.take i))/\n<=c,fun L _=>l.length-(iAt L 1).toNat,⟨0,none,0,0,rfl,by omega,B3 h,by simp,Mag.zero,aQ _⟩,?_⟩
 rintro A1 n1 c1 O R A2 n2 c2 F ⟨i,A1',W,S,hL,hi,r,d,M,B⟩
 obtain ⟨⟨rfl,rfl,rfl⟩,rfl,rfl,rfl,rfl,rfl⟩:(A1=A1'/\n1=W/\c1=S)/\O=(i:Int)/\R=false/\A2=none/\n2=0/\c2=0:=by simpa using hL
 refine B4 (fun h1=>?_) (fun h1=>?_)
 ·refine ⟨fun L hq=>∃ (k:Nat),L=[I ((i+k:Nat):Int),U32 (H4 ((l.drop i).take k):Nat),U32 ((10^k:Nat):Int),.bool false,.slice none 0 0]/\0<k/\k<=9/\i+k<=l.length/\hq=F/\(∀ c∈(l.drop i).take k,F8 c),?_,?_⟩
  ·refine ⟨fun L hq=>∃ (k:Nat),L=[I ((i+k:Nat):Int),U32 (H4 ((l.drop i).take k):Nat),U32 ((10^k:Nat):Int),I k,.bool false,.slice none 0 0]/\k<=9/\i+k<=l.length/\hq=F/\(∀ c∈(l.drop i).take k,F8 c),fun L _=>9-(iAt L 3).toNat,⟨0,by simp [H4],by omega,by omega,rfl,by simp⟩,?_⟩
   rintro i2 v f k2 D A3 n3 T ae ⟨k,u,x,o,rfl,a⟩
   obtain ⟨rfl,rfl,rfl,rfl,rfl,rfl,rfl,rfl⟩:i2=((i+k:Nat):Int)/\v=((H4 ((l.drop i).take k):Nat):Int)/\f=((10^k:Nat):Int)/\k2=(k:Int)/\D=false/\A3=none/\n3=0/\T=0:=by simpa using u
   refine B4 (fun h2=>B4 (fun h3=>?_) (fun h3=>?_)) (fun h2=>?_)
   ·have C:i+k<l.length:=by omega
    have j:(bs l)[((i+k:Nat):Int).toNat]? = some l[i+k]:=by rw [aE,Ij,aK C]
    have q:¬ F8 l[i+k]->∀ s A n c,K (.tuple #[.agg #[.bool s,.slice A n c],.bool false]) ae:=by
     intro hb s A n c
     exact hK _ _ _ _ _ _ r (fun e=>by cases e) (fun _ ⟨E,_⟩=>hb (E _ (List.getElem_mem C)))
    refine ⟨l[i+k],⟨by omega,j⟩,B4 (fun J=>?_) (fun J=>?_)⟩
    ·exact q (fun Z=>by unfold F8 at Z;omega) _ _ _ _
    ·refine ⟨l[i+k],⟨by omega,j⟩,B4 (fun E=>?_) (fun E=>?_)⟩
     ·exact q (fun Z=>by unfold F8 at Z;omega) _ _ _ _
     ·have ag:F8 l[i+k]:=by unfold F8;omega
      refine ⟨l[i+k],⟨by omega,j⟩,?_⟩
      have g:(l.drop i).take (k+1)=(l.drop i).take k++[l[i+k]]:=by
       rw [aT (by rw [aD];omega)];simp
      have ad:H4 ((l.drop i).take k)<10^k:=by
       have:=Em a
       rwa [aF,aD,Nat.min_eq_left (by omega)] at this
      have aa:10^k<=100000000:=by
       have:10^k<=10^8:=aC (by decide) (by omega)
       simpa using this
      have y:B5 (((i+k:Nat):Int)+1)=((i+(k+1):Nat):Int):=by rw [B6 (by omega) (by omega)];omega
      have e2:B5 ((k:Int)+1)=((k+1:Nat):Int):=by rw [B6 (by omega) (by omega)];omega
      have e3:E9 (((10^k:Nat):Int)*10)=((10^(k+1):Nat):Int):=by rw [aS,K5 (by omega) (by omega)];omega
      have N:E9 (E9 (((H4 ((l.drop i).take k):Nat):Int)*10)+E9 (wu8 ((l[i+k].toNat:Int)-48)))=((H4 ((l.drop i).take (k+1)):Nat):Int):=by
       rw [g,Gq,Ut (by omega) (by omega),K5 (n:=(l[i+k].toNat:Int)-48) (by omega) (by omega),K5 (n:=((H4 ((l.drop i).take k):Nat):Int)*10) (by omega) (by omega),K5 (by omega) (by omega)];omega
      rw [y,e2,e3,N]
      refine ⟨⟨k+1,rfl,by omega,by omega,rfl,?_⟩,by simp only [iAt,aG,aH];omega⟩
      rw [g]
      intro c B
      rcases List.mem_append.1 B with p|p
      ·exact a c p
      ·rw [List.mem_singleton.1 p];exact ag
   ·exact ⟨k,rfl,by omega,x,o,rfl,a⟩
   ·exact ⟨k,rfl,by omega,x,o,rfl,a⟩
  ·rintro i2 v f z A3 n3 T w ⟨k,u,ah,x,o,rfl,a⟩
   obtain ⟨rfl,rfl,rfl,rfl,rfl,rfl,rfl⟩:i2=((i+k:Nat):Int)/\v=((H4 ((l.drop i).take k):Nat):Int)/\f=((10^k:Nat):Int)/\z=false/\A3=none/\n3=0/\T=0:=by simpa using u
   have ad:H4 ((l.drop i).take k)<10^k:=by
    have:=Em a
    rwa [aF,aD,Nat.min_eq_left (by omega)] at this
   have aa:0<10^k/\10^k<=1000000000:=by
    have:10^k<=10^9:=aC (by decide) (by omega)
    exact ⟨Nat.pow_pos (by decide),by simpa using this⟩
   have ab:((l.drop i).take k).length=k:=by rw [aF,aD];omega
   have g:l.take (i+k)=l.take i++(l.drop i).take k:=List.take_add
   have G:∀ c∈l.take (i+k),F8 c:=by
    rw [g];intro c B
    rcases List.mem_append.1 B with p|p
    ·exact d c p
    ·exact a c p
   have X:H4 (l.take (i+k))=H4 (l.take i)*10^k+H4 ((l.drop i).take k):=by rw [g,En,ab]
   have Q:H4 (l.take i)<2^(4*l.length):=aN (Bh d) (aC (by decide) (by rw [aF];omega))
   have ai:H4 (l.take (i+k))<2^(4*l.length):=aN (Bh G) (aC (by decide) (by rw [aF];omega))
   have af:=B5a M Q (by omega)
   refine Y4 Mm rfl ?_
   intro H V
   refine ⟨_,_,_,rfl,?_⟩
   have lf:=Heap.le_put (h:=w) (b:=H) (.cells #[U32 ((10^k:Nat):Int)] C1) V
   have Mf:Mg (w.put H (.cells #[U32 ((10^k:Nat):Int)] C1)) (some ⟨H,0,none⟩) 1 ((10^k:Nat):Int):=
    ⟨[((10^k:Nat):Int)],rfl,SlI.new w H [((10^k:Nat):Int)] C1 _,Dig.one ⟨by omega,by show _<(4294967296:Int);omega⟩,by simp only [Norm,List.getLast?_singleton,ne_eq,Option.some.injEq];omega,S9 _ _⟩
   refine Rd (M.mono lf) Mf af (by omega) ?_
   intro A4 m4 c4 J l4 k4 M4
   refine ⟨_,_,_,rfl,?_⟩
   refine Y4 Mm rfl ?_
   intro bv ac
   refine ⟨_,_,_,rfl,?_⟩
   have lv:=Heap.le_put (h:=J) (b:=bv) (.cells #[U32 ((H4 ((l.drop i).take k):Nat):Int)] C1) ac
   refine U8 (xs:=[((H4 ((l.drop i).take k):Nat):Int)]) (SlI.new J bv _ C1 _) (Dig.one ⟨by omega,by show _<(4294967296:Int);omega⟩) (aQ _) (by simp) ?_
   intro m5 k5 M5
   refine ⟨_,_,_,rfl,?_⟩
   rw [S9] at M5
   have N:((H4 (l.take i):Nat):Int)*((10^k:Nat):Int)=((H4 (l.take i)*10^k:Nat):Int):=by rw [Int.natCast_mul]
   rw [N] at M4
   refine Tc (M4.mono lv) M5 (B5a M4 (m:=4*l.length) (by omega) (by omega)) (by simp at k5;omega) ?_
   intro A6 m6 c6 p l6 k6 M6
   have e6:((H4 (l.take i)*10^k:Nat):Int)+((H4 ((l.drop i).take k):Nat):Int)=((H4 (l.take (i+k)):Nat):Int):=by rw [X];omega
   rw [e6] at M6
   exact ⟨_,_,_,rfl,⟨i+k,A6,m6,c6,rfl,o,A0 r (A0 lf (A0 l4 (A0 lv l6))),G,M6,k6⟩,by simp only [iAt,aG,aH];omega⟩
 ·have:i=l.length:=by omega
  subst this
  rw [List.take_length] at d M
  refine J9 M B ?_
  intro s1 O
  refine ⟨_,_,_,_,rfl,?_⟩
  have e:(!((bs l).toList==({ data:=#[] }:ByteArray).toList))=decide (l≠[]):=by
   rw [Vt,Ew];simp
  rw [e]
  refine hK _ _ _ _ _ _ r (fun y=>⟨d,by simpa using y,O⟩) (fun y=>?_)
  have:l=[]:=by simpa using y
  rintro ⟨_,E⟩;exact E this
def Bi{n m:Nat}(h:n<2^m):(J3 n).length<=m+1:=by
 rw [Lg (by omega)]
 have:2^m<=10^(m+1):=Nat.le_trans (aM (by decide) m) (aC (by decide) (by omega))
 omega
def Qq(i:NQ h w q)(hq:Sz m q)(hm:m<=1000000000)(hK:K (.string (bs (E4 q))) h):FCall prog Jh #[w.v] h K:=by
 have g:=i.num.sg
 have c:=i.den_zero
 refine B4j _ _ _ _ _ _ _ _ ?_
 unfold C0a
 have p:=Bi hq.num
 have s:=Bi (n:=q.den) (m:=m) (by have:=hq.den;unfold ZB at this;simpa using this)
 refine So i.num hq.num hm ⟨_,rfl,?_⟩
 refine ⟨fun l o=>l=[.string (bs (Dp q.num))]/\o=h,Br.of (fun e=>?_) (fun e=>?_),?_⟩
 ·have a:q.num<0:=by rw [g] at e;simpa using e
  refine ⟨?_,?_,rfl⟩
  ·rw [Vt,G7,G7];simp;omega
  ·rw [Vt,Lj];unfold Dp;rw [iP a];rfl
 ·have a:¬ q.num<0:=by rw [g] at e;simpa using e
  exact ⟨by unfold Dp;rw [iN a],rfl⟩
 rintro t u ⟨k,rfl⟩
 obtain rfl:t=bs (Dp q.num):=by simpa using k
 have r:(Dp q.num).length<=m+2:=by
  unfold Dp;split
  ·rw [List.length_cons];omega
  ·omega
 refine B4 (fun e=>?_) (fun e=>?_)
 ·have d:¬ q.den=1:=fun j=>by have:=c.2 j;omega
  have b:=i.den
  rw [iN d] at b
  refine So b hq.den hm ⟨_,rfl,?_,?_,?_⟩
  ·rw [Vt,G7,G7,aJ];simp;omega
  ·rw [Vt,Lj,G7,G7,aJ];simp;omega
  ·rw [Vt,Lj,Lj,aJ]
   unfold E4 at hK
   rw [iN d] at hK
   exact hK
 ·have d:q.den=1:=c.1 (by omega)
  unfold E4 at hK
  rw [iP d,List.append_nil] at hK
  exact hK
def B6t{t a r a' r':List UInt8}(h1:t=a++r)(h2:∀ c∈a,c≠47)(h3:r=[]\/r.head? = some 47)(g1:t=a'++r')(g2:∀ c∈a',c≠47)(g3:r'=[]\/r'.head? = some 47):a=a'/\r=r':=by
 induction a generalizing t a' with
 | nil=>
  cases a' with
  | nil=>simp at h1 g1;exact ⟨rfl,h1.symm.trans g1⟩
  | cons c a'=>
   exfalso
   subst h1
   rcases h3 with h3|h3
   ·subst h3;simp at g1
   ·rw [g1] at h3
    simp at h3
    exact g2 c (by simp) h3
 | cons c a ih=>
  cases a' with
  | nil=>
   exfalso
   subst g1
   rcases g3 with g3|g3
   ·subst g3;simp at h1
   ·rw [h1] at g3
    simp at g3
    exact h2 c (by simp) g3
  | cons c' a'=>
   subst h1
   simp at g1
   obtain ⟨rfl,g1⟩:=g1
   obtain ⟨e,d⟩:=ih rfl (fun x b=>h2 x (by simp [b])) g1 (fun x b=>g2 x (by simp [b]))
   exact ⟨by rw [e],d⟩
def A8c(q:Rat):E4 q=(if q.num<0 then [45] else [])++(J3 q.num.natAbs++(if q.den=1 then [] else 47::J3 q.den)):=by
 unfold E4 Dp;split<;>simp
def B04(n:Nat):∀ c∈J3 n,c≠47:=fun c a=>(A57 (Li n c a)).2
def Sf{neg:Bool}{q:Rat}(h:neg=decide (q.num<0)):Rat.divInt (if neg=true then -((q.num.natAbs:Nat):Int) else ((q.num.natAbs:Nat):Int)) q.den=q:=by
 have:(if neg=true then -((q.num.natAbs:Nat):Int) else ((q.num.natAbs:Nat):Int))=q.num:=by
  rw [h]
  by_cases a:q.num<0
  ·rw [iP (by simpa using a)];omega
  ·rw [iN (by simpa using a)];omega
 rw [this,Rat.num_divInt_den]
def Cu(hl:l.length<=100000000)(hK1:∀ q,l=E4 q->∀ w h',h.le h'->NQ h' w q->K (.tuple #[w.v,.bool true]) h')(hK0:¬ IsNum l->∀ (w:QV) h',h.le h'->K (.tuple #[w.v,.bool false]) h'):FCall prog Nk #[.string (bs l)] h K:=by
 refine B4l _ ?_
 unfold C0c
 simp only [G7]
 refine ⟨fun L h'=>L=[.bool (l.head? == some 45)]/\h'=h,B4 (fun C=>?_) (fun C=>?_),?_⟩
 ·cases l with
  | nil=>simp at C
  | cons c r=>
   refine ⟨c,⟨by omega,by rw [Ij];rfl⟩,?_,rfl⟩
   have:((c.toNat:Int)==45)=((c::r).head? == some 45):=by
    rw [Bool.eq_iff_iff,beq_iff_eq,beq_iff_eq,List.head?_cons,Option.some.injEq]
    constructor
    ·intro e;apply UInt8.toNat_inj.1;show c.toNat=45;omega
    ·rintro rfl;rfl
   rw [this]
 ·have:l=[]:=aL (by omega)
  subst this;exact ⟨rfl,rfl⟩
 rintro neg hp ⟨hL,rfl⟩
 obtain rfl:neg=(l.head? == some 45):=by simpa using hL
 refine ⟨fun L h'=>L=[.string (bs (if (l.head? == some 45) then l.drop 1 else l))]/\h'=hp,Br.of (fun e=>?_) (fun e=>?_),?_⟩
 ·have ag:1<=l.length:=by
   cases l with
   | nil=>simp at e
   | cons _ _=>simp
  refine ⟨⟨by omega,by omega⟩,?_,rfl⟩
  rw [iP e,K3,aV (by rw [aD];show _<=l.length-1;exact aQ _)];rfl
 ·rw [iN (by rw [e];simp)];exact ⟨rfl,rfl⟩
 rintro t0 G ⟨T,rfl⟩
 generalize ht:(if (l.head? == some 45) then l.drop 1 else l)=t at *
 obtain rfl:t0=bs t:=by simpa using T
 have an:t.length<=l.length:=by rw [<- ht];split<;>simp
 have ab:l=(if (l.head? == some 45) then [45] else [])++t:=by
  rw [<- ht]
  cases l with
  | nil=>simp
  | cons c r=>
   by_cases s:c=45
   ·subst s;simp
   ·simp [s]
 have j:∀ q,l=E4 q->(l.head? == some 45)=decide (q.num<0)/\t=J3 q.num.natAbs++(if q.den=1 then [] else 47::J3 q.den):=by
  intro q e
  have f:=Cs q
  rw [<- e] at f
  have hh:=f.head
  refine ⟨hh.symm,?_⟩
  have o:=ab
  rw [<- hh,e,A8c q] at o
  by_cases y:q.num<0
  ·simp [y] at o;exact o.symm
  ·simp [y] at o;exact o.symm
 refine ⟨fun L h'=>∃ a:Nat,L=[I a]/\h'=G/\a<=t.length/\(∀ c∈t.take a,c≠47)/\(t.drop a=[]\/(t.drop a).head? = some 47),?_,?_⟩
 ·simp only [G7]
  refine ⟨fun L h'=>∃ i:Nat,L=[I t.length,I i]/\h'=G/\i<=t.length/\(∀ c∈t.take i,c≠47),fun L _=>t.length-(iAt L 1).toNat,⟨0,rfl,rfl,by omega,by simp⟩,?_⟩
  rintro Z i1 aj ⟨i,ad,rfl,hi,k⟩
  obtain ⟨rfl,rfl⟩:Z=(t.length:Int)/\i1=(i:Int):=by simpa using ad
  refine B4 (fun C=>?_) (fun C=>?_)
  ·have B:i<t.length:=by omega
   refine ⟨t[i],⟨by omega,by rw [aE,Ij,aK B]⟩,D9 (fun X=>?_) (fun X=>?_)⟩
   ·refine ⟨i,rfl,rfl,hi,k,.inr ?_⟩
    rw [List.head?_drop,aK B]
    congr 1
    apply UInt8.toNat_inj.1
    show t[i].toNat=47
    omega
   ·rw [B6 (by omega) (by omega)]
    refine ⟨⟨i+1,rfl,rfl,by omega,?_⟩,by simp only [iAt,aG,aH];omega⟩
    rw [aT B]
    intro c s
    rcases List.mem_append.1 s with R|R
    ·exact k c R
    ·rw [List.mem_singleton.1 R]
     intro e;rw [e] at X;exact X rfl
  ·have:i=t.length:=by omega
   subst this
   exact ⟨t.length,rfl,rfl,aQ _,k,.inl (by simp)⟩
 rintro ak ac ⟨a,W,rfl,ao,k,n⟩
 obtain rfl:=sI1 W
 simp only [G7,K3,aE,List.drop_zero,Nat.sub_zero]
 refine ⟨⟨by omega,by omega⟩,?_⟩
 have m:t=t.take a++t.drop a:=(List.take_append_drop a t).symm
 have b:∀ q,l=E4 q->t.take a=J3 q.num.natAbs/\t.drop a=(if q.den=1 then [] else 47::J3 q.den):=by
  intro q e
  refine B6t m k n (j q e).2 (B04 _) ?_
  split
  ·left;rfl
  ·right;rfl
 refine Gb (by rw [aF];omega) ?_
 intro s1 A1 n1 c1 am C J k1 k0
 refine ⟨_,_,_,_,_,rfl,S7 (Br.of (fun e=>?_) (fun e=>?_))⟩
 ·obtain ⟨dg,ai,iN⟩:=k1 e
  have M:ZB (4*l.length) (H4 (t.take a):Int):=by
   unfold ZB
   rw [aJ]
   exact aN (Bh dg) (aC (by decide) (by rw [aF];omega))
  have im:=iN.mag
  rw [aJ] at im
  refine J9 im iN.cap ?_
  intro s2 i2
  refine ⟨_,_,_,_,rfl,?_⟩
  have g:ZB (4*l.length) (if (l.head? == some 45)=true then -((H4 (t.take a):Nat):Int) else ((H4 (t.take a):Nat):Int)):=by
   split
   ·exact M.neg
   ·exact M
  have F:∀ (D:Rat) (w:QV) (p:Heap),ac.le p->NQ p w D->Sz (4*l.length+1) D->(∀ q,l=E4 q->q=D)->
   FCall prog Jh #[w.v] p (fun r5 E=>∃ (t79:ByteArray),r5= .string t79/\Heap.le p E/\K (.tuple #[w.v,.bool (ByteArray.toList t79==ByteArray.toList (bs l))]) E):=by
   intro D w p Q N ae aa
   refine Qq N ae (by omega) ⟨_,rfl,B3 _,?_⟩
   rw [Ew]
   by_cases s:E4 D=l
   ·rw [decide_eq_true s]
    exact hK1 D s.symm w p Q N
   ·rw [decide_eq_false s]
    refine hK0 ?_ w p Q
    rintro ⟨q,e⟩
    exact s (by rw [<- aa q e];exact e.symm)
  refine B4 (fun o=>?_) (fun o=>?_)
  ·have e3:B5 ((a:Int)+1)=((a+1:Nat):Int):=by rw [B6 (by omega) (by omega)];omega
   rw [e3]
   refine ⟨⟨by omega,by omega⟩,?_⟩
   rw [aE,aV (show (t.drop (a+1)).length<=t.length-(a+1) by rw [aD];omega)]
   have hb:t.drop a=47::t.drop (a+1):=by
    rcases n with y|y
    ·have:=congrArg List.length y;rw [aD] at this;simp at this;omega
    ·rw [List.head?_drop] at y
     have z:a<t.length:=by omega
     rw [aK z] at y
     rw [aU z]
     congr 1
     simpa using y
   refine Gb (by rw [aD];omega) ?_
   intro s3 A3 n3 c3 al R S j1 j0
   have d:∀ q,l=E4 q->q.den≠1/\t.drop (a+1)=J3 q.den:=by
    intro q e
    have:=(b q e).2
    rw [hb] at this
    by_cases x:q.den=1
    ·simp [x] at this
    ·simp [x] at this;exact ⟨x,this⟩
   refine ⟨_,_,_,_,_,rfl,S7 (Br.of (fun V=>?_) (fun V=>?_))⟩
   ·obtain ⟨af,ah,iD⟩:=j1 V
    refine A0l iD ⟨_,rfl,D9 (fun e5=>?_) (fun e5=>?_)⟩
    ·refine hK0 ?_ ⟨false,none,0,0,false,none,0,0⟩ _ (A0 J S)
     rintro ⟨q,e⟩
     have O:=(d q e).2
     have h7:((H4 (t.drop (a+1)):Nat):Int)=0:=Int.sign_eq_zero_iff_zero.1 e5
     rw [O,X7] at h7
     exact q.den_nz (by omega)
    ·have A:((H4 (t.drop (a+1)):Nat):Int)≠0:=fun e6=>e5 (by rw [e6];rfl)
     have u:ZB (4*l.length) (H4 (t.drop (a+1)):Int):=by
      unfold ZB
      rw [aJ]
      exact aN (Bh af) (aC (by decide) (by rw [aD];omega))
     refine Rm (i2.mono S) iD A g u (by omega) ?_
     intro w p Q N
     refine ⟨_,_,_,_,_,_,_,_,rfl,?_⟩
     refine F _ w p (A0 J (A0 S Q)) N ((Tq A g u).mono (by omega)) ?_
     intro q e
     rw [(b q e).1,(d q e).2,X7,X7]
     exact (Sf (j q e).1).symm
   ·refine hK0 ?_ ⟨false,none,0,0,false,none,0,0⟩ _ (A0 J S)
    rintro ⟨q,e⟩
    exact j0 V (by rw [(d q e).2];exact ⟨Li _,Sn _⟩)
  ·have H:a=t.length:=by omega
   refine F _ ⟨s2,A1,n1,c1,false,none,0,0⟩ C J (NQ.whole i2) (Sz.int (g.mono (by omega)) (by omega)) ?_
   intro q e
   have O:=(b q e).2
   rw [H,List.drop_length] at O
   have x:q.den=1:=by
    by_cases x:q.den=1
    ·exact x
    ·simp [x] at O
   rw [(b q e).1,X7]
   have:=Sf (j q e).1
   rw [x] at this
   rw [<- Np]
   exact this.symm
 ·refine hK0 ?_ ⟨false,none,0,0,false,none,0,0⟩ _ J
  rintro ⟨q,o⟩
  exact k0 e (by rw [(b q o).1];exact ⟨Li _,Sn _⟩)
end
def mn(p q:Rat):Rat:=if q<p then q else p
def mx(p q:Rat):Rat:=if q>p then q else p
def mnL(p:Rat)(l:List Rat):Rat:=l.foldl mn p
def mxL(p:Rat)(l:List Rat):Rat:=l.foldl mx p
def Qa(p q:Rat)(l:List Rat):mnL p (q::l)=mnL (mn p q) l:=rfl
def Pz(p q:Rat)(l:List Rat):mxL p (q::l)=mxL (mx p q) l:=rfl
def A9c(p:Rat):mnL p []=p:=rfl
def A99(p:Rat):mxL p []=p:=rfl
def A54(p q:Rat)(l:List Rat):mnL p (l++[q])=mn (mnL p l) q:=by simp [mnL]
def A52(p q:Rat)(l:List Rat):mxL p (l++[q])=mx (mxL p l) q:=by simp [mxL]
def C1u(p q:Rat):mn p q<=p/\mn p q<=q:=by unfold mn;split<;>grind
def C1w(p q:Rat):p<=mx p q/\q<=mx p q:=by unfold mx;split<;>grind
def B9d(p q:Rat):mn p q=p\/mn p q=q:=by unfold mn;split<;>simp
def B99(p q:Rat):mx p q=p\/mx p q=q:=by unfold mx;split<;>simp
def Iu{x:Rat}(h:0<=x):∀ k:Nat,0<=x^k
 | 0=>by rw [Rat.pow_zero];decide
 | k+1=>by rw [aI];exact Rat.mul_nonneg (Iu h k) h
def A51(x:Rat):∀ k:Nat,(-x)^(2*k)=x^(2*k)/\(-x)^(2*k+1)= -(x^(2*k+1))
 | 0=>by simp [Rat.pow_zero,aI]
 | k+1=>by
  obtain ⟨h1,h2⟩:=A51 x k
  have a:(-x)^(2*(k+1))=x^(2*(k+1)):=by
   rw [show 2*(k+1)=(2*k+1)+1 by omega,aI,aI,h1,aI,aI];grind
  refine ⟨a,?_⟩
  rw [aI,aI,a];grind
def B3a{x:Rat}{k:Nat}(h:k%2=0):(-x)^k=x^k:=by
 obtain ⟨j,rfl⟩:∃ j,k=2*j:=⟨k/2,by omega⟩
 exact (A51 x j).1
def Fv(x:Rat){k:Nat}(h:k%2=0):0<=x^k:=by
 by_cases a:0<=x
 ·exact Iu a k
 ·rw [<- B3a h];exact Iu (by grind) k
def Aa(a b:Rat)(k:Nat):Rat:=if 0<k/\k%2=0/\a<0/\0<b then mnL 0 [a^k,b^k] else mn (a^k) (b^k)
def Ab(a b:Rat)(k:Nat):Rat:=if 0<k/\k%2=0/\a<0/\0<b then mxL 0 [a^k,b^k] else mx (a^k) (b^k)
def Zz{k:Nat}(h:0<k):(0:Rat)^k=0:=by
 obtain ⟨j,rfl⟩:∃ j,k=j+1:=⟨k-1,by omega⟩
 rw [aI,Rat.mul_zero]
def B70{a b:Rat}{k:Nat}(hk:0<k)(he:k%2=0)(ha:a<=0)(hb:0<=b):mnL 0 [a^k,b^k]=Aa a b k/\mxL 0 [a^k,b^k]=Ab a b k:=by
 unfold Aa Ab
 by_cases c:a<0/\0<b
 ·rw [iP ⟨hk,he,c⟩,iP ⟨hk,he,c⟩];exact ⟨rfl,rfl⟩
 ·rw [iN (fun h=>c h.2.2),iN (fun h=>c h.2.2)]
  have i:=Fv a he
  have e:=Fv b he
  have g:a^k=0\/b^k=0:=by
   by_cases d:a<0
   ·right
    have:b=0:=by grind
    rw [this];exact Zz hk
   ·left
    have:a=0:=by grind
    rw [this];exact Zz hk
  simp only [Qa,Pz,A9c,A99]
  unfold mn mx
  grind
def B39{a b:Rat}{k:Nat}(h:¬ (0<k/\k%2=0/\a<=0/\0<=b)):mn (a^k) (b^k)=Aa a b k/\mx (a^k) (b^k)=Ab a b k:=by
 unfold Aa Ab
 rw [iN (by grind),iN (by grind)];exact ⟨rfl,rfl⟩
def B9e(l:List Rat):∀ p:Rat,mnL p l<=p/\∀ q∈l,mnL p l<=q:=by
 induction l with
 | nil=>intro p;exact ⟨Rat.le_refl,by simp⟩
 | cons q l ih=>
  intro p
  rw [Qa]
  obtain ⟨b,c⟩:=ih (mn p q)
  obtain ⟨e,d⟩:=C1u p q
  refine ⟨aR b e,fun r a=>?_⟩
  rcases List.mem_cons.1 a with rfl|a
  ·exact aR b d
  ·exact c r a
def B9f(l:List Rat):∀ p:Rat,p<=mxL p l/\∀ q∈l,q<=mxL p l:=by
 induction l with
 | nil=>intro p;exact ⟨Rat.le_refl,by simp⟩
 | cons q l ih=>
  intro p
  rw [Pz]
  obtain ⟨b,c⟩:=ih (mx p q)
  obtain ⟨e,d⟩:=C1w p q
  refine ⟨aR e b,fun r a=>?_⟩
  rcases List.mem_cons.1 a with rfl|a
  ·exact aR d b
  ·exact c r a
def Nb(a b c d:Rat):Rat:=mnL (a*c) [a*d,b*c,b*d]
def Nc(a b c d:Rat):Rat:=mxL (a*c) [a*d,b*c,b*d]
