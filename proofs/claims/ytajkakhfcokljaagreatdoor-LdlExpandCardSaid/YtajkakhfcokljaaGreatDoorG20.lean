/-
  Texts of this proof, merged by a program of ours.
-/
import Derived.Test.YtajkakhfcokljaaGreatDoorG18
import Derived.Test.YtajkakhfcokljaaGreatDoorG19
import Derived.Test.YtajkakhfcokljaaGreatDoorG07
import Derived.Test.YtajkakhfcokljaaGreatDoorG16
open Go.Proofs.Tryz
set_option linter.all false
open _root_.Go.Extern.MathBitsCarry renaming m64->C3d,pair->C59
open _root_.Go.Instr renaming storeAt->C4k
open Int renaming toNat_natCast->C34,mul_le_mul_of_nonneg_right->C35,mul_le_mul_of_nonneg_left->C3e,le_of_lt->C3f,mul_nonneg->C3j,mul_comm->C3l,mul_ediv_add_emod->C3m,tdiv_eq_ediv_of_nonneg->C3n,emod_nonneg->C3q,pow_succ->C3s,ediv_eq_zero_of_lt->C3t,emod_lt_of_pos->C3u,pow_pos->C3v,pow_add->C3w,ediv_nonneg->C3x,natAbs_natCast->C41,ediv_lt_of_lt_mul->C43,tmod_eq_emod_of_nonneg->C44,mul_lt_mul_of_pos_right->C4e,mul_lt_mul_of_pos_left->C4f,zero_add->C4h,mul_le_mul->C4j,add_mul_ediv_right->C4l,add_comm->C4p,tdiv->C4q,lt_of_le_of_lt->C4r,emod_eq_of_lt->C4t,mul_zero->C4w,add_zero->C4x,ediv_le_self->C4z,mul_add->C55,add_mul_emod_self_right->C56,fdiv_eq_ediv_of_nonneg->C58
open List renaming length_take->C36,getElem?_cons_zero->C37,length_drop->C39,length_append->C3a,getElem?_cons_succ->C3b,replicate->C3c,take_of_length_le->C3g,take_length->C3h,eq_nil_of_length_eq_zero->C3k,length_set->C3o,drop_replicate->C3p,append_assoc->C3z,drop_of_length_le->C40,length_singleton->C42,drop_eq_getElem_cons->C45,drop_drop->C46,getElem?_eq_getElem->C48,take_append_drop->C4a,take_replicate->C4c,getD->C4d,drop_zero->C4i,nil_append->C4m,getElem?_eq_none->C4n,append_nil->C4o,take_succ_eq_append_getElem->C4s,drop_length->C4y,take_left'->C52,map_append->C53,drop_left'->C54,getElem?_append_right->C57
open Nat renaming min_eq_left->C38,le_refl->C3i,pow_le_pow_right->C3r,sub_zero->C47,add_sub_cancel_left->C49,pow_le_pow_left->C4b,lt_of_lt_of_le->C4g,pow_succ->C4u,add_zero->C4v,pow_pos->C50,mul_one->C51
open _root_.Go.Value renaming int->C3y
namespace Go.Proofs.YtajkakhfcokljaaGreatDoor
set_option maxRecDepth 20000
open Go
theorem Cl:prog.underlying F5=some (.int .u8):=by kernel_rfl
theorem T4:prog.underlying A7c=some .string:=by kernel_rfl
def pv:List Nat->Nat
 | []=>0
 | d::r=>d+1000000000*pv r
theorem B6b(ps:List Nat)(d:Nat):pv (ps++[d])=pv ps+10^(9*ps.length)*d:=by
 induction ps with
 | nil=>simp [pv]
 | cons p ps ih=>
  simp only [List.cons_append,pv,ih,List.length_cons]
  rw [show 9*(ps.length+1)=9*ps.length+9 by omega,Nat.pow_add,show 10^9=1000000000 by decide]
  grind
theorem A5p(ps:List Nat)(k:Nat):pv (ps.drop k)<=pv ps:=by
 induction ps generalizing k with
 | nil=>simp
 | cons p ps ih=>
  cases k with
  | zero=>simp
  | succ k=>have:=ih k;simp only [List.drop_succ_cons,pv];omega
theorem B6c{ps:List Nat}{k:Nat}(h:k<ps.length):pv (ps.drop k)=ps[k]+1000000000*pv (ps.drop (k+1)):=by
 rw [C45 h];rfl
def pw(e:Nat):Nat:=if e=0 then 0 else 10^(e-1)
theorem Wu(e:Nat):pw (e+1)=10^e:=by simp [pw]
theorem A81(e:Nat):pw (e+1)/10=pw e:=by
 rw [Wu]
 cases e with
 | zero=>simp [pw]
 | succ e=>rw [Wu,C4u,Nat.mul_div_cancel _ (by decide)]
theorem B71(V d:Nat)(hd:d<10):dd (10*V+d)=if V≠0\/d≠0 then dd V++[dch d] else dd V:=by
 by_cases h:10*V+d=0
 ·have h1:V=0:=by omega
  have h2:d=0:=by omega
  subst h1 h2
  simp
 ·rw [if_pos (by omega),Ae h,show (10*V+d)/10=V by omega,show (10*V+d)%10=d by omega]
theorem A65(n:Nat):(dd n).length=0↔n=0:=by
 constructor
 ·intro h
  by_cases h0:n=0
  ·exact h0
  ·exact absurd (C3k h) (B30 h0)
 ·rintro rfl;rw [J2];rfl
section
variable {h h':Heap} {K:VP} {A B:Option Addr} {n c n' c':Nat} {s s':Bool} {x y z:Int} {m:Nat} {p q:Rat} {a b w:QV}
theorem Sf(i:NI h s A n c z)(hz:ZB m z)(hm:m<=1000000000)(hK:K (.string (bs (L9 z.natAbs))) h):FCall prog Ky #[.agg #[.bool s,.slice A n c]] h K:=by
 have h0:=i.zero_iff
 have hln:=i.len hz hm
 refine FCall.pure (A6s _ _ _ _ ?_)
 unfold B0z
 refine D9 (fun e=>?_) (fun e=>?_)
 ·have:z=0:=h0.1 (by omega)
  subst this
  exact ⟨B4 h,hK⟩
 ·have hz0:z≠0:=fun e1=>e (by have:=h0.2 e1;omega)
  generalize hZ:z.natAbs=Z at *
  have hZm:Z<2^m:=by rw [<- hZ];exact hz
  rw [W6 (show Z≠0 by omega)] at hK
  have hmag:=i.mag
  rw [hZ] at hmag
  refine ⟨fun l hp=>∃ (ps:List Nat) (X:Nat) (A B:Option Addr) (c mn mc:Nat) (g:Heap),l=[.slice A ps.length c,.slice B mn mc]/\h.le g/\Priv hp g C4 1 A ps.length c (ps.map fun (d:Nat)=>U32 (d:Int))/\Mg g B mn X/\mn<=100000000/\(∀ d∈ps,d<1000000000)/\Z=pv ps+10^(9*ps.length)*X/\29*ps.length<=m+29,fun l hp=>match l with|[_,.slice B n _]=>A8g b32 hp B n|_=>0,⟨[],Z,none,A,0,n,c,h,rfl,B4 h,Priv.nil _ _ _ _,hmag,hln,by simp,by simp [pv],by simp⟩,?_⟩
  rintro A1 n1 c1 B1 mn mc hp ⟨ps,X,A1',B1',c1',mn',mc',g,hl,hle,P1,M1,q1,hps,hZp,hlen⟩
  obtain ⟨⟨rfl,rfl,rfl⟩,rfl,rfl,rfl⟩:(A1=A1'/\n1=ps.length/\c1=c1')/\B1=B1'/\mn=mn'/\mc=mc':=by simpa using hl
  have hX0:=M1.len_zero (by decide)
  refine B6 (fun h1=>?_) (fun h1=>?_)
  ·have hX:X≠0:=by omega
   have hl29:29*ps.length<m:=by
    have h2:2^(29*ps.length)<=10^(9*ps.length):=by
     rw [Nat.pow_mul,Nat.pow_mul]
     exact C4b (by decide) _
    have h3:10^(9*ps.length)*1<=10^(9*ps.length)*X:=Nat.mul_le_mul_left _ (by omega)
    exact (Nat.pow_lt_pow_iff_right (a:=2) (by decide)).1 (by omega)
   refine P1.call ?_
   refine Jy M1 (by decide) q1 ?_
   intro A2 m2 c2 h2 l2 k2 k3 M2 h3 P3
   refine ⟨_,_,_,_,rfl,?_⟩
   have hmod:((X:Int)%1000000000)=((X%1000000000:Nat):Int):=by omega
   have hdiv:((X:Int)/1000000000)=((X/1000000000:Nat):Int):=by omega
   rw [hdiv] at M2
   rw [hmod]
   refine Cb Mo P3 rfl rfl (by omega) (by omega) ?_
   intro A4 c4 h4 g4 l4 P4
   have M4:Mg g4 A2 m2 ((X/1000000000:Nat):Int):=M2.mono l4
   refine ⟨⟨ps++[X%1000000000],X/1000000000,A4,A2,c4,m2,c2,g4,by simp,B0 hle (B0 l2 l4),by simpa using P4,M4,by omega,?_,?_,?_⟩,?_⟩
   ·intro d hd
    rcases List.mem_append.1 hd with h5|h5
    ·exact hps d h5
    ·rw [List.mem_singleton.1 h5];exact Nat.mod_lt _ (by decide)
   ·rw [B6b,C3a,C42,Nat.mul_add,Nat.pow_add,hZp,Nat.add_assoc,Nat.mul_assoc,<- Nat.mul_add,show 10^(9*1)=1000000000 by decide,Nat.mod_add_div]
   ·rw [C3a,C42];omega
   ·show A8g b32 h4 A2 m2<A8g b32 hp B1 mn
    rw [Y6 (M4.mono P4.le),Y6 (M1.mono P1.le)]
    simp only [C34]
    exact Nat.div_lt_self (by omega) (by decide)
  ·have hX:X=0:=by omega
   subst hX
   rw [Nat.mul_zero,C4v] at hZp
   have sps:SlV hp A1 (ps.map fun (d:Nat)=>U32 (d:Int)):=P1.slV
   have hps0:ps.length≠0:=by
    intro e0
    rw [C3k e0] at hZp
    simp [pv] at hZp;omega
   have hVl:∀ V,V<=Z->(dd V).length<=m:=by
    intro V hV
    apply P7.2
    have:2^m<=10^m:=C4b (by decide) _
    omega
   have e1:B5 ((ps.length:Int)-1)=(ps.length:Int)-1:=B7 (by omega) (by omega)
   rw [e1]
   refine ⟨fun l h4=>∃ (k:Nat) (A:Option Addr) (n c:Nat) (g:Heap),l=[.slice A n c,I ((k:Int)-1)]/\k<=ps.length/\hp.le g/\n=(dd (pv (ps.drop k))).length/\Priv h4 g F5 1 A n c (yv (dd (pv (ps.drop k)))),fun l _=>(iAt l 1+1).toNat,⟨ps.length,none,0,0,hp,rfl,C3i _,B4 hp,by simp [pv,J2],by simpa [pv,J2,yv] using Priv.nil _ _ _ _⟩,?_⟩
   rintro A2 n2 c2 i2 h4 ⟨k,A2',n2',c2',g4,hl2,hk,lg,hn2,P2⟩
   obtain ⟨⟨rfl,rfl,rfl⟩,rfl⟩:(A2=A2'/\n2=n2'/\c2=c2')/\i2=(k:Int)-1:=by simpa using hl2
   refine B6 (fun h2=>?_) (fun h2=>?_)
   ·obtain ⟨j,rfl⟩:∃ j,k=j+1:=⟨k-1,by omega⟩
    have ej:((j+1:Nat):Int)-1=(j:Int):=by omega
    rw [ej]
    have hj:j<ps.length:=by omega
    have hpd:=B6c hj
    have hpj:ps[j]<1000000000:=hps _ (List.getElem_mem hj)
    have hle2:=A5p ps j
    refine ⟨fun l h5=>∃ (e:Nat) (A:Option Addr) (n c:Nat) (g:Heap),l=[.slice A n c,U32 (pw e:Int)]/\e<=9/\hp.le g/\n=(dd (pv (ps.drop (j+1))*10^(9-e)+ps[j]/10^e)).length/\Priv h5 g F5 1 A n c (yv (dd (pv (ps.drop (j+1))*10^(9-e)+ps[j]/10^e))),fun l _=>(iAt l 1).toNat,⟨9,A2,n2,c2,g4,rfl,by omega,lg,?_,?_⟩,?_⟩
    ·rw [Nat.div_eq_of_lt (by simpa using hpj)];simpa using hn2
    ·rw [Nat.div_eq_of_lt (by simpa using hpj)];simpa using P2
    rintro A5 n5 c5 d h5 ⟨e,A5',n5',c5',g5,hl5,he,lg5,hn5,P5⟩
    obtain ⟨⟨rfl,rfl,rfl⟩,rfl⟩:(A5=A5'/\n5=n5'/\c5=c5')/\d=(pw e:Int):=by simpa using hl5
    generalize hV:pv (ps.drop (j+1))*10^(9-e)+ps[j]/10^e=V at *
    refine B6 (fun h6=>?_) (fun h6=>?_)
    ·obtain ⟨f,rfl⟩:∃ f,e=f+1:=by
      cases e with
      | zero=>simp [pw] at h6
      | succ f=>exact ⟨f,rfl⟩
     have hpw:pw (f+1)=10^f:=Wu f
     have hpf:0<10^f:=C50 (by decide)
     have hpf8:10^f<=100000000:=by
      have:10^f<=10^8:=C3r (by decide) (by omega)
      simpa using this
     have hVn:pv (ps.drop (j+1))*10^(9-f)+ps[j]/10^f=10*V+ps[j]/10^f%10:=by
      rw [<- hV,show 9-f=(9-(f+1))+1 by omega,C4u,C4u,<- Nat.div_div_eq_div_mul,Nat.mul_add]
      have:=Nat.div_add_mod (ps[j]/10^f) 10
      grind
     have hVle:10*V+ps[j]/10^f%10<=Z:=by
      rw [<- hVn]
      have t1:10^(9-f)*10^f=1000000000:=by rw [<- Nat.pow_add,show 9-f+f=9 by omega]
      have t2:10^(9-f)<=1000000000:=by rw [<- t1];exact Nat.le_mul_of_pos_right _ hpf
      have t3:pv (ps.drop (j+1))*10^(9-f)<=pv (ps.drop (j+1))*1000000000:=Nat.mul_le_mul_left _ t2
      have t4:=Nat.div_le_self ps[j] (10^f)
      omega
     have ec:wu8 (F4 ((48:Int)+Int.tmod (F4 (C4q (ps[j]:Int) ((pw (f+1):Nat):Int))) 10))=((48+ps[j]/10^f%10:Nat):Int):=by
      rw [hpw]
      have t1:C4q (ps[j]:Int) ((10^f:Nat):Int)=((ps[j]/10^f:Nat):Int):=by rw [<- Int.ofNat_tdiv]
      rw [t1]
      have t2:ps[j]/10^f<1000000000:=Nat.lt_of_le_of_lt (Nat.div_le_self _ _) hpj
      clear t1
      generalize ps[j]/10^f=D at t2 ⊢
      rw [N5 (n:=(D:Int)) (by omega) (by omega)]
      have t3:Int.tmod (D:Int) 10=((D%10:Nat):Int):=by
       rw [C44 (by omega)];omega
      rw [t3,N5 (by omega) (by omega),Ur (by omega) (by omega)];omega
     have hd10:ps[j]/10^f%10<10:=Nat.mod_lt _ (by decide)
     have sps5:SlV h5 A1 (ps.map fun (d:Nat)=>U32 (d:Int)):=sps.mono (B0 lg5 P5.le)
     refine ⟨fun l h6=>∃ (A:Option Addr) (n c:Nat) (g:Heap),l=[.slice A n c]/\hp.le g/\n=(dd (10*V+ps[j]/10^f%10)).length/\Priv h6 g F5 1 A n c (yv (dd (10*V+ps[j]/10^f%10))),?_,?_⟩
     ·obtain ⟨ad,had,hcell⟩:=SlV.at sps5 (i:=j) (by simpa using hj)
      refine ⟨ad,had,by omega,by omega,(ps[j]:Int),by rw [C34,C51,hcell];simp,?_⟩
      refine B6 (fun e0=>absurd e0 (by omega)) (fun _=>?_)
      rw [ec]
      have hstep:=B71 V (ps[j]/10^f%10) hd10
      have hVnil:=A65 V
      refine ⟨fun l h7=>l=[.bool (decide (V≠0\/ps[j]/10^f%10≠0))]/\h7=h5,B6 (fun h7=>⟨?_,rfl⟩) (fun h7=>⟨?_,rfl⟩),?_⟩
      ·have:V≠0:=by omega
       simp [this]
      ·have:V=0:=by omega
       have e2:∀ D:Nat,(((48+D:Nat):Int) != 48)=decide (V≠0\/D≠0):=by
        intro D
        rw [Bool.eq_iff_iff,bne_iff_ne,decide_eq_true_iff];omega
       rw [e2]
      rintro tb h7 ⟨hl7,rfl⟩
      obtain rfl:tb=decide (V≠0\/ps[j]/10^f%10≠0):=by simpa using hl7
      refine B6 (fun h8=>?_) (fun h8=>?_)
      ·rw [if_pos h8] at hstep
       have hl8:=hVl _ hVle
       rw [hstep,C3a,C42] at hl8
       refine Cb Et P5 rfl rfl (by omega) (by omega) ?_
       intro A9 c9 h9 g9 l9 P9
       refine ⟨A9,n5+1,c9,g9,rfl,B0 lg5 l9,by rw [hstep,C3a,hn5];rfl,?_⟩
       rw [hstep,R9]
       have:yv [dch (ps[j]/10^f%10)]=[Y ((48+ps[j]/10^f%10:Nat):Int)]:=by
        simp only [yv,List.map_cons,List.map_nil,Cy hd10]
       rw [this];exact P9
      ·rw [if_neg h8] at hstep
       exact ⟨A5,n5,c5,g5,rfl,lg5,by rw [hstep];exact hn5,by rw [hstep];exact P5⟩
     ·rintro A9 n9 c9 h9 ⟨A9',n9',c9',g9,hl9,lg9,hn9,P9⟩
      obtain ⟨rfl,rfl,rfl⟩:A9=A9'/\n9=n9'/\c9=c9':=by simpa using hl9
      have ed:F4 (C4q ((pw (f+1):Nat):Int) 10)=((pw f:Nat):Int):=by
       have t1:C4q ((pw (f+1):Nat):Int) 10=((pw (f+1)/10:Nat):Int):=by rw [Int.natCast_ediv,C3n (by omega)];rfl
       rw [t1,A81,N5 (by omega) (by have:=A81 f;rw [hpw] at this;omega)]
      rw [ed]
      refine ⟨⟨f,A9,n9,c9,g9,rfl,by omega,lg9,by rw [hVn];exact hn9,by rw [hVn];exact P9⟩,?_⟩
      simp only [iAt,C37,C3b,C34]
      have:=A81 f
      rw [hpw] at this ⊢
      omega
    ·have he0:e=0:=by
      cases e with
      | zero=>rfl
      | succ f=>rw [Wu] at h6;have:0<10^f:=C50 (by decide);omega
     subst he0
     have hV2:V=pv (ps.drop j):=by rw [<- hV,hpd];simp;omega
     rw [hV2] at P5 hn5
     rw [B7 (by omega) (by omega)]
     exact ⟨⟨j,A5,n5,c5,g5,rfl,by omega,lg5,hn5,P5⟩,by simp only [iAt,C37,C3b];omega⟩
   ·have hk0:k=0:=by omega
    subst hk0
    rw [C4i,<- hZp] at P2 hn2
    refine Jv Et.und Cl T4 P2.slV hn2 ?_
    exact ⟨_,rfl,B0 hle (B0 P1.le (B0 lg P2.le)),hK⟩
end
theorem Vj(a:Array UInt8):({ data:=a }:ByteArray)=bs a.toList:=by simp [bs]
theorem Bl{l:List UInt8}(h:∀ c∈l,G1 c):J0 l<2^(4*l.length):=by
 have h1:=Ek h
 have h2:10^l.length<=16^l.length:=C4b (by decide) _
 have h3:16^l.length=2^(4*l.length):=by rw [Nat.pow_mul]
 omega
theorem B4d{h:Heap}{A:Option Addr}{n m:Nat}{X:Nat}(M:Mg h A n X)(hx:X<2^m)(hm:m<=1000000000):n<=100000000:=by
 have:=A8k (j:=32) (by decide) M (m:=m) (by have:((X:Nat):Int)<((2^m:Nat):Int):=by omega
                                            simpa using this)
 omega
section
variable {h h':Heap} {K:VP} {A B:Option Addr} {n c n' c':Nat} {s s':Bool} {x y z:Int} {m:Nat} {p q:Rat} {a b w:QV} {l:List UInt8}
theorem Fw(hl:l.length<=200000000)(hK:∀ s A n c ok h',h.le h'->(ok=true->(∀ c∈l,G1 c)/\l≠[]/\NI h' s A n c (J0 l))->(ok=false->¬ ((∀ c∈l,G1 c)/\l≠[]))->K (.tuple #[.agg #[.bool s,.slice A n c],.bool ok]) h'):FCall prog An #[.string (bs l)] h K:=by
 refine Ul _ ?_
 unfold Tj
 simp only [I6]
 refine ⟨fun L hp=>∃ (i:Nat) (A:Option Addr) (n c:Nat),L=[.slice A n c,I i,.bool false,.slice none 0 0]/\i<=l.length/\h.le hp/\(∀ c∈l.take i,G1 c)/\Mg hp A n (J0 (l.take i))/\n<=c,fun L _=>l.length-(iAt L 1).toNat,⟨0,none,0,0,rfl,by omega,B4 h,by simp,Mag.zero,C3i _⟩,?_⟩
 rintro A1 n1 c1 i1 t20 A2 n2 c2 hp ⟨i,A1',n1',c1',hL,hi,hle,hdig,M,hc⟩
 obtain ⟨⟨rfl,rfl,rfl⟩,rfl,rfl,rfl,rfl,rfl⟩:(A1=A1'/\n1=n1'/\c1=c1')/\i1=(i:Int)/\t20=false/\A2=none/\n2=0/\c2=0:=by simpa using hL
 refine B6 (fun h1=>?_) (fun h1=>?_)
 ·refine ⟨fun L hq=>∃ (k:Nat),L=[I ((i+k:Nat):Int),U32 (J0 ((l.drop i).take k):Nat),U32 ((10^k:Nat):Int),.bool false,.slice none 0 0]/\0<k/\k<=9/\i+k<=l.length/\hq=hp/\(∀ c∈(l.drop i).take k,G1 c),?_,?_⟩
  ·refine ⟨fun L hq=>∃ (k:Nat),L=[I ((i+k:Nat):Int),U32 (J0 ((l.drop i).take k):Nat),U32 ((10^k:Nat):Int),I k,.bool false,.slice none 0 0]/\k<=9/\i+k<=l.length/\hq=hp/\(∀ c∈(l.drop i).take k,G1 c),fun L _=>9-(iAt L 3).toNat,⟨0,by simp [J0],by omega,by omega,rfl,by simp⟩,?_⟩
   rintro i2 v f k2 t201 A3 n3 c3 hp1 ⟨k,hL2,hk9,hik,rfl,hd2⟩
   obtain ⟨rfl,rfl,rfl,rfl,rfl,rfl,rfl,rfl⟩:i2=((i+k:Nat):Int)/\v=((J0 ((l.drop i).take k):Nat):Int)/\f=((10^k:Nat):Int)/\k2=(k:Int)/\t201=false/\A3=none/\n3=0/\c3=0:=by simpa using hL2
   refine B6 (fun h2=>B6 (fun h3=>?_) (fun h3=>?_)) (fun h2=>?_)
   ·have hlt:i+k<l.length:=by omega
    have hget:(bs l)[((i+k:Nat):Int).toNat]? = some l[i+k]:=by rw [C34,Ii,C48 hlt]
    have hbad:¬ G1 l[i+k]->∀ s A n c,K (.tuple #[.agg #[.bool s,.slice A n c],.bool false]) hp1:=by
     intro hb s A n c
     exact hK _ _ _ _ _ _ hle (fun e=>by cases e) (fun _ ⟨h5,_⟩=>hb (h5 _ (List.getElem_mem hlt)))
    refine ⟨l[i+k],⟨by omega,hget⟩,B6 (fun h4=>?_) (fun h4=>?_)⟩
    ·exact hbad (fun hd=>by unfold G1 at hd;omega) _ _ _ _
    ·refine ⟨l[i+k],⟨by omega,hget⟩,B6 (fun h5=>?_) (fun h5=>?_)⟩
     ·exact hbad (fun hd=>by unfold G1 at hd;omega) _ _ _ _
     ·have hdc:G1 l[i+k]:=by unfold G1;omega
      refine ⟨l[i+k],⟨by omega,hget⟩,?_⟩
      have htk:(l.drop i).take (k+1)=(l.drop i).take k++[l[i+k]]:=by
       rw [C4s (by rw [C39];omega)];simp
      have hb9:J0 ((l.drop i).take k)<10^k:=by
       have:=Ek hd2
       rwa [C36,C39,C38 (by omega)] at this
      have hpk:10^k<=100000000:=by
       have:10^k<=10^8:=C3r (by decide) (by omega)
       simpa using this
      have e1:B5 (((i+k:Nat):Int)+1)=((i+(k+1):Nat):Int):=by rw [B7 (by omega) (by omega)];omega
      have e2:B5 ((k:Int)+1)=((k+1:Nat):Int):=by rw [B7 (by omega) (by omega)];omega
      have e3:F4 (((10^k:Nat):Int)*10)=((10^(k+1):Nat):Int):=by rw [C4u,N5 (by omega) (by omega)];omega
      have e4:F4 (F4 (((J0 ((l.drop i).take k):Nat):Int)*10)+F4 (wu8 ((l[i+k].toNat:Int)-48)))=((J0 ((l.drop i).take (k+1)):Nat):Int):=by
       rw [htk,Gk,Ur (by omega) (by omega),N5 (n:=(l[i+k].toNat:Int)-48) (by omega) (by omega),N5 (n:=((J0 ((l.drop i).take k):Nat):Int)*10) (by omega) (by omega),N5 (by omega) (by omega)];omega
      rw [e1,e2,e3,e4]
      refine ⟨⟨k+1,rfl,by omega,by omega,rfl,?_⟩,by simp only [iAt,C37,C3b];omega⟩
      rw [htk]
      intro c hc
      rcases List.mem_append.1 hc with h6|h6
      ·exact hd2 c h6
      ·rw [List.mem_singleton.1 h6];exact hdc
   ·exact ⟨k,rfl,by omega,hk9,hik,rfl,hd2⟩
   ·exact ⟨k,rfl,by omega,hk9,hik,rfl,hd2⟩
  ·rintro i2 v f t202 A3 n3 c3 hp2 ⟨k,hL2,hk0,hk9,hik,rfl,hd2⟩
   obtain ⟨rfl,rfl,rfl,rfl,rfl,rfl,rfl⟩:i2=((i+k:Nat):Int)/\v=((J0 ((l.drop i).take k):Nat):Int)/\f=((10^k:Nat):Int)/\t202=false/\A3=none/\n3=0/\c3=0:=by simpa using hL2
   have hb9:J0 ((l.drop i).take k)<10^k:=by
    have:=Ek hd2
    rwa [C36,C39,C38 (by omega)] at this
   have hpk:0<10^k/\10^k<=1000000000:=by
    have:10^k<=10^9:=C3r (by decide) (by omega)
    exact ⟨C50 (by decide),by simpa using this⟩
   have hlk:((l.drop i).take k).length=k:=by rw [C36,C39];omega
   have htk:l.take (i+k)=l.take i++(l.drop i).take k:=List.take_add
   have hd3:∀ c∈l.take (i+k),G1 c:=by
    rw [htk];intro c hc
    rcases List.mem_append.1 hc with h6|h6
    ·exact hdig c h6
    ·exact hd2 c h6
   have hv3:J0 (l.take (i+k))=J0 (l.take i)*10^k+J0 ((l.drop i).take k):=by rw [htk,Em,hlk]
   have hX1:J0 (l.take i)<2^(4*l.length):=C4g (Bl hdig) (C3r (by decide) (by rw [C36];omega))
   have hX3:J0 (l.take (i+k))<2^(4*l.length):=C4g (Bl hd3) (C3r (by decide) (by rw [C36];omega))
   have hmn:=B4d M hX1 (by omega)
   refine Y7 Mo rfl ?_
   intro bf hbf
   refine ⟨_,_,_,rfl,?_⟩
   have lf:=Heap.le_put (h:=hp2) (b:=bf) (.cells #[U32 ((10^k:Nat):Int)] C4) hbf
   have Mf:Mg (hp2.put bf (.cells #[U32 ((10^k:Nat):Int)] C4)) (some ⟨bf,0,none⟩) 1 ((10^k:Nat):Int):=
    ⟨[((10^k:Nat):Int)],rfl,SlI.new hp2 bf [((10^k:Nat):Int)] C4 _,Dig.one ⟨by omega,by show _<(4294967296:Int);omega⟩,by simp only [Norm,List.getLast?_singleton,ne_eq,Option.some.injEq];omega,T3 _ _⟩
   refine Rb (M.mono lf) Mf hmn (by omega) ?_
   intro A4 m4 c4 h4 l4 k4 M4
   refine ⟨_,_,_,rfl,?_⟩
   refine Y7 Mo rfl ?_
   intro bv hbv
   refine ⟨_,_,_,rfl,?_⟩
   have lv:=Heap.le_put (h:=h4) (b:=bv) (.cells #[U32 ((J0 ((l.drop i).take k):Nat):Int)] C4) hbv
   refine V4 (xs:=[((J0 ((l.drop i).take k):Nat):Int)]) (SlI.new h4 bv _ C4 _) (Dig.one ⟨by omega,by show _<(4294967296:Int);omega⟩) (C3i _) (by simp) ?_
   intro m5 k5 M5
   refine ⟨_,_,_,rfl,?_⟩
   rw [T3] at M5
   have e4:((J0 (l.take i):Nat):Int)*((10^k:Nat):Int)=((J0 (l.take i)*10^k:Nat):Int):=by rw [Int.natCast_mul]
   rw [e4] at M4
   refine Sq (M4.mono lv) M5 (B4d M4 (m:=4*l.length) (by omega) (by omega)) (by simp at k5;omega) ?_
   intro A6 m6 c6 h6 l6 k6 M6
   have e6:((J0 (l.take i)*10^k:Nat):Int)+((J0 ((l.drop i).take k):Nat):Int)=((J0 (l.take (i+k)):Nat):Int):=by rw [hv3];omega
   rw [e6] at M6
   exact ⟨_,_,_,rfl,⟨i+k,A6,m6,c6,rfl,hik,B0 hle (B0 lf (B0 l4 (B0 lv l6))),hd3,M6,k6⟩,by simp only [iAt,C37,C3b];omega⟩
 ·have:i=l.length:=by omega
  subst this
  rw [C3h] at hdig M
  refine M0 M hc ?_
  intro s1 i1
  refine ⟨_,_,_,_,rfl,?_⟩
  have e:(!((bs l).toList==({ data:=#[] }:ByteArray).toList))=decide (l≠[]):=by
   rw [Vj,Gn];simp
  rw [e]
  refine hK _ _ _ _ _ _ hle (fun e1=>⟨hdig,by simpa using e1,i1⟩) (fun e1=>?_)
  have:l=[]:=by simpa using e1
  rintro ⟨_,h5⟩;exact h5 this
theorem Bm{n m:Nat}(h:n<2^m):(L9 n).length<=m+1:=by
 rw [Qi (by omega)]
 have:2^m<=10^(m+1):=Nat.le_trans (C4b (by decide) m) (C3r (by decide) (by omega))
 omega
theorem Zu(i:NQ h w q)(hq:Sz m q)(hm:m<=1000000000)(hK:K (.string (bs (K3 q))) h):FCall prog Nk #[w.v] h K:=by
 have hs:=i.num.sg
 have hd0:=i.den_zero
 refine B3l _ _ _ _ _ _ _ _ ?_
 unfold B9m
 have l1:=Bm hq.num
 have l2:=Bm (n:=q.den) (m:=m) (by have:=hq.den;unfold ZB at this;simpa using this)
 refine Sf i.num hq.num hm ⟨_,rfl,?_⟩
 refine ⟨fun l h'=>l=[.string (bs (Io q.num))]/\h'=h,Br.of (fun e=>?_) (fun e=>?_),?_⟩
 ·have hneg:q.num<0:=by rw [hs] at e;simpa using e
  refine ⟨?_,?_,rfl⟩
  ·rw [Vj,I6,I6];simp;omega
  ·rw [Vj,Lm];unfold Io;rw [if_pos hneg];rfl
 ·have hneg:¬ q.num<0:=by rw [hs] at e;simpa using e
  exact ⟨by unfold Io;rw [if_neg hneg],rfl⟩
 rintro t h1 ⟨hl,rfl⟩
 obtain rfl:t=bs (Io q.num):=by simpa using hl
 have l3:(Io q.num).length<=m+2:=by
  unfold Io;split
  ·rw [List.length_cons];omega
  ·omega
 refine B6 (fun e=>?_) (fun e=>?_)
 ·have hd:¬ q.den=1:=fun e1=>by have:=hd0.2 e1;omega
  have hden:=i.den
  rw [if_neg hd] at hden
  refine Sf hden hq.den hm ⟨_,rfl,?_,?_,?_⟩
  ·rw [Vj,I6,I6,C41];simp;omega
  ·rw [Vj,Lm,I6,I6,C41];simp;omega
  ·rw [Vj,Lm,Lm,C41]
   unfold K3 at hK
   rw [if_neg hd] at hK
   exact hK
 ·have hd:q.den=1:=hd0.1 (by omega)
  unfold K3 at hK
  rw [if_pos hd,C4o] at hK
  exact hK
theorem B62{t a r a' r':List UInt8}(h1:t=a++r)(h2:∀ c∈a,c≠47)(h3:r=[]\/r.head? = some 47)(g1:t=a'++r')(g2:∀ c∈a',c≠47)(g3:r'=[]\/r'.head? = some 47):a=a'/\r=r':=by
 induction a generalizing t a' with
 | nil=>
  cases a' with
  | nil=>simp at h1 g1;exact ⟨rfl,h1.symm.trans g1⟩
  | cons c a'=>
   exfalso
   subst h1
   rcases h3 with h3|h3
   ·subst h3;simp at g1
   ·rw [g1] at h3
    simp at h3
    exact g2 c (by simp) h3
 | cons c a ih=>
  cases a' with
  | nil=>
   exfalso
   subst g1
   rcases g3 with g3|g3
   ·subst g3;simp at h1
   ·rw [h1] at g3
    simp at g3
    exact h2 c (by simp) g3
  | cons c' a'=>
   subst h1
   simp at g1
   obtain ⟨rfl,g1⟩:=g1
   obtain ⟨e1,e2⟩:=ih rfl (fun x hx=>h2 x (by simp [hx])) g1 (fun x hx=>g2 x (by simp [hx]))
   exact ⟨by rw [e1],e2⟩
theorem A7f(q:Rat):K3 q=(if q.num<0 then [45] else [])++(L9 q.num.natAbs++(if q.den=1 then [] else 47::L9 q.den)):=by
 unfold K3 Io;split<;>simp
theorem A9j(n:Nat):∀ c∈L9 n,c≠47:=fun c hc=>(A4l (Ll n c hc)).2
theorem Ry{neg:Bool}{q:Rat}(h:neg=decide (q.num<0)):Rat.divInt (if neg=true then -((q.num.natAbs:Nat):Int) else ((q.num.natAbs:Nat):Int)) q.den=q:=by
 have:(if neg=true then -((q.num.natAbs:Nat):Int) else ((q.num.natAbs:Nat):Int))=q.num:=by
  rw [h]
  by_cases h0:q.num<0
  ·rw [if_pos (by simpa using h0)];omega
  ·rw [if_neg (by simpa using h0)];omega
 rw [this,Rat.num_divInt_den]
theorem A05(hl:l.length<=100000000)(hK1:∀ q,l=K3 q->∀ w h',h.le h'->NQ h' w q->K (.tuple #[w.v,.bool true]) h')(hK0:¬ IsNum l->∀ (w:QV) h',h.le h'->K (.tuple #[w.v,.bool false]) h'):FCall prog Xp #[.string (bs l)] h K:=by
 refine B3n _ ?_
 unfold B9o
 simp only [I6]
 refine ⟨fun L h'=>L=[.bool (l.head? == some 45)]/\h'=h,B6 (fun h1=>?_) (fun h1=>?_),?_⟩
 ·cases l with
  | nil=>simp at h1
  | cons c r=>
   refine ⟨c,⟨by omega,by rw [Ii];rfl⟩,?_,rfl⟩
   have:((c.toNat:Int)==45)=((c::r).head? == some 45):=by
    rw [Bool.eq_iff_iff,beq_iff_eq,beq_iff_eq,List.head?_cons,Option.some.injEq]
    constructor
    ·intro e;apply UInt8.toNat_inj.1;show c.toNat=45;omega
    ·rintro rfl;rfl
   rw [this]
 ·have:l=[]:=C3k (by omega)
  subst this;exact ⟨rfl,rfl⟩
 rintro neg hp ⟨hL,rfl⟩
 obtain rfl:neg=(l.head? == some 45):=by simpa using hL
 refine ⟨fun L h'=>L=[.string (bs (if (l.head? == some 45) then l.drop 1 else l))]/\h'=hp,Br.of (fun e=>?_) (fun e=>?_),?_⟩
 ·have hlen:1<=l.length:=by
   cases l with
   | nil=>simp at e
   | cons _ _=>simp
  refine ⟨⟨by omega,by omega⟩,?_,rfl⟩
  rw [if_pos e,N2,C3g (by rw [C39];show _<=l.length-1;exact C3i _)];rfl
 ·rw [if_neg (by rw [e];simp)];exact ⟨rfl,rfl⟩
 rintro t0 hp1 ⟨hL1,rfl⟩
 generalize ht:(if (l.head? == some 45) then l.drop 1 else l)=t at *
 obtain rfl:t0=bs t:=by simpa using hL1
 have htl:t.length<=l.length:=by rw [<- ht];split<;>simp
 have hlt:l=(if (l.head? == some 45) then [45] else [])++t:=by
  rw [<- ht]
  cases l with
  | nil=>simp
  | cons c r=>
   by_cases hc:c=45
   ·subst hc;simp
   ·simp [hc]
 have hnum:∀ q,l=K3 q->(l.head? == some 45)=decide (q.num<0)/\t=L9 q.num.natAbs++(if q.den=1 then [] else 47::L9 q.den):=by
  intro q e
  have f:=Fl q
  rw [<- e] at f
  have hh:=f.head
  refine ⟨hh.symm,?_⟩
  have e2:=hlt
  rw [<- hh,e,A7f q] at e2
  by_cases h0:q.num<0
  ·simp [h0] at e2;exact e2.symm
  ·simp [h0] at e2;exact e2.symm
 refine ⟨fun L h'=>∃ at_:Nat,L=[I at_]/\h'=hp1/\at_<=t.length/\(∀ c∈t.take at_,c≠47)/\(t.drop at_=[]\/(t.drop at_).head? = some 47),?_,?_⟩
 ·simp only [I6]
  refine ⟨fun L h'=>∃ i:Nat,L=[I t.length,I i]/\h'=hp1/\i<=t.length/\(∀ c∈t.take i,c≠47),fun L _=>t.length-(iAt L 1).toNat,⟨0,rfl,rfl,by omega,by simp⟩,?_⟩
  rintro atv i1 hp2 ⟨i,hL2,rfl,hi,hno⟩
  obtain ⟨rfl,rfl⟩:atv=(t.length:Int)/\i1=(i:Int):=by simpa using hL2
  refine B6 (fun h1=>?_) (fun h1=>?_)
  ·have hit:i<t.length:=by omega
   refine ⟨t[i],⟨by omega,by rw [C34,Ii,C48 hit]⟩,D9 (fun h2=>?_) (fun h2=>?_)⟩
   ·refine ⟨i,rfl,rfl,hi,hno,.inr ?_⟩
    rw [List.head?_drop,C48 hit]
    congr 1
    apply UInt8.toNat_inj.1
    show t[i].toNat=47
    omega
   ·rw [B7 (by omega) (by omega)]
    refine ⟨⟨i+1,rfl,rfl,by omega,?_⟩,by simp only [iAt,C37,C3b];omega⟩
    rw [C4s hit]
    intro c hc
    rcases List.mem_append.1 hc with h3|h3
    ·exact hno c h3
    ·rw [List.mem_singleton.1 h3]
     intro e;rw [e] at h2;exact h2 rfl
  ·have:i=t.length:=by omega
   subst this
   exact ⟨t.length,rfl,rfl,C3i _,hno,.inl (by simp)⟩
 rintro at1 hp3 ⟨at_,hL3,rfl,hat,hno,hrest⟩
 obtain rfl:=sI1 hL3
 simp only [I6,N2,C34,C4i,C47]
 refine ⟨⟨by omega,by omega⟩,?_⟩
 have htsplit:t=t.take at_++t.drop at_:=(C4a at_ t).symm
 have hparts:∀ q,l=K3 q->t.take at_=L9 q.num.natAbs/\t.drop at_=(if q.den=1 then [] else 47::L9 q.den):=by
  intro q e
  refine B62 htsplit hno hrest (hnum q e).2 (A9j _) ?_
  split
  ·left;rfl
  ·right;rfl
 refine Fw (by rw [C36];omega) ?_
 intro s1 A1 n1 c1 ok1 h1 l1 k1 k0
 refine ⟨_,_,_,_,_,rfl,O5 (Br.of (fun e=>?_) (fun e=>?_))⟩
 ·obtain ⟨dg,dne,iN⟩:=k1 e
  have hZB:ZB (4*l.length) (J0 (t.take at_):Int):=by
   unfold ZB
   rw [C41]
   exact C4g (Bl dg) (C3r (by decide) (by rw [C36];omega))
  have im:=iN.mag
  rw [C41] at im
  refine M0 im iN.cap ?_
  intro s2 i2
  refine ⟨_,_,_,_,rfl,?_⟩
  have hZB2:ZB (4*l.length) (if (l.head? == some 45)=true then -((J0 (t.take at_):Nat):Int) else ((J0 (t.take at_):Nat):Int)):=by
   split
   ·exact hZB.neg
   ·exact hZB
  have fin:∀ (q0:Rat) (w:QV) (h5:Heap),hp3.le h5->NQ h5 w q0->Sz (4*l.length+1) q0->(∀ q,l=K3 q->q=q0)->
   FCall prog Nk #[w.v] h5 (fun r5 hp9=>∃ (t79:ByteArray),r5= .string t79/\Heap.le h5 hp9/\K (.tuple #[w.v,.bool (ByteArray.toList t79==ByteArray.toList (bs l))]) hp9):=by
   intro q0 w h5 l5 iq hsz hun
   refine Zu iq hsz (by omega) ⟨_,rfl,B4 _,?_⟩
   rw [Gn]
   by_cases hc:K3 q0=l
   ·rw [decide_eq_true hc]
    exact hK1 q0 hc.symm w h5 l5 iq
   ·rw [decide_eq_false hc]
    refine hK0 ?_ w h5 l5
    rintro ⟨q,e⟩
    exact hc (by rw [<- hun q e];exact e.symm)
  refine B6 (fun e2=>?_) (fun e2=>?_)
  ·have e3:B5 ((at_:Int)+1)=((at_+1:Nat):Int):=by rw [B7 (by omega) (by omega)];omega
   rw [e3]
   refine ⟨⟨by omega,by omega⟩,?_⟩
   rw [C34,C3g (show (t.drop (at_+1)).length<=t.length-(at_+1) by rw [C39];omega)]
   have hb:t.drop at_=47::t.drop (at_+1):=by
    rcases hrest with h0|h0
    ·have:=congrArg List.length h0;rw [C39] at this;simp at this;omega
    ·rw [List.head?_drop] at h0
     have hlt2:at_<t.length:=by omega
     rw [C48 hlt2] at h0
     rw [C45 hlt2]
     congr 1
     simpa using h0
   refine Fw (by rw [C39];omega) ?_
   intro s3 A3 n3 c3 ok3 h3 l3 j1 j0
   have hden:∀ q,l=K3 q->q.den≠1/\t.drop (at_+1)=L9 q.den:=by
    intro q e
    have:=(hparts q e).2
    rw [hb] at this
    by_cases hd:q.den=1
    ·simp [hd] at this
    ·simp [hd] at this;exact ⟨hd,this⟩
   refine ⟨_,_,_,_,_,rfl,O5 (Br.of (fun e4=>?_) (fun e4=>?_))⟩
   ·obtain ⟨dg2,dne2,iD⟩:=j1 e4
    refine A00 iD ⟨_,rfl,D9 (fun e5=>?_) (fun e5=>?_)⟩
    ·refine hK0 ?_ ⟨false,none,0,0,false,none,0,0⟩ _ (B0 l1 l3)
     rintro ⟨q,e⟩
     have h6:=(hden q e).2
     have h7:((J0 (t.drop (at_+1)):Nat):Int)=0:=Int.sign_eq_zero_iff_zero.1 e5
     rw [h6,Y3] at h7
     exact q.den_nz (by omega)
    ·have hne0:((J0 (t.drop (at_+1)):Nat):Int)≠0:=fun e6=>e5 (by rw [e6];rfl)
     have hZB3:ZB (4*l.length) (J0 (t.drop (at_+1)):Int):=by
      unfold ZB
      rw [C41]
      exact C4g (Bl dg2) (C3r (by decide) (by rw [C39];omega))
     refine Rl (i2.mono l3) iD hne0 hZB2 hZB3 (by omega) ?_
     intro w h5 l5 iq
     refine ⟨_,_,_,_,_,_,_,_,rfl,?_⟩
     refine fin _ w h5 (B0 l1 (B0 l3 l5)) iq ((Dg hne0 hZB2 hZB3).mono (by omega)) ?_
     intro q e
     rw [(hparts q e).1,(hden q e).2,Y3,Y3]
     exact (Ry (hnum q e).1).symm
   ·refine hK0 ?_ ⟨false,none,0,0,false,none,0,0⟩ _ (B0 l1 l3)
    rintro ⟨q,e⟩
    exact j0 e4 (by rw [(hden q e).2];exact ⟨Ll _,Se _⟩)
  ·have hat2:at_=t.length:=by omega
   refine fin _ ⟨s2,A1,n1,c1,false,none,0,0⟩ h1 l1 (NQ.whole i2) (Sz.int (hZB2.mono (by omega)) (by omega)) ?_
   intro q e
   have h6:=(hparts q e).2
   rw [hat2,C4y] at h6
   have hd:q.den=1:=by
    by_cases hd:q.den=1
    ·exact hd
    ·simp [hd] at h6
   rw [(hparts q e).1,Y3]
   have:=Ry (hnum q e).1
   rw [hd] at this
   rw [<- Hx]
   exact this.symm
 ·refine hK0 ?_ ⟨false,none,0,0,false,none,0,0⟩ _ l1
  rintro ⟨q,e2⟩
  exact k0 e (by rw [(hparts q e2).1];exact ⟨Ll _,Se _⟩)
theorem B2m(hl:l.length<=100000000)(hK:∀ w h',h.le h'->NQ h' w (rv l)->K w.v h'):FCall prog A91 #[.string (bs l)] h K:=by
 refine B7i _ ?_
 unfold C2m
 refine A05 hl ?_ ?_
 ·intro q e w h1 l1 i1
  refine ⟨_,_,_,_,_,_,_,_,_,rfl,O5 ?_⟩
  refine hK w h1 l1 ?_
  rw [e,Ka];exact i1
 ·intro hn w h1 l1
  refine ⟨_,_,_,_,_,_,_,_,_,rfl,O5 ?_⟩
  refine hK ⟨false,none,0,0,false,none,0,0⟩ h1 l1 ?_
  rw [A45 hn];exact NQ.zero
end
def ndg(x:Nat):Nat:=x*78913/262144
theorem B4a:∀ x,x<65->2^x<=10^(ndg x+1)/\(ndg x=0\/10^(ndg x-1)<=2^(x-1))/\ndg x<=19:=by decide
theorem A0s{n k:Nat}(h1:10^k<=n)(h2:n<10^(k+1)):(dd n).length=k+1:=by
 have a:=(P7 (n:=n) (k:=k+1)).2 h2
 have b:¬ (dd n).length<=k:=fun e=>by have:=P7.1 e;omega
 omega
theorem B8l{d:Nat}(h0:d≠0)(h:d<2^64):(dd d).length=ndg (N3 d)+(if 10^ndg (N3 d)<=d then 1 else 0):=by
 have hb:=Gr h
 obtain ⟨b1,b2⟩:=Db h0
 obtain ⟨a1,a2,a3⟩:=B4a (N3 d) (by omega)
 split
 ·rename_i hc
  exact A0s hc (by omega)
 ·rename_i hc
  rcases a2 with a2|a2
  ·rw [a2] at hc;simp at hc;omega
  ·obtain ⟨k,hk⟩:∃ k,ndg (N3 d)=k+1:=by
    by_cases hz:ndg (N3 d)=0
    ·rw [hz] at hc;simp at hc;omega
    ·exact ⟨ndg (N3 d)-1,by omega⟩
   rw [hk] at hc a2 ⊢
   rw [Nat.add_sub_cancel] at a2
   rw [C4v]
   exact A0s (by omega) (by omega)
theorem B6d(w n:Nat):pad (w+2) n=pad w (n/100)++[dch (n/10%10),dch (n%10)]:=by
 rw [Px,Px,Nat.div_div_eq_div_mul];simp
theorem A86(n:Nat)(h:n=0):pad 0 n=[]:=by subst h;simp [pad,J2]
abbrev b64:Int:=18446744073709551616
abbrev Mw(h:Heap)(A:Option Addr)(len:Nat)(n:Int):Prop:=Mag .u64 b64 h A len n
structure Win (k:IntKind) (h g:Heap) (b:Nat) (e:TypeId) (A:Option Addr) (pre:List Value) (xs:List Int) (post:List Value):Prop where
 free:g b=none
 eq:h=g.put b (.cells (pre++xs.map (C3y k)++post).toArray e)
 at_:xs=[]\/A=some ⟨b,pre.length,none⟩
section
variable {k:IntKind} {h g:Heap} {b:Nat} {e:TypeId} {A:Option Addr} {pre post:List Value} {xs:List Int}
theorem Win.le(w:Win k h g b e A pre xs post):g.le h:=by rw [w.eq];exact Heap.le_put _ w.free
theorem Win.sl(w:Win k h g b e A pre xs post):SlI k h A xs:=by
 rcases w.at_ with rfl|hA
 ·exact SlI.nil
 ·right
  refine ⟨_,hA,fun i v hv=>?_⟩
  rw [w.eq,D8,E6]
  have hi:i<(xs.map (C3y k)).length:=by
   by_cases hc:i<(xs.map (C3y k)).length
   ·exact hc
   ·rw [C4n (by omega)] at hv;cases hv
  simp only [List.getElem?_toArray]
  rw [C3z,C57 (by omega),C49,List.getElem?_append_left hi]
  exact hv
theorem Win.store{P:Program}{t:TypeId}(one:P.cellsOf t=1/\(P.info? t).isSome=true)(w:Win k h g b e A pre xs post){a:Addr}(ha:A=some a){i v:Int}(h0:0<=i)(h1:i<xs.length){K:Unit->Heap->Prop}
 (x:∀ h',Win k h' g b e A pre (xs.set i.toNat v) post->K () h'):wpH P (C4k t (.pointer (some (Addr.add a (i.toNat*1)))) (.int k v)) K h:=by
 have hi:i.toNat<xs.length:=by omega
 have hA:A=some ⟨b,pre.length,none⟩:=by
  rcases w.at_ with rfl|hA
  ·simp at hi
  ·exact hA
 rw [ha] at hA
 cases hA
 rw [w.eq,D8,C51]
 refine Cn one.1 one.2 rfl rfl (by simp;omega) ?_
 refine x _ ⟨w.free,?_,.inr ha⟩
 have:(pre++xs.map (C3y k)++post).toArray.setIfInBounds (pre.length+i.toNat) (.int k v)=(pre++(xs.set i.toNat v).map (C3y k)++post).toArray:=by
  rw [List.map_set]
  simp only [List.setIfInBounds_toArray,C3z]
  congr 1
  rw [List.set_append_right _ _ (by omega),C49,List.set_append_left _ _ (by simpa using hi)]
 rw [this]
theorem Win.storeN{P:Program}{t:TypeId}(one:P.cellsOf t=1/\(P.info? t).isSome=true)(w:Win k h g b e A pre xs post){a:Addr}(ha:A=some a){i:Nat}{v:Int}(h1:i<xs.length){K:Unit->Heap->Prop}
 (x:∀ h',Win k h' g b e A pre (xs.set i v) post->K () h'):wpH P (C4k t (.pointer (some (Addr.add a (i*1)))) (.int k v)) K h:=by
 have:=w.store one ha (i:=(i:Int)) (v:=v) (K:=K) (by omega) (by omega) (by simpa using x)
 simpa using this
theorem Win.call{P:Program}{f:FuncId}{args:Array Value}(w:Win k h g b e A pre xs post){K:VP}(x:FCall P f args g (fun r h0=>∀ h',Win k h' h0 b e A pre xs post->K r h')):FCall P f args h K:=by
 rw [w.eq]
 exact FCall.frame w.free x fun r h0 h0b hk=>hk _ ⟨h0b,rfl,w.at_⟩
theorem Win.blk(k:IntKind)(e:TypeId){g:Heap}{b:Nat}(hb:g b=none)(zs:List Int):Win k (Go.Proofs.YtajkakhfcokljaaGreatDoor.blk k e g b zs) g b e (some ⟨b,0,none⟩) [] zs []:=
 ⟨hb,by simp [Go.Proofs.YtajkakhfcokljaaGreatDoor.blk],.inr rfl⟩
theorem Win.sub(w:Win k h g b e A pre xs post){l m c:Nat}(hl:l<=m)(hm:m<=xs.length)(hc:xs.length<=c):
 Win k h g b e (K0 A c l 1) (pre++(xs.take l).map (C3y k)) ((xs.drop l).take (m-l)) ((xs.drop m).map (C3y k)++post):=by
 refine ⟨w.free,?_,?_⟩
 ·rw [w.eq]
  congr 3
  have:xs=xs.take l++((xs.drop l).take (m-l)++xs.drop m):=by
   have e1:xs.drop m=(xs.drop l).drop (m-l):=by rw [C46];congr 1;omega
   rw [e1,C4a,C4a]
  conv=>lhs;rw [this]
  simp [C53,C3z]
 ·by_cases he:m-l=0
  ·left;simp [he]
  ·right
   rcases w.at_ with rfl|hA
   ·simp at hm;omega
   ·unfold K0
    rw [if_neg (by omega),hA]
    simp only [Option.map_some,D8,C51,C3a,List.length_map,C36]
    rw [C38 (by omega)]
theorem Win.whole{h' g':Heap}(w:Win k h g b e A pre xs post){l m:Nat}(hl:l<=m)(hm:m<=xs.length){B:Option Addr}{ys:List Int}(hy:ys.length=m-l)(v:Win k h' g' b e B (pre++(xs.take l).map (C3y k)) ys ((xs.drop m).map (C3y k)++post)):
 Win k h' g' b e A pre (xs.take l++ys++xs.drop m) post:=by
 refine ⟨v.free,?_,?_⟩
 ·rw [v.eq]
  congr 3
  simp [C53,C3z]
 ·rcases w.at_ with rfl|hA
  ·left
   simp at hm
   have:ys=[]:=C3k (by omega)
   simp [this]
  ·exact .inr hA
theorem Priv.win{n c:Nat}(p:Priv h g e 1 A n c (xs.map (C3y k)))(hx:xs≠[]):∃ b post,Win k h g b e A [] xs post:=by
 obtain ⟨h1,h2,h3⟩:=p
 rcases h3 with ⟨hc,rfl⟩|⟨b,arr,hA,hb,rfl,h4,h5⟩
 ·simp at h1
  exact absurd (C3k (by omega)) hx
 ·refine ⟨b,arr.drop (n*1),hb,?_,.inr hA⟩
  rw [C4m,<- h5,C4a]
end
theorem Da{P:Program}{t:TypeId}(one:P.cellsOf t=1/\(P.info? t).isSome=true){k:IntKind}{n:Int}{i:Nat}{g:Heap}{b:Nat}{e:TypeId}{zs:List Int}(hi:i<zs.length){K:Unit->Heap->Prop}
 (x:K () (blk k e g b (zs.set i n))):wpH P (C4k t (.pointer (some (Addr.add ⟨b,0,none⟩ (i*1)))) (.int k n)) K (blk k e g b zs):=by
 have:=P8 (P:=P) (t:=t) one (k:=k) (n:=n) (i:=(i:Int)) (g:=g) (b:=b) (e:=e) (zs:=zs) (K:=K) (by simpa using hi) (by simpa using x)
 simpa using this
theorem En{P:Program}{t e e' ty:TypeId}{k:IntKind}{bytes:Nat}(s:SliceT P t e' (.int k 0) 1 bytes){h g:Heap}{b:Nat}{A:Option Addr}{pre post:List Value}{xs:List Int}{n c m d:Nat}(w:Win k h g b e A pre xs post)(hn:n=xs.length){B:Option Addr}{ys:List Int}(sy:SlI k h B ys)(hm:m=ys.length)(hle:ys.length<=xs.length){K:VP}
 (x:∀ h',Win k h' g b e A pre (ys++xs.drop ys.length) post->K (I ys.length) h'):wpH P (Builtin.copy_ #[t,t] ty #[.slice A n c,.slice B m d]) K h:=by
 subst hn hm
 obtain ⟨i,hi,hz,hsz,hby⟩:=s.parts
 unfold Builtin.copy_
 simp only [List.getElem?_toArray,C37,C3b,C6,E7 s.und,K4 hi,F7,Builtin.lenOf,hsz]
 have hmin:Nat.min ys.length xs.length=ys.length:=C38 hle
 rw [hmin]
 refine L0 (s:=1) (cs:=ys.map (C3y k)) (by simp) sy ?_
 cases A with
 | none=>
  rcases w.at_ with h0|h0
  ·subst h0
   have:ys=[]:=C3k (by simpa using hle)
   subst this
   exact x h (by simpa using w)
  ·cases h0
 | some a=>
  simp only [C6]
  rcases w.at_ with h0|h0
  ·subst h0
   have:ys=[]:=C3k (by simpa using hle)
   subst this
   exact x h (by simpa using w)
  ·cases h0
   rw [w.eq]
   refine I0 (ys.map (C3y k)) pre.length 0 (pre++xs.map (C3y k)++post) (by simp;omega) (fun v hv=>?_) ?_
   ·obtain ⟨u,_,rfl⟩:=List.mem_map.1 hv;rfl
   ·refine x _ ⟨w.free,?_,?_⟩
    ·congr 3
     unfold J7
     rw [C4v,C3z pre,C52 rfl,List.length_map]
     rw [List.drop_append,C40 (show pre.length<=pre.length+ys.length by omega),C49,C4m]
     rw [List.drop_append_of_le_length (by simpa using hle),<- List.map_drop,C53]
     simp only [C3z]
    ·right;rfl
theorem A3y{P:Program}{nm:String}{x y c:Int}(hc:0<=c/\c<=1){f:Nat × Nat × Nat->Value}:My P (Extern.MathBitsCarry.three nm #[U x,U y,U c] >>= fun p=>pure (f p))=some (f (x.toNat,y.toNat,c.toNat)):=by
 obtain rfl|rfl:c=0\/c=1:=by omega
 ·rfl
 ·rfl
theorem A8l:C3d=18446744073709551616:=by decide
theorem By{h:Heap}{K:VP}{x y c:Int}(hx:0<=x/\x<18446744073709551616)(hy:0<=y/\y<18446744073709551616)(hc:0<=c/\c<=1)(hK:K (.tuple #[U ((x+y+c)%18446744073709551616),U ((x+y+c)/18446744073709551616)]) h):ECall prog R2 #[U x,U y,U c] h K:=by
 refine B4p A70 (A3y (P:=prog) hc (f:=fun p=>C59 ((p.1+p.2.1+p.2.2)%C3d) ((p.1+p.2.1+p.2.2)/C3d))) ?_
 have e1:((x.toNat+y.toNat+c.toNat)%C3d:Nat)=(((x+y+c)%18446744073709551616:Int)):=by
  rw [A8l]
  omega
 have e2:((x.toNat+y.toNat+c.toNat)/C3d:Nat)=(((x+y+c)/18446744073709551616:Int)):=by
  rw [A8l]
  omega
 show K (.tuple #[U ((x.toNat+y.toNat+c.toNat)%C3d:Nat),U ((x.toNat+y.toNat+c.toNat)/C3d:Nat)]) h
 rw [e1,e2];exact hK
theorem Dp{h:Heap}{K:VP}{x y c:Int}(hx:0<=x/\x<18446744073709551616)(hy:0<=y/\y<18446744073709551616)(hc:0<=c/\c<=1)(hK:K (.tuple #[U ((x-y-c)%18446744073709551616),U (if x-y-c<0 then 1 else 0)]) h):ECall prog At #[U x,U y,U c] h K:=by
 refine B4p A6z (A3y (P:=prog) hc (f:=fun p=>C59 ((p.1+C3d-p.2.1-p.2.2)%C3d) (if p.1<p.2.1+p.2.2 then 1 else 0))) ?_
 have e1:((x.toNat+C3d-y.toNat-c.toNat)%C3d:Nat)=(((x-y-c)%18446744073709551616:Int)):=by
  rw [A8l]
  omega
 have e2:(((if x.toNat<y.toNat+c.toNat then 1 else 0:Nat):Nat):Int)=(if x-y-c<0 then 1 else 0):=by
  split<;>split<;>omega
 show K (.tuple #[U ((x.toNat+C3d-y.toNat-c.toNat)%C3d:Nat),U ((if x.toNat<y.toNat+c.toNat then 1 else 0:Nat):Nat)]) h
 rw [e1,e2];exact hK
def Tr(x y:Int):Int:=if x<y then -1 else if x>y then 1 else 0
theorem A8f{h:Heap}{K:VP}{x:Int}(hK:K (.bool false) h):FCall prog Hv #[I x] h K:=by
 refine A3q _ ?_
 unfold A5b
 have:(x != x)=false:=by simp
 rw [this];exact hK
theorem A8e{h:Heap}{K:VP}{x:Int}(hK:K (.bool false) h):FCall prog As #[U x] h K:=by
 refine Uo _ ?_
 unfold To
 have:(x != x)=false:=by simp
 rw [this];exact hK
theorem A9q{h:Heap}{K:VP}{x y:Int}(hK:K (I (Tr x y)) h):FCall prog Xz #[I x,I y] h K:=by
 refine B1i _ _ ?_
 unfold B5p
 refine A8f ⟨_,rfl,A8f ⟨_,rfl,?_⟩⟩
 unfold Tr at hK
 refine B6 (fun h1=>?_) (fun h1=>B6 (fun h2=>?_) (fun h2=>?_))
 ·rw [if_pos h1] at hK;exact hK
 ·rw [if_neg h1,if_pos h2] at hK;exact hK
 ·rw [if_neg h1,if_neg h2] at hK;exact hK
theorem A9p{h:Heap}{K:VP}{x y:Int}(hK:K (I (Tr x y)) h):FCall prog Jg #[U x,U y] h K:=by
 refine A1p _ _ ?_
 unfold A1q
 refine A8e ⟨_,rfl,A8e ⟨_,rfl,?_⟩⟩
 unfold Tr at hK
 refine B6 (fun h1=>?_) (fun h1=>B6 (fun h2=>?_) (fun h2=>?_))
 ·rw [if_pos h1] at hK;exact hK
 ·rw [if_neg h1,if_pos h2] at hK;exact hK
 ·rw [if_neg h1,if_neg h2] at hK;exact hK
theorem Kj{h:Heap}{K:VP}{x y:Int}(hx:0<=x/\x<18446744073709551616)(hy:0<=y/\y<18446744073709551616)(hK:K (.tuple #[U (x*y/18446744073709551616),U (x*y%18446744073709551616)]) h):FCall prog Ei #[U x,U y] h K:=by
 refine B1j _ _ ?_
 unfold B5q
 rw [Ba hx,Ba hy]
 simp only [Ts]
 obtain ⟨b00,b10,b01,b11,hxy⟩:=A2r hx hy (x1:=x/4294967296) (x0:=x%4294967296) (y1:=y/4294967296) (y0:=y%4294967296) (by omega) (by omega) (by omega) (by omega)
 generalize x/4294967296*(y/4294967296)=p11 at *
 generalize x/4294967296*(y%4294967296)=p10 at *
 generalize x%4294967296*(y/4294967296)=p01 at *
 generalize x%4294967296*(y%4294967296)=p00 at *
 rw [C2 (n:=p00) (by omega) (by omega),C2 (n:=p10) (by omega) (by omega),C2 (n:=p01) (by omega) (by omega),C2 (n:=p11) (by omega) (by omega)]
 rw [C2 (n:=p10+p00/4294967296) (by omega) (by omega),Ba (by omega)]
 rw [C2 (n:=(p10+p00/4294967296)%4294967296+p01) (by omega) (by omega)]
 rw [C2 (n:=p11+(p10+p00/4294967296)/4294967296) (by omega) (by omega),C2 (by omega) (by omega),E8]
 have:p11+(p10+p00/4294967296)/4294967296+((p10+p00/4294967296)%4294967296+p01)/4294967296=x*y/18446744073709551616:=by
  rw [hxy];omega
 rw [this];exact hK
theorem R1{h:Heap}{K:VP}{x y c:Int}(hx:0<=x/\x<18446744073709551616)(hy:0<=y/\y<18446744073709551616)(hc:0<=c/\c<18446744073709551616)(hK:K (.tuple #[U ((x*y+c)%18446744073709551616),U ((x*y+c)/18446744073709551616)]) h):FCall prog L7 #[U x,U y,U c] h K:=by
 have hm:0<=x*y/\x*y<=18446744073709551615*18446744073709551615:=⟨C3j hx.1 hy.1,C4j (by omega) (by omega) hy.1 (by decide)⟩
 refine Sv _ _ _ ?_
 unfold Oz
 refine Kj hx hy ⟨_,_,rfl,?_⟩
 refine By (by omega) hc (by omega) ⟨_,_,rfl,?_⟩
 rw [C2 (by omega) (by omega)]
 have e1:(x*y%18446744073709551616+c+0)%18446744073709551616=(x*y+c)%18446744073709551616:=by omega
 have e2:x*y/18446744073709551616+(x*y%18446744073709551616+c+0)/18446744073709551616=(x*y+c)/18446744073709551616:=by omega
 rw [e1,e2];exact hK
theorem B73(a:Array UInt8):({ data:=a }:ByteArray)=bs a.toList:=by simp [bs]
def A8o:List UInt8:=[0,1,2,2,3,3,3,3,4,4,4,4,4,4,4,4,5,5,5,5,5,5,5,5,5,5,5,5,5,5,5,5]++C3c 32 6++C3c 64 7++C3c 128 8
theorem A5x:∀ i,i<256->(A8o[i]?).map UInt8.toNat=some (N3 i):=by decide
theorem Yj{x s:Nat}(h:2^s<=x):N3 x=s+N3 (x/2^s):=by
 have hp:0<2^s:=C50 (by decide)
 have h1:x/2^s≠0:=by
  have:=Nat.div_pos h hp;omega
 have:=Vk (l:=x%2^s) (t:=x/2^s) (j:=s) (Nat.mod_lt _ hp) h1
 rw [Nat.mod_add_div] at this
 exact this
theorem A4i{h:Heap}{K:VP}{x:Nat}(hx:x<18446744073709551616)(hK:K (I (N3 x)) h):FCall prog Qf #[U x] h K:=by
 refine B1k _ ?_
 unfold B5r
 have sh:∀ (y s:Nat),s<=64->Int.fdiv (y:Int) (2^(min ((s:Int)).toNat 64))=((y/2^s:Nat):Int):=by
  intro y s hs
  rw [C34,C38 hs,C58 _ (C3f (C3v (by decide)))]
  simp
 refine ⟨fun l hp=>∃ (y n:Nat),l=[U y,I n]/\hp=h/\y<4294967296/\N3 x=n+N3 y/\n<=32,B6 (fun h1=>?_) (fun h1=>?_),?_⟩
 ·refine ⟨x/2^32,32,?_,rfl,by omega,Yj (by omega),by omega⟩
  rw [show (32:Int)=((32:Nat):Int) from rfl,sh x 32 (by omega)]
 ·exact ⟨x,0,rfl,rfl,by omega,by omega,by omega⟩
 rintro y1 n1 hp ⟨y,n,hl,rfl,hy,hb,hn⟩
 obtain ⟨rfl,rfl⟩:y1=(y:Int)/\n1=(n:Int):=by simpa using hl
 refine ⟨fun l hq=>∃ (y n:Nat),l=[U y,I n]/\hq=hp/\y<65536/\N3 x=n+N3 y/\n<=48,B6 (fun h1=>?_) (fun h1=>?_),?_⟩
 ·refine ⟨y/2^16,n+16,?_,rfl,by omega,by rw [hb,Yj (x:=y) (s:=16) (by omega)];omega,by omega⟩
  rw [show (16:Int)=((16:Nat):Int) from rfl,sh y 16 (by omega),B7 (by omega) (by omega)];rfl
 ·exact ⟨y,n,rfl,rfl,by omega,hb,by omega⟩
 clear hb hy hl
 rintro y1 n1 hp ⟨y,n,hl,rfl,hy,hb,hn⟩
 obtain ⟨rfl,rfl⟩:y1=(y:Int)/\n1=(n:Int):=by simpa using hl
 refine ⟨fun l hq=>∃ (y n:Nat),l=[U y,I n]/\hq=hp/\y<256/\N3 x=n+N3 y/\n<=56,B6 (fun h1=>?_) (fun h1=>?_),?_⟩
 ·refine ⟨y/2^8,n+8,?_,rfl,by omega,by rw [hb,Yj (x:=y) (s:=8) (by omega)];omega,by omega⟩
  rw [show (8:Int)=((8:Nat):Int) from rfl,sh y 8 (by omega),B7 (by omega) (by omega)];rfl
 ·exact ⟨y,n,rfl,rfl,by omega,hb,by omega⟩
 clear hb hy hl
 rintro y1 n1 hp ⟨y,n,hl,rfl,hy,hb,hn⟩
 obtain ⟨rfl,rfl⟩:y1=(y:Int)/\n1=(n:Int):=by simpa using hl
 rw [Ur (by omega) (by omega),C34]
 have ht:=A5x y hy
 cases hc:A8o[y]? with
 | none=>rw [hc] at ht;cases ht
 | some c=>
  rw [hc] at ht
  have hcb:c.toNat=N3 y:=by simpa using ht
  refine ⟨c,⟨by omega,?_⟩,?_⟩
  ·try unfold A4h
   rw [B73,Ii];exact hc
  ·have hbl:N3 y<=8:=Gr (k:=8) (by omega)
   rw [hcb,B7 (n:=((N3 y:Nat):Int)) (by omega) (by omega),B7 (by omega) (by omega),<- Int.natCast_add,<- hb]
   exact hK
theorem Q3{h:Heap}{K:VP}{x:Nat}(hx:x<18446744073709551616)(hK:K (I ((64-N3 x:Nat):Int)) h):FCall prog J4 #[U x] h K:=by
 refine Me _ ?_
 unfold Hf
 refine A4i hx ⟨_,rfl,?_⟩
 have hbl:N3 x<=64:=Gr (k:=64) (by omega)
 rw [B7 (by omega) (by omega)]
 have:(64:Int)-((N3 x:Nat):Int)=((64-N3 x:Nat):Int):=by omega
 rw [this];exact hK
theorem A0u{a b:Int}{s:Nat}(ha:0<=a)(hb:0<=b/\b<2^s)(hab:a*2^s+b<18446744073709551616):bor .u64 (a*2^s) b=a*2^s+b:=by
 have hp:0<(2:Int)^s:=C3v (by decide)
 have h0:0<=a*2^s:=C3j ha (by omega)
 rw [A3a (by omega) (by omega)]
 have e:(a*2^s).toNat=2^s*a.toNat:=by
  rw [Int.toNat_mul ha (by omega),Nat.mul_comm,Int.toNat_pow_of_nonneg (by decide)];rfl
 have hbn:b.toNat<2^s:=by
  have:((2^s:Nat):Int)=(2:Int)^s:=by simp
  omega
 rw [e,A4e hbn,<- e];omega
theorem W7{s:Nat}(hs:s<=64):(2:Int)^s*2^(64-s)=18446744073709551616:=by
 rw [<- C3w,show s+(64-s)=64 by omega];decide
theorem B2e{x:Int}{s:Nat}(hs:s<=64):Int.fdiv x (2^(min s 64))=x/2^s:=by
 rw [C38 hs];exact C58 x (C3f (C3v (by decide)))
theorem Est.exact{B top u2 v1 v2 U V:Int}(e:Est B 1 top u2 0 v1 v2 0 U V){q:Int}(h:q*(v1*B+v2)<=top*B+u2):q*V<=U:=by
 have h1:=e.hU
 have h2:=e.hV
 have e1:U=top*B+u2:=by rw [h1];omega
 have e2:V=v1*B+v2:=by rw [h2];omega
 rw [e1,e2];exact h
section
variable {h:Heap} {K:VP}
theorem A9k{T u2 v1 v2 X Y:Int}{hp:Heap}{J:Int->Heap->Prop}(es:Est 4294967296 1 T u2 0 v1 v2 0 X Y)(_hT:T<18446744073709551616)
 (hJ:∀ q,0<=q->q*Y<=X->X<(q+1)*Y->J q hp):
 ∃ (Inv:Int->Int->Heap->Prop) (mu:Int->Int->Heap->Nat),Inv (T/v1) (T%v1) hp/\
  ∀ q r hp1,Inv q r hp1->(q>=4294967296->Inv q r hp1)/\0<=q/\q<=4294967297/\0<=r/\r<4294967296/\hp1=hp/\
   (q<4294967296->¬ (q*v2>4294967296*r+u2)->J q hp1)/\
   ((q>=4294967296\/q*v2>4294967296*r+u2)->1<=q/\(r+v1>=4294967296->J (q-1) hp1)/\(r+v1<4294967296->Inv (q-1) (r+v1) hp1/\mu (q-1) (r+v1) hp1<mu q r hp1)):=by
 obtain ⟨f1,f2⟩:=es.first
 have hin:=es.init
 have hv0:=es.V0
 have hU0:=es.U0
 have v1r:=es.v1r
 have v2r:=es.v2r
 have u2r:=es.u2r
 have top0:=es.top0
 have hq0:0<=T/v1:=C3x top0 (by omega)
 have hdm:=C3m T v1
 have hm0:=C3q T (show v1≠0 by omega)
 have hm1:=C3u T (show 0<v1 by omega)
 refine ⟨fun q r hp1=>hp1=hp/\0<=q/\q<=4294967297/\0<=r/\r<4294967296/\q*v1+r=T/\X<(q+1)*Y,fun q _ _=>q.toNat,⟨rfl,hq0,by omega,hm0,by omega,by rw [C3l];exact hdm,hin⟩,?_⟩
 rintro q r hp1 ⟨rfl,q0,q1,r0,r1,hqr,hlt⟩
 have key:q*(v1*4294967296+v2)=(T-r)*4294967296+q*v2:=by rw [<- hqr];grind
 refine ⟨fun _=>⟨rfl,q0,q1,r0,r1,hqr,hlt⟩,q0,q1,r0,r1,rfl,fun hb ht=>hJ q q0 (es.exact (by omega)) hlt,fun hbad=>?_⟩
 have hlq:X<q*Y:=by
  rcases hbad with hb|hb
  ·exact es.big hb
  ·exact es.low q0 (by omega)
 have hq1:1<=q:=by
  by_cases hc:1<=q
  ·exact hc
  ·have:q=0:=by omega
   subst this;omega
 have hlt':X<(q-1+1)*Y:=by rw [Int.sub_add_cancel];exact hlq
 have hqr':(q-1)*v1+(r+v1)=T:=by grind
 refine ⟨hq1,fun hr=>?_,fun hr=>⟨⟨rfl,by omega,by omega,by omega,by omega,hqr',hlt'⟩,by show (q-1).toNat<q.toNat;omega⟩⟩
 have key2:(q-1)*(v1*4294967296+v2)=(T-(r+v1))*4294967296+(q-1)*v2:=by rw [<- hqr'];grind
 have hb:(q-1)*v2<=4294967296*v2:=C35 (by omega) v2r.1
 exact hJ (q-1) (by omega) (es.exact (by omega)) hlt'
theorem Qh{hi lo:Int}{y:Nat}(hhi:0<=hi/\hi<y)(hlo:0<=lo/\lo<18446744073709551616)(hy:y<18446744073709551616)
 (hK:K (.tuple #[U ((hi*18446744073709551616+lo)/y),U ((hi*18446744073709551616+lo)%y)]) h):FCall prog Ej #[U hi,U lo,U y] h K:=by
 refine B1l _ _ _ ?_
 unfold B5s
 refine D9 (fun e=>absurd e (by omega)) (fun _=>?_)
 refine B6 (fun e=>absurd e (by omega)) (fun _=>?_)
 refine D9 (fun e=>?_) (fun hne=>?_)
 ·refine B6 (fun e=>absurd e (by omega)) (fun _=>?_)
  refine B6 (fun e=>absurd e (by omega)) (fun _=>?_)
  subst e
  rw [Int.zero_mul,C4h] at hK
  rw [C3n hlo.1,C44 hlo.1,C2 (C3x hlo.1 (by omega)) (C4r (C4z _ hlo.1) hlo.2)]
  exact hK
 refine Q3 hy ⟨_,rfl,?_⟩
 have hy0:y≠0:=by omega
 obtain ⟨hb1,hb2⟩:=Db hy0
 have hb64:N3 y<=64:=Gr (k:=64) (by omega)
 have hb0:1<=N3 y:=by unfold N3;rw [if_neg hy0];omega
 obtain ⟨s,hs⟩:∃ s,s=64-N3 y:=⟨_,rfl⟩
 rw [<- hs]
 have hs64:s<64:=by omega
 have hps:0<(2:Int)^s:=C3v (by decide)
 have hsp:=W7 (s:=s) (by omega)
 have hpt:0<(2:Int)^(64-s):=C3v (by decide)
 have hblen:N3 y=64-s:=by omega
 have hyl:(y:Int)<2^(64-s):=by
  rw [<- hblen]
  have:((y:Nat):Int)<((2^N3 y:Nat):Int):=by omega
  simpa using this
 have hyg:(2:Int)^(63-s)<=y:=by
  have:((2^(N3 y-1):Nat):Int)<=((y:Nat):Int):=by omega
  rw [show N3 y-1=63-s by omega] at this
  simpa using this
 have hp63:(2:Int)^s*2^(63-s)=9223372036854775808:=by
  rw [<- C3w,show s+(63-s)=63 by omega];decide
 have es0:C0 (s:Int)=(s:Int):=C2 (by omega) (by omega)
 have es1:C0 ((64:Int)-s)=((64-s:Nat):Int):=by rw [C2 (by omega) (by omega)];omega
 have hYlt:(y:Int)*2^s<18446744073709551616:=by
  rw [<- hsp,C3l];exact C4f hyl hps
 have hYge:9223372036854775808<=(y:Int)*2^s:=by
  rw [<- hp63,C3l (y:Int)];exact C3e hyg (by omega)
 have eY:C0 ((y:Int)*2^(min s 64))=(y:Int)*2^s:=by rw [C38 (by omega),C2 (by omega) hYlt]
 have hhs:hi*2^s+2^s<=(y:Int)*2^s:=by
  have:=C35 (show hi+1<=(y:Int) by omega) (C3f hps)
  rw [Int.add_mul] at this;omega
 have hhs0:0<=hi*2^s:=C3j hhi.1 (by omega)
 have hlq:0<=lo/2^(64-s)/\lo/2^(64-s)<2^s:=by
  refine ⟨C3x hlo.1 (by omega),C43 hpt ?_⟩
  rw [hsp];exact hlo.2
 have eT:bor .u64 (C0 (hi*2^(min s 64))) (Int.fdiv lo (2^(min (64-s) 64)))=hi*2^s+lo/2^(64-s):=by
  rw [C38 (show s<=64 by omega),C2 hhs0 (by omega),B2e (by omega),A0u hhi.1 hlq (by omega)]
 have eL:C0 (lo*2^(min s 64))=lo*2^s%18446744073709551616:=by rw [C38 (by omega),E8]
 have hL0:0<=lo*2^s%18446744073709551616/\lo*2^s%18446744073709551616<18446744073709551616:=⟨C3q _ (by decide),C3u _ (by decide)⟩
 have hN:(hi*18446744073709551616+lo)*2^s=(hi*2^s+lo/2^(64-s))*18446744073709551616+lo*2^s%18446744073709551616:=by
  have d1:lo*2^s/18446744073709551616=lo/2^(64-s):=by
   rw [<- hsp,C3l lo,Int.mul_ediv_mul_of_pos _ _ hps]
  have d2:=C3m (lo*2^s) 18446744073709551616
  rw [d1] at d2
  grind
 generalize hTT:hi*2^s+lo/2^(64-s)=T at *
 generalize hLL:lo*2^s%18446744073709551616=L at *
 generalize hYY:(y:Int)*2^s=Y at *
 have hT0:0<=T/\T<Y:=by omega
 unfold A1s A1u A1r A1t
 simp only [es0,es1,C34,eY,eT,eL,Ts]
 rw [Ba (by omega),Ba (by omega)]
 have e1:Est 4294967296 1 T (L/4294967296) 0 (Y/4294967296) (Y%4294967296) 0 (T*4294967296+L/4294967296) Y:=
  ⟨by decide,by decide,by omega,by omega,by omega,by omega,by omega,by omega,hT0.1,by omega,by omega⟩
 refine B6 (fun e=>absurd e (by omega)) (fun _=>?_)
 refine B6 (fun e=>absurd e (by omega)) (fun _=>?_)
 refine B6 (fun e=>absurd e (by omega)) (fun _=>?_)
 refine B6 (fun e=>absurd e (by omega)) (fun _=>?_)
 refine B6 (fun e=>absurd e (by omega)) (fun _=>?_)
 have bm:∀ {q w:Int},0<=q->q<=4294967296->0<=w->w<4294967296->0<=q*w/\q*w<18446744073709551616:=by
  intro q w a b c d
  refine ⟨C3j a c,?_⟩
  have:=C4j b (show w<=4294967295 by omega) c (by decide)
  omega
 refine ⟨fun l hp=>∃ q,l=[U q]/\hp=h/\0<=q/\q*Y<=T*4294967296+L/4294967296/\T*4294967296+L/4294967296<(q+1)*Y,?_,?_⟩
 ·obtain ⟨Inv,mu,i0,st⟩:=A9k (hp:=h) (J:=fun q hp=>∃ q',[U q]=[U q']/\hp=h/\0<=q'/\q'*Y<=T*4294967296+L/4294967296/\T*4294967296+L/4294967296<(q'+1)*Y) e1 (by omega) (fun q a b c=>⟨q,rfl,rfl,a,b,c⟩)
  refine ⟨fun l hp=>∃ q r,l=[U q,U r]/\Inv q r hp,fun l hp=>mu (iAt l 0) (iAt l 1) hp,⟨T/(Y/4294967296),T%(Y/4294967296),?_,i0⟩,?_⟩
  ·have dm:=C3m T (Y/4294967296)
   have d0:=C3x hT0.1 (show 0<=Y/4294967296 by omega)
   have d1:T/(Y/4294967296)<=T:=C4z _ hT0.1
   have d2:=C3q T (show Y/4294967296≠0 by omega)
   rw [C3n hT0.1,C2 (n:=T/(Y/4294967296)) d0 (by omega),C3l (T/(Y/4294967296))]
   have d3:=C3j (show 0<=Y/4294967296 by omega) d0
   rw [C2 (n:=Y/4294967296*(T/(Y/4294967296))) d3 (by omega),C2 (by omega) (by omega)]
   have:T-Y/4294967296*(T/(Y/4294967296))=T%(Y/4294967296):=by omega
   rw [this]
  rintro q r hp1 ⟨q',r',hl,hI⟩
  obtain ⟨rfl,rfl⟩:q=q'/\r=r':=by simpa using hl
  obtain ⟨_,q0,q1,r0,r1,rfl,ok,bad⟩:=st q r hp1 hI
  have br:=bm (q:=4294967296) (w:=r) (by omega) (by omega) r0 r1
  refine ⟨fun l hp=>l=[]/\hp=hp1/\(q>=4294967296\/q*(Y%4294967296)>4294967296*r+L/4294967296),B6 (fun h1=>⟨rfl,rfl,.inl h1⟩) (fun h1=>?_),?_⟩
  ·have bq:=bm (q:=q) (w:=Y%4294967296) q0 (by omega) (by omega) (by omega)
   rw [C2 bq.1 bq.2,C2 br.1 br.2,C2 (n:=4294967296*r+L/4294967296) (by omega) (by omega)]
   exact B6 (fun h2=>⟨rfl,rfl,.inr h2⟩) (fun h2=>ok (by omega) h2)
  ·rintro hp2 ⟨_,rfl,hbad⟩
   obtain ⟨g1,g2,g3⟩:=bad hbad
   rw [C2 (n:=r+Y/4294967296) (by omega) (by omega),C2 (n:=q-1) (by omega) (by omega)]
   exact B6 (fun h3=>g2 h3) (fun h3=>⟨⟨_,_,rfl,(g3 (by omega)).1⟩,(g3 (by omega)).2⟩)
 rintro q1 hp3 ⟨q1',hl1,rfl,q10,q1a,q1b⟩
 obtain rfl:q1=q1':=by simpa using hl1
 have hq1B:q1<4294967296:=by
  by_cases hc:q1<4294967296
  ·exact hc
  ·have:=C35 (show 4294967296<=q1 by omega) (show 0<=Y by omega);omega
 have hR1:(q1+1)*Y=q1*Y+Y:=by grind
 have hqY0:0<=q1*Y:=C3j q10 (by omega)
 have eR1:C0 (C0 (C0 (T*4294967296)+L/4294967296)-C0 (q1*Y))=T*4294967296+L/4294967296-q1*Y:=by
  simp only [E8];omega
 simp only [eR1]
 generalize hRR:T*4294967296+L/4294967296-q1*Y=R at *
 have hR0:0<=R/\R<Y:=by omega
 refine B6 (fun e=>absurd e (by omega)) (fun _=>?_)
 have e2:Est 4294967296 1 R (L%4294967296) 0 (Y/4294967296) (Y%4294967296) 0 (R*4294967296+L%4294967296) Y:=
  ⟨by decide,by decide,by omega,by omega,by omega,by omega,by omega,by omega,hR0.1,by omega,by omega⟩
 refine ⟨fun l hp=>∃ q,l=[U q]/\hp=hp3/\0<=q/\q*Y<=R*4294967296+L%4294967296/\R*4294967296+L%4294967296<(q+1)*Y,?_,?_⟩
 ·obtain ⟨Inv,mu,i0,st⟩:=A9k (hp:=hp3) (J:=fun q hp=>∃ q',[U q]=[U q']/\hp=hp3/\0<=q'/\q'*Y<=R*4294967296+L%4294967296/\R*4294967296+L%4294967296<(q'+1)*Y) e2 (by omega) (fun q a b c=>⟨q,rfl,rfl,a,b,c⟩)
  refine ⟨fun l hp=>∃ q r,l=[U r,U q]/\Inv q r hp,fun l hp=>mu (iAt l 1) (iAt l 0) hp,⟨R/(Y/4294967296),R%(Y/4294967296),?_,i0⟩,?_⟩
  ·have dm:=C3m R (Y/4294967296)
   have d0:=C3x hR0.1 (show 0<=Y/4294967296 by omega)
   have d1:R/(Y/4294967296)<=R:=C4z _ hR0.1
   have d2:=C3q R (show Y/4294967296≠0 by omega)
   rw [C3n hR0.1,C2 (n:=R/(Y/4294967296)) d0 (by omega),C3l (R/(Y/4294967296))]
   have d3:=C3j (show 0<=Y/4294967296 by omega) d0
   rw [C2 (n:=Y/4294967296*(R/(Y/4294967296))) d3 (by omega),C2 (by omega) (by omega)]
   have:R-Y/4294967296*(R/(Y/4294967296))=R%(Y/4294967296):=by omega
   rw [this]
  rintro r q hp1 ⟨q',r',hl,hI⟩
  obtain ⟨rfl,rfl⟩:r=r'/\q=q':=by simpa using hl
  obtain ⟨_,q0,q1,r0,r1,rfl,ok,bad⟩:=st q r hp1 hI
  have br:=bm (q:=4294967296) (w:=r) (by omega) (by omega) r0 r1
  refine ⟨fun l hp=>l=[]/\hp=hp1/\(q>=4294967296\/q*(Y%4294967296)>4294967296*r+L%4294967296),B6 (fun h1=>⟨rfl,rfl,.inl h1⟩) (fun h1=>?_),?_⟩
  ·have bq:=bm (q:=q) (w:=Y%4294967296) q0 (by omega) (by omega) (by omega)
   rw [C2 bq.1 bq.2,C2 br.1 br.2,C2 (n:=4294967296*r+L%4294967296) (by omega) (by omega)]
   exact B6 (fun h2=>⟨rfl,rfl,.inr h2⟩) (fun h2=>ok (by omega) h2)
  ·rintro hp2 ⟨_,rfl,hbad⟩
   obtain ⟨g1,g2,g3⟩:=bad hbad
   rw [C2 (n:=r+Y/4294967296) (by omega) (by omega),C2 (n:=q-1) (by omega) (by omega)]
   exact B6 (fun h3=>g2 h3) (fun h3=>⟨⟨_,_,rfl,(g3 (by omega)).1⟩,(g3 (by omega)).2⟩)
 rintro q0 hp6 ⟨q0',hl0,rfl,q00,q0a,q0b⟩
 obtain rfl:q0=q0':=by simpa using hl0
 refine B6 (fun e=>absurd e (by omega)) (fun _=>?_)
 have hq0B:q0<4294967296:=by
  by_cases hc:q0<4294967296
  ·exact hc
  ·have:=C35 (show 4294967296<=q0 by omega) (show 0<=Y by omega);omega
 have hR2:(q0+1)*Y=q0*Y+Y:=by grind
 have hqY1:0<=q0*Y:=C3j q00 (by omega)
 have eR0:C0 (C0 (C0 (R*4294967296)+L%4294967296)-C0 (q0*Y))=R*4294967296+L%4294967296-q0*Y:=by
  simp only [E8];omega
 rw [eR0,C2 (n:=q1*4294967296) (by omega) (by omega),C2 (n:=q1*4294967296+q0) (by omega) (by omega),B2e (by omega)]
 have hfin:(hi*18446744073709551616+lo)*2^s=(q1*4294967296+q0)*(y*2^s)+(R*4294967296+L%4294967296-q0*Y):=by
  rw [hN,hYY]
  have:T*18446744073709551616+L=(T*4294967296+L/4294967296)*4294967296+L%4294967296:=by omega
  rw [this]
  have:T*4294967296+L/4294967296=R+q1*Y:=by omega
  rw [this];grind
 have hfin2:R*4294967296+L%4294967296-q0*Y=(hi*18446744073709551616+lo-(q1*4294967296+q0)*y)*2^s:=by grind
 rw [hfin2,Int.mul_ediv_cancel _ (show (2:Int)^s≠0 by omega)]
 have hr0:0<=hi*18446744073709551616+lo-(q1*4294967296+q0)*y:=by
  by_cases hc:0<=hi*18446744073709551616+lo-(q1*4294967296+q0)*y
  ·exact hc
  ·have:=C35 (show hi*18446744073709551616+lo-(q1*4294967296+q0)*y <= -1 by omega) (C3f hps);omega
 have hr1:hi*18446744073709551616+lo-(q1*4294967296+q0)*y<y:=by
  by_cases hc:hi*18446744073709551616+lo-(q1*4294967296+q0)*y<y
  ·exact hc
  ·have:=C35 (show (y:Int)<=hi*18446744073709551616+lo-(q1*4294967296+q0)*y by omega) (C3f hps);omega
 have hdiv:(hi*18446744073709551616+lo)/y=q1*4294967296+q0:=by
  have:hi*18446744073709551616+lo=(hi*18446744073709551616+lo-(q1*4294967296+q0)*y)+(q1*4294967296+q0)*y:=by omega
  rw [this,C4l _ _ (by omega),C3t hr0 hr1,C4h]
 have hmod:(hi*18446744073709551616+lo)%y=hi*18446744073709551616+lo-(q1*4294967296+q0)*y:=by
  rw [Int.emod_def,hdiv,C3l (y:Int)]
 rw [hdiv,hmod] at hK
 exact hK
end
theorem N0{xs:List Int}(d:Dig b64 xs)(i:Nat):0<=xs.getD i 0/\xs.getD i 0<18446744073709551616:=d.getD (by decide) i
theorem Cr(c:Int):0<=c%18446744073709551616/\c%18446744073709551616<b64:=⟨C3q _ (by decide),C3u _ (by decide)⟩
section
variable {h g:Heap} {K:VP} {A B:Option Addr} {ac bc:Nat}
theorem Cj{xs:List Int}(s:SlI .u64 h A xs)(hc:xs.length<=ac)(hl:xs.length<=10000000000)(hK:∀ m,m<=xs.length->Norm (xs.take m)->val b64 (xs.take m)=val b64 xs->K (.slice A m ac) h):FCall prog H9 #[.slice A xs.length ac] h K:=by
 refine B3e _ _ _ ?_
 unfold B9f
 refine ⟨fun l h'=>∃ m:Nat,l=[I m]/\m<=xs.length/\h'=h/\val b64 (xs.take m)=val b64 xs,fun l _=>(iAt l 0).toNat,⟨xs.length,rfl,C3i _,rfl,by rw [C3h]⟩,?_⟩
 rintro n1 hp ⟨m,hl1,hm,rfl,hv⟩
 obtain rfl:=sI1 hl1
 refine B6 (fun h1=>?_) (fun h1=>?_)
 ·obtain ⟨j,rfl⟩:∃ j,m=j+1:=⟨m-1,by omega⟩
  have e:B5 (((j+1:Nat):Int)-1)=(j:Int):=by rw [B7 (by omega) (by omega)];omega
  rw [e]
  have hv1:=N7 b64 (xs:=xs) (i:=j) (by omega)
  refine s.load rfl (by omega) (by omega) ?_
  rw [C34]
  refine D9 (fun h2=>?_) (fun h2=>?_)
  ·exact ⟨⟨j,rfl,by omega,rfl,by rw [h2] at hv1;omega⟩,by simp only [iAt,C37];omega⟩
  ·refine ⟨⟨by omega,by omega⟩,?_⟩
   rw [G9,C34,C47,C47]
   refine hK (j+1) hm ?_ hv
   rw [Fn (by omega)];exact A0a h2
 ·have:m=0:=by omega
  subst this
  refine ⟨⟨by omega,by omega⟩,?_⟩
  rw [G9,C34,C47,C47]
  exact hK 0 (by omega) Norm.nil hv
theorem O8{xs:List Int}(s:SlI .u64 h A xs)(hd:Dig b64 xs)(hc:xs.length<=ac)(hl:xs.length<=10000000000)(hK:∀ m,m<=xs.length->Mw h A m (val b64 xs)->K (.slice A m ac) h):FCall prog H9 #[.slice A xs.length ac] h K:=by
 refine Cj s hc hl ?_
 intro m hm hn hv
 refine hK m hm ⟨xs.take m,by simp;omega,?_,hd.take m,hn,hv⟩
 have:=s.cut (c:=ac) (l:=0) (m:=m) (by omega) hm hc
 simpa [G9] using this
theorem Ai{w:Int}(hw:0<=w/\w<18446744073709551616)(hK:∀ A m c h',h.le h'->m<=c->Mw h' A m w->K (.slice A m c) h'):FCall prog U6 #[U w] h K:=by
 refine A17 _ ?_
 unfold A18
 refine D9 (fun e=>?_) (fun e=>?_)
 ·subst e;exact hK none 0 0 h (B4 h) (C3i _) Mag.zero
 ·refine Y7 O6 rfl ?_
  intro b hb
  exact ⟨_,_,_,rfl,hK _ _ _ _ (Heap.le_put _ hb) (C3i _) ⟨[w],rfl,SlI.new h b [w] C1 _,Dig.one hw,by simpa [Norm] using e,T3 _ _⟩⟩
theorem J5{x y:Int}{an bn:Nat}(ma:Mw h A an x)(mb:Mw h B bn y)(hl:an<=10000000000)(hK:K (I (Tr x y)) h):FCall prog I5 #[.slice A an ac,.slice B bn bc] h K:=by
 obtain ⟨xs,rfl,sx,dx,nx,rfl⟩:=ma
 obtain ⟨ys,rfl,sy,dy,ny,rfl⟩:=mb
 refine Pr _ _ _ _ _ _ ?_
 unfold Lx
 refine H1 (fun h1=>?_) (fun h1=>?_)
 ·refine A9q ⟨_,rfl,?_⟩
  have:Tr (xs.length:Int) (ys.length:Int)=Tr (val b64 xs) (val b64 ys):=by
   unfold Tr
   by_cases h2:xs.length<ys.length
   ·have:=Hj (by decide) dx dy ny h2
    rw [if_pos (by omega),if_pos this]
   ·have:=Hj (by decide) dy dx nx (by omega)
    rw [if_neg (by omega),if_pos (by omega),if_neg (by omega),if_pos (by omega)]
  rw [this];exact hK
 ·have hlen:xs.length=ys.length:=by omega
  refine ⟨fun l h'=>∃ k:Nat,l=[I ((k:Int)-1)]/\k<=xs.length/\h'=h/\xs.drop k=ys.drop k,fun l _=>(iAt l 0+1).toNat,⟨xs.length,?_,C3i _,rfl,?_⟩,?_⟩
  ·rw [B7 (by omega) (by omega)]
  ·rw [C4y,hlen,C4y]
  rintro i hp ⟨k,hl1,hk,rfl,hd⟩
  obtain rfl:i=(k:Int)-1:=by simpa using hl1
  refine B6 (fun h2=>?_) (fun h2=>?_)
  ·obtain ⟨j,rfl⟩:∃ j,k=j+1:=⟨k-1,by omega⟩
   have e:((j+1:Nat):Int)-1=(j:Int):=by omega
   rw [e]
   refine sx.load rfl (by omega) (by omega) ?_
   refine sy.load rfl (by omega) (by omega) ?_
   rw [C34]
   refine H1 (fun h3=>?_) (fun h3=>?_)
   ·refine sx.load rfl (by omega) (by omega) ?_
    refine sy.load rfl (by omega) (by omega) ?_
    rw [C34]
    refine A9p ⟨_,rfl,B4 _,?_⟩
    have:Tr (xs.getD j 0) (ys.getD j 0)=Tr (val b64 xs) (val b64 ys):=by
     unfold Tr
     by_cases h4:xs.getD j 0<ys.getD j 0
     ·have:=Hi (by decide) dx dy (i:=j) (by omega) (by omega) hd h4
      rw [if_pos h4,if_pos this]
     ·have:=Hi (by decide) dy dx (i:=j) (by omega) (by omega) hd.symm (by omega)
      rw [if_neg h4,if_pos (by omega),if_neg (by omega),if_pos (by omega)]
    rw [this];exact hK
   ·rw [B7 (by omega) (by omega)]
    refine ⟨⟨j,rfl,by omega,rfl,?_⟩,by simp only [iAt,C37];omega⟩
    rw [C45 (show j<xs.length by omega),C45 (show j<ys.length by omega),hd]
    congr 1
    simpa [C4d,show j<xs.length by omega,show j<ys.length by omega] using h3
  ·have hk0:k=0:=by omega
   subst hk0
   simp at hd
   subst hd
   have:Tr (val b64 xs) (val b64 xs)=0:=by unfold Tr;rw [if_neg (by omega),if_neg (by omega)]
   rw [this] at hK;exact hK
theorem Cz{xs:List Int}{an:Nat}(s:SlI .u64 h A xs)(hn:an=xs.length)(hl:xs.length<=10000000000)(hK:∀ A' c' h' g',h.le g'->Priv h' g' C1 1 A' xs.length c' (xs.map (C3y .u64))->K (.slice A' xs.length c') h'):FCall prog Ea #[.slice A an ac] h K:=by
 subst hn
 refine B0b _ _ _ ?_
 unfold B51
 refine Br.of (fun e=>?_) (fun e=>?_)
 ·have hA:A=none:=by simpa using e
  have hx:xs=[]:=by
   rcases s with h0|⟨a,ha,_⟩
   ·simpa using h0
   ·rw [hA] at ha;cases ha
  subst hx
  exact hK none 0 h h (B4 h) (by simpa using Priv.nil _ _ _ _)
 ·refine A8m O6 ?_
  intro b hb
  refine ⟨_,_,_,rfl,?_⟩
  have hle:=Heap.le_put (h:=h) (b:=b) (.cells #[] C1) hb
  refine Ln O6 (Priv.nil _ _ _ _) (ys:=xs.map (C3y .u64)) (by simp) (SlI.mono hle s) (fun v hv=>?_) (by omega) (by omega) ?_
  ·obtain ⟨a,_,rfl⟩:=List.mem_map.1 hv;rfl
  ·intro A' c' h' g' hg hp
   simp only [Nat.zero_add,C4m] at hp ⊢
   exact ⟨_,_,_,rfl,hK _ _ _ _ (B0 hle hg) hp⟩
variable {b:Nat} {e:TypeId} {pre post:List Value}
theorem Gt{xs ys:List Int}{an bn:Nat}(w:Win .u64 h g b e A pre xs post)(hn:an=xs.length)(sy:SlI .u64 g B ys)(hm:bn=ys.length)(dx:Dig b64 xs)(dy:Dig b64 ys)(hle:ys.length<=xs.length)(hfit:val b64 xs+val b64 ys<b64^xs.length)(hl:xs.length<=10000000000)
 (hK:∀ xs' h',xs'.length=xs.length->Dig b64 xs'->val b64 xs'=val b64 xs+val b64 ys->Win .u64 h' g b e A pre xs' post->K (.tuple #[]) h'):FCall prog R8 #[.slice A an ac,.slice B bn bc] h K:=by
 subst hn hm
 refine A3h _ _ _ _ _ _ ?_
 unfold A53
 refine ⟨fun l hp=>∃ (k:Nat) (c:Int) (zs:List Int),l=[U c,I k]/\k<=ys.length/\zs.length=xs.length/\Dig b64 zs/\(0<=c/\c<=1)/\Win .u64 hp g b e A pre zs post/\zs.drop k=xs.drop k/\val b64 (zs.take k)+c*b64^k=val b64 (xs.take k)+val b64 (ys.take k),fun l _=>ys.length-(iAt l 1).toNat,⟨0,0,xs,rfl,by omega,rfl,dx,by omega,w,rfl,by simp [val]⟩,?_⟩
 rintro c i hp ⟨k,c',zs,hli,hk,hzl,hd,hc,wz,hdr,hv⟩
 obtain ⟨rfl,rfl⟩:c=c'/\i=(k:Int):=by simpa using hli
 refine B6 (fun h1=>?_) (fun h1=>?_)
 ·have gy:=N0 dy k
  have gz:=N0 hd k
  have hzz:=E5 hdr
  have vx:=C5 b64 xs k
  have vy:=C5 b64 ys k
  refine (sy.mono wz.le).load rfl (by omega) (by omega) ?_
  refine wz.sl.load hzl.symm (by omega) (by omega) ?_
  simp only [C34]
  refine By gz gy hc ⟨_,_,rfl,?_⟩
  obtain ⟨a,ha,_⟩:=SlV.at wz.sl (i:=k) (by simp;omega)
  refine ⟨a,ha,by omega,by omega,wz.storeN F2 ha (by omega) ?_⟩
  intro h' w'
  rw [B7 (n:=(k:Int)+1) (by omega) (by omega)]
  refine ⟨⟨k+1,_,_,rfl,by omega,by simpa using hzl,hd.set (Cr _),by omega,w',?_,?_⟩,by simp only [iAt,C37,C3b];omega⟩
  ·rw [D5 (by omega)];exact D7 hdr
  ·rw [C9 (by omega),E9,C36,C38 (by omega),C3s,Az,vx,vy,<- hzz]
   grind
 ·have hkk:k=ys.length:=by omega
  subst hkk
  rw [C3h] at hv
  refine ⟨fun l hp=>∃ (k:Nat) (c:Int) (zs:List Int),l=[U c,I k]/\ys.length<=k/\k<=xs.length/\zs.length=xs.length/\Dig b64 zs/\(0<=c/\c<=1)/\Win .u64 hp g b e A pre zs post/\zs.drop k=xs.drop k/\val b64 (zs.take k)+c*b64^k=val b64 (xs.take k)+val b64 ys,fun l _=>xs.length-(iAt l 1).toNat,⟨ys.length,c,zs,rfl,by omega,by omega,hzl,hd,hc,wz,hdr,hv⟩,?_⟩
  clear hv hdr wz hd hzl hc hk h1
  rintro c i hp ⟨k,c',zs,hli,hk0,hk,hzl,hd,hc,wz,hdr,hv⟩
  obtain ⟨rfl,rfl⟩:c=c'/\i=(k:Int):=by simpa using hli
  have hsplit:=F1 b64 zs (i:=k) (by omega)
  have hsplit2:=F1 b64 xs (i:=k) (by omega)
  refine H1 (fun h0=>B6 (fun h1=>?_) (fun h1=>?_)) (fun h0=>?_)
  ·have gz:=N0 hd k
   have hzz:=E5 hdr
   have vx:=C5 b64 xs k
   refine wz.sl.load hzl.symm (by omega) (by omega) ?_
   simp only [C34]
   refine By gz (by omega) hc ⟨_,_,rfl,?_⟩
   obtain ⟨a,ha,_⟩:=SlV.at wz.sl (i:=k) (by simp;omega)
   refine ⟨a,ha,by omega,by omega,wz.storeN F2 ha (by omega) ?_⟩
   intro h' w'
   rw [B7 (n:=(k:Int)+1) (by omega) (by omega)]
   refine ⟨⟨k+1,_,_,rfl,by omega,by omega,by simpa using hzl,hd.set (Cr _),by omega,w',?_,?_⟩,by simp only [iAt,C37,C3b];omega⟩
   ·rw [D5 (by omega)];exact D7 hdr
   ·rw [C9 (by omega),E9,C36,C38 (by omega),C3s,Az,vx,<- hzz]
    grind
  ·exfalso
   have hkk:k=xs.length:=by omega
   subst hkk
   have hc1:c=1:=by omega
   subst hc1
   rw [C3h] at hv
   have:=C7 (by decide) (hd.take xs.length)
   omega
  ·have hc0:c=0:=by omega
   subst hc0
   refine hK zs hp hzl hd ?_ wz
   rw [hsplit,hsplit2,hdr];omega
theorem Cm{xs ys:List Int}{an bn:Nat}(w:Win .u64 h g b e A pre xs post)(hn:an=xs.length)(sy:SlI .u64 g B ys)(hm:bn=ys.length)(dx:Dig b64 xs)(dy:Dig b64 ys)(hle:ys.length<=xs.length)(hfit:val b64 ys<=val b64 xs)(hl:xs.length<=10000000000)
 (hK:∀ xs' h',xs'.length=xs.length->Dig b64 xs'->val b64 xs'=val b64 xs-val b64 ys->Win .u64 h' g b e A pre xs' post->K (.tuple #[]) h'):FCall prog S3 #[.slice A an ac,.slice B bn bc] h K:=by
 subst hn hm
 refine Pl _ _ _ _ _ _ ?_
 unfold Lo
 have key:∀ {z y c:Int},(0<=z/\z<18446744073709551616)->(0<=y/\y<18446744073709551616)->(0<=c/\c<=1)->(z-y-c)%18446744073709551616=z-y-c+18446744073709551616*(if z-y-c<0 then 1 else 0):=by
  intro z y c hz hy hc;split<;>omega
 refine ⟨fun l hp=>∃ (k:Nat) (c:Int) (zs:List Int),l=[U c,I k]/\k<=ys.length/\zs.length=xs.length/\Dig b64 zs/\(0<=c/\c<=1)/\Win .u64 hp g b e A pre zs post/\zs.drop k=xs.drop k/\val b64 (zs.take k)=val b64 (xs.take k)-val b64 (ys.take k)+c*b64^k,fun l _=>ys.length-(iAt l 1).toNat,⟨0,0,xs,rfl,by omega,rfl,dx,by omega,w,rfl,by simp [val]⟩,?_⟩
 rintro c i hp ⟨k,c',zs,hli,hk,hzl,hd,hc,wz,hdr,hv⟩
 obtain ⟨rfl,rfl⟩:c=c'/\i=(k:Int):=by simpa using hli
 refine B6 (fun h1=>?_) (fun h1=>?_)
 ·have gy:=N0 dy k
  have gz:=N0 hd k
  have hzz:=E5 hdr
  have vx:=C5 b64 xs k
  have vy:=C5 b64 ys k
  refine (sy.mono wz.le).load rfl (by omega) (by omega) ?_
  refine wz.sl.load hzl.symm (by omega) (by omega) ?_
  simp only [C34]
  refine Dp gz gy hc ⟨_,_,rfl,?_⟩
  obtain ⟨a,ha,_⟩:=SlV.at wz.sl (i:=k) (by simp;omega)
  refine ⟨a,ha,by omega,by omega,wz.storeN F2 ha (by omega) ?_⟩
  intro h' w'
  rw [B7 (n:=(k:Int)+1) (by omega) (by omega)]
  refine ⟨⟨k+1,_,_,rfl,by omega,by simpa using hzl,hd.set (Cr _),by split<;>omega,w',?_,?_⟩,by simp only [iAt,C37,C3b];omega⟩
  ·rw [D5 (by omega)];exact D7 hdr
  ·rw [C9 (by omega),E9,C36,C38 (by omega),C3s,vx,vy,<- hzz,hv,key gz gy hc]
   grind
 ·have hkk:k=ys.length:=by omega
  subst hkk
  rw [C3h] at hv
  refine ⟨fun l hp=>∃ (k:Nat) (c:Int) (zs:List Int),l=[U c,I k]/\ys.length<=k/\k<=xs.length/\zs.length=xs.length/\Dig b64 zs/\(0<=c/\c<=1)/\Win .u64 hp g b e A pre zs post/\zs.drop k=xs.drop k/\val b64 (zs.take k)=val b64 (xs.take k)-val b64 ys+c*b64^k,fun l _=>xs.length-(iAt l 1).toNat,⟨ys.length,c,zs,rfl,by omega,by omega,hzl,hd,hc,wz,hdr,hv⟩,?_⟩
  clear hv hdr wz hd hzl hc hk h1
  rintro c i hp ⟨k,c',zs,hli,hk0,hk,hzl,hd,hc,wz,hdr,hv⟩
  obtain ⟨rfl,rfl⟩:c=c'/\i=(k:Int):=by simpa using hli
  have hsplit:=F1 b64 zs (i:=k) (by omega)
  have hsplit2:=F1 b64 xs (i:=k) (by omega)
  refine H1 (fun h0=>B6 (fun h1=>?_) (fun h1=>?_)) (fun h0=>?_)
  ·have gz:=N0 hd k
   have hzz:=E5 hdr
   have vx:=C5 b64 xs k
   refine wz.sl.load hzl.symm (by omega) (by omega) ?_
   simp only [C34]
   refine Dp gz (by omega) hc ⟨_,_,rfl,?_⟩
   obtain ⟨a,ha,_⟩:=SlV.at wz.sl (i:=k) (by simp;omega)
   refine ⟨a,ha,by omega,by omega,wz.storeN F2 ha (by omega) ?_⟩
   intro h' w'
   rw [B7 (n:=(k:Int)+1) (by omega) (by omega)]
   refine ⟨⟨k+1,_,_,rfl,by omega,by omega,by simpa using hzl,hd.set (Cr _),by split<;>omega,w',?_,?_⟩,by simp only [iAt,C37,C3b];omega⟩
   ·rw [D5 (by omega)];exact D7 hdr
   ·rw [C9 (by omega),E9,C36,C38 (by omega),C3s,vx,<- hzz,hv,key gz (y:=0) (by omega) hc]
    grind
  ·exfalso
   have hkk:k=xs.length:=by omega
   subst hkk
   have hc1:c=1:=by omega
   subst hc1
   rw [C3h] at hv
   have:=K6 (by decide) (hd.take xs.length)
   rw [C36,C38 (by omega)] at this
   omega
  ·have hc0:c=0:=by omega
   subst hc0
   refine hK zs hp hzl hd ?_ wz
   rw [hsplit,hsplit2,hdr];omega
theorem Yl{x y:Int}{an bn:Nat}(ma:Mw h A an x)(mb:Mw h B bn y)(hab:bn<=an)(hl:an<=4000000000)(hb0:bn≠0)(hK:∀ A' m c' h',h.le h'->m<=c'->Mw h' A' m (x+y)->K (.slice A' m c') h'):
 wpH prog (Instr.makeSlice V3 (I (B5 ((an:Int)+1))) (I (B5 ((an:Int)+1)))) (fun v hp1=>∃ (t20A:Option Addr) (t20n:Nat) (t20c:Nat),v= .slice t20A t20n t20c/\∀ ty,wpH prog (Builtin.copy_ #[V3,V3] ty #[.slice t20A t20n t20c,.slice A an ac]) (fun v1 hp2=>∃ (t23:Int),v1=I t23/\FCall prog R8 #[.slice t20A t20n t20c,.slice B bn bc] hp2 (fun r hp3=>r= .tuple #[]/\FCall prog H9 #[.slice t20A t20n t20c] hp3 (fun r1 hp4=>∃ (t28A:Option Addr) (t28n:Nat) (t28c:Nat),r1= .slice t28A t28n t28c/\K (.slice t28A t28n t28c) hp4))) hp1) h:=by
 obtain ⟨xs,rfl,sx,dx,nx,rfl⟩:=ma
 obtain ⟨ys,rfl,sy,dy,ny,rfl⟩:=mb
 have e1:B5 ((xs.length:Int)+1)=((xs.length+1:Nat):Int):=by rw [B7 (by omega) (by omega)];omega
 rw [e1]
 refine J3 O6 (by omega) (by omega) (by omega) ?_
 intro b hb
 rw [C34]
 refine ⟨_,_,_,rfl,fun ty=>?_⟩
 have w0:=Win.blk .u64 C1 hb (C3c (xs.length+1) 0)
 refine En O6 w0 (by simp) (SlI.mono w0.le sx) rfl (by simp) ?_
 intro h1 w1
 refine ⟨_,rfl,?_⟩
 have hdrop:(C3c (xs.length+1) (0:Int)).drop xs.length=[0]:=by rw [C3p];simp [C49]
 rw [hdrop] at w1
 have hv1:val b64 (xs++[0])=val b64 xs:=by rw [E9];omega
 have hlx:=K6 (by decide) dx
 have hly:=K6 (by decide) dy
 have hpw:=D0 (B:=b64) (by decide) hab
 have hps:b64^(xs.length+1)=b64^xs.length*18446744073709551616:=C3s _ _
 have hpp:=D6 (B:=b64) (by decide) xs.length
 refine Gt w1 (by simp) sy rfl (dx.append (Dig.one (by decide))) dy (by simp;omega) ?_ (by simp;omega) ?_
 ·rw [hv1,C3a,C42,hps];omega
 intro zs h2 hzl hzd hzv w2
 refine ⟨rfl,?_⟩
 have hzl':zs.length=xs.length+1:=by rw [hzl];simp
 rw [<- hzl']
 refine O8 w2.sl hzd (by omega) (by omega) ?_
 intro m hm hM
 rw [hzv,hv1] at hM
 exact ⟨_,_,_,rfl,hK _ _ _ _ w2.le hm hM⟩
theorem T1{x y:Int}{an bn:Nat}(ma:Mw h A an x)(mb:Mw h B bn y)(ha:an<=ac)(hb:bn<=bc)(hl:an<=4000000000)(hl2:bn<=4000000000)(hK:∀ A' m c' h',h.le h'->m<=c'->Mw h' A' m (x+y)->K (.slice A' m c') h'):FCall prog P0 #[.slice A an ac,.slice B bn bc] h K:=by
 refine A1b _ _ _ _ _ _ ?_
 unfold A1c
 refine ⟨fun l h'=>h'=h/\∃ (A1 B1:Option Addr) (n1 n2 c1 c2:Nat) (x1 y1:Int),l=[.slice A1 n1 c1,.slice B1 n2 c2]/\Mw h A1 n1 x1/\Mw h B1 n2 y1/\n2<=n1/\n1<=4000000000/\n1<=c1/\x1+y1=x+y,B6 (fun h1=>?_) (fun h1=>?_),?_⟩
 ·exact ⟨rfl,_,_,_,_,_,_,y,x,rfl,mb,ma,by omega,hl2,hb,C4p _ _⟩
 ·exact ⟨rfl,_,_,_,_,_,_,x,y,rfl,ma,mb,by omega,hl,ha,rfl⟩
 ·rintro A1 n1 c1 B1 n2 c2 hp ⟨rfl,A1',B1',n1',n2',c1',c2',x1,y1,hli,m1,m2,hn,hn1,hc1,hxy⟩
  obtain ⟨⟨rfl,rfl,rfl⟩,rfl,rfl,rfl⟩:(A1=A1'/\n1=n1'/\c1=c1')/\B1=B1'/\n2=n2'/\c2=c2':=by simpa using hli
  rw [<- hxy] at hK
  refine D9 (fun h0=>?_) (fun h0=>?_)
  ·have:=(m2.len_zero (by decide)).2 (by omega)
   subst this
   rw [C4x] at hK
   exact hK _ _ _ _ (B4 _) hc1 m1
  ·refine Hg _ (Yl (ac:=c1) (bc:=c2) m1 m2 hn hn1 (by omega) hK) ?_
   rintro v h' ⟨A2,n2',c2',e2,hx⟩
   exact ⟨A2,n2',c2',e2,hx _⟩
theorem K8{x y:Int}{an bn:Nat}(ma:Mw h A an x)(mb:Mw h B bn y)(ha:an<=ac)(hl:an<=4000000000)(hxy:y<=x)(hK:∀ A' m c' h',h.le h'->m<=c'->Mw h' A' m (x-y)->K (.slice A' m c') h'):FCall prog I9 #[.slice A an ac,.slice B bn bc] h K:=by
 have hbn:bn<=an:=mb.len_le (by decide) (C4r hxy (ma.lt (by decide)))
 refine Nu _ _ _ _ _ _ ?_
 unfold Ij
 refine D9 (fun h0=>?_) (fun h0=>?_)
 ·have:=(mb.len_zero (by decide)).2 (by omega)
  subst this
  rw [Int.sub_zero] at hK
  exact hK _ _ _ _ (B4 _) ha ma
 ·obtain ⟨xs,rfl,sx,dx,nx,rfl⟩:=ma
  obtain ⟨ys,rfl,sy,dy,ny,rfl⟩:=mb
  refine Cz sx rfl (by omega) ?_
  intro A1 c1 h1 g1 l1 p1
  refine ⟨_,_,_,rfl,?_⟩
  obtain ⟨b,post,w1⟩:=p1.win (by rintro rfl;rw [List.length_nil] at hbn;omega)
  refine Cm w1 rfl (sy.mono l1) rfl dx dy hbn hxy (by omega) ?_
  intro zs h2 hzl hzd hzv w2
  refine ⟨rfl,?_⟩
  rw [<- hzl]
  refine O8 w2.sl hzd (by have:=p1.2.1;omega) (by omega) ?_
  intro m hm hM
  rw [hzv] at hM
  exact ⟨_,_,_,rfl,hK _ _ _ _ (B0 l1 w2.le) (by have:=p1.2.1;omega) hM⟩
theorem Gs{zs xs:List Int}{an bn:Nat}{wd:Int}(w:Win .u64 h g b e A pre zs post)(hn:an=zs.length)(sx:SlI .u64 g B xs)(hm:bn=xs.length)(dz:Dig b64 zs)(dx:Dig b64 xs)(hle:zs.length=xs.length)(hw:0<=wd/\wd<18446744073709551616)(hl:xs.length<=10000000000)
 (hK:∀ zs' c h',zs'.length=zs.length->Dig b64 zs'->(0<=c/\c<18446744073709551616)->val b64 zs'+c*b64^zs.length=val b64 zs+val b64 xs*wd->Win .u64 h' g b e A pre zs' post->K (U c) h'):FCall prog Al #[.slice A an ac,.slice B bn bc,U wd] h K:=by
 subst hn hm
 refine Ug _ _ _ _ _ _ _ ?_
 unfold Tc
 refine ⟨fun l hp=>∃ (k:Nat) (c:Int) (us:List Int),l=[U c,I k]/\k<=xs.length/\us.length=zs.length/\Dig b64 us/\(0<=c/\c<18446744073709551616)/\Win .u64 hp g b e A pre us post/\us.drop k=zs.drop k/\val b64 (us.take k)+c*b64^k=val b64 (zs.take k)+val b64 (xs.take k)*wd,fun l _=>xs.length-(iAt l 1).toNat,⟨0,0,zs,rfl,by omega,rfl,dz,by omega,w,rfl,by simp [val]⟩,?_⟩
 rintro c i hp ⟨k,c',us,hli,hk,hul,hd,hc,wz,hdr,hv⟩
 obtain ⟨rfl,rfl⟩:c=c'/\i=(k:Int):=by simpa using hli
 refine B6 (fun h1=>?_) (fun h1=>?_)
 ·have gx:=N0 dx k
  have gz:=N0 hd k
  have hzz:=E5 hdr
  have vx:=C5 b64 xs k
  have vz:=C5 b64 zs k
  have hm:0<=xs.getD k 0*wd/\xs.getD k 0*wd<=18446744073709551615*18446744073709551615:=⟨C3j gx.1 hw.1,C4j (by omega) (by omega) hw.1 (by decide)⟩
  refine (sx.mono wz.le).load rfl (by omega) (by omega) ?_
  rw [C34]
  refine Kj gx hw ⟨_,_,rfl,?_⟩
  generalize hmm:xs.getD k 0*wd=mm at *
  refine By (by omega) hc (by omega) ⟨_,_,rfl,?_⟩
  refine wz.sl.load hul.symm (by omega) (by omega) ?_
  rw [C34]
  refine By gz (by omega) (by omega) ⟨_,_,rfl,?_⟩
  obtain ⟨a,ha,_⟩:=SlV.at wz.sl (i:=k) (by simp;omega)
  refine ⟨a,ha,by omega,by omega,wz.storeN F2 ha (by omega) ?_⟩
  intro h' w'
  rw [B7 (n:=(k:Int)+1) (by omega) (by omega)]
  rw [C2 (n:=mm/18446744073709551616+(mm%18446744073709551616+c+0)/18446744073709551616) (by omega) (by omega)]
  rw [C2 (by omega) (by omega)]
  refine ⟨⟨k+1,_,_,rfl,by omega,by simpa using hul,hd.set (Cr _),by omega,w',?_,?_⟩,by simp only [iAt,C37,C3b];omega⟩
  ·rw [D5 (by omega)];exact D7 hdr
  ·rw [C9 (by omega),E9,C36,C38 (by omega),C3s,vx,vz,<- hzz]
   have key:(us.getD k 0+(mm%18446744073709551616+c+0)%18446744073709551616+0)%18446744073709551616+18446744073709551616*(mm/18446744073709551616+(mm%18446744073709551616+c+0)/18446744073709551616+(us.getD k 0+(mm%18446744073709551616+c+0)%18446744073709551616+0)/18446744073709551616)=us.getD k 0+mm+c:=by omega
   generalize (us.getD k 0+(mm%18446744073709551616+c+0)%18446744073709551616+0)%18446744073709551616=dg at *
   generalize mm/18446744073709551616+(mm%18446744073709551616+c+0)/18446744073709551616+(us.getD k 0+(mm%18446744073709551616+c+0)%18446744073709551616+0)/18446744073709551616=cn at *
   rw [<- hmm] at key
   grind
 ·have hkk:k=xs.length:=by omega
  subst hkk
  rw [C3h,<- hle,C3h,<- hul,C3h] at hv
  exact hK us c hp hul hd hc (by rw [<- hul];exact hv) wz
theorem Id{zs xs:List Int}{an bn:Nat}{wd:Int}(w:Win .u64 h g b e A pre zs post)(hn:an=zs.length)(sx:SlI .u64 g B xs)(hm:bn=xs.length)(dz:Dig b64 zs)(dx:Dig b64 xs)(hle:zs.length=xs.length)(hw:0<=wd/\wd<18446744073709551616)(hl:xs.length<=10000000000)
 (hK:∀ zs' c h',zs'.length=zs.length->Dig b64 zs'->(0<=c/\c<18446744073709551616)->val b64 zs'=val b64 zs-val b64 xs*wd+c*b64^zs.length->Win .u64 h' g b e A pre zs' post->K (U c) h'):FCall prog S2 #[.slice A an ac,.slice B bn bc,U wd] h K:=by
 subst hn hm
 refine Jh _ _ _ _ _ _ _ ?_
 unfold Ez
 refine ⟨fun l hp=>∃ (k:Nat) (c:Int) (us:List Int),l=[U c,I k]/\k<=xs.length/\us.length=zs.length/\Dig b64 us/\(0<=c/\c<18446744073709551616)/\Win .u64 hp g b e A pre us post/\us.drop k=zs.drop k/\val b64 (us.take k)=val b64 (zs.take k)-val b64 (xs.take k)*wd+c*b64^k,fun l _=>xs.length-(iAt l 1).toNat,⟨0,0,zs,rfl,by omega,rfl,dz,by omega,w,rfl,by simp [val]⟩,?_⟩
 rintro c i hp ⟨k,c',us,hli,hk,hul,hd,hc,wz,hdr,hv⟩
 obtain ⟨rfl,rfl⟩:c=c'/\i=(k:Int):=by simpa using hli
 refine B6 (fun h1=>?_) (fun h1=>?_)
 ·have gx:=N0 dx k
  have gz:=N0 hd k
  have hzz:=E5 hdr
  have vx:=C5 b64 xs k
  have vz:=C5 b64 zs k
  have hm:0<=xs.getD k 0*wd/\xs.getD k 0*wd<=18446744073709551615*18446744073709551615:=⟨C3j gx.1 hw.1,C4j (by omega) (by omega) hw.1 (by decide)⟩
  refine (sx.mono wz.le).load rfl (by omega) (by omega) ?_
  rw [C34]
  refine Kj gx hw ⟨_,_,rfl,?_⟩
  generalize hmm:xs.getD k 0*wd=mm at *
  refine By (by omega) hc (by omega) ⟨_,_,rfl,?_⟩
  refine wz.sl.load hul.symm (by omega) (by omega) ?_
  rw [C34]
  refine Dp gz (by omega) (by omega) ⟨_,_,rfl,?_⟩
  obtain ⟨a,ha,_⟩:=SlV.at wz.sl (i:=k) (by simp;omega)
  refine ⟨a,ha,by omega,by omega,wz.storeN F2 ha (by omega) ?_⟩
  intro h' w'
  rw [B7 (n:=(k:Int)+1) (by omega) (by omega)]
  rw [C2 (n:=mm/18446744073709551616+(mm%18446744073709551616+c+0)/18446744073709551616) (by omega) (by omega)]
  rw [C2 (by split<;>omega) (by split<;>omega)]
  refine ⟨⟨k+1,_,_,rfl,by omega,by simpa using hul,hd.set (Cr _),by split<;>omega,w',?_,?_⟩,by simp only [iAt,C37,C3b];omega⟩
  ·rw [D5 (by omega)];exact D7 hdr
  ·rw [C9 (by omega),E9,C36,C38 (by omega),C3s,vx,vz,<- hzz,hv]
   have key:(us.getD k 0-(mm%18446744073709551616+c+0)%18446744073709551616-0)%18446744073709551616=us.getD k 0-mm-c+18446744073709551616*(mm/18446744073709551616+(mm%18446744073709551616+c+0)/18446744073709551616+(if us.getD k 0-(mm%18446744073709551616+c+0)%18446744073709551616-0<0 then 1 else 0)):=by split<;>omega
   rw [key]
   generalize mm/18446744073709551616+(mm%18446744073709551616+c+0)/18446744073709551616+(if us.getD k 0-(mm%18446744073709551616+c+0)%18446744073709551616-0<0 then 1 else 0)=cn at *
   rw [<- hmm]
   grind
 ·have hkk:k=xs.length:=by omega
  subst hkk
  rw [C3h,<- hle,C3h,<- hul,C3h] at hv
  exact hK us c hp hul hd hc (by rw [<- hul];exact hv) wz
end
theorem Vc{x z:Int}{s:Nat}(hs:s<=64)(_hx:0<=x/\x<18446744073709551616)(hz:0<=z/\z<(2:Int)^s):
 bor .u64 z (x*2^s%18446744073709551616)=z+x*2^s%18446744073709551616/\z+x*2^s%18446744073709551616<18446744073709551616/\x*2^s%18446744073709551616=2^s*(x%2^(64-s)):=by
 have hp:=W7 hs
 have hps:0<(2:Int)^s:=C3v (by decide)
 have hpt:0<(2:Int)^(64-s):=C3v (by decide)
 have hz64:z<18446744073709551616:=by
  have:(2:Int)^s*1<=2^s*2^(64-s):=C3e (by omega) (by omega)
  omega
 have em:x*2^s%18446744073709551616=2^s*(x%2^(64-s)):=by
  rw [<- hp,C3l x,Int.mul_emod_mul_of_pos _ _ hps]
 have hm:=Cr (x*2^s)
 have ha0:0<=x%2^(64-s):=C3q _ (by omega)
 have e1:(x*2^s%18446744073709551616).toNat=2^s*(x%2^(64-s)).toNat:=by
  rw [em,Int.toNat_mul (by omega) ha0]
  rw [Int.toNat_pow_of_nonneg (by decide)];rfl
 have hzn:z.toNat<2^s:=by
  have:((2^s:Nat):Int)=(2:Int)^s:=by simp
  omega
 have hor:bor .u64 z (x*2^s%18446744073709551616)=z+x*2^s%18446744073709551616:=by
  rw [A3a ⟨hz.1,hz64⟩ hm,e1,Nat.or_comm,A4e hzn,<- e1]
  omega
 refine ⟨hor,?_,em⟩
 rw [<- hor,A3a ⟨hz.1,hz64⟩ hm]
 have:z.toNat ||| (x*2^s%18446744073709551616).toNat<2^64:=Nat.or_lt_two_pow (by omega) (by have:=hm.2;show _<_;omega)
 omega
theorem Is(k:Nat):b64^k=(2:Int)^(64*k):=by
 rw [show b64=(2:Int)^64 by decide,<- Int.pow_mul]
section
variable {h g:Heap} {K:VP} {A B:Option Addr} {ac bc:Nat}
theorem S0{x:Int}{an s:Nat}(ma:Mw h A an x)(ha:an<=ac)(hl:an<=1000000000)(hs:s<=10000000000)(hK:∀ A' m c' h',h.le h'->m<=c'->Mw h' A' m (x*2^s)->K (.slice A' m c') h'):FCall prog R6 #[.slice A an ac,U s] h K:=by
 have h00:=ma.len_zero (by decide)
 refine Ym _ _ _ _ ?_
 unfold Vm
 refine D9 (fun h0=>?_) (fun h0=>D9 (fun h1=>?_) (fun h1=>?_))
 ·have:=h00.2 (by omega)
  subst this
  rw [Int.zero_mul] at hK
  exact hK _ _ _ _ (B4 _) ha ma
 ·have:s=0:=by omega
  subst this
  rw [Int.pow_zero,Int.mul_one] at hK
  exact hK _ _ _ _ (B4 _) ha ma
 ·obtain ⟨xs,rfl,sx,dx,nx,rfl⟩:=ma
  obtain ⟨k0,hk0⟩:∃ k0,k0=s/64:=⟨_,rfl⟩
  obtain ⟨r,hr⟩:∃ r,r=s%64:=⟨_,rfl⟩
  have ed:B5 (C0 (C4q (s:Int) 64))=(k0:Int):=by
   rw [C3n (by omega),C2 (by omega) (by omega),B7 (by omega) (by omega)];omega
  have em:Int.tmod (s:Int) 64=(r:Int):=by rw [C44 (by omega)];omega
  have er:C0 ((64:Int)-(r:Int))=((64-r:Nat):Int):=by rw [C2 (by omega) (by omega)];omega
  simp only [ed,em,er,C34]
  have e1:B5 (B5 ((xs.length:Int)+k0)+1)=((xs.length+k0+1:Nat):Int):=by rw [B7 (n:=(xs.length:Int)+k0) (by omega) (by omega),B7 (by omega) (by omega)];omega
  rw [e1]
  refine J3 O6 (by omega) (by omega) (by omega) ?_
  intro b hb
  rw [C34]
  refine ⟨_,_,_,rfl,?_⟩
  have hps:0<(2:Int)^r:=C3v (by decide)
  have hpt:0<(2:Int)^(64-r):=C3v (by decide)
  have hpp:=W7 (s:=r) (by omega)
  refine ⟨fun l h'=>∃ (k:Nat) (zs:List Int),l=[I k]/\k<=xs.length/\zs.length=xs.length+k0+1/\Dig b64 zs/\h'=blk .u64 C1 h b zs/\zs.drop (k+k0+1)=C3c (xs.length-k) 0/\zs.getD (k+k0) 0<2^r/\val b64 (zs.take (k+k0+1))=val b64 (xs.take k)*2^s,fun l _=>xs.length-(iAt l 0).toNat,⟨0,_,rfl,by omega,by simp,H0 (by decide) _,rfl,?_,?_,?_⟩,?_⟩
  ·rw [C3p];congr 1;omega
  ·have:(C3c (xs.length+k0+1) (0:Int)).getD (0+k0) 0=0:=by simp [C4d,List.getElem?_replicate];split<;>rfl
   rw [this];exact hps
  ·rw [C4c,Be];simp [val]
  rintro i hp ⟨k,zs,hli,hk,hzl,hd,rfl,hdr,hg,hv⟩
  obtain rfl:=sI1 hli
  have hle:=T0 (k:=.u64) (e:=C1) hb zs
  refine B6 (fun h1=>?_) (fun h1=>?_)
  ·have gx:=N0 dx k
   have gz:=N0 hd (k+k0)
   have vx:=C5 b64 xs k
   have vz:=C5 b64 zs (k+k0)
   have e2:B5 ((k:Int)+k0)=((k+k0:Nat):Int):=by rw [B7 (by omega) (by omega)];omega
   have e3:B5 (((k+k0:Nat):Int)+1)=((k+k0+1:Nat):Int):=by rw [B7 (by omega) (by omega)];omega
   rw [e2,e3]
   refine (sx.mono hle).load rfl (by omega) (by omega) ?_
   refine (Bv .u64 C1 h b zs).load hzl.symm (by omega) (by omega) ?_
   simp only [C34]
   refine B6 (fun e=>absurd e (by omega)) (fun _=>?_)
   refine ⟨_,rfl,by omega,by omega,?_⟩
   obtain ⟨o1,o2,o3⟩:=Vc (s:=r) (by omega) gx ⟨gz.1,hg⟩
   rw [C38 (show r<=64 by omega),E8,o1,B2e (show 64-r<=64 by omega)]
   have hm0:=Cr (xs.getD k 0*2^r)
   refine Da (zs:=zs) (i:=k+k0) F2 (by first|omega|(rw [C3o];omega)) ?_
   refine B6 (fun e=>absurd e (by omega)) (fun _=>?_)
   refine ⟨_,rfl,by omega,by omega,?_⟩
   refine Da (zs:=zs.set (k+k0) (zs.getD (k+k0) 0+xs.getD k 0*2^r%18446744073709551616)) (i:=k+k0+1) F2 (by first|omega|(rw [C3o];omega)) ?_
   have hq:0<=xs.getD k 0/2^(64-r)/\xs.getD k 0/2^(64-r)<2^r:=⟨C3x gx.1 (by omega),C43 hpt (by rw [hpp];exact gx.2)⟩
   have hpr:(2:Int)^r<=9223372036854775808:=by
    have:=D0 (B:=2) (by decide) (show r<=63 by omega)
    have e:(2:Int)^63=9223372036854775808:=by decide
    omega
   rw [B7 (n:=(k:Int)+1) (by omega) (by omega)]
   refine ⟨⟨k+1,(zs.set (k+k0) (zs.getD (k+k0) 0+xs.getD k 0*2^r%18446744073709551616)).set (k+k0+1) (xs.getD k 0/2^(64-r)),rfl,by omega,by simpa using hzl,(hd.set ⟨by omega,o2⟩).set ⟨hq.1,by show _<(18446744073709551616:Int);omega⟩,rfl,?_,?_,?_⟩,by simp only [iAt,C37];omega⟩
   ·rw [show k+1+k0+1=(k+k0+1)+1 by omega,D5 (by omega),D5 (by omega),<- C46,hdr,C3p]
    congr 1
   ·rw [show k+1+k0=k+k0+1 by omega]
    have:((zs.set (k+k0) (zs.getD (k+k0) 0+xs.getD k 0*2^r%18446744073709551616)).set (k+k0+1) (xs.getD k 0/2^(64-r))).getD (k+k0+1) 0=xs.getD k 0/2^(64-r):=by
     rw [C4d,List.getElem?_set_self (by rw [C3o];omega)];rfl
    rw [this];exact hq.2
   ·rw [show k+1+k0+1=(k+k0+1)+1 by omega,C9 (by rw [C3o];omega),E9,C9 (by omega),E9]
    simp only [C36,C3a,C42]
    rw [C38 (show k+k0<=zs.length by omega),C3s,vx]
    rw [vz] at hv
    have hsp:(2:Int)^s=b64^k0*2^r:=by
     rw [Is,<- C3w];congr 1;omega
    have hpk:b64^(k+k0)=b64^k*b64^k0:=C3w _ _ _
    have hdm:=C3m (xs.getD k 0) (2^(64-r))
    have key:xs.getD k 0*2^r%18446744073709551616+18446744073709551616*(xs.getD k 0/2^(64-r))=xs.getD k 0*2^r:=by
     rw [o3,<- hpp,Int.mul_assoc,<- C55]
     have:xs.getD k 0%2^(64-r)+2^(64-r)*(xs.getD k 0/2^(64-r))=xs.getD k 0:=by omega
     rw [this,C3l]
    generalize xs.getD k 0*2^r%18446744073709551616=lo at *
    generalize xs.getD k 0/2^(64-r)=hi at *
    rw [hsp] at hv ⊢
    rw [hpk] at hv ⊢
    have e5:(val b64 (xs.take k)+b64^k*xs.getD k 0)*(b64^k0*2^r)=val b64 (xs.take k)*(b64^k0*2^r)+b64^k*b64^k0*(xs.getD k 0*2^r):=by grind
    rw [e5,<- hv,<- key]
    grind
  ·have hkk:k=xs.length:=by omega
   subst hkk
   rw [C3h,C3g (by omega)] at hv
   rw [<- hzl]
   refine O8 (Bv _ _ _ _ _) hd (C3i _) (by omega) ?_
   intro m hm hM
   rw [hv] at hM
   exact ⟨_,_,_,rfl,hK _ _ _ _ (T0 hb _) hm hM⟩
theorem Es{x:Int}{an s:Nat}(ma:Mw h A an x)(hl:an<=1000000000)(hs:s<=1000000000000)(hK:∀ A' m c' h',h.le h'->m<=c'->Mw h' A' m (x/2^s)->K (.slice A' m c') h'):FCall prog Ak #[.slice A an ac,U s] h K:=by
 have hx0:=ma.nonneg (by decide)
 have hxl:=ma.lt (by decide)
 refine Uc _ _ _ _ ?_
 unfold Sr
 obtain ⟨k0,hk0⟩:∃ k0,k0=s/64:=⟨_,rfl⟩
 obtain ⟨r,hr⟩:∃ r,r=s%64:=⟨_,rfl⟩
 have ed0:C0 (C4q (s:Int) 64)=(k0:Int):=by
  rw [C3n (by omega),C2 (by omega) (by omega)];omega
 have ed1:B5 (k0:Int)=(k0:Int):=B7 (by omega) (by omega)
 have em:Int.tmod (s:Int) 64=(r:Int):=by rw [C44 (by omega)];omega
 have er:C0 ((64:Int)-(r:Int))=((64-r:Nat):Int):=by rw [C2 (by omega) (by omega)];omega
 have en:C0 (an:Int)=(an:Int):=C2 (by omega) (by omega)
 simp only [ed0,ed1,em,er,en,C34]
 have hsp:(2:Int)^s=b64^k0*2^r:=by
  rw [Is,<- C3w];congr 1;omega
 refine B6 (fun h1=>?_) (fun h1=>?_)
 ·have:x/2^s=0:=by
   apply C3t hx0
   rw [hsp]
   have t1:=D0 (B:=b64) (by decide) (show an<=k0 by omega)
   have t2:b64^k0*1<=b64^k0*2^r:=C3e (by have:0<(2:Int)^r:=C3v (by decide);omega) (C3f (D6 (by decide) _))
   omega
  rw [this] at hK
  exact hK _ _ _ _ (B4 _) (C3i _) Mag.zero
 ·obtain ⟨xs,rfl,sx,dx,nx,rfl⟩:=ma
  have e1:B5 ((xs.length:Int)-k0)=((xs.length-k0:Nat):Int):=by rw [B7 (by omega) (by omega)];omega
  rw [e1]
  refine J3 O6 (by omega) (by omega) (by omega) ?_
  intro b hb
  rw [C34]
  refine ⟨_,_,_,rfl,?_⟩
  have hp:0<(2:Int)^r:=C3v (by decide)
  have hps:=W7 (s:=r) (by omega)
  have hpt:0<(2:Int)^(64-r):=C3v (by decide)
  have hwl:(xs.drop k0).length=xs.length-k0:=C39
  have hgw:∀ i,(xs.drop k0).getD i 0=xs.getD (k0+i) 0:=fun i=>A0k
  refine ⟨fun l h'=>∃ (k:Nat) (zs:List Int),l=[I k]/\k<=xs.length-k0/\zs.length=xs.length-k0/\Dig b64 zs/\h'=blk .u64 C1 h b zs/\2^r*val b64 (zs.take k)+(xs.drop k0).getD 0 0%2^r=val b64 ((xs.drop k0).take k)+b64^k*((xs.drop k0).getD k 0%2^r),fun l _=>xs.length-(iAt l 0).toNat,⟨0,_,rfl,by omega,by simp,H0 (by decide) _,rfl,by simp [val]⟩,?_⟩
  rintro i hp1 ⟨k,zs,hli,hk,hzl,hd,rfl,hv⟩
  obtain rfl:=sI1 hli
  have hle:∀ zs,h.le (blk .u64 C1 h b zs):=fun zs=>T0 (k:=.u64) (e:=C1) hb zs
  have gz:=N0 (dx.drop k0) k
  refine B6 (fun h2=>?_) (fun h2=>?_)
  ·have e2:B5 ((k:Int)+k0)=((k0+k:Nat):Int):=by rw [B7 (by omega) (by omega)];omega
   have e3:B5 (((k0+k:Nat):Int)+1)=((k0+(k+1):Nat):Int):=by rw [B7 (by omega) (by omega)];omega
   rw [e2,e3]
   refine (sx.mono (hle zs)).load rfl (by omega) (by omega) ?_
   refine B6 (fun e=>absurd e (by omega)) (fun _=>?_)
   refine ⟨_,rfl,by omega,by omega,?_⟩
   simp only [C34]
   rw [<- hgw k,B2e (show r<=64 by omega)]
   have hq0:0<=(xs.drop k0).getD k 0/2^r:=C3x gz.1 (by omega)
   have hq1:(xs.drop k0).getD k 0/2^r<2^(64-r):=by
    apply C43 hp
    rw [C3l,hps];exact gz.2
   have hpt2:(2:Int)^(64-r)<=18446744073709551616:=by
    rw [<- hps]
    have:=C35 (show 1<=(2:Int)^r by omega) (C3f hpt);omega
   refine Da (zs:=zs) (i:=k) F2 (by first|omega|(rw [C3o];omega)) ?_
   have d1:Dig b64 (zs.set k ((xs.drop k0).getD k 0/2^r)):=hd.set ⟨hq0,by show _<(18446744073709551616:Int);omega⟩
   have l1:(zs.set k ((xs.drop k0).getD k 0/2^r)).length=xs.length-k0:=by rw [C3o];exact hzl
   have g1:(zs.set k ((xs.drop k0).getD k 0/2^r)).getD k 0=(xs.drop k0).getD k 0/2^r:=by simp [C4d,show k<zs.length by omega]
   have vr:=C5 b64 (xs.drop k0) k
   have fin:∀ z:Int,2^r*z=(xs.drop k0).getD k 0-(xs.drop k0).getD k 0%2^r+18446744073709551616*((xs.drop k0).getD (k+1) 0%2^r)->
    2^r*val b64 ((zs.set k z).take (k+1))+(xs.drop k0).getD 0 0%2^r=val b64 ((xs.drop k0).take (k+1))+b64^(k+1)*((xs.drop k0).getD (k+1) 0%2^r):=by
    intro z ez
    rw [C9 (by omega),E9,C36,C38 (by omega),vr,C3s]
    have e1:2^r*(val b64 (zs.take k)+b64^k*z)=2^r*val b64 (zs.take k)+b64^k*(2^r*z):=by grind
    rw [e1,ez]
    grind
   have hdm:=C3m ((xs.drop k0).getD k 0) (2^r)
   have ek1:B5 ((k:Int)+1)=((k+1:Nat):Int):=by rw [B7 (by omega) (by omega)];omega
   rw [ek1]
   refine B6 (fun h3=>?_) (fun h3=>?_)
   ·have ld:=(Bv .u64 C1 h b (zs.set k ((xs.drop k0).getD k 0/2^r)))
    obtain ⟨aa,haa,hcc⟩:=SlV.at ld (i:=k) (by simp;omega)
    refine ⟨aa,haa,by omega,by omega,(xs.drop k0).getD k 0/2^r,?_,?_⟩
    ·rw [C51,hcc]
     congr 1
     simp only [List.getElem_map]
     congr 1
     simp
    refine (sx.mono (hle _)).load rfl (by omega) (by omega) ?_
    refine B6 (fun e=>absurd e (by omega)) (fun _=>?_)
    refine ⟨_,rfl,by omega,by omega,?_⟩
    simp only [C34]
    rw [<- hgw (k+1)]
    have gr:=N0 (dx.drop k0) (k+1)
    obtain ⟨o1,o2,o3⟩:=Vc (s:=64-r) (by omega) gr ⟨hq0,hq1⟩
    rw [C38 (show 64-r<=64 by omega),E8,o1]
    refine Da (zs:=zs.set k ((xs.drop k0).getD k 0/2^r)) (i:=k) F2 (by first|omega|(rw [C3o];omega)) ?_
    rw [List.set_set]
    have hm0:=Cr ((xs.drop k0).getD (k+1) 0*2^(64-r))
    refine ⟨⟨k+1,zs.set k ((xs.drop k0).getD k 0/2^r+(xs.drop k0).getD (k+1) 0*2^(64-r)%18446744073709551616),rfl,by omega,by simpa using hzl,hd.set ⟨by omega,o2⟩,rfl,fin _ ?_⟩,by simp only [iAt,C37];omega⟩
    rw [o3,show 64-(64-r)=r by omega,C55,<- Int.mul_assoc,hps]
    omega
   ·have e0:(xs.drop k0).getD (k+1) 0=0:=by simp only [C4d,C4n (show (xs.drop k0).length<=k+1 by omega)];rfl
    refine ⟨⟨k+1,zs.set k ((xs.drop k0).getD k 0/2^r),rfl,by omega,l1,d1,rfl,fin _ ?_⟩,by simp only [iAt,C37];omega⟩
    rw [e0,Int.zero_emod,C4w,C4x];omega
  ·have hkr:k=xs.length-k0:=by omega
   subst hkr
   have e0:(xs.drop k0).getD (xs.length-k0) 0=0:=by simp only [C4d,C4n (show (xs.drop k0).length<=xs.length-k0 by omega)];rfl
   rw [e0,Int.zero_emod,C4w,C4x,C3g (by omega),C3g (by omega)] at hv
   have hr0:=C3q ((xs.drop k0).getD 0 0) (show (2:Int)^r≠0 by omega)
   have hr1:=C3u ((xs.drop k0).getD 0 0) hp
   have hvz:val b64 xs/2^s=val b64 zs:=by
    have sp:=F1 b64 xs (i:=k0) (by omega)
    have t1:=K6 (by decide) (dx.take k0)
    have t2:=C7 (by decide) (dx.take k0)
    rw [C36,C38 (by omega)] at t1
    rw [hsp,<- Int.ediv_ediv_of_nonneg (C3f (D6 (by decide) _)),sp,Int.add_mul_ediv_left _ _ (by have:=D6 (B:=b64) (by decide) k0;omega),C3t t2 t1,C4h,<- hv,C4p,Int.add_mul_ediv_left _ _ (by omega),C3t hr0 hr1,C4h]
   rw [<- hzl]
   refine O8 (Bv _ _ _ _ _) hd (C3i _) (by omega) ?_
   intro m hm hM
   rw [<- hvz] at hM
   exact ⟨_,_,_,rfl,hK _ _ _ _ (T0 hb _) hm hM⟩
end
theorem Bp(B:Int)(xs:List Int)(n:Nat):val B (xs++C3c n 0)=val B xs:=by rw [F8,Be];omega
theorem Ki{xs:List Int}{k:Nat}(h:Norm xs)(hk:k<xs.length):Norm (xs.drop k):=by
 unfold Norm at *
 rwa [List.getLast?_drop,if_neg (by omega)]
theorem Mw.of{h:Heap}{A:Option Addr}{xs:List Int}(s:SlI .u64 h A xs)(d:Dig b64 xs)(n:Norm xs):Mw h A xs.length (val b64 xs):=⟨xs,rfl,s,d,n,rfl⟩
theorem Ye{k:IntKind}{h:Heap}{A:Option Addr}{xs:List Int}(s:SlI k h A xs){c l:Nat}(hl:l<=xs.length)(hc:xs.length<=c):SlI k h (K0 A c l 1) (xs.drop l):=by
 have:=s.cut (c:=c) (l:=l) (m:=xs.length) hl (C3i _) hc
 rwa [C3g (by rw [C39];omega)] at this
theorem Hy{k:IntKind}{h:Heap}{A:Option Addr}{xs:List Int}(s:SlI k h A xs){c m:Nat}(hm:m<=xs.length)(hc:xs.length<=c):SlI k h A (xs.take m):=by
 have:=s.cut (c:=c) (l:=0) (m:=m) (by omega) hm hc
 simpa [G9] using this
theorem Af{h:Heap}{K:VP}{A:Option Addr}{ac n:Nat}{v:Int}{xs:List Int}(s:SlI .u64 h A xs)(hd:Dig b64 xs)(hn:n=xs.length)(hv:val b64 xs=v)(hc:n<=ac)(hl:n<=10000000000)(hK:∀ m,m<=n->Mw h A m v->K (.slice A m ac) h):FCall prog H9 #[.slice A n ac] h K:=by
 subst hn hv
 exact O8 s hd hc hl hK
def B9y(N:Nat):Prop:=∀ {h:Heap} {K:VP} {A B:Option Addr} {ac bc an bn:Nat} {x y:Int},an+bn<=N->Mw h A an x->Mw h B bn y->an<=ac->bn<=bc->an<=1000000000->bn<=1000000000->
 (∀ A' m c' h',h.le h'->m<=c'->Mw h' A' m (x*y)->K (.slice A' m c') h')->FCall prog D4 #[.slice A an ac,.slice B bn bc] h K
section
variable {h g:Heap} {K:VP} {A B:Option Addr} {ac bc:Nat}
theorem B8g{xs ys:List Int}{b:Nat}(hb:h b=none)(sx:SlI .u64 h A xs)(dx:Dig b64 xs)(sy:SlI .u64 h B ys)(dy:Dig b64 ys)(hl:xs.length<=1000000000)(hl2:ys.length<=1000000000)
 (hK:∀ A' m c' h',h.le h'->m<=c'->Mw h' A' m (val b64 xs*val b64 ys)->K (.slice A' m c') h'):
 U9 prog K A xs.length ac B ys.length (some ⟨b,0,none⟩) (xs.length+ys.length) (xs.length+ys.length) (blk .u64 C1 h b (C3c (xs.length+ys.length) 0)):=by
 unfold U9
 refine ⟨fun l hp=>∃ (k:Nat) (zs:List Int),l=[I k]/\k<=ys.length/\zs.length=xs.length+ys.length/\Dig b64 zs/\Win .u64 hp h b C1 (some ⟨b,0,none⟩) [] zs []/\zs.drop (k+xs.length)=C3c (ys.length-k) 0/\val b64 (zs.take (k+xs.length))=val b64 xs*val b64 (ys.take k),fun l _=>ys.length-(iAt l 0).toNat,⟨0,_,rfl,by omega,by simp,H0 (by decide) _,Win.blk .u64 C1 hb _,?_,?_⟩,?_⟩
 ·rw [C3p];congr 1;omega
 ·rw [C4c,Be];simp [val]
 rintro i hp ⟨k,zs,hli,hk,hzl,hd,w,hdr,hv⟩
 obtain rfl:=sI1 hli
 refine B6 (fun h1=>?_) (fun h1=>?_)
 ·have gy:=N0 dy k
  have vy:=C5 b64 ys k
  have e1:B5 ((k:Int)+xs.length)=((k+xs.length:Nat):Int):=by rw [B7 (by omega) (by omega)];omega
  rw [e1]
  refine (sy.mono w.le).load rfl (by omega) (by omega) ?_
  simp only [C34]
  refine ⟨⟨by omega,by omega⟩,⟨by omega,by omega⟩,?_⟩
  have hwl:((zs.drop k).take (k+xs.length-k)).length=xs.length:=by rw [C36,C39];omega
  refine Gs (w.sub (l:=k) (m:=k+xs.length) (c:=xs.length+ys.length) (by omega) (by omega) (by omega)) (by rw [hwl];omega) sx rfl ((hd.drop k).take _) dx hwl gy (by omega) ?_
  intro ws c h' hwsl hwsd hc hwv w'
  rw [hwl] at hwsl
  have w2:=w.whole (l:=k) (m:=k+xs.length) (by omega) (by omega) (by omega) w'
  refine ⟨_,rfl,_,rfl,by omega,by omega,?_⟩
  have hl3:(zs.take k++ws++zs.drop (k+xs.length)).length=xs.length+ys.length:=by
   simp only [C3a,C36,C39];omega
  refine w2.storeN (i:=k+xs.length) F2 rfl (by omega) ?_
  intro h4 w4
  rw [B7 (n:=(k:Int)+1) (by omega) (by omega)]
  have htk:(zs.take k++ws++zs.drop (k+xs.length)).take (k+xs.length)=zs.take k++ws:=by
   apply C52
   simp only [C3a,C36];omega
  have hdk:(zs.take k++ws++zs.drop (k+xs.length)).drop (k+xs.length)=zs.drop (k+xs.length):=by
   apply C54
   simp only [C3a,C36];omega
  refine ⟨⟨k+1,_,rfl,by omega,by rw [C3o];exact hl3,(((hd.take k).append hwsd).append (hd.drop _)).set hc,w4,?_,?_⟩,by simp only [iAt,C37];omega⟩
  ·rw [show k+1+xs.length=(k+xs.length)+1 by omega,D5 (by omega),<- C46,hdk,hdr,C3p]
   congr 1
  ·rw [show k+1+xs.length=(k+xs.length)+1 by omega,C9 (by omega),htk,E9,F8,vy]
   simp only [C3a,C36]
   rw [C38 (by omega),hwsl,C3w]
   have hs1:val b64 (zs.take (k+xs.length))=val b64 (zs.take k)+b64^k*val b64 ((zs.drop k).take (k+xs.length-k)):=by
    rw [show k+xs.length-k=xs.length by omega,List.take_add,F8,C36,C38 (by omega)]
   rw [hwl] at hwv
   rw [hs1] at hv
   grind
 ·have hkk:k=ys.length:=by omega
  subst hkk
  rw [C3h,C3g (by omega)] at hv
  rw [<- hzl]
  refine O8 w.sl hd (C3i _) (by omega) ?_
  intro m hm hM
  rw [hv] at hM
  exact ⟨_,_,_,rfl,hK _ _ _ _ w.le hm hM⟩
theorem Na{x y:Int}{an bn N:Nat}(ih:B9y N)(hN:2*bn<=N)(ma:Mw h A an x)(mb:Mw h B bn y)(ha:an<=ac)(hbc:bn<=bc)(hl:an<=1000000000)(hb0:0<bn)(hba:bn<=an)(hK:∀ A' m c' h',h.le h'->m<=c'->Mw h' A' m (x*y)->K (.slice A' m c') h'):FCall prog Bh #[.slice A an ac,.slice B bn bc] h K:=by
 have hy0:=mb.nonneg (by decide)
 have hylt:=mb.lt (by decide)
 obtain ⟨xs,rfl,sx,dx,nx,rfl⟩:=ma
 refine Pm _ _ _ _ _ _ ?_
 unfold Lp
 have e1:B5 ((xs.length:Int)+bn)=((xs.length+bn:Nat):Int):=by rw [B7 (by omega) (by omega)];omega
 rw [e1]
 refine J3 O6 (by omega) (by omega) (by omega) ?_
 intro b hb
 rw [C34]
 refine ⟨_,_,_,rfl,?_⟩
 refine ⟨fun l hp=>∃ (k:Nat) (zs:List Int) (g:Heap),l=[I k]/\k<=xs.length+bn/\h.le g/\zs.length=xs.length+bn/\Dig b64 zs/\Win .u64 hp g b C1 (some ⟨b,0,none⟩) [] zs []/\val b64 zs=val b64 (xs.take k)*y,fun l _=>xs.length+bn-(iAt l 0).toNat,⟨0,_,h,rfl,by omega,B4 h,by simp,H0 (by decide) _,Win.blk .u64 C1 hb _,by rw [Be];simp [val]⟩,?_⟩
 rintro i hp ⟨k,zs,g,hli,hk,lg,hzl,hd,w,hv⟩
 obtain rfl:=sI1 hli
 refine B6 (fun h1=>?_) (fun h1=>?_)
 ·have e2:B5 ((k:Int)+bn)=((k+bn:Nat):Int):=by rw [B7 (by omega) (by omega)];omega
  rw [e2]
  obtain ⟨en,hen⟩:∃ en,en=min xs.length (k+bn):=⟨_,rfl⟩
  have e3:(if (xs.length:Int)<((k+bn:Nat):Int) then (xs.length:Int) else ((k+bn:Nat):Int))=(en:Int):=by split<;>omega
  rw [e3]
  simp only [C34]
  refine ⟨⟨by omega,by omega⟩,⟨by omega,by omega⟩,⟨by omega,by omega⟩,?_⟩
  have hpl:((xs.drop k).take (en-k)).length=en-k:=by rw [C36,C39];omega
  have sp:SlI .u64 g (K0 A ac k 1) ((xs.drop k).take (en-k)):=(sx.mono lg).cut (c:=ac) (l:=k) (m:=en) (by omega) (by omega) ha
  have dp:Dig b64 ((xs.drop k).take (en-k)):=(dx.drop k).take _
  have hx0:=C7 (by decide) dx
  have goal:∀ m,m<=en-k->Norm (((xs.drop k).take (en-k)).take m)->val b64 (((xs.drop k).take (en-k)).take m)=val b64 ((xs.drop k).take (en-k))->
   FCall prog D4 #[.slice (K0 A ac k 1) m (ac-k),.slice B bn bc] hp (fun r1 hp3=>∃ (t38A:Option Addr) (t38n:Nat) (t38c:Nat),r1= .slice t38A t38n t38c/\Heap.le hp hp3/\FCall prog R8 #[.slice (K0 (some ⟨b,0,none⟩) (xs.length+bn) k 1) (xs.length+bn-k) (xs.length+bn-k),.slice t38A t38n t38c] hp3 (fun r2 hp4=>r2= .tuple #[]/\(∃ (k_1:Nat) (zs:List Int) (g:Heap),[I ((k+bn:Nat):Int)]=[I k_1]/\k_1<=xs.length+bn/\h.le g/\zs.length=xs.length+bn/\Dig b64 zs/\Win .u64 hp4 g b C1 (some ⟨b,0,none⟩) [] zs []/\val b64 zs=val b64 (xs.take k_1)*y)/\xs.length+bn-(iAt [I ((k+bn:Nat):Int)] 0).toNat<xs.length+bn-(iAt [I k] 0).toNat)):=by
   intro m hm hnm hvm
   have Mp:Mw g (K0 A ac k 1) m (val b64 ((xs.drop k).take (en-k))):=⟨((xs.drop k).take (en-k)).take m,by rw [C36];omega,Hy sp (c:=ac) (by omega) (by omega),dp.take m,hnm,hvm⟩
   refine w.call ?_
   refine ih (by omega) Mp (mb.mono lg) (by omega) hbc (by omega) (by omega) ?_
   intro A' m' c' g2 l2 hc2 M2 h3 w3
   refine ⟨_,_,_,rfl,?_,?_⟩
   ·rw [w.eq,w3.eq]
    intro kk o hk2
    by_cases hkb:kk=b
    ·subst hkb;rw [C3] at hk2 ⊢;exact hk2
    ·rw [B8 _ _ hkb] at hk2 ⊢;exact l2 kk o hk2
   obtain ⟨ps,hpl2,sps,dps,nps,hpv⟩:=M2
   have hsp:=F1 b64 zs (i:=k) (by omega)
   have hz0:=C7 (by decide) (hd.take k)
   have htk:xs.take en=xs.take k++(xs.drop k).take (en-k):=by
    have:=List.take_add (l:=xs) (i:=k) (j:=en-k)
    rwa [show k+(en-k)=en by omega] at this
   have hvt:val b64 (xs.take en)=val b64 (xs.take k)+b64^k*val b64 ((xs.drop k).take (en-k)):=by
    rw [htk,F8,C36,C38 (by omega)]
   have hTot:val b64 zs+b64^k*val b64 ps=val b64 (xs.take en)*y:=by
    rw [hv,hpv,hvt];grind
   have hTl:val b64 (xs.take en)*y<b64^(xs.length+bn):=by
    have t1:=K6 (by decide) (dx.take en)
    have t2:=C7 (by decide) (dx.take en)
    rw [C36,C38 (by omega)] at t1
    have t3:val b64 (xs.take en)*y<=b64^en*y:=C35 (by omega) hy0
    have t4:b64^en*y<b64^en*b64^bn:=C4f hylt (D6 (by decide) en)
    rw [<- C3w] at t4
    have t5:=D0 (B:=b64) (by decide) (show en+bn<=xs.length+bn by omega)
    omega
   have hfit:val b64 (zs.drop k)+val b64 ps<b64^(xs.length+bn-k):=by
    have e5:b64^(xs.length+bn)=b64^k*b64^(xs.length+bn-k):=by rw [<- C3w];congr 1;omega
    by_cases hc:val b64 (zs.drop k)+val b64 ps<b64^(xs.length+bn-k)
    ·exact hc
    ·have:=C3e (show b64^(xs.length+bn-k)<=val b64 (zs.drop k)+val b64 ps by omega) (C3f (D6 (B:=b64) (by decide) k))
     rw [C55] at this
     omega
   have hzd0:=C7 (by decide) (hd.drop k)
   have hpn:ps.length<=xs.length+bn-k:=by
    have Mps:Mw g2 A' ps.length (val b64 ps):=⟨ps,rfl,sps,dps,nps,rfl⟩
    exact Mps.len_le (by decide) (by omega)
   have ws:=w3.sub (l:=k) (m:=xs.length+bn) (c:=xs.length+bn) (by omega) (by omega) (by omega)
   have hwd:(zs.drop k).take (xs.length+bn-k)=zs.drop k:=C3g (by rw [C39];omega)
   have hwl:(zs.drop k).length=xs.length+bn-k:=by rw [C39];omega
   rw [hwd] at ws
   refine Gt ws hwl.symm sps hpl2 (hd.drop k) dps (by omega) (by rw [hwl];exact hfit) (by omega) ?_
   intro us h5 hul hud huv w5
   have w6:=w3.whole (l:=k) (m:=xs.length+bn) (by omega) (by omega) (by omega) w5
   refine ⟨rfl,⟨k+bn,_,g2,rfl,by omega,B0 lg l2,?_,((hd.take k).append hud).append (hd.drop _),w6,?_⟩,by simp only [iAt,C37];omega⟩
   ·simp only [C3a,C36,C39];omega
   ·rw [C40 (by omega),C4o,F8,C36,C38 (by omega),huv]
    have:xs.take (k+bn)=xs.take en:=by
     rw [hen]
     by_cases hc:xs.length<=k+bn
     ·rw [C38 hc,C3h,C3g hc]
     ·rw [Nat.min_eq_right (by omega)]
    rw [this,<- hTot,hsp];grind
  have tr:=Cj (K:=fun r hp2=>∃ (t36A:Option Addr) (t36n:Nat) (t36c:Nat),r= .slice t36A t36n t36c/\Heap.le hp hp2/\FCall prog D4 #[.slice t36A t36n t36c,.slice B bn bc] hp2 (fun r1 hp3=>∃ (t38A:Option Addr) (t38n:Nat) (t38c:Nat),r1= .slice t38A t38n t38c/\Heap.le hp2 hp3/\FCall prog R8 #[.slice (K0 (some ⟨b,0,none⟩) (xs.length+bn) k 1) (xs.length+bn-k) (xs.length+bn-k),.slice t38A t38n t38c] hp3 (fun r2 hp4=>r2= .tuple #[]/\(∃ (k_1:Nat) (zs:List Int) (g:Heap),[I ((k+bn:Nat):Int)]=[I k_1]/\k_1<=xs.length+bn/\h.le g/\zs.length=xs.length+bn/\Dig b64 zs/\Win .u64 hp4 g b C1 (some ⟨b,0,none⟩) [] zs []/\val b64 zs=val b64 (xs.take k_1)*y)/\xs.length+bn-(iAt [I ((k+bn:Nat):Int)] 0).toNat<xs.length+bn-(iAt [I k] 0).toNat))) (ac:=ac-k) (sp.mono w.le) (by omega) (by omega) (fun m hm hnm hvm=>⟨_,_,_,rfl,B4 _,goal m (by omega) hnm hvm⟩)
  rw [hpl] at tr
  exact tr
 ·have htl:xs.take k=xs:=C3g (by omega)
  rw [htl] at hv
  rw [<- hzl]
  refine O8 w.sl hd (C3i _) (by omega) ?_
  intro m hm hM
  rw [hv] at hM
  exact ⟨_,_,_,rfl,hK _ _ _ _ (B0 lg w.le) hm hM⟩
theorem C2x{X0 X1 Y0 Y1 P:Int}(hx0:0<=X0)(hx1:0<=X1)(hy0:0<=Y0)(hy1:0<=Y1):
 X0*Y0<=(X0+X1)*(Y0+Y1)/\X1*Y1<=(X0+X1)*(Y0+Y1)-X0*Y0/\(X0+P*X1)*(Y0+P*Y1)=X0*Y0+P*((X0+X1)*(Y0+Y1)-X0*Y0-X1*Y1)+P*P*(X1*Y1):=by
 have a:=C3j hx0 hy0
 have b:=C3j hx0 hy1
 have c:=C3j hx1 hy0
 have d:=C3j hx1 hy1
 have e:(X0+X1)*(Y0+Y1)=X0*Y0+X0*Y1+X1*Y0+X1*Y1:=by grind
 refine ⟨by omega,by omega,?_⟩
 rw [e];grind
theorem C13:∀ N,B9y N:=by
 intro N
 induction N with
 | zero=>
  intro h K A B ac bc an bn x y hN ma mb ha hb hl hl2 hK
  have h0:=ma.len_zero (by decide)
  have hx:x=0:=h0.2 (by omega)
  subst hx
  rw [Int.zero_mul] at hK
  refine Dd _ _ _ _ _ _ ?_
  unfold Cf
  refine ⟨fun l h'=>h'=h/\l=[.slice A an ac,.slice B bn bc],B6 (fun e=>absurd e (by omega)) (fun _=>⟨rfl,rfl⟩),?_⟩
  rintro A1 n1 c1 B1 n2 c2 hp ⟨rfl,hl⟩
  obtain ⟨⟨rfl,rfl,rfl⟩,rfl,rfl,rfl⟩:(A1=A/\n1=an/\c1=ac)/\B1=B/\n2=bn/\c2=bc:=by simpa using hl
  refine D9 (fun _=>hK none 0 0 _ (B4 _) (C3i _) Mag.zero) (fun e=>absurd (by omega) e)
 | succ N ih=>
  intro h K A B ac bc an bn x y hN ma mb ha hb hl hl2 hK
  refine Dd _ _ _ _ _ _ ?_
  unfold Cf
  refine ⟨fun l h'=>h'=h/\∃ (A1 B1:Option Addr) (n1 n2 c1 c2:Nat) (x1 y1:Int),l=[.slice A1 n1 c1,.slice B1 n2 c2]/\Mw h A1 n1 x1/\Mw h B1 n2 y1/\n2<=n1/\n1<=1000000000/\n1<=c1/\n2<=c2/\n1+n2<=N+1/\x1*y1=x*y,B6 (fun h1=>?_) (fun h1=>?_),?_⟩
  ·exact ⟨rfl,_,_,_,_,_,_,y,x,rfl,mb,ma,by omega,hl2,hb,ha,by omega,C3l _ _⟩
  ·exact ⟨rfl,_,_,_,_,_,_,x,y,rfl,ma,mb,by omega,hl,ha,hb,by omega,rfl⟩
  clear ma mb ha hb hl hl2 hN
  rintro A1 n1 c1 B1 n2 c2 hp ⟨rfl,A1',B1',n1',n2',c1',c2',x1,y1,hli,m1,m2,hn,hl1,hc1,hc2,hNN,hxy⟩
  obtain ⟨⟨rfl,rfl,rfl⟩,rfl,rfl,rfl⟩:(A1=A1'/\n1=n1'/\c1=c1')/\B1=B1'/\n2=n2'/\c2=c2':=by simpa using hli
  rw [<- hxy] at hK
  clear hli hxy
  have hz:=m2.len_zero (by decide)
  refine D9 (fun h0=>?_) (fun h0=>?_)
  ·have:y1=0:=hz.2 (by omega)
   subst this
   rw [C4w] at hK
   exact hK none 0 0 _ (B4 _) (C3i _) Mag.zero
  ·refine ⟨fun l h'=>∃ t:Bool,h'=hp/\l=[.bool t]/\(t=true->y1=1),D9 (fun h1=>?_) (fun h1=>⟨false,rfl,rfl,fun e=>by cases e⟩),?_⟩
   ·obtain ⟨ys,hyl,sy,dy,ny,hyv⟩:=m2
    refine sy.load hyl (by omega) (by omega) ⟨_,rfl,rfl,fun e=>?_⟩
    have e1:ys.getD 0 0=1:=by simpa using e
    obtain ⟨d,rfl⟩:∃ d,ys=[d]:=by
     cases ys with
     | nil=>simp at hyl;omega
     | cons d r=>
      cases r with
      | nil=>exact ⟨d,rfl⟩
      | cons _ _=>simp at hyl;omega
    rw [<- hyv,T3];simpa using e1
   rintro tb hp1 ⟨t',rfl,hl2,hone⟩
   obtain rfl:tb=t':=by simpa using hl2
   refine Br.of (fun e=>?_) (fun _=>?_)
   ·rw [hone e,Int.mul_one] at hK
    exact hK _ _ _ _ (B4 _) hc1 m1
   clear hone hl2
   have eL:B5 ((n1:Int)+n2)=((n1+n2:Nat):Int):=by rw [B7 (by omega) (by omega)];omega
   refine B6 (fun h2=>?_) (fun h2=>?_)
   ·obtain ⟨xs,rfl,sx,dx,nx,rfl⟩:=m1
    obtain ⟨ys,rfl,sy,dy,ny,rfl⟩:=m2
    rw [eL]
    refine J3 O6 (by omega) (by omega) (by omega) ?_
    intro b hb
    rw [C34]
    exact ⟨_,_,_,rfl,B8g hb sx dx sy dy hl1 (by omega) hK⟩
   ·obtain ⟨H,hH⟩:∃ H,H=(n1+1)/2:=⟨_,rfl⟩
    have eH:B5 (C4q (B5 ((n1:Int)+1)) 2)=(H:Int):=by
     rw [B7 (n:=(n1:Int)+1) (by omega) (by omega),C3n (by omega),B7 (by omega) (by omega)];omega
    have e2H:B5 ((2:Int)*(H:Int))=((2*H:Nat):Int):=by rw [B7 (by omega) (by omega)];omega
    simp only [eH,eL,e2H,C34]
    refine B6 (fun h3=>?_) (fun h3=>?_)
    ·refine Na ih (by omega) m1 m2 hc1 hc2 hl1 (by omega) (by omega) ?_
     intro A' m c' h' l' k' M'
     exact ⟨_,_,_,rfl,hK _ _ _ _ l' k' M'⟩
    ·have hx0:=m1.nonneg (by decide)
     have hxlt:=m1.lt (by decide)
     have hylt:=m2.lt (by decide)
     have hy0:=m2.nonneg (by decide)
     obtain ⟨xs,rfl,sx,dx,nx,rfl⟩:=m1
     obtain ⟨ys,rfl,sy,dy,ny,rfl⟩:=m2
     have hHx:H<xs.length:=by omega
     have hHy:H<ys.length:=by omega
     have x0n:=C7 (by decide) (dx.take H)
     have x1n:=C7 (by decide) (dx.drop H)
     have y0n:=C7 (by decide) (dy.take H)
     have y1n:=C7 (by decide) (dy.drop H)
     have spx:=F1 b64 xs (i:=H) (by omega)
     have spy:=F1 b64 ys (i:=H) (by omega)
     have x0l:=K6 (by decide) (dx.take H)
     have y0l:=K6 (by decide) (dy.take H)
     rw [C36,C38 (by omega)] at x0l y0l
     have hx1M:Mw hp1 (K0 A1 c1 H 1) (xs.length-H) (val b64 (xs.drop H)):=by
      have:=Mw.of (Ye sx (c:=c1) (l:=H) (by omega) hc1) (dx.drop H) (Ki nx hHx)
      rwa [C39] at this
     have hy1M:Mw hp1 (K0 B1 c2 H 1) (ys.length-H) (val b64 (ys.drop H)):=by
      have:=Mw.of (Ye sy (c:=c2) (l:=H) (by omega) hc2) (dy.drop H) (Ki ny hHy)
      rwa [C39] at this
     obtain ⟨ka,kb,kc⟩:=C2x (P:=b64^H) x0n x1n y0n y1n
     rw [<- spx,<- spy] at kc
     generalize hX0:val b64 (xs.take H)=X0 at *
     generalize hX1:val b64 (xs.drop H)=X1 at *
     generalize hY0:val b64 (ys.take H)=Y0 at *
     generalize hY1:val b64 (ys.drop H)=Y1 at *
     rw [G9,G9,C47,C47,C47]
     refine ⟨⟨by omega,by omega⟩,⟨by omega,by omega⟩,?_⟩
     refine Af (Hy sx (c:=c1) (m:=H) (by omega) hc1) (dx.take H) (by rw [C36];omega) hX0 (by omega) (by omega) ?_
     intro mx hmx MX0
     refine ⟨_,_,_,rfl,B4 _,⟨by omega,by omega⟩,⟨by omega,by omega⟩,?_⟩
     refine Af (Hy sy (c:=c2) (m:=H) (by omega) hc2) (dy.take H) (by rw [C36];omega) hY0 (by omega) (by omega) ?_
     intro my hmy MY0
     refine ⟨_,_,_,rfl,B4 _,?_⟩
     refine ih (by omega) MX0 MY0 (by omega) (by omega) (by omega) (by omega) ?_
     intro A3 n3 c3 g3 l3 k3 M3
     refine ⟨_,_,_,rfl,?_⟩
     refine ih (by omega) (hx1M.mono l3) (hy1M.mono l3) (by omega) (by omega) (by omega) (by omega) ?_
     intro A4 n4 c4 g4 l4 k4 M4
     refine ⟨_,_,_,rfl,?_⟩
     have l34:=B0 l3 l4
     refine T1 (MX0.mono l34) (hx1M.mono l34) (by omega) (by omega) (by omega) (by omega) ?_
     intro A5 n5 c5 g5 l5 k5 M5
     refine ⟨_,_,_,rfl,?_⟩
     have l35:=B0 l34 l5
     refine T1 (MY0.mono l35) (hy1M.mono l35) (by omega) (by omega) (by omega) (by omega) ?_
     intro A6 n6 c6 g6 l6 k6 M6
     refine ⟨_,_,_,rfl,?_⟩
     have hx1l:=hx1M.lt (by decide)
     have hy1l:=hy1M.lt (by decide)
     have hpH:=D6 (B:=b64) (by decide) H
     have hpH1:b64^(H+1)=b64^H*18446744073709551616:=C3s _ _
     have n5le:n5<=H+1:=by
      refine M5.len_le (by decide) ?_
      have:=D0 (B:=b64) (by decide) (show xs.length-H<=H by omega)
      omega
     have n6le:n6<=H+1:=by
      refine M6.len_le (by decide) ?_
      have:=D0 (B:=b64) (by decide) (show ys.length-H<=H by omega)
      omega
     refine ih (by omega) (M5.mono l6) M6 k5 k6 (by omega) (by omega) ?_
     intro A7 n7 c7 g7 l7 k7 M7
     refine ⟨_,_,_,rfl,?_⟩
     have l37:=B0 (B0 l5 l6) l7
     have hprod:∀ {p q:Int} {i j:Nat},0<=p->p<b64^i->0<=q->q<b64^j->p*q<b64^(i+j):=by
      intro p q i j a b c d
      rw [C3w]
      have t1:p*q<=b64^i*q:=C35 (by omega) c
      have t2:b64^i*q<b64^i*b64^j:=C4f d (D6 (by decide) i)
      omega
     have n7le:n7<=n5+n6:=M7.len_le (by decide) (hprod (M5.nonneg (by decide)) (M5.lt (by decide)) (M6.nonneg (by decide)) (M6.lt (by decide)))
     refine K8 M7 (M3.mono (B0 l4 l37)) k7 (by omega) ka ?_
     intro A8 n8 c8 g8 l8 k8 M8
     refine ⟨_,_,_,rfl,?_⟩
     have n8le:n8<=n7:=M8.len_le (by decide) (by have:=M7.lt (by decide);have:=M3.nonneg (by decide);omega)
     refine K8 M8 (M4.mono (B0 l37 l8)) k8 (by omega) kb ?_
     intro A9 n9 c9 g9 l9 k9 M9
     refine ⟨_,_,_,rfl,?_⟩
     have l39:=B0 l37 (B0 l8 l9)
     have lfin:hp1.le g9:=B0 l34 l39
     refine J3 O6 (by omega) (by omega) (by omega) ?_
     intro b hb
     rw [C34]
     refine ⟨_,_,_,rfl,?_⟩
     have w0:=Win.blk .u64 C1 hb (C3c (xs.length+ys.length) 0)
     have n3le:n3<=H+H:=M3.len_le (by decide) (hprod x0n x0l y0n y0l)
     have n4le:n4<=(xs.length-H)+(ys.length-H):=M4.len_le (by decide) (hprod x1n hx1l y1n hy1l)
     obtain ⟨lo,hlol,slo,dlo,nlo,hlov⟩:=M3.mono (B0 l4 l39)
     obtain ⟨hi,hhil,shi,dhi,nhi,hhiv⟩:=M4.mono l39
     obtain ⟨mi,hmil,smi,dmi,nmi,hmiv⟩:=M9
     refine En O6 w0 (by simp) (slo.mono w0.le) hlol (by simp;omega) ?_
     intro h10 w10
     refine ⟨_,rfl,⟨by omega,by omega⟩,?_⟩
     have hz1:lo++(C3c (xs.length+ys.length) (0:Int)).drop lo.length=lo++C3c (xs.length+ys.length-lo.length) 0:=by rw [C3p]
     rw [hz1] at w10
     have w11:=w10.sub (l:=2*H) (m:=xs.length+ys.length) (c:=xs.length+ys.length) (by omega) (by simp;omega) (by simp;omega)
     have hz2:((lo++C3c (xs.length+ys.length-lo.length) (0:Int)).drop (2*H)).take (xs.length+ys.length-2*H)=C3c (xs.length+ys.length-2*H) 0:=by
      rw [List.drop_append,C40 (by omega),C4m,C3p,C4c]
      congr 1;omega
     rw [hz2] at w11
     refine En O6 w11 (by simp) (shi.mono w11.le) hhil (by simp;omega) ?_
     intro h12 w12
     refine ⟨_,rfl,⟨by omega,by omega⟩,?_⟩
     rw [C3p] at w12
     have w13:=w10.whole (l:=2*H) (m:=xs.length+ys.length) (by omega) (by simp;omega) (by simp;omega) w12
     have hz3:(lo++C3c (xs.length+ys.length-lo.length) (0:Int)).take (2*H)=lo++C3c (2*H-lo.length) 0:=by
      rw [List.take_append,C3g (by omega),C4c]
      congr 2;omega
     have hz4:(lo++C3c (xs.length+ys.length-lo.length) (0:Int)).drop (xs.length+ys.length)=[]:=by
      apply C40;simp;omega
     rw [hz3,hz4,C4o] at w13
     generalize hzs:lo++C3c (2*H-lo.length) (0:Int)++(hi++C3c (xs.length+ys.length-2*H-hi.length) 0)=zs at w13
     have hzl:zs.length=xs.length+ys.length:=by
      rw [<- hzs];simp;omega
     have hzd:Dig b64 zs:=by
      rw [<- hzs]
      exact (dlo.append (H0 (by decide) _)).append (dhi.append (H0 (by decide) _))
     have hzv:val b64 zs=X0*Y0+b64^H*b64^H*(X1*Y1):=by
      rw [<- hzs,F8,Bp,Bp,hlov,hhiv]
      have:(lo++C3c (2*H-lo.length) (0:Int)).length=H+H:=by simp;omega
      rw [this,C3w]
     have w14:=w13.sub (l:=H) (m:=xs.length+ys.length) (c:=xs.length+ys.length) (by omega) (by omega) (by omega)
     have hz5:(zs.drop H).take (xs.length+ys.length-H)=zs.drop H:=C3g (by rw [C39];omega)
     have hz6:(zs.drop H).length=xs.length+ys.length-H:=by rw [C39];omega
     rw [hz5] at w14
     have hsp:=F1 b64 zs (i:=H) (by omega)
     have hz0:=C7 (by decide) (hzd.take H)
     have hzd0:=C7 (by decide) (hzd.drop H)
     have hTl:val b64 xs*val b64 ys<b64^(xs.length+ys.length):=hprod hx0 hxlt hy0 hylt
     have hTot:val b64 zs+b64^H*val b64 mi=val b64 xs*val b64 ys:=by rw [kc,hzv,hmiv];grind
     have hfit:val b64 (zs.drop H)+val b64 mi<b64^(xs.length+ys.length-H):=by
      have e5:b64^(xs.length+ys.length)=b64^H*b64^(xs.length+ys.length-H):=by rw [<- C3w];congr 1;omega
      by_cases hc:val b64 (zs.drop H)+val b64 mi<b64^(xs.length+ys.length-H)
      ·exact hc
      ·have:=C3e (show b64^(xs.length+ys.length-H)<=val b64 (zs.drop H)+val b64 mi by omega) (C3f hpH)
       rw [C55] at this
       omega
     have hmn:mi.length<=xs.length+ys.length-H:=by
      have Mmi:Mw g9 A9 mi.length (val b64 mi):=⟨mi,rfl,smi,dmi,nmi,rfl⟩
      exact Mmi.len_le (by decide) (by omega)
     refine Gt w14 hz6.symm smi hmil (hzd.drop H) dmi (by omega) (by rw [hz6];exact hfit) (by omega) ?_
     intro us h15 hul hud huv w15
     refine ⟨rfl,?_⟩
     have w16:=w13.whole (l:=H) (m:=xs.length+ys.length) (by omega) (by omega) (by omega) w15
     rw [C40 (show zs.length<=xs.length+ys.length by omega),C4o] at w16
     have hfl:(zs.take H++us).length=xs.length+ys.length:=by
      simp only [C3a,C36];omega
     rw [<- hfl]
     refine O8 w16.sl ((hzd.take H).append hud) (by omega) (by omega) ?_
     intro m hm hM
     have hfv:val b64 (zs.take H++us)=val b64 xs*val b64 ys:=by
      rw [F8,C36,C38 (by omega),huv,<- hTot,hsp];grind
     rw [hfv] at hM
     exact ⟨_,_,_,rfl,hK _ _ _ _ (B0 lfin w16.le) hm hM⟩
theorem G8{x y:Int}{an bn:Nat}(ma:Mw h A an x)(mb:Mw h B bn y)(ha:an<=ac)(hb:bn<=bc)(hl:an<=1000000000)(hl2:bn<=1000000000)(hK:∀ A' m c' h',h.le h'->m<=c'->Mw h' A' m (x*y)->K (.slice A' m c') h'):FCall prog D4 #[.slice A an ac,.slice B bn bc] h K:=
 C13 _ (C3i _) ma mb ha hb hl hl2 hK
end
section
variable {h g:Heap} {K:VP} {A B:Option Addr} {ac bc:Nat}
theorem A9i{hi lo y:Int}(hhi:0<=hi/\hi<y)(hlo:0<=lo/\lo<18446744073709551616)(hy:y<18446744073709551616)
 (hK:K (.tuple #[U ((hi*18446744073709551616+lo)/y),U ((hi*18446744073709551616+lo)%y)]) h):FCall prog Ej #[U hi,U lo,U y] h K:=by
 obtain ⟨n,rfl⟩:∃ n:Nat,y=n:=⟨y.toNat,by omega⟩
 exact Qh hhi hlo (by omega) hK
theorem Sc{x:Int}{an w:Nat}(ma:Mw h A an x)(hw:0<w/\w<18446744073709551616)(hl:an<=1000000000)(hK:∀ A' m c' h',h.le h'->m<=c'->m<=an->Mw h' A' m (x/w)->K (.tuple #[.slice A' m c',U (x%w)]) h'):FCall prog Dz #[.slice A an ac,U w] h K:=by
 obtain ⟨xs,rfl,sx,dx,nx,rfl⟩:=ma
 refine Uf _ _ _ _ ?_
 unfold Sy
 refine J3 O6 (by omega) (by omega) (by omega) ?_
 intro b hb
 rw [C34]
 refine ⟨_,_,_,rfl,?_⟩
 refine ⟨fun l h'=>∃ (k:Nat) (r:Int) (zs:List Int),l=[U r,I ((k:Int)-1)]/\k<=xs.length/\zs.length=xs.length/\Dig b64 zs/\(0<=r/\r<w)/\h'=blk .u64 C1 h b zs/\val b64 (xs.drop k)=val b64 (zs.drop k)*w+r,fun l _=>(iAt l 1+1).toNat,⟨xs.length,0,_,by rw [B7 (by omega) (by omega)],by omega,by simp,H0 (by decide) _,by omega,rfl,by simp [val]⟩,?_⟩
 rintro r i hp ⟨k,r',zs,hli,hk,hzl,hd,hr,rfl,hv⟩
 obtain ⟨rfl,rfl⟩:r=r'/\i=(k:Int)-1:=by simpa using hli
 have hle:=T0 (k:=.u64) (e:=C1) hb zs
 refine B6 (fun h1=>?_) (fun h1=>?_)
 ·obtain ⟨j,rfl⟩:∃ j,k=j+1:=⟨k-1,by omega⟩
  have e:((j+1:Nat):Int)-1=(j:Int):=by omega
  rw [e]
  have gx:=N0 dx j
  refine (sx.mono hle).load rfl (by omega) (by omega) ?_
  rw [C34]
  refine Qh hr gx hw.2 ⟨_,_,rfl,?_⟩
  have hT:0<=r*18446744073709551616+xs.getD j 0:=by omega
  have hq:0<=(r*18446744073709551616+xs.getD j 0)/w/\(r*18446744073709551616+xs.getD j 0)/w<18446744073709551616:=by
   constructor
   ·exact C3x hT (by omega)
   ·apply C43 (by omega)
    have:(r+1)*18446744073709551616<=(w:Int)*18446744073709551616:=C35 (by omega) (by decide)
    omega
  refine ⟨_,rfl,by omega,by omega,?_⟩
  refine Da (zs:=zs) (i:=j) F2 (by omega) ?_
  rw [B7 (by omega) (by omega)]
  refine ⟨⟨j,_,zs.set j ((r*18446744073709551616+xs.getD j 0)/w),rfl,by omega,by simpa using hzl,hd.set hq,⟨C3q _ (by omega),C3u _ (by omega)⟩,rfl,?_⟩,by simp only [iAt,C37,C3b];omega⟩
  rw [S9 (by omega),Jq b64 (by omega),hv]
  have:=C3m (r*18446744073709551616+xs.getD j 0) w
  simp only [val]
  grind
 ·have hk0:k=0:=by omega
  subst hk0
  rw [C4i,C4i] at hv
  rw [<- hzl]
  refine O8 (Bv _ _ _ _ _) hd (C3i _) (by omega) ?_
  intro m hm hM
  have hq:val b64 xs/w=val b64 zs:=by
   rw [hv,C4p,C4l _ _ (by omega),C3t hr.1 hr.2,C4h]
  have hrm:val b64 xs%w=r:=by
   rw [hv,C4p,C56,C4t hr.1 hr.2]
  rw [<- hq] at hM
  rw [<- hrm]
  exact ⟨_,_,_,rfl,hK _ _ _ _ (T0 hb _) hm (by omega) hM⟩
theorem Ke{x:Int}{an w:Nat}(ma:Mw h A an x)(hw:0<w/\w<18446744073709551616)(hl:an<=1000000000)(hK:K (U (x%w)) h):FCall prog Y8 #[.slice A an ac,U w] h K:=by
 obtain ⟨xs,rfl,sx,dx,nx,rfl⟩:=ma
 refine Nv _ _ _ _ ?_
 unfold Ik
 refine ⟨fun l h'=>∃ (k:Nat) (r:Int) (Q:Int),l=[U r,I ((k:Int)-1)]/\k<=xs.length/\(0<=r/\r<w)/\h'=h/\val b64 (xs.drop k)=Q*w+r,fun l _=>(iAt l 1+1).toNat,⟨xs.length,0,0,by rw [B7 (by omega) (by omega)],by omega,by omega,rfl,by simp [val]⟩,?_⟩
 rintro r i hp ⟨k,r',Q,hli,hk,hr,rfl,hv⟩
 obtain ⟨rfl,rfl⟩:r=r'/\i=(k:Int)-1:=by simpa using hli
 refine B6 (fun h1=>?_) (fun h1=>?_)
 ·obtain ⟨j,rfl⟩:∃ j,k=j+1:=⟨k-1,by omega⟩
  have e:((j+1:Nat):Int)-1=(j:Int):=by omega
  rw [e]
  have gx:=N0 dx j
  refine sx.load rfl (by omega) (by omega) ?_
  rw [C34]
  refine Qh hr gx hw.2 ⟨_,_,rfl,?_⟩
  rw [B7 (by omega) (by omega)]
  refine ⟨⟨j,_,b64*Q+(r*18446744073709551616+xs.getD j 0)/w,rfl,by omega,⟨C3q _ (by omega),C3u _ (by omega)⟩,rfl,?_⟩,by simp only [iAt,C37,C3b];omega⟩
  rw [Jq b64 (by omega),hv]
  have:=C3m (r*18446744073709551616+xs.getD j 0) w
  show _+(18446744073709551616:Int)*_=((18446744073709551616:Int)*_+_)*_+_
  grind
 ·have hk0:k=0:=by omega
  subst hk0
  rw [C4i] at hv
  have hrm:val b64 xs%w=r:=by
   rw [hv,C4p,C56,C4t hr.1 hr.2]
  rw [hrm] at hK;exact hK
theorem Yc{us vs:List Int}{m wn dn:Nat}{X Y:Int}(su:SlI .u64 h A us)(sv:SlI .u64 h B vs)(hwn:wn=us.length)(hdn:dn=vs.length)(du:Dig b64 us)(dv:Dig b64 vs)(hu:us.length=m+3)(hv:vs.length=m+2)(hl:m<=10000000000)(h1:b64<=2*vs.getD (m+1) 0)(hX:val b64 us=X)(hY:val b64 vs=Y)(hlt:X<Y*b64)
 (hK:∀ q,0<=q->q<18446744073709551616->X<(q+1)*Y->(q-1)*Y<=X->K (U q) h):FCall prog Jd #[.slice A wn ac,.slice B dn bc] h K:=by
 subst hwn hdn
 have es:=B4q (B:=b64) (by decide) du dv hu hv h1 (by rw [hX,hY];exact hlt)
 rw [hX,hY] at es
 have gu:=N0 du (m+2)
 have gu1:=N0 du (m+1)
 have gv:=N0 dv (m+1)
 have v1r:=es.v1r
 have v2r:=es.v2r
 have u2r:=es.u2r
 have hv0:=es.V0
 have hU0:=es.U0
 refine A19 _ _ _ _ _ _ ?_
 unfold A1a
 have e1:B5 ((vs.length:Int)-1)=((m+1:Nat):Int):=by rw [B7 (by omega) (by omega)];omega
 have e2:B5 ((vs.length:Int)-2)=(m:Int):=by rw [B7 (by omega) (by omega)];omega
 have e3:((vs.length:Nat):Int)=((m+2:Nat):Int):=by omega
 rw [e1,e2,e3]
 refine sv.load (by omega) (by omega) (by omega) ?_
 refine sv.load (by omega) (by omega) (by omega) ?_
 refine su.load rfl (by omega) (by omega) ?_
 simp only [C34]
 refine B6 (fun h2=>?_) (fun h2=>?_)
 ·have ht:=es.top (by
   have:vs.getD (m+1) 0*b64<=us.getD (m+2) 0*b64:=C35 h2 (by decide)
   omega)
  exact hK 18446744073709551615 (by omega) (by omega) ht.2 ht.1
 ·refine su.load rfl (by omega) (by omega) ?_
  refine su.load rfl (by omega) (by omega) ?_
  simp only [C34]
  refine A9i (by omega) gu1 gv.2 ⟨_,_,rfl,B4 h,?_⟩
  generalize hT:us.getD (m+2) 0*b64+us.getD (m+1) 0=T at es
  have hT':us.getD (m+2) 0*18446744073709551616+us.getD (m+1) 0=T:=hT
  have hT0:0<=T:=es.top0
  have hin:=es.init
  have hdm:=C3m T (vs.getD (m+1) 0)
  have hm0:=C3q T (show vs.getD (m+1) 0≠0 by omega)
  have hm1:=C3u T (show 0<vs.getD (m+1) 0 by omega)
  have hq0:0<=T/vs.getD (m+1) 0:=C3x hT0 (by omega)
  have hq1:T/vs.getD (m+1) 0<18446744073709551616:=by
   apply C43 (by omega)
   have:(us.getD (m+2) 0+1)*18446744073709551616<=vs.getD (m+1) 0*18446744073709551616:=C35 (by omega) (by decide)
   have:=gu1.2
   have:18446744073709551616*vs.getD (m+1) 0=vs.getD (m+1) 0*18446744073709551616:=C3l _ _
   omega
  refine ⟨fun l h'=>∃ q r:Int,l=[U q,U r]/\h'=h/\(0<=q/\q<18446744073709551616)/\(0<=r/\r<18446744073709551616)/\q*vs.getD (m+1) 0+r=T/\X<(q+1)*Y,fun l _=>(iAt l 0).toNat,⟨_,_,rfl,rfl,⟨hq0,hq1⟩,by omega,by rw [C3l];exact hdm,hin⟩,?_⟩
  rintro q r hp ⟨q',r',hl2,rfl,hq,hr,hqr,hlt2⟩
  obtain ⟨rfl,rfl⟩:q=q'/\r=r':=by simpa using hl2
  have hm:0<=q*vs.getD m 0/\q*vs.getD m 0<=18446744073709551615*18446744073709551615:=⟨C3j hq.1 v2r.1,C4j (by omega) (by have:=(N0 dv m).2;omega) v2r.1 (by decide)⟩
  have key:q*(vs.getD (m+1) 0*b64+vs.getD m 0)=(T-r)*18446744073709551616+q*vs.getD m 0:=by
   rw [<- hqr];show q*(vs.getD (m+1) 0*(18446744073709551616:Int)+vs.getD m 0)=_;grind
  have pass:q*vs.getD m 0<=r*18446744073709551616+us.getD m 0->K (U q) hp:=by
   intro hp2
   refine hK q hq.1 hq.2 hlt2 (es.up (by show q<=(18446744073709551616:Int);omega) ?_)
   rw [key];show _<=T*(18446744073709551616:Int)+_;omega
  have fail:¬ (q*vs.getD m 0<=r*18446744073709551616+us.getD m 0)->Br (decide (C0 (r+vs.getD (m+1) 0)<vs.getD (m+1) 0)) (K (U (C0 (q-1))) hp) ((∃ q_1 r_1:Int,[U (C0 (q-1)),U (C0 (r+vs.getD (m+1) 0))]=[U q_1,U r_1]/\hp=hp/\(0<=q_1/\q_1<18446744073709551616)/\(0<=r_1/\r_1<18446744073709551616)/\q_1*vs.getD (m+1) 0+r_1=T/\X<(q_1+1)*Y)/\(iAt [U (C0 (q-1)),U (C0 (r+vs.getD (m+1) 0))] 0).toNat<(iAt [U q,U r] 0).toNat):=by
   intro hf
   have hlq:X<q*Y:=es.low hq.1 (by rw [key];show T*(18446744073709551616:Int)+_<_;omega)
   have hq1:1<=q:=by
    by_cases hc:1<=q
    ·exact hc
    ·have:q=0:=by omega
     subst this;omega
   have hlt':X<(q-1+1)*Y:=by rw [Int.sub_add_cancel];exact hlq
   have hqr':(q-1)*vs.getD (m+1) 0+(r+vs.getD (m+1) 0)=T:=by grind
   rw [C2 (n:=q-1) (by omega) (by omega)]
   refine B6 (fun h3=>?_) (fun h3=>?_)
   ·rw [E8] at h3
    have hb:(q-1)*vs.getD m 0<=18446744073709551616*vs.getD m 0:=C35 (by omega) v2r.1
    have key2:(q-1)*(vs.getD (m+1) 0*b64+vs.getD m 0)=(T-(r+vs.getD (m+1) 0))*18446744073709551616+(q-1)*vs.getD m 0:=by
     rw [<- hqr'];show (q-1)*(vs.getD (m+1) 0*(18446744073709551616:Int)+vs.getD m 0)=_;grind
    refine hK (q-1) (by omega) (by omega) hlt' (es.up (by show q-1<=(18446744073709551616:Int);omega) ?_)
    rw [key2]
    have:=v2r.2
    show _<=T*(18446744073709551616:Int)+_
    have:vs.getD m 0<18446744073709551616:=v2r.2
    omega
   ·have h3':r+vs.getD (m+1) 0<18446744073709551616:=by
     by_cases hc:r+vs.getD (m+1) 0<18446744073709551616
     ·exact hc
     ·rw [E8] at h3;have:=v1r.2;have:vs.getD (m+1) 0<18446744073709551616:=v1r.2;omega
    rw [C2 (n:=r+vs.getD (m+1) 0) (by omega) h3']
    exact ⟨⟨q-1,r+vs.getD (m+1) 0,rfl,rfl,by omega,by omega,hqr',hlt'⟩,by simp only [iAt,C37];omega⟩
  refine Kj hq (by have:=v2r.2;exact ⟨v2r.1,this⟩) ⟨_,_,rfl,?_⟩
  have gum:0<=us.getD m 0/\us.getD m 0<18446744073709551616:=N0 du m
  refine B6 (fun h3=>pass (by omega)) (fun h3=>?_)
  refine D9 (fun h4=>?_) (fun h4=>fail (by omega))
  refine su.load rfl (by omega) (by omega) ?_
  rw [C34]
  exact B6 (fun h5=>pass (by omega)) (fun h5=>fail (by omega))
end
section
variable {h g:Heap} {K:VP} {bu bq:Nat} {pre qs:List Int} {VA:Option Addr} {vs:List Int}
theorem B9b{n N:Nat}{ws:List Int}{q:Int}{J:LP}(hu:g bu=none)(hq:g bq=none)(hne:bu≠bq)(sv:SlI .u64 g VA vs)(dv:Dig b64 vs)(hn:n=vs.length)(dw:Dig b64 ws)(hN:N=(pre++ws).length)(hl:n<ws.length)(hbig:N<=4000000000)
 (hD:val b64 (ws.take n)+val b64 vs<2*b64^n) (hD0:b64^n<=val b64 (ws.take n)+val b64 vs) (htop:ws.getD n 0=18446744073709551615)
 (hJ:∀ ws',ws'.length=ws.length->Dig b64 ws'->ws'.drop (n+1)=ws.drop (n+1)->ws'.getD n 0=0->val b64 (ws'.take n)=val b64 (ws.take n)+val b64 vs-b64^n->J [U (C0 (q-1))] (Y4 .u64 C1 g bu (pre++ws') bq qs)):
 Z2 prog n VA n (some ⟨bu,0,none⟩) N (pre.length:Int) q J (Y4 .u64 C1 g bu (pre++ws) bq qs):=by
 unfold Z2
 refine ⟨fun l h'=>∃ (k:Nat) (c:Int) (zs:List Int),l=[U c,I k]/\k<=n/\zs.length=ws.length/\Dig b64 zs/\(0<=c/\c<=1)/\h'=Y4 .u64 C1 g bu (pre++zs) bq qs/\zs.drop k=ws.drop k/\val b64 (zs.take k)+c*b64^k=val b64 (ws.take k)+val b64 (vs.take k),fun l _=>n-(iAt l 1).toNat,⟨0,0,ws,rfl,by omega,rfl,dw,by omega,rfl,rfl,by simp [val]⟩,?_⟩
 rintro c i hp ⟨k,c',zs,hli,hk,hzl,hd,hc,rfl,hdr,hv⟩
 obtain ⟨rfl,rfl⟩:c=c'/\i=(k:Int):=by simpa using hli
 have hle:g.le (Y4 .u64 C1 g bu (pre++zs) bq qs):=Nq hu hq hne
 have su:SlI .u64 (Y4 .u64 C1 g bu (pre++zs) bq qs) (some ⟨bu,0,none⟩) (pre++zs):=Sk hne
 have hNz:N=(pre++zs).length:=by rw [hN,C3a,C3a,hzl]
 have hNl:N=pre.length+zs.length:=by rw [hNz,C3a]
 have ejk:B5 ((pre.length:Int)+k)=((k+pre.length:Nat):Int):=by rw [B7 (by omega) (by omega)];omega
 have ejn:B5 ((pre.length:Int)+n)=((n+pre.length:Nat):Int):=by rw [B7 (by omega) (by omega)];omega
 refine B6 (fun h1=>?_) (fun h1=>?_)
 ·have gv:=N0 dv k
  have gz:=N0 hd k
  have hzz:=E5 hdr
  have vv:=C5 b64 vs k
  have vw:=C5 b64 ws k
  rw [ejk]
  refine (sv.mono hle).load hn (by omega) (by omega) ?_
  refine su.load hNz (by omega) (by omega) ?_
  simp only [C34,Dw]
  refine By gz gv hc ⟨_,_,rfl,?_⟩
  refine ⟨_,rfl,by omega,by omega,?_⟩
  have st:=N9 (P:=prog) (t:=C1) (k:=.u64) (e:=C1) (g:=g) (bu:=bu) (bq:=bq) (us:=pre++zs) (qs:=qs) (i:=((k+pre.length:Nat):Int)) (n:=(zs.getD k 0+vs.getD k 0+c)%18446744073709551616) F2 hne (by rw [C34];omega)
   (K:=fun _ hp15=>(∃ (k_1:Nat) (c_1:Int) (zs_1:List Int),[U ((zs.getD k 0+vs.getD k 0+c)/18446744073709551616),I (B5 ((k:Int)+1))]=[U c_1,I k_1]/\k_1<=n/\zs_1.length=ws.length/\Dig b64 zs_1/\(0<=c_1/\c_1<=1)/\hp15=Y4 .u64 C1 g bu (pre++zs_1) bq qs/\zs_1.drop k_1=ws.drop k_1/\val b64 (zs_1.take k_1)+c_1*b64^k_1=val b64 (ws.take k_1)+val b64 (vs.take k_1))/\n-(iAt [U ((zs.getD k 0+vs.getD k 0+c)/18446744073709551616),I (B5 ((k:Int)+1))] 1).toNat<n-(iAt [U c,I k] 1).toNat)
  rw [C34] at st
  refine st ?_
  rw [Iq,B7 (n:=(k:Int)+1) (by omega) (by omega)]
  refine ⟨⟨k+1,_,zs.set k ((zs.getD k 0+vs.getD k 0+c)%18446744073709551616),rfl,by omega,by simpa using hzl,hd.set (Cr _),by omega,rfl,?_,?_⟩,by simp only [iAt,C37,C3b];omega⟩
  ·rw [D5 (by omega)];exact D7 hdr
  ·rw [C9 (by omega),E9,C36,C38 (by omega),C3s,Az,vv,vw,<- hzz]
   grind
 ·have hkn:k=n:=by omega
  subst hkn
  have hzz:=E5 hdr
  rw [ejn]
  refine su.load hNz (by omega) (by omega) ?_
  rw [C34,Dw,hzz,htop]
  refine ⟨_,rfl,by omega,by omega,?_⟩
  have hvs:vs.take k=vs:=by rw [hn,C3h]
  rw [hvs] at hv
  have hlt:=K6 (by decide) (hd.take k)
  rw [C36,C38 (by omega)] at hlt
  have h0:=C7 (by decide) (hd.take k)
  have hc1:c=1:=by
   by_cases hc0:c=0
   ·subst hc0;omega
   ·omega
  subst hc1
  have e0:C0 (18446744073709551615+1)=0:=by rw [E8];omega
  rw [e0]
  have st:=N9 (P:=prog) (t:=C1) (k:=.u64) (e:=C1) (g:=g) (bu:=bu) (bq:=bq) (us:=pre++zs) (qs:=qs) (i:=((k+pre.length:Nat):Int)) (n:=0) F2 hne (by rw [C34];omega) (K:=fun _ hp16=>J [U (C0 (q-1))] hp16)
  rw [C34] at st
  refine st ?_
  rw [Iq]
  refine hJ (zs.set k 0) (by simpa using hzl) (hd.set (by decide)) (by rw [D5 (by omega)];exact D7 hdr) (by simp [C4d,show k<zs.length by omega]) ?_
  rw [List.take_set_of_le (by omega)]
  omega
end
theorem B1r{g h':Heap}{e:TypeId}{bu bq:Nat}{A:Option Addr}{us qs:List Int}(hne:bu≠bq)(w:Win .u64 h' (blk .u64 e g bq qs) bu e A [] us []):h'=Y4 .u64 e g bu us bq qs:=by
 rw [Gq hne,w.eq]
 simp [blk]
theorem B35{g:Heap}{e:TypeId}{bu bq:Nat}{us qs:List Int}(hu:g bu=none)(hne:bu≠bq):Win .u64 (Y4 .u64 e g bu us bq qs) (blk .u64 e g bq qs) bu e (some ⟨bu,0,none⟩) [] us []:=by
 rw [Gq hne]
 refine Win.blk .u64 e ?_ us
 unfold blk;rw [B8 _ _ hne];exact hu
theorem A0v{P:Program}{t:TypeId}{k:IntKind}{e:TypeId}{g:Heap}{bu bq:Nat}{us qs:List Int}(one:P.cellsOf t=1/\(P.info? t).isSome=true)(hne:bu≠bq){n:Int}{i:Nat}(hi:i<us.length){K:Unit->Heap->Prop}
 (x:K () (Y4 k e g bu (us.set i n) bq qs)):wpH P (C4k t (.pointer (some (Addr.add ⟨bu,0,none⟩ (i*1)))) (.int k n)) K (Y4 k e g bu us bq qs):=by
 have:=N9 (P:=P) (t:=t) (k:=k) (e:=e) (g:=g) (bu:=bu) (bq:=bq) (us:=us) (qs:=qs) (i:=(i:Int)) (n:=n) (K:=K) one hne (by simpa using hi) (by simpa using x)
 simpa using this
theorem A0w{P:Program}{t:TypeId}{k:IntKind}{e:TypeId}{g:Heap}{bu bq:Nat}{us qs:List Int}(one:P.cellsOf t=1/\(P.info? t).isSome=true){n:Int}{i:Nat}(hi:i<qs.length){K:Unit->Heap->Prop}
 (x:K () (Y4 k e g bu us bq (qs.set i n))):wpH P (C4k t (.pointer (some (Addr.add ⟨bq,0,none⟩ (i*1)))) (.int k n)) K (Y4 k e g bu us bq qs):=by
 have:=Sl (P:=P) (t:=t) (k:=k) (e:=e) (g:=g) (bu:=bu) (bq:=bq) (us:=us) (qs:=qs) (i:=(i:Int)) (n:=n) (K:=K) one (by simpa using hi) (by simpa using x)
 simpa using this
section
variable {h g:Heap} {K:VP} {bu bq:Nat} {VA:Option Addr} {vs us0:List Int}
set_option maxHeartbeats 1000000 in
theorem A2b{s mm N nq vc xn:Nat}{a b Y:Int}(hu:g bu=none)(hq:g bq=none)(hne:bu≠bq)(sv:SlI .u64 g VA vs)(dv:Dig b64 vs)(hn:vs.length=mm+2)(hv1:b64<=2*vs.getD (mm+1) 0)(hs:s<64)(hY:val b64 vs=Y)(hYb:Y=b*2^s)(du:Dig b64 us0)(hN:us0.length=N)(hua:val b64 us0=a*2^s)(hxn:N=xn+1)(hnq:N=nq+(mm+2))(hnq1:1<=nq)(hbig:N<=1000000001)(htop:val b64 (us0.drop nq)<Y)
 (hK:∀ A1 m1 c1 A2 m2 c2 h',g.le h'->m1<=c1->m2<=c2->Mw h' A1 m1 (a/b)->Mw h' A2 m2 (a%b)->K (.tuple #[.slice A1 m1 c1,.slice A2 m2 c2]) h'):
 Z5 prog xn (mm+2) K (s:Int) VA (mm+2) vc (some ⟨bu,0,none⟩) N N (some ⟨bq,0,none⟩) nq nq (Y4 .u64 C1 g bu us0 bq (C3c nq 0)):=by
 have hp:0<(2:Int)^s:=C3v (by decide)
 have hYlt:Y<b64^(mm+2):=by rw [<- hY,<- hn];exact K6 (by decide) dv
 have hY0:0<Y:=by have:=C7 (by decide) (du.drop nq);omega
 have e0:B5 ((xn:Int)-((mm+2:Nat):Int))=(nq:Int)-1:=by rw [B7 (by omega) (by omega)];omega
 unfold Z5
 refine ⟨fun l h'=>∃ (k:Nat) (us qs:List Int),l=[I ((k:Int)-1)]/\k<=nq/\us.length=N/\qs.length=nq/\Dig b64 us/\Dig b64 qs/\h'=Y4 .u64 C1 g bu us bq qs/\val b64 (us.drop k)<Y/\val b64 us0=val b64 (qs.drop k)*Y*b64^k+val b64 us,fun l _=>(iAt l 0+1).toNat,⟨nq,us0,_,by rw [e0],by omega,hN,by simp,du,H0 (by decide) _,rfl,htop,by simp [val]⟩,?_⟩
 rintro j hp11 ⟨k,us,qs,hli,hk,hul,hql,hdu,hdq,rfl,hlt,hv⟩
 obtain rfl:j=(k:Int)-1:=by simpa using hli
 have hle:g.le (Y4 .u64 C1 g bu us bq qs):=Nq hu hq hne
 have su:SlI .u64 (Y4 .u64 C1 g bu us bq qs) (some ⟨bu,0,none⟩) us:=Sk hne
 unfold Fa
 refine B6 (fun h1=>?_) (fun h1=>?_)
 ·obtain ⟨j,rfl⟩:∃ j,k=j+1:=⟨k-1,by omega⟩
  have ej:((j+1:Nat):Int)-1=(j:Int):=by omega
  rw [ej]
  have e1:B5 ((j:Int)+((mm+2:Nat):Int))=((j+(mm+2):Nat):Int):=by rw [B7 (by omega) (by omega)];omega
  have e2:B5 (((j+(mm+2):Nat):Int)+1)=((j+(mm+3):Nat):Int):=by rw [B7 (by omega) (by omega)];omega
  simp only [e1,e2,C34]
  have dws:=hdu.drop j
  have hwl:(us.drop j).length=N-j:=by rw [C39,hul]
  have hzero:val b64 ((us.drop j).drop (mm+3))=0:=by
   have:=Ca (B:=b64) (by decide) (n:=mm+2) (hdu.drop (j+1)) (by omega)
   rw [C46] at this ⊢
   rw [show j+(mm+3)=j+1+(mm+2) by omega];exact this
  have hX1:=Zo b64 us j
  have hXB:val b64 (us.drop j)<Y*b64:=by
   have hdj:=N0 hdu j
   rw [hX1]
   have t1:b64*(val b64 (us.drop (j+1))+1)<=b64*Y:=C3e (by omega) (by decide)
   have t2:b64*(val b64 (us.drop (j+1))+1)=b64*val b64 (us.drop (j+1))+18446744073709551616:=by show (18446744073709551616:Int)*_=_;grind
   have t3:Y*b64=b64*Y:=C3l _ _
   omega
  have hsp:=F1 b64 (us.drop j) (i:=mm+3) (by omega)
  rw [hzero,C4w,C4x] at hsp
  have hts:=F9 b64 (us.drop j) (mm+2)
  have hX:val b64 (us.drop j)=val b64 ((us.drop j).take (mm+2))+b64^(mm+2)*(us.drop j).getD (mm+2) 0:=by rw [hsp];exact hts
  refine ⟨⟨by omega,by omega⟩,⟨by omega,by omega⟩,?_⟩
  have sw:SlI .u64 (Y4 .u64 C1 g bu us bq qs) (K0 (some ⟨bu,0,none⟩) N j 1) ((us.drop j).take (mm+3)):=by
   have:=su.cut (c:=N) (l:=j) (m:=j+(mm+3)) (by omega) (by omega) (by omega)
   rwa [show j+(mm+3)-j=mm+3 by omega] at this
  generalize hXX:val b64 (us.drop j)=X at *
  refine Yc (m:=mm) (X:=X) (Y:=Y) sw (sv.mono hle) (by rw [C36,hwl];omega) hn.symm (dws.take _) dv (by rw [C36,hwl];omega) hn (by omega) hv1 hsp.symm hY hXB ?_
  intro q q0 q1 q2 q3
  refine ⟨_,rfl,⟨by omega,by omega⟩,⟨by omega,by omega⟩,?_⟩
  have w0:=B35 (e:=C1) (us:=us) (qs:=qs) hu hne
  have svq:SlI .u64 (blk .u64 C1 g bq qs) VA vs:=sv.mono (T0 hq qs)
  have hW:(us.drop j).take (j+(mm+2)-j)=(us.drop j).take (mm+2):=by rw [show j+(mm+2)-j=mm+2 by omega]
  have w1:=w0.sub (l:=j) (m:=j+(mm+2)) (c:=N) (by omega) (by omega) (by omega)
  rw [hW] at w1
  have hWl:((us.drop j).take (mm+2)).length=mm+2:=by rw [C36,hwl];omega
  refine Id w1 (by rw [hWl];omega) svq hn.symm (dws.take _) dv (by rw [hWl,hn]) ⟨q0,q1⟩ (by omega) ?_
  intro W c h2 hWl2 hWd hc hWv w2
  rw [hWl] at hWl2 hWv
  refine ⟨_,rfl,?_⟩
  have w3:=w0.whole (l:=j) (m:=j+(mm+2)) (by omega) (by omega) (by omega) w2
  have h2e:=B1r hne w3
  have hpre:(us.take j).length=j:=by rw [C36,hul];omega
  have hd3:us.drop (j+(mm+2))=(us.drop j).drop (mm+2):=by rw [C46]
  rw [C3z,hd3] at h2e
  subst h2e
  generalize hws:us.drop j=ws at *
  have hwsl:(W++ws.drop (mm+2)).length=ws.length:=by rw [C3a,C39];omega
  have dW:Dig b64 (W++ws.drop (mm+2)):=hWd.append (dws.drop _)
  have gtop:(W++ws.drop (mm+2)).getD (mm+2) 0=ws.getD (mm+2) 0:=by
   simp only [C4d]
   rw [C57 (by omega),hWl2,Nat.sub_self,List.getElem?_drop,C4v]
  have gt64:=N0 dws (mm+2)
  have hNl:(us.take j++(W++ws.drop (mm+2))).length=N:=by rw [C3a,hwsl,hpre];omega
  have su2:SlI .u64 (Y4 .u64 C1 g bu (us.take j++(W++ws.drop (mm+2))) bq qs) (some ⟨bu,0,none⟩) (us.take j++(W++ws.drop (mm+2))):=Sk hne
  have hj2:j+(mm+2)=(mm+2)+(us.take j).length:=by omega
  refine su2.load hNl.symm (by omega) (by omega) ?_
  rw [C34,hj2,Dw,gtop]
  refine ⟨_,rfl,by omega,by omega,?_⟩
  refine A0v (i:=mm+2+(us.take j).length) F2 hne (by omega) ?_
  rw [Iq]
  have hP:0<b64^(mm+2):=D6 (by decide) _
  have hlW:=K6 (by decide) hWd
  have hlW0:=C7 (by decide) hWd
  rw [hWl2] at hlW
  rw [hY] at hWv
  have hD:X-q*Y=val b64 W+(ws.getD (mm+2) 0-c)*b64^(mm+2):=by rw [hWv,hX];grind
  have hDlt:X-q*Y<Y:=by
   have:(q+1)*Y=q*Y+Y:=by grind
   omega
  have hDge: -Y<=X-q*Y:=by
   have:(q-1)*Y=q*Y-Y:=by grind
   omega
  have hX0:0<=X:=by
   have t1:=C7 (by decide) (dws.take (mm+2))
   have t2:=C3j (C3f hP) gt64.1
   omega
  have hdel:ws.getD (mm+2) 0-c=0\/ws.getD (mm+2) 0-c= -1:=by
   have t2:ws.getD (mm+2) 0-c<1:=by
    by_cases hc:ws.getD (mm+2) 0-c<1
    ·exact hc
    ·have:=C35 (show 1<=ws.getD (mm+2) 0-c by omega) (C3f hP);omega
   have t3: -2<ws.getD (mm+2) 0-c:=by
    by_cases hc: -2<ws.getD (mm+2) 0-c
    ·exact hc
    ·have:=C35 (show ws.getD (mm+2) 0-c <= -2 by omega) (C3f hP);omega
   omega
  have htk:∀ v,((W++ws.drop (mm+2)).set (mm+2) v).take (mm+2)=W:=by
   intro v
   rw [List.take_set_of_le (by omega),C52 hWl2]
  have hgs:∀ v,((W++ws.drop (mm+2)).set (mm+2) v).getD (mm+2) 0=v:=by
   intro v
   rw [C4d,List.getElem?_set_self (by omega)];rfl
  have hdr:∀ v,((W++ws.drop (mm+2)).set (mm+2) v).drop (mm+3)=ws.drop (mm+3):=by
   intro v
   rw [D5 (by omega),show mm+3=(mm+2)+1 by omega,<- C46,C54 hWl2,C46]
  refine ⟨fun l h'=>∃ ws' q',l=[U q']/\h'=Y4 .u64 C1 g bu (us.take j++ws') bq qs/\ws'.length=ws.length/\Dig b64 ws'/\ws'.drop (mm+3)=ws.drop (mm+3)/\ws'.getD (mm+2) 0=0/\val b64 (ws'.take (mm+2))=X-q'*Y/\0<=X-q'*Y/\X-q'*Y<Y/\0<=q'/\q'<18446744073709551616,B6 (fun h3=>?_) (fun h3=>?_),?_⟩
  ·have hdel1:ws.getD (mm+2) 0-c= -1:=by omega
   rw [hdel1] at hD ⊢
   have hm1:C0 (-1)=18446744073709551615:=by rw [E8];omega
   rw [hm1]
   have hqpos:1<=q:=by
    by_cases hc:1<=q
    ·exact hc
    ·have:q=0:=by omega
     subst this;omega
   have e5:(q-1)*Y=q*Y-Y:=by grind
   have bk:=B9b (g:=g) (bu:=bu) (bq:=bq) (pre:=us.take j) (qs:=qs) (VA:=VA) (vs:=vs) (n:=mm+2) (N:=N) (ws:=(W++ws.drop (mm+2)).set (mm+2) 18446744073709551615) (q:=q)
    (J:=fun l h'=>∃ ws' q',l=[U q']/\h'=Y4 .u64 C1 g bu (us.take j++ws') bq qs/\ws'.length=ws.length/\Dig b64 ws'/\ws'.drop (mm+3)=ws.drop (mm+3)/\ws'.getD (mm+2) 0=0/\val b64 (ws'.take (mm+2))=X-q'*Y/\0<=X-q'*Y/\X-q'*Y<Y/\0<=q'/\q'<18446744073709551616)
    hu hq hne sv dv hn.symm (dW.set (by decide)) (by rw [C3a,C3o,hwsl,hpre];omega) (by rw [C3o,hwsl];omega) (by omega) (by rw [htk,hY];omega) (by rw [htk,hY];omega) (hgs _) ?_
   ·rw [hpre] at bk;exact bk
   ·intro ws' g1 g2 g3 g4 g5
    rw [htk,hY] at g5
    rw [C2 (n:=q-1) (by omega) (by omega)]
    refine ⟨ws',q-1,rfl,rfl,by rw [g1,C3o,hwsl],g2,by rw [g3,hdr],g4,by omega,by omega,by omega,by omega,by omega⟩
  ·have hdel0:ws.getD (mm+2) 0-c=0:=by omega
   rw [hdel0] at hD ⊢
   have hm0:C0 0=0:=by rw [E8];omega
   rw [hm0]
   exact ⟨(W++ws.drop (mm+2)).set (mm+2) 0,q,rfl,rfl,by rw [C3o,hwsl],dW.set (by decide),hdr _,hgs _,by rw [htk];omega,by omega,hDlt,q0,q1⟩
  ·rintro q4 hp17 ⟨ws',q',hl1,rfl,g1,g2,g3,g4,g5,g6,g7,g8,g9⟩
   obtain rfl:q4=q':=by simpa using hl1
   refine ⟨_,rfl,by omega,by omega,?_⟩
   refine A0w (i:=j) F2 (by omega) ?_
   rw [B7 (by omega) (by omega)]
   have hvw:val b64 ws'=X-q4*Y:=by
    have z1:=F1 b64 ws' (i:=mm+3) (by omega)
    rw [g3,hzero,F9,g4,g5] at z1
    simp at z1
    omega
   refine ⟨⟨j,us.take j++ws',qs.set j q4,rfl,by omega,by rw [C3a,g1,hpre];omega,by simpa using hql,(hdu.take j).append g2,hdq.set ⟨g8,g9⟩,rfl,?_,?_⟩,by simp only [iAt,C37];omega⟩
   ·rw [C54 hpre,hvw];exact g7
   ·have hs2:=F1 b64 us (i:=j) (by omega)
    rw [hws,hXX] at hs2
    rw [hv,S9 (by omega),F8,hpre,hvw,hs2,C3s]
    simp only [val]
    grind
 ·have hk0:k=0:=by omega
  subst hk0
  simp at hlt hv
  have hb0:0<b:=by
   by_cases hc:0<b
   ·exact hc
   ·have:=C35 (show b<=0 by omega) (C3f hp);omega
  have hus0:=C7 (by decide) hdu
  have hR:val b64 us=(a-val b64 qs*b)*2^s:=by
   rw [hua,hYb] at hv
   grind
  have hr0:0<=a-val b64 qs*b:=by
   by_cases hc:0<=a-val b64 qs*b
   ·exact hc
   ·have:=C35 (show a-val b64 qs*b <= -1 by omega) (C3f hp);omega
  have hr1:a-val b64 qs*b<b:=by
   by_cases hc:a-val b64 qs*b<b
   ·exact hc
   ·have:=C35 (show b<=a-val b64 qs*b by omega) (C3f hp);omega
  have hdiv:a/b=val b64 qs:=by
   have:a=(a-val b64 qs*b)+val b64 qs*b:=by omega
   rw [this,C4l _ _ (by omega),C3t hr0 hr1,C4h]
  have hmod:a%b=a-val b64 qs*b:=by
   have:=Int.emod_def a b
   rw [this,hdiv,C3l]
  rw [hdiv,hmod] at hK
  rw [<- hql]
  refine O8 B4w hdq (C3i _) (by omega) ?_
  intro m1 hm1 M1
  refine ⟨_,_,_,rfl,?_⟩
  rw [<- hul]
  refine O8 su hdu (C3i _) (by omega) ?_
  intro m2 hm2 M2
  refine ⟨_,_,_,rfl,?_⟩
  rw [C2 (by omega) (by omega)]
  refine Es M2 (by have:=M2.len_le (by decide) (j:=mm+2) (by omega);omega) (by omega) ?_
  intro A3 m3 c3 h3 l3 k3 M3
  have hsh:val b64 us/2^s=a-val b64 qs*b:=by rw [hR,Int.mul_ediv_cancel _ (by omega)]
  rw [hsh] at M3
  exact ⟨_,_,_,rfl,hK _ _ _ _ _ _ _ (B0 hle l3) (by omega) k3 (M1.mono l3) M3⟩
end
section
variable {h g:Heap} {K:VP} {A B:Option Addr} {ac bc:Nat}
set_option maxHeartbeats 1000000 in
theorem Cw{x y:Int}{an bn:Nat}(ma:Mw h A an x)(mb:Mw h B bn y)(ha:an<=ac)(hbc:bn<=bc)(hy:y≠0)(hl:an<=1000000000)(hl2:bn<=1000000000)
 (hK:∀ A1 m1 c1 A2 m2 c2 h',h.le h'->m1<=c1->m2<=c2->Mw h' A1 m1 (x/y)->Mw h' A2 m2 (x%y)->K (.tuple #[.slice A1 m1 c1,.slice A2 m2 c2]) h'):FCall prog I4 #[.slice A an ac,.slice B bn bc] h K:=by
 have hx0:=ma.nonneg (by decide)
 have hy0:=mb.nonneg (by decide)
 have hb0:=mb.len_zero (by decide)
 have ha1:=ma.lt (by decide)
 have hb1:=mb.lt (by decide)
 refine Po _ _ _ _ _ _ ?_
 unfold Lr
 refine J5 ma mb (by omega) ⟨_,rfl,B6 (fun h1=>?_) (fun h1=>D9 (fun h2=>?_) (fun h2=>?_))⟩
 ·have hlt:x<y:=by
   unfold Tr at h1
   by_cases hc:x<y
   ·exact hc
   ·rw [if_neg hc] at h1
    by_cases hc2:x>y
    ·rw [if_pos hc2] at h1;omega
    ·rw [if_neg hc2] at h1;omega
  rw [C3t hx0 hlt,C4t hx0 hlt] at hK
  exact hK none 0 0 _ _ _ _ (B4 h) (C3i _) ha Mag.zero ma
 ·obtain ⟨ys,rfl,sy,dy,ny,rfl⟩:=mb
  have h2':ys.length=1:=by omega
  obtain ⟨d,rfl⟩:∃ d,ys=[d]:=by
   cases ys with
   | nil=>simp at h2'
   | cons d r=>
    cases r with
    | nil=>exact ⟨d,rfl⟩
    | cons _ _=>simp at h2'
  rw [T3] at hy hy0 hK
  have hd:=dy d (by simp)
  obtain ⟨w,rfl⟩:∃ w:Nat,d=w:=⟨d.toNat,by omega⟩
  refine sy.load rfl (by omega) (by simp) ?_
  show FCall _ _ #[_,U (w:Int)] _ _
  have hw:w<18446744073709551616:=by have:=hd.2;have:(w:Int)<18446744073709551616:=this;omega
  refine Sc ma ⟨by omega,hw⟩ hl ?_
  intro A' m c' h' hle hm hmn hM
  refine ⟨_,_,_,_,rfl,?_⟩
  refine Ai ⟨C3q _ (by omega),by have:=C3u x (show (0:Int)<w by omega);omega⟩ ?_
  intro A2 m2 c2 h3 l3 k3 M3
  exact ⟨_,_,_,rfl,hK _ _ _ _ _ _ _ (B0 hle l3) hm k3 (hM.mono l3) M3⟩
 ·have hge:y<=x:=by
   unfold Tr at h1
   by_cases hc:x<y
   ·rw [if_pos hc] at h1;omega
   ·omega
  have hbn:bn<=an:=mb.len_le (by decide) (C4r hge ha1)
  have mb':=mb
  have ma':=ma
  obtain ⟨ys,rfl,sy,dy,ny,rfl⟩:=mb
  obtain ⟨mm,hmm⟩:∃ mm,ys.length=mm+2:=⟨ys.length-2,by omega⟩
  have gt:=N0 dy (mm+1)
  have ht0:=Zs (m:=mm+1) hmm ny
  obtain ⟨hyt,hyt2⟩:=Ax (B:=b64) (by decide) dy (m:=mm+1) hmm
  have e1:B5 ((ys.length:Int)-1)=((mm+1:Nat):Int):=by rw [B7 (by omega) (by omega)];omega
  rw [e1]
  refine sy.load rfl (by omega) (by omega) ?_
  rw [C34]
  obtain ⟨t,ht⟩:∃ t:Nat,ys.getD (mm+1) 0=t:=⟨(ys.getD (mm+1) 0).toNat,by omega⟩
  rw [ht] at gt ht0 hyt hyt2 ⊢
  have ht0':t≠0:=by omega
  refine Q3 (by omega) ⟨_,rfl,?_⟩
  obtain ⟨hb1',hb2'⟩:=Db ht0'
  have hb64:N3 t<=64:=Gr (k:=64) (by omega)
  have hbb0:1<=N3 t:=by unfold N3;rw [if_neg ht0'];omega
  obtain ⟨s,hs⟩:∃ s,s=64-N3 t:=⟨_,rfl⟩
  rw [<- hs]
  have hs64:s<64:=by omega
  have hps:0<(2:Int)^s:=C3v (by decide)
  have hsp:=W7 (s:=s) (by omega)
  have hblen:N3 t=64-s:=by omega
  have htl:(t:Int)+1<=2^(64-s):=by
   rw [<- hblen]
   have:((t+1:Nat):Int)<=((2^N3 t:Nat):Int):=by omega
   simpa using this
  have htg:(2:Int)^(63-s)<=t:=by
   have:((2^(N3 t-1):Nat):Int)<=((t:Nat):Int):=by omega
   rw [show N3 t-1=63-s by omega] at this
   simpa using this
  have hp63:(2:Int)^s*2^(63-s)=9223372036854775808:=by
   rw [<- C3w,show s+(63-s)=63 by omega];decide
  have es0:C0 (s:Int)=(s:Int):=C2 (by omega) (by omega)
  rw [es0]
  have hpm:=D6 (B:=b64) (by decide) (mm+1)
  have hY1:val b64 ys*2^s<b64^(mm+2):=by
   have t2:val b64 ys*2^s<((t:Int)+1)*b64^(mm+1)*2^s:=C4e hyt hps
   have t3:((t:Int)+1)*b64^(mm+1)*2^s=((t:Int)+1)*2^s*b64^(mm+1):=by grind
   have t4:((t:Int)+1)*2^s*b64^(mm+1)<=18446744073709551616*b64^(mm+1):=by
    apply C35 _ (C3f hpm)
    rw [<- hsp,C3l (2^s)]
    exact C35 htl (C3f hps)
   have t5:b64^(mm+2)=18446744073709551616*b64^(mm+1):=by rw [C3s b64 (mm+1),C3l]
   omega
  have hY2:9223372036854775808*b64^(mm+1)<=val b64 ys*2^s:=by
   have t1:(t:Int)*b64^(mm+1)*2^s<=val b64 ys*2^s:=C35 hyt2 (C3f hps)
   have t2:9223372036854775808*b64^(mm+1)<=(t:Int)*2^s*b64^(mm+1):=by
    apply C35 _ (C3f hpm)
    rw [<- hp63,C3l (t:Int)]
    exact C3e htg (by omega)
   have t3:(t:Int)*2^s*b64^(mm+1)=(t:Int)*b64^(mm+1)*2^s:=by grind
   omega
  refine S0 mb' hbc hl2 (by omega) ?_
  intro A1 n1 c1 g1 l1 k1 M1
  refine ⟨_,_,_,rfl,?_⟩
  have hn1:n1=mm+2:=by
   have q1:=M1.len_le (by decide) hY1
   have q2:=M1.lt (by decide)
   by_cases hc:n1=mm+2
   ·exact hc
   ·have:=D0 (B:=b64) (by decide) (show n1<=mm+1 by omega)
    omega
  subst hn1
  obtain ⟨vs,hvl,sv,dv,nv,hvv⟩:=M1
  have hv1:b64<=2*vs.getD (mm+1) 0:=by
   obtain ⟨q1,q2⟩:=Ax (B:=b64) (by decide) dv (m:=mm+1) hvl.symm
   rw [hvv] at q1
   have:9223372036854775808<vs.getD (mm+1) 0+1:=by
    by_cases hc:9223372036854775808<vs.getD (mm+1) 0+1
    ·exact hc
    ·have:=C35 (show vs.getD (mm+1) 0+1<=9223372036854775808 by omega) (C3f hpm);omega
   show (18446744073709551616:Int)<=_
   omega
  have eN:B5 ((an:Int)+1)=((an+1:Nat):Int):=by rw [B7 (by omega) (by omega)];omega
  rw [eN]
  refine J3 O6 (by omega) (by omega) (by omega) ?_
  intro bu hbu
  rw [C34]
  refine ⟨_,_,_,rfl,?_⟩
  have w0:=Win.blk .u64 C1 hbu (C3c (an+1) 0)
  refine w0.call ?_
  refine S0 (ma'.mono l1) ha hl (by omega) ?_
  intro A3 n3 c3 g3 l3 k3 M3 h4 w4
  refine ⟨_,_,_,rfl,?_⟩
  have hxs:x*2^s<b64^(an+1):=by
   have t1:x*2^s<b64^an*2^s:=C4e ha1 hps
   have t2:b64^an*2^s<=b64^an*18446744073709551616:=by
    apply C3e _ (C3f (D6 (by decide) an))
    have:=D0 (B:=2) (by decide) (show s<=64 by omega)
    have e:(2:Int)^64=18446744073709551616:=by decide
    omega
   rw [C3s];show _<b64^an*(18446744073709551616:Int);omega
  have hn3:=M3.len_le (by decide) hxs
  obtain ⟨us,hul,sus,dus,nus,husv⟩:=M3
  refine En O6 w4 (by simp) (sus.mono w4.le) hul (by simp;omega) ?_
  intro h5 w5
  refine ⟨_,rfl,?_⟩
  rw [C3p] at w5
  generalize hu0:us++C3c (an+1-us.length) (0:Int)=us0 at w5
  have hu0l:us0.length=an+1:=by rw [<- hu0];simp;omega
  have hu0d:Dig b64 us0:=by rw [<- hu0];exact dus.append (H0 (by decide) _)
  have hu0v:val b64 us0=x*2^s:=by rw [<- hu0,Bp];exact husv
  obtain ⟨nq,hnq⟩:∃ nq,an+1=nq+(mm+2):=⟨an+1-(mm+2),by omega⟩
  have eq:B5 (B5 ((an:Int)-(ys.length:Int))+1)=(nq:Int):=by
   rw [B7 (n:=(an:Int)-(ys.length:Int)) (by omega) (by omega),B7 (by omega) (by omega)];omega
  rw [eq]
  refine J3 O6 (by omega) (by omega) (by omega) ?_
  intro bq hbq
  rw [C34]
  refine ⟨_,_,_,rfl,?_⟩
  have h5e:h5=blk .u64 C1 g3 bu us0:=by rw [w5.eq];simp [blk]
  subst h5e
  have hg3u:g3 bu=none:=w5.free
  have hne:bu≠bq:=by
   rintro rfl
   unfold blk at hbq
   rw [C3] at hbq;cases hbq
  have hbq':g3 bq=none:=by
   have:=hbq
   unfold blk at this
   rwa [B8 _ _ hne.symm] at this
  rw [hmm]
  refine A2b (us0:=us0) (N:=an+1) (xn:=an) hg3u hbq' hne (sv.mono l3) dv hvl.symm hv1 hs64 hvv rfl hu0d hu0l hu0v rfl hnq (by omega) (by omega) ?_ ?_
  ·have s1:=F1 b64 us0 (i:=nq) (by omega)
   have s2:=C7 (by decide) (hu0d.take nq)
   have s3:val b64 us0<b64^an*2^s:=by
    rw [hu0v];exact C4e ha1 hps
   have s4:b64^(mm+1)<=val b64 ys:=by
    have:=C35 (show 1<=(t:Int) by omega) (C3f hpm);omega
   have s5:b64^nq*(b64^(mm+1)*2^s)<=b64^nq*(val b64 ys*2^s):=C3e (C35 s4 (C3f hps)) (C3f (D6 (by decide) nq))
   have s6:b64^nq*(b64^(mm+1)*2^s)=b64^an*2^s:=by
    rw [<- Int.mul_assoc,<- C3w,show nq+(mm+1)=an by omega]
   by_cases hc:val b64 (us0.drop nq)<val b64 ys*2^s
   ·exact hc
   ·have:=C3e (show val b64 ys*2^s<=val b64 (us0.drop nq) by omega) (C3f (D6 (B:=b64) (by decide) nq));omega
  ·intro A5 m5 c5 A6 m6 c6 h6 l6 k5 k6 M5 M6
   exact hK _ _ _ _ _ _ _ (B0 l1 (B0 l3 l6)) k5 k6 M5 M6
end
end Go.Proofs.YtajkakhfcokljaaGreatDoor
