/-
  Texts of this proof, merged by a program of ours.
-/
import Derived.Test.YtajkakhfcokljaaGreatDoorG18
import Derived.Test.YtajkakhfcokljaaGreatDoorG19
import Derived.Test.YtajkakhfcokljaaGreatDoorG07
import Derived.Test.YtajkakhfcokljaaGreatDoorG16
open Go.Proofs.Tryz
set_option linter.all false
open _root_.Go.Extern.MathBitsCarry renaming m64->B92,pair->C0y
open _root_.Go.Instr renaming storeAt->C09
open Int renaming toNat_natCast->B8t,mul_le_mul_of_nonneg_right->B8u,mul_le_mul_of_nonneg_left->B93,le_of_lt->B94,mul_nonneg->B98,mul_comm->B9a,mul_ediv_add_emod->B9b,tdiv_eq_ediv_of_nonneg->B9c,emod_nonneg->B9f,pow_succ->B9h,ediv_eq_zero_of_lt->B9i,emod_lt_of_pos->B9j,pow_pos->B9k,pow_add->B9l,ediv_nonneg->B9m,natAbs_natCast->B9q,ediv_lt_of_lt_mul->B9s,tmod_eq_emod_of_nonneg->B9t,mul_lt_mul_of_pos_right->C03,mul_lt_mul_of_pos_left->C04,zero_add->C06,mul_le_mul->C08,add_mul_ediv_right->C0a,add_comm->C0e,tdiv->C0f,lt_of_le_of_lt->C0g,emod_eq_of_lt->C0i,mul_zero->C0l,add_zero->C0m,ediv_le_self->C0o,mul_add->C0u,add_mul_emod_self_right->C0v,fdiv_eq_ediv_of_nonneg->C0x
open List renaming length_take->B8v,getElem?_cons_zero->B8w,length_drop->B8y,length_append->B8z,getElem?_cons_succ->B90,replicate->B91,take_of_length_le->B95,take_length->B96,eq_nil_of_length_eq_zero->B99,length_set->B9d,drop_replicate->B9e,append_assoc->B9o,drop_of_length_le->B9p,length_singleton->B9r,drop_eq_getElem_cons->B9u,drop_drop->B9v,getElem?_eq_getElem->B9x,take_append_drop->B9z,take_replicate->C01,getD->C02,drop_zero->C07,nil_append->C0b,getElem?_eq_none->C0c,append_nil->C0d,take_succ_eq_append_getElem->C0h,drop_length->C0n,take_left'->C0r,map_append->C0s,drop_left'->C0t,getElem?_append_right->C0w
open Nat renaming min_eq_left->B8x,le_refl->B97,pow_le_pow_right->B9g,sub_zero->B9w,add_sub_cancel_left->B9y,pow_le_pow_left->C00,lt_of_lt_of_le->C05,pow_succ->C0j,add_zero->C0k,pow_pos->C0p,mul_one->C0q
open _root_.Go.Value renaming int->B9n
namespace Go.Proofs.YtajkakhfcokljaaGreatDoor
set_option maxRecDepth 20000
open Go
theorem Bs:prog.underlying F5=some (.int .u8):=by kernel_rfl
theorem S2:prog.underlying A4q=some .string:=by kernel_rfl
def pv:List Nat->Nat
 | []=>0
 | d::r=>d+1000000000*pv r
theorem B39(ps:List Nat)(d:Nat):pv (ps++[d])=pv ps+10^(9*ps.length)*d:=by
 induction ps with
 | nil=>simp [pv]
 | cons p ps ih=>
  simp only [List.cons_append,pv,ih,List.length_cons]
  rw [show 9*(ps.length+1)=9*ps.length+9 by omega,Nat.pow_add,show 10^9=1000000000 by decide]
  grind
theorem A33(ps:List Nat)(k:Nat):pv (ps.drop k)<=pv ps:=by
 induction ps generalizing k with
 | nil=>simp
 | cons p ps ih=>
  cases k with
  | zero=>simp
  | succ k=>have:=ih k;simp only [List.drop_succ_cons,pv];omega
theorem B3a{ps:List Nat}{k:Nat}(h:k<ps.length):pv (ps.drop k)=ps[k]+1000000000*pv (ps.drop (k+1)):=by
 rw [B9u h];rfl
def pw(e:Nat):Nat:=if e=0 then 0 else 10^(e-1)
theorem To(e:Nat):pw (e+1)=10^e:=by simp [pw]
theorem A5e(e:Nat):pw (e+1)/10=pw e:=by
 rw [To]
 cases e with
 | zero=>simp [pw]
 | succ e=>rw [To,C0j,Nat.mul_div_cancel _ (by decide)]
theorem B3s(V d:Nat)(hd:d<10):dd (10*V+d)=if V≠0\/d≠0 then dd V++[dch d] else dd V:=by
 by_cases h:10*V+d=0
 ·have h1:V=0:=by omega
  have h2:d=0:=by omega
  subst h1 h2
  simp
 ·rw [if_pos (by omega),X4 h,show (10*V+d)/10=V by omega,show (10*V+d)%10=d by omega]
theorem A3j(n:Nat):(dd n).length=0↔n=0:=by
 constructor
 ·intro h
  by_cases h0:n=0
  ·exact h0
  ·exact absurd (B99 h) (B0c h0)
 ·rintro rfl;rw [I7];rfl
section
variable {h h':Heap} {K:VP} {A B:Option Addr} {n c n' c':Nat} {s s':Bool} {x y z:Int} {m:Nat} {p q:Rat} {a b w:QV}
theorem Pk(i:NI h s A n c z)(hz:ZB m z)(hm:m<=1000000000)(hK:K (.string (bs (L3 z.natAbs))) h):FCall prog Je #[.agg #[.bool s,.slice A n c]] h K:=by
 have h0:=i.zero_iff
 have hln:=i.len hz hm
 refine FCall.pure (A45 _ _ _ _ ?_)
 unfold A8b
 refine D8 (fun e=>?_) (fun e=>?_)
 ·have:z=0:=h0.1 (by omega)
  subst this
  exact ⟨B0 h,hK⟩
 ·have hz0:z≠0:=fun e1=>e (by have:=h0.2 e1;omega)
  generalize hZ:z.natAbs=Z at *
  have hZm:Z<2^m:=by rw [<- hZ];exact hz
  rw [U3 (show Z≠0 by omega)] at hK
  have hmag:=i.mag
  rw [hZ] at hmag
  refine ⟨fun l hp=>∃ (ps:List Nat) (X:Nat) (A B:Option Addr) (c mn mc:Nat) (g:Heap),l=[.slice A ps.length c,.slice B mn mc]/\h.le g/\Priv hp g C2 1 A ps.length c (ps.map fun (d:Nat)=>U32 (d:Int))/\Mg g B mn X/\mn<=100000000/\(∀ d∈ps,d<1000000000)/\Z=pv ps+10^(9*ps.length)*X/\29*ps.length<=m+29,fun l hp=>match l with|[_,.slice B n _]=>A5u b32 hp B n|_=>0,⟨[],Z,none,A,0,n,c,h,rfl,B0 h,Priv.nil _ _ _ _,hmag,hln,by simp,by simp [pv],by simp⟩,?_⟩
  rintro A1 n1 c1 B1 mn mc hp ⟨ps,X,A1',B1',c1',mn',mc',g,hl,hle,P1,M1,q1,hps,hZp,hlen⟩
  obtain ⟨⟨rfl,rfl,rfl⟩,rfl,rfl,rfl⟩:(A1=A1'/\n1=ps.length/\c1=c1')/\B1=B1'/\mn=mn'/\mc=mc':=by simpa using hl
  have hX0:=M1.len_zero (by decide)
  refine B4 (fun h1=>?_) (fun h1=>?_)
  ·have hX:X≠0:=by omega
   have hl29:29*ps.length<m:=by
    have h2:2^(29*ps.length)<=10^(9*ps.length):=by
     rw [Nat.pow_mul,Nat.pow_mul]
     exact C00 (by decide) _
    have h3:10^(9*ps.length)*1<=10^(9*ps.length)*X:=Nat.mul_le_mul_left _ (by omega)
    exact (Nat.pow_lt_pow_iff_right (a:=2) (by decide)).1 (by omega)
   refine P1.call ?_
   refine Id M1 (by decide) q1 ?_
   intro A2 m2 c2 h2 l2 k2 k3 M2 h3 P3
   refine ⟨_,_,_,_,rfl,?_⟩
   have hmod:((X:Int)%1000000000)=((X%1000000000:Nat):Int):=by omega
   have hdiv:((X:Int)/1000000000)=((X/1000000000:Nat):Int):=by omega
   rw [hdiv] at M2
   rw [hmod]
   refine Bj Mj P3 rfl rfl (by omega) (by omega) ?_
   intro A4 c4 h4 g4 l4 P4
   have M4:Mg g4 A2 m2 ((X/1000000000:Nat):Int):=M2.mono l4
   refine ⟨⟨ps++[X%1000000000],X/1000000000,A4,A2,c4,m2,c2,g4,by simp,Heap.le_trans hle (Heap.le_trans l2 l4),by simpa using P4,M4,by omega,?_,?_,?_⟩,?_⟩
   ·intro d hd
    rcases List.mem_append.1 hd with h5|h5
    ·exact hps d h5
    ·rw [List.mem_singleton.1 h5];exact Nat.mod_lt _ (by decide)
   ·rw [B39,B8z,B9r,Nat.mul_add,Nat.pow_add,hZp,Nat.add_assoc,Nat.mul_assoc,<- Nat.mul_add,show 10^(9*1)=1000000000 by decide,Nat.mod_add_div]
   ·rw [B8z,B9r];omega
   ·show A5u b32 h4 A2 m2<A5u b32 hp B1 mn
    rw [V5 (M4.mono P4.le),V5 (M1.mono P1.le)]
    simp only [B8t]
    exact Nat.div_lt_self (by omega) (by decide)
  ·have hX:X=0:=by omega
   subst hX
   rw [Nat.mul_zero,C0k] at hZp
   have sps:SlV hp A1 (ps.map fun (d:Nat)=>U32 (d:Int)):=P1.slV
   have hps0:ps.length≠0:=by
    intro e0
    rw [B99 e0] at hZp
    simp [pv] at hZp;omega
   have hVl:∀ V,V<=Z->(dd V).length<=m:=by
    intro V hV
    apply O0.2
    have:2^m<=10^m:=C00 (by decide) _
    omega
   have e1:B3 ((ps.length:Int)-1)=(ps.length:Int)-1:=B5 (by omega) (by omega)
   rw [e1]
   refine ⟨fun l h4=>∃ (k:Nat) (A:Option Addr) (n c:Nat) (g:Heap),l=[.slice A n c,I ((k:Int)-1)]/\k<=ps.length/\hp.le g/\n=(dd (pv (ps.drop k))).length/\Priv h4 g F5 1 A n c (yv (dd (pv (ps.drop k)))),fun l _=>(iAt l 1+1).toNat,⟨ps.length,none,0,0,hp,rfl,B97 _,B0 hp,by simp [pv,I7],by simpa [pv,I7,yv] using Priv.nil _ _ _ _⟩,?_⟩
   rintro A2 n2 c2 i2 h4 ⟨k,A2',n2',c2',g4,hl2,hk,lg,hn2,P2⟩
   obtain ⟨⟨rfl,rfl,rfl⟩,rfl⟩:(A2=A2'/\n2=n2'/\c2=c2')/\i2=(k:Int)-1:=by simpa using hl2
   refine B4 (fun h2=>?_) (fun h2=>?_)
   ·obtain ⟨j,rfl⟩:∃ j,k=j+1:=⟨k-1,by omega⟩
    have ej:((j+1:Nat):Int)-1=(j:Int):=by omega
    rw [ej]
    have hj:j<ps.length:=by omega
    have hpd:=B3a hj
    have hpj:ps[j]<1000000000:=hps _ (List.getElem_mem hj)
    have hle2:=A33 ps j
    refine ⟨fun l h5=>∃ (e:Nat) (A:Option Addr) (n c:Nat) (g:Heap),l=[.slice A n c,U32 (pw e:Int)]/\e<=9/\hp.le g/\n=(dd (pv (ps.drop (j+1))*10^(9-e)+ps[j]/10^e)).length/\Priv h5 g F5 1 A n c (yv (dd (pv (ps.drop (j+1))*10^(9-e)+ps[j]/10^e))),fun l _=>(iAt l 1).toNat,⟨9,A2,n2,c2,g4,rfl,by omega,lg,?_,?_⟩,?_⟩
    ·rw [Nat.div_eq_of_lt (by simpa using hpj)];simpa using hn2
    ·rw [Nat.div_eq_of_lt (by simpa using hpj)];simpa using P2
    rintro A5 n5 c5 d h5 ⟨e,A5',n5',c5',g5,hl5,he,lg5,hn5,P5⟩
    obtain ⟨⟨rfl,rfl,rfl⟩,rfl⟩:(A5=A5'/\n5=n5'/\c5=c5')/\d=(pw e:Int):=by simpa using hl5
    generalize hV:pv (ps.drop (j+1))*10^(9-e)+ps[j]/10^e=V at *
    refine B4 (fun h6=>?_) (fun h6=>?_)
    ·obtain ⟨f,rfl⟩:∃ f,e=f+1:=by
      cases e with
      | zero=>simp [pw] at h6
      | succ f=>exact ⟨f,rfl⟩
     have hpw:pw (f+1)=10^f:=To f
     have hpf:0<10^f:=C0p (by decide)
     have hpf8:10^f<=100000000:=by
      have:10^f<=10^8:=B9g (by decide) (by omega)
      simpa using this
     have hVn:pv (ps.drop (j+1))*10^(9-f)+ps[j]/10^f=10*V+ps[j]/10^f%10:=by
      rw [<- hV,show 9-f=(9-(f+1))+1 by omega,C0j,C0j,<- Nat.div_div_eq_div_mul,Nat.mul_add]
      have:=Nat.div_add_mod (ps[j]/10^f) 10
      grind
     have hVle:10*V+ps[j]/10^f%10<=Z:=by
      rw [<- hVn]
      have t1:10^(9-f)*10^f=1000000000:=by rw [<- Nat.pow_add,show 9-f+f=9 by omega]
      have t2:10^(9-f)<=1000000000:=by rw [<- t1];exact Nat.le_mul_of_pos_right _ hpf
      have t3:pv (ps.drop (j+1))*10^(9-f)<=pv (ps.drop (j+1))*1000000000:=Nat.mul_le_mul_left _ t2
      have t4:=Nat.div_le_self ps[j] (10^f)
      omega
     have ec:wu8 (F3 ((48:Int)+Int.tmod (F3 (C0f (ps[j]:Int) ((pw (f+1):Nat):Int))) 10))=((48+ps[j]/10^f%10:Nat):Int):=by
      rw [hpw]
      have t1:C0f (ps[j]:Int) ((10^f:Nat):Int)=((ps[j]/10^f:Nat):Int):=by rw [<- Int.ofNat_tdiv]
      rw [t1]
      have t2:ps[j]/10^f<1000000000:=Nat.lt_of_le_of_lt (Nat.div_le_self _ _) hpj
      clear t1
      generalize ps[j]/10^f=D at t2 ⊢
      rw [L4 (n:=(D:Int)) (by omega) (by omega)]
      have t3:Int.tmod (D:Int) 10=((D%10:Nat):Int):=by
       rw [B9t (by omega)];omega
      rw [t3,L4 (by omega) (by omega),Rl (by omega) (by omega)];omega
     have hd10:ps[j]/10^f%10<10:=Nat.mod_lt _ (by decide)
     have sps5:SlV h5 A1 (ps.map fun (d:Nat)=>U32 (d:Int)):=sps.mono (Heap.le_trans lg5 P5.le)
     refine ⟨fun l h6=>∃ (A:Option Addr) (n c:Nat) (g:Heap),l=[.slice A n c]/\hp.le g/\n=(dd (10*V+ps[j]/10^f%10)).length/\Priv h6 g F5 1 A n c (yv (dd (10*V+ps[j]/10^f%10))),?_,?_⟩
     ·obtain ⟨ad,had,hcell⟩:=SlV.at sps5 (i:=j) (by simpa using hj)
      refine ⟨ad,had,by omega,by omega,(ps[j]:Int),by rw [B8t,C0q,hcell];simp,?_⟩
      refine B4 (fun e0=>absurd e0 (by omega)) (fun _=>?_)
      rw [ec]
      have hstep:=B3s V (ps[j]/10^f%10) hd10
      have hVnil:=A3j V
      refine ⟨fun l h7=>l=[.bool (decide (V≠0\/ps[j]/10^f%10≠0))]/\h7=h5,B4 (fun h7=>⟨?_,rfl⟩) (fun h7=>⟨?_,rfl⟩),?_⟩
      ·have:V≠0:=by omega
       simp [this]
      ·have:V=0:=by omega
       have e2:∀ D:Nat,(((48+D:Nat):Int) != 48)=decide (V≠0\/D≠0):=by
        intro D
        rw [Bool.eq_iff_iff,bne_iff_ne,decide_eq_true_iff];omega
       rw [e2]
      rintro tb h7 ⟨hl7,rfl⟩
      obtain rfl:tb=decide (V≠0\/ps[j]/10^f%10≠0):=by simpa using hl7
      refine B4 (fun h8=>?_) (fun h8=>?_)
      ·rw [if_pos h8] at hstep
       have hl8:=hVl _ hVle
       rw [hstep,B8z,B9r] at hl8
       refine Bj Dt P5 rfl rfl (by omega) (by omega) ?_
       intro A9 c9 h9 g9 l9 P9
       refine ⟨A9,n5+1,c9,g9,rfl,Heap.le_trans lg5 l9,by rw [hstep,B8z,hn5];rfl,?_⟩
       rw [hstep,Q6]
       have:yv [dch (ps[j]/10^f%10)]=[Y ((48+ps[j]/10^f%10:Nat):Int)]:=by
        simp only [yv,List.map_cons,List.map_nil,Cf hd10]
       rw [this];exact P9
      ·rw [if_neg h8] at hstep
       exact ⟨A5,n5,c5,g5,rfl,lg5,by rw [hstep];exact hn5,by rw [hstep];exact P5⟩
     ·rintro A9 n9 c9 h9 ⟨A9',n9',c9',g9,hl9,lg9,hn9,P9⟩
      obtain ⟨rfl,rfl,rfl⟩:A9=A9'/\n9=n9'/\c9=c9':=by simpa using hl9
      have ed:F3 (C0f ((pw (f+1):Nat):Int) 10)=((pw f:Nat):Int):=by
       have t1:C0f ((pw (f+1):Nat):Int) 10=((pw (f+1)/10:Nat):Int):=by rw [Int.natCast_ediv,B9c (by omega)];rfl
       rw [t1,A5e,L4 (by omega) (by have:=A5e f;rw [hpw] at this;omega)]
      rw [ed]
      refine ⟨⟨f,A9,n9,c9,g9,rfl,by omega,lg9,by rw [hVn];exact hn9,by rw [hVn];exact P9⟩,?_⟩
      simp only [iAt,B8w,B90,B8t]
      have:=A5e f
      rw [hpw] at this ⊢
      omega
    ·have he0:e=0:=by
      cases e with
      | zero=>rfl
      | succ f=>rw [To] at h6;have:0<10^f:=C0p (by decide);omega
     subst he0
     have hV2:V=pv (ps.drop j):=by rw [<- hV,hpd];simp;omega
     rw [hV2] at P5 hn5
     rw [B5 (by omega) (by omega)]
     exact ⟨⟨j,A5,n5,c5,g5,rfl,by omega,lg5,hn5,P5⟩,by simp only [iAt,B8w,B90];omega⟩
   ·have hk0:k=0:=by omega
    subst hk0
    rw [C07,<- hZp] at P2 hn2
    refine Ib Dt.und Bs S2 P2.slV hn2 ?_
    exact ⟨_,rfl,Heap.le_trans hle (Heap.le_trans P1.le (Heap.le_trans lg P2.le)),hK⟩
end
theorem Sb(a:Array UInt8):({ data:=a }:ByteArray)=bs a.toList:=by simp [bs]
theorem As{l:List UInt8}(h:∀ c∈l,F9 c):I5 l<2^(4*l.length):=by
 have h1:=Dn h
 have h2:10^l.length<=16^l.length:=C00 (by decide) _
 have h3:16^l.length=2^(4*l.length):=by rw [Nat.pow_mul]
 omega
theorem B1k{h:Heap}{A:Option Addr}{n m:Nat}{X:Nat}(M:Mg h A n X)(hx:X<2^m)(hm:m<=1000000000):n<=100000000:=by
 have:=A61 (j:=32) (by decide) M (m:=m) (by have:((X:Nat):Int)<((2^m:Nat):Int):=by omega
                                            simpa using this)
 omega
section
variable {h h':Heap} {K:VP} {A B:Option Addr} {n c n' c':Nat} {s s':Bool} {x y z:Int} {m:Nat} {p q:Rat} {a b w:QV} {l:List UInt8}
theorem Eu(hl:l.length<=200000000)(hK:∀ s A n c ok h',h.le h'->(ok=true->(∀ c∈l,F9 c)/\l≠[]/\NI h' s A n c (I5 l))->(ok=false->¬ ((∀ c∈l,F9 c)/\l≠[]))->K (.tuple #[.agg #[.bool s,.slice A n c],.bool ok]) h'):FCall prog Y9 #[.string (bs l)] h K:=by
 refine Rg _ ?_
 unfold Qk
 simp only [I0]
 refine ⟨fun L hp=>∃ (i:Nat) (A:Option Addr) (n c:Nat),L=[.slice A n c,I i,.bool false,.slice none 0 0]/\i<=l.length/\h.le hp/\(∀ c∈l.take i,F9 c)/\Mg hp A n (I5 (l.take i))/\n<=c,fun L _=>l.length-(iAt L 1).toNat,⟨0,none,0,0,rfl,by omega,B0 h,by simp,Mag.zero,B97 _⟩,?_⟩
 rintro A1 n1 c1 i1 t20 A2 n2 c2 hp ⟨i,A1',n1',c1',hL,hi,hle,hdig,M,hc⟩
 obtain ⟨⟨rfl,rfl,rfl⟩,rfl,rfl,rfl,rfl,rfl⟩:(A1=A1'/\n1=n1'/\c1=c1')/\i1=(i:Int)/\t20=false/\A2=none/\n2=0/\c2=0:=by simpa using hL
 refine B4 (fun h1=>?_) (fun h1=>?_)
 ·refine ⟨fun L hq=>∃ (k:Nat),L=[I ((i+k:Nat):Int),U32 (I5 ((l.drop i).take k):Nat),U32 ((10^k:Nat):Int),.bool false,.slice none 0 0]/\0<k/\k<=9/\i+k<=l.length/\hq=hp/\(∀ c∈(l.drop i).take k,F9 c),?_,?_⟩
  ·refine ⟨fun L hq=>∃ (k:Nat),L=[I ((i+k:Nat):Int),U32 (I5 ((l.drop i).take k):Nat),U32 ((10^k:Nat):Int),I k,.bool false,.slice none 0 0]/\k<=9/\i+k<=l.length/\hq=hp/\(∀ c∈(l.drop i).take k,F9 c),fun L _=>9-(iAt L 3).toNat,⟨0,by simp [I5],by omega,by omega,rfl,by simp⟩,?_⟩
   rintro i2 v f k2 t201 A3 n3 c3 hp1 ⟨k,hL2,hk9,hik,rfl,hd2⟩
   obtain ⟨rfl,rfl,rfl,rfl,rfl,rfl,rfl,rfl⟩:i2=((i+k:Nat):Int)/\v=((I5 ((l.drop i).take k):Nat):Int)/\f=((10^k:Nat):Int)/\k2=(k:Int)/\t201=false/\A3=none/\n3=0/\c3=0:=by simpa using hL2
   refine B4 (fun h2=>B4 (fun h3=>?_) (fun h3=>?_)) (fun h2=>?_)
   ·have hlt:i+k<l.length:=by omega
    have hget:(bs l)[((i+k:Nat):Int).toNat]? = some l[i+k]:=by rw [B8t,Jj,B9x hlt]
    have hbad:¬ F9 l[i+k]->∀ s A n c,K (.tuple #[.agg #[.bool s,.slice A n c],.bool false]) hp1:=by
     intro hb s A n c
     exact hK _ _ _ _ _ _ hle (fun e=>by cases e) (fun _ ⟨h5,_⟩=>hb (h5 _ (List.getElem_mem hlt)))
    refine ⟨l[i+k],⟨by omega,hget⟩,B4 (fun h4=>?_) (fun h4=>?_)⟩
    ·exact hbad (fun hd=>by unfold F9 at hd;omega) _ _ _ _
    ·refine ⟨l[i+k],⟨by omega,hget⟩,B4 (fun h5=>?_) (fun h5=>?_)⟩
     ·exact hbad (fun hd=>by unfold F9 at hd;omega) _ _ _ _
     ·have hdc:F9 l[i+k]:=by unfold F9;omega
      refine ⟨l[i+k],⟨by omega,hget⟩,?_⟩
      have htk:(l.drop i).take (k+1)=(l.drop i).take k++[l[i+k]]:=by
       rw [C0h (by rw [B8y];omega)];simp
      have hb9:I5 ((l.drop i).take k)<10^k:=by
       have:=Dn hd2
       rwa [B8v,B8y,B8x (by omega)] at this
      have hpk:10^k<=100000000:=by
       have:10^k<=10^8:=B9g (by decide) (by omega)
       simpa using this
      have e1:B3 (((i+k:Nat):Int)+1)=((i+(k+1):Nat):Int):=by rw [B5 (by omega) (by omega)];omega
      have e2:B3 ((k:Int)+1)=((k+1:Nat):Int):=by rw [B5 (by omega) (by omega)];omega
      have e3:F3 (((10^k:Nat):Int)*10)=((10^(k+1):Nat):Int):=by rw [C0j,L4 (by omega) (by omega)];omega
      have e4:F3 (F3 (((I5 ((l.drop i).take k):Nat):Int)*10)+F3 (wu8 ((l[i+k].toNat:Int)-48)))=((I5 ((l.drop i).take (k+1)):Nat):Int):=by
       rw [htk,Fd,Rl (by omega) (by omega),L4 (n:=(l[i+k].toNat:Int)-48) (by omega) (by omega),L4 (n:=((I5 ((l.drop i).take k):Nat):Int)*10) (by omega) (by omega),L4 (by omega) (by omega)];omega
      rw [e1,e2,e3,e4]
      refine ⟨⟨k+1,rfl,by omega,by omega,rfl,?_⟩,by simp only [iAt,B8w,B90];omega⟩
      rw [htk]
      intro c hc
      rcases List.mem_append.1 hc with h6|h6
      ·exact hd2 c h6
      ·rw [List.mem_singleton.1 h6];exact hdc
   ·exact ⟨k,rfl,by omega,hk9,hik,rfl,hd2⟩
   ·exact ⟨k,rfl,by omega,hk9,hik,rfl,hd2⟩
  ·rintro i2 v f t202 A3 n3 c3 hp2 ⟨k,hL2,hk0,hk9,hik,rfl,hd2⟩
   obtain ⟨rfl,rfl,rfl,rfl,rfl,rfl,rfl⟩:i2=((i+k:Nat):Int)/\v=((I5 ((l.drop i).take k):Nat):Int)/\f=((10^k:Nat):Int)/\t202=false/\A3=none/\n3=0/\c3=0:=by simpa using hL2
   have hb9:I5 ((l.drop i).take k)<10^k:=by
    have:=Dn hd2
    rwa [B8v,B8y,B8x (by omega)] at this
   have hpk:0<10^k/\10^k<=1000000000:=by
    have:10^k<=10^9:=B9g (by decide) (by omega)
    exact ⟨C0p (by decide),by simpa using this⟩
   have hlk:((l.drop i).take k).length=k:=by rw [B8v,B8y];omega
   have htk:l.take (i+k)=l.take i++(l.drop i).take k:=List.take_add
   have hd3:∀ c∈l.take (i+k),F9 c:=by
    rw [htk];intro c hc
    rcases List.mem_append.1 hc with h6|h6
    ·exact hdig c h6
    ·exact hd2 c h6
   have hv3:I5 (l.take (i+k))=I5 (l.take i)*10^k+I5 ((l.drop i).take k):=by rw [htk,Do,hlk]
   have hX1:I5 (l.take i)<2^(4*l.length):=C05 (As hdig) (B9g (by decide) (by rw [B8v];omega))
   have hX3:I5 (l.take (i+k))<2^(4*l.length):=C05 (As hd3) (B9g (by decide) (by rw [B8v];omega))
   have hmn:=B1k M hX1 (by omega)
   refine Q9 Mj rfl ?_
   intro bf hbf
   refine ⟨_,_,_,rfl,?_⟩
   have lf:=Heap.le_put (h:=hp2) (b:=bf) (.cells #[U32 ((10^k:Nat):Int)] C2) hbf
   have Mf:Mg (hp2.put bf (.cells #[U32 ((10^k:Nat):Int)] C2)) (some ⟨bf,0,none⟩) 1 ((10^k:Nat):Int):=
    ⟨[((10^k:Nat):Int)],rfl,SlI.new hp2 bf [((10^k:Nat):Int)] C2 _,Dig.one ⟨by omega,by show _<(4294967296:Int);omega⟩,by simp only [Norm,List.getLast?_singleton,ne_eq,Option.some.injEq];omega,S1 _ _⟩
   refine Zx (M.mono lf) Mf hmn (by omega) ?_
   intro A4 m4 c4 h4 l4 k4 M4
   refine ⟨_,_,_,rfl,?_⟩
   refine Q9 Mj rfl ?_
   intro bv hbv
   refine ⟨_,_,_,rfl,?_⟩
   have lv:=Heap.le_put (h:=h4) (b:=bv) (.cells #[U32 ((I5 ((l.drop i).take k):Nat):Int)] C2) hbv
   refine X8 (xs:=[((I5 ((l.drop i).take k):Nat):Int)]) (SlI.new h4 bv _ C2 _) (Dig.one ⟨by omega,by show _<(4294967296:Int);omega⟩) (B97 _) (by simp) ?_
   intro m5 k5 M5
   refine ⟨_,_,_,rfl,?_⟩
   rw [S1] at M5
   have e4:((I5 (l.take i):Nat):Int)*((10^k:Nat):Int)=((I5 (l.take i)*10^k:Nat):Int):=by rw [Int.natCast_mul]
   rw [e4] at M4
   refine A0u (M4.mono lv) M5 (B1k M4 (m:=4*l.length) (by omega) (by omega)) (by simp at k5;omega) ?_
   intro A6 m6 c6 h6 l6 k6 M6
   have e6:((I5 (l.take i)*10^k:Nat):Int)+((I5 ((l.drop i).take k):Nat):Int)=((I5 (l.take (i+k)):Nat):Int):=by rw [hv3];omega
   rw [e6] at M6
   exact ⟨_,_,_,rfl,⟨i+k,A6,m6,c6,rfl,hik,Heap.le_trans hle (Heap.le_trans lf (Heap.le_trans l4 (Heap.le_trans lv l6))),hd3,M6,k6⟩,by simp only [iAt,B8w,B90];omega⟩
 ·have:i=l.length:=by omega
  subst this
  rw [B96] at hdig M
  refine S9 M hc ?_
  intro s1 i1
  refine ⟨_,_,_,_,rfl,?_⟩
  have e:(!((bs l).toList==({ data:=#[] }:ByteArray).toList))=decide (l≠[]):=by
   rw [Sb,Lw];simp
  rw [e]
  refine hK _ _ _ _ _ _ hle (fun e1=>⟨hdig,by simpa using e1,i1⟩) (fun e1=>?_)
  have:l=[]:=by simpa using e1
  rintro ⟨_,h5⟩;exact h5 this
theorem Ho{n m:Nat}(h:n<2^m):(L3 n).length<=m+1:=by
 rw [No (by omega)]
 have:2^m<=10^(m+1):=Nat.le_trans (C00 (by decide) m) (B9g (by decide) (by omega))
 omega
theorem Vz(i:NQ h w q)(hq:Sz m q)(hm:m<=1000000000)(hK:K (.string (bs (O2 q))) h):FCall prog Ks #[w.v] h K:=by
 have hs:=i.num.sg
 have hd0:=i.den_zero
 refine B0v _ _ _ _ _ _ _ _ ?_
 unfold B62
 have l1:=Ho hq.num
 have l2:=Ho (n:=q.den) (m:=m) (by have:=hq.den;unfold ZB at this;simpa using this)
 refine Pk i.num hq.num hm ⟨_,rfl,?_⟩
 refine ⟨fun l h'=>l=[.string (bs (Kc q.num))]/\h'=h,Br.of (fun e=>?_) (fun e=>?_),?_⟩
 ·have hneg:q.num<0:=by rw [hs] at e;simpa using e
  refine ⟨?_,?_,rfl⟩
  ·rw [Sb,I0,I0];simp;omega
  ·rw [Sb,Jk];unfold Kc;rw [if_pos hneg];rfl
 ·have hneg:¬ q.num<0:=by rw [hs] at e;simpa using e
  exact ⟨by unfold Kc;rw [if_neg hneg],rfl⟩
 rintro t h1 ⟨hl,rfl⟩
 obtain rfl:t=bs (Kc q.num):=by simpa using hl
 have l3:(Kc q.num).length<=m+2:=by
  unfold Kc;split
  ·rw [List.length_cons];omega
  ·omega
 refine B4 (fun e=>?_) (fun e=>?_)
 ·have hd:¬ q.den=1:=fun e1=>by have:=hd0.2 e1;omega
  have hden:=i.den
  rw [if_neg hd] at hden
  refine Pk hden hq.den hm ⟨_,rfl,?_,?_,?_⟩
  ·rw [Sb,I0,I0,B9q];simp;omega
  ·rw [Sb,Jk,I0,I0,B9q];simp;omega
  ·rw [Sb,Jk,Jk,B9q]
   unfold O2 at hK
   rw [if_neg hd] at hK
   exact hK
 ·have hd:q.den=1:=hd0.1 (by omega)
  unfold O2 at hK
  rw [if_pos hd,C0d] at hK
  exact hK
theorem B33{t a r a' r':List UInt8}(h1:t=a++r)(h2:∀ c∈a,c≠47)(h3:r=[]\/r.head? = some 47)(g1:t=a'++r')(g2:∀ c∈a',c≠47)(g3:r'=[]\/r'.head? = some 47):a=a'/\r=r':=by
 induction a generalizing t a' with
 | nil=>
  cases a' with
  | nil=>simp at h1 g1;exact ⟨rfl,h1.symm.trans g1⟩
  | cons c a'=>
   exfalso
   subst h1
   rcases h3 with h3|h3
   ·subst h3;simp at g1
   ·rw [g1] at h3
    simp at h3
    exact g2 c (by simp) h3
 | cons c a ih=>
  cases a' with
  | nil=>
   exfalso
   subst g1
   rcases g3 with g3|g3
   ·subst g3;simp at h1
   ·rw [h1] at g3
    simp at g3
    exact h2 c (by simp) g3
  | cons c' a'=>
   subst h1
   simp at g1
   obtain ⟨rfl,g1⟩:=g1
   obtain ⟨e1,e2⟩:=ih rfl (fun x hx=>h2 x (by simp [hx])) g1 (fun x hx=>g2 x (by simp [hx]))
   exact ⟨by rw [e1],e2⟩
theorem A4s(q:Rat):O2 q=(if q.num<0 then [45] else [])++(L3 q.num.natAbs++(if q.den=1 then [] else 47::L3 q.den)):=by
 unfold O2 Kc;split<;>simp
theorem A71(n:Nat):∀ c∈L3 n,c≠47:=fun c hc=>(A1z (Ji n c hc)).2
theorem Pd{neg:Bool}{q:Rat}(h:neg=decide (q.num<0)):Rat.divInt (if neg=true then -((q.num.natAbs:Nat):Int) else ((q.num.natAbs:Nat):Int)) q.den=q:=by
 have:(if neg=true then -((q.num.natAbs:Nat):Int) else ((q.num.natAbs:Nat):Int))=q.num:=by
  rw [h]
  by_cases h0:q.num<0
  ·rw [if_pos (by simpa using h0)];omega
  ·rw [if_neg (by simpa using h0)];omega
 rw [this,Rat.num_divInt_den]
theorem A5c(hl:l.length<=100000000)(hK1:∀ q,l=O2 q->∀ w h',h.le h'->NQ h' w q->K (.tuple #[w.v,.bool true]) h')(hK0:¬ IsNum l->∀ (w:QV) h',h.le h'->K (.tuple #[w.v,.bool false]) h'):FCall prog A0a #[.string (bs l)] h K:=by
 refine B0x _ ?_
 unfold B64
 simp only [I0]
 refine ⟨fun L h'=>L=[.bool (l.head? == some 45)]/\h'=h,B4 (fun h1=>?_) (fun h1=>?_),?_⟩
 ·cases l with
  | nil=>simp at h1
  | cons c r=>
   refine ⟨c,⟨by omega,by rw [Jj];rfl⟩,?_,rfl⟩
   have:((c.toNat:Int)==45)=((c::r).head? == some 45):=by
    rw [Bool.eq_iff_iff,beq_iff_eq,beq_iff_eq,List.head?_cons,Option.some.injEq]
    constructor
    ·intro e;apply UInt8.toNat_inj.1;show c.toNat=45;omega
    ·rintro rfl;rfl
   rw [this]
 ·have:l=[]:=B99 (by omega)
  subst this;exact ⟨rfl,rfl⟩
 rintro neg hp ⟨hL,rfl⟩
 obtain rfl:neg=(l.head? == some 45):=by simpa using hL
 refine ⟨fun L h'=>L=[.string (bs (if (l.head? == some 45) then l.drop 1 else l))]/\h'=hp,Br.of (fun e=>?_) (fun e=>?_),?_⟩
 ·have hlen:1<=l.length:=by
   cases l with
   | nil=>simp at e
   | cons _ _=>simp
  refine ⟨⟨by omega,by omega⟩,?_,rfl⟩
  rw [if_pos e,K9,B95 (by rw [B8y];show _<=l.length-1;exact B97 _)];rfl
 ·rw [if_neg (by rw [e];simp)];exact ⟨rfl,rfl⟩
 rintro t0 hp1 ⟨hL1,rfl⟩
 generalize ht:(if (l.head? == some 45) then l.drop 1 else l)=t at *
 obtain rfl:t0=bs t:=by simpa using hL1
 have htl:t.length<=l.length:=by rw [<- ht];split<;>simp
 have hlt:l=(if (l.head? == some 45) then [45] else [])++t:=by
  rw [<- ht]
  cases l with
  | nil=>simp
  | cons c r=>
   by_cases hc:c=45
   ·subst hc;simp
   ·simp [hc]
 have hnum:∀ q,l=O2 q->(l.head? == some 45)=decide (q.num<0)/\t=L3 q.num.natAbs++(if q.den=1 then [] else 47::L3 q.den):=by
  intro q e
  have f:=Ek q
  rw [<- e] at f
  have hh:=f.head
  refine ⟨hh.symm,?_⟩
  have e2:=hlt
  rw [<- hh,e,A4s q] at e2
  by_cases h0:q.num<0
  ·simp [h0] at e2;exact e2.symm
  ·simp [h0] at e2;exact e2.symm
 refine ⟨fun L h'=>∃ at_:Nat,L=[I at_]/\h'=hp1/\at_<=t.length/\(∀ c∈t.take at_,c≠47)/\(t.drop at_=[]\/(t.drop at_).head? = some 47),?_,?_⟩
 ·simp only [I0]
  refine ⟨fun L h'=>∃ i:Nat,L=[I t.length,I i]/\h'=hp1/\i<=t.length/\(∀ c∈t.take i,c≠47),fun L _=>t.length-(iAt L 1).toNat,⟨0,rfl,rfl,by omega,by simp⟩,?_⟩
  rintro atv i1 hp2 ⟨i,hL2,rfl,hi,hno⟩
  obtain ⟨rfl,rfl⟩:atv=(t.length:Int)/\i1=(i:Int):=by simpa using hL2
  refine B4 (fun h1=>?_) (fun h1=>?_)
  ·have hit:i<t.length:=by omega
   refine ⟨t[i],⟨by omega,by rw [B8t,Jj,B9x hit]⟩,D8 (fun h2=>?_) (fun h2=>?_)⟩
   ·refine ⟨i,rfl,rfl,hi,hno,.inr ?_⟩
    rw [List.head?_drop,B9x hit]
    congr 1
    apply UInt8.toNat_inj.1
    show t[i].toNat=47
    omega
   ·rw [B5 (by omega) (by omega)]
    refine ⟨⟨i+1,rfl,rfl,by omega,?_⟩,by simp only [iAt,B8w,B90];omega⟩
    rw [C0h hit]
    intro c hc
    rcases List.mem_append.1 hc with h3|h3
    ·exact hno c h3
    ·rw [List.mem_singleton.1 h3]
     intro e;rw [e] at h2;exact h2 rfl
  ·have:i=t.length:=by omega
   subst this
   exact ⟨t.length,rfl,rfl,B97 _,hno,.inl (by simp)⟩
 rintro at1 hp3 ⟨at_,hL3,rfl,hat,hno,hrest⟩
 obtain rfl:=sI1 hL3
 simp only [I0,K9,B8t,C07,B9w]
 refine ⟨⟨by omega,by omega⟩,?_⟩
 have htsplit:t=t.take at_++t.drop at_:=(B9z at_ t).symm
 have hparts:∀ q,l=O2 q->t.take at_=L3 q.num.natAbs/\t.drop at_=(if q.den=1 then [] else 47::L3 q.den):=by
  intro q e
  refine B33 htsplit hno hrest (hnum q e).2 (A71 _) ?_
  split
  ·left;rfl
  ·right;rfl
 refine Eu (by rw [B8v];omega) ?_
 intro s1 A1 n1 c1 ok1 h1 l1 k1 k0
 refine ⟨_,_,_,_,_,rfl,Ax (Br.of (fun e=>?_) (fun e=>?_))⟩
 ·obtain ⟨dg,dne,iN⟩:=k1 e
  have hZB:ZB (4*l.length) (I5 (t.take at_):Int):=by
   unfold ZB
   rw [B9q]
   exact C05 (As dg) (B9g (by decide) (by rw [B8v];omega))
  have im:=iN.mag
  rw [B9q] at im
  refine S9 im iN.cap ?_
  intro s2 i2
  refine ⟨_,_,_,_,rfl,?_⟩
  have hZB2:ZB (4*l.length) (if (l.head? == some 45)=true then -((I5 (t.take at_):Nat):Int) else ((I5 (t.take at_):Nat):Int)):=by
   split
   ·exact hZB.neg
   ·exact hZB
  have fin:∀ (q0:Rat) (w:QV) (h5:Heap),hp3.le h5->NQ h5 w q0->Sz (4*l.length+1) q0->(∀ q,l=O2 q->q=q0)->
   FCall prog Ks #[w.v] h5 (fun r5 hp9=>∃ (t79:ByteArray),r5= .string t79/\Heap.le h5 hp9/\K (.tuple #[w.v,.bool (ByteArray.toList t79==ByteArray.toList (bs l))]) hp9):=by
   intro q0 w h5 l5 iq hsz hun
   refine Vz iq hsz (by omega) ⟨_,rfl,B0 _,?_⟩
   rw [Lw]
   by_cases hc:O2 q0=l
   ·rw [decide_eq_true hc]
    exact hK1 q0 hc.symm w h5 l5 iq
   ·rw [decide_eq_false hc]
    refine hK0 ?_ w h5 l5
    rintro ⟨q,e⟩
    exact hc (by rw [<- hun q e];exact e.symm)
  refine B4 (fun e2=>?_) (fun e2=>?_)
  ·have e3:B3 ((at_:Int)+1)=((at_+1:Nat):Int):=by rw [B5 (by omega) (by omega)];omega
   rw [e3]
   refine ⟨⟨by omega,by omega⟩,?_⟩
   rw [B8t,B95 (show (t.drop (at_+1)).length<=t.length-(at_+1) by rw [B8y];omega)]
   have hb:t.drop at_=47::t.drop (at_+1):=by
    rcases hrest with h0|h0
    ·have:=congrArg List.length h0;rw [B8y] at this;simp at this;omega
    ·rw [List.head?_drop] at h0
     have hlt2:at_<t.length:=by omega
     rw [B9x hlt2] at h0
     rw [B9u hlt2]
     congr 1
     simpa using h0
   refine Eu (by rw [B8y];omega) ?_
   intro s3 A3 n3 c3 ok3 h3 l3 j1 j0
   have hden:∀ q,l=O2 q->q.den≠1/\t.drop (at_+1)=L3 q.den:=by
    intro q e
    have:=(hparts q e).2
    rw [hb] at this
    by_cases hd:q.den=1
    ·simp [hd] at this
    ·simp [hd] at this;exact ⟨hd,this⟩
   refine ⟨_,_,_,_,_,rfl,Ax (Br.of (fun e4=>?_) (fun e4=>?_))⟩
   ·obtain ⟨dg2,dne2,iD⟩:=j1 e4
    refine A59 iD ⟨_,rfl,D8 (fun e5=>?_) (fun e5=>?_)⟩
    ·refine hK0 ?_ ⟨false,none,0,0,false,none,0,0⟩ _ (Heap.le_trans l1 l3)
     rintro ⟨q,e⟩
     have h6:=(hden q e).2
     have h7:((I5 (t.drop (at_+1)):Nat):Int)=0:=Int.sign_eq_zero_iff_zero.1 e5
     rw [h6,U9] at h7
     exact q.den_nz (by omega)
    ·have hne0:((I5 (t.drop (at_+1)):Nat):Int)≠0:=fun e6=>e5 (by rw [e6];rfl)
     have hZB3:ZB (4*l.length) (I5 (t.drop (at_+1)):Int):=by
      unfold ZB
      rw [B9q]
      exact C05 (As dg2) (B9g (by decide) (by rw [B8y];omega))
     refine A6a (i2.mono l3) iD hne0 hZB2 hZB3 (by omega) ?_
     intro w h5 l5 iq
     refine ⟨_,_,_,_,_,_,_,_,rfl,?_⟩
     refine fin _ w h5 (Heap.le_trans l1 (Heap.le_trans l3 l5)) iq ((Jx hne0 hZB2 hZB3).mono (by omega)) ?_
     intro q e
     rw [(hparts q e).1,(hden q e).2,U9,U9]
     exact (Pd (hnum q e).1).symm
   ·refine hK0 ?_ ⟨false,none,0,0,false,none,0,0⟩ _ (Heap.le_trans l1 l3)
    rintro ⟨q,e⟩
    exact j0 e4 (by rw [(hden q e).2];exact ⟨Ji _,Pj _⟩)
  ·have hat2:at_=t.length:=by omega
   refine fin _ ⟨s2,A1,n1,c1,false,none,0,0⟩ h1 l1 (NQ.whole i2) (Sz.int (hZB2.mono (by omega)) (by omega)) ?_
   intro q e
   have h6:=(hparts q e).2
   rw [hat2,C0n] at h6
   have hd:q.den=1:=by
    by_cases hd:q.den=1
    ·exact hd
    ·simp [hd] at h6
   rw [(hparts q e).1,U9]
   have:=Pd (hnum q e).1
   rw [hd] at this
   rw [<- Rz]
   exact this.symm
 ·refine hK0 ?_ ⟨false,none,0,0,false,none,0,0⟩ _ l1
  rintro ⟨q,e2⟩
  exact k0 e (by rw [(hparts q e2).1];exact ⟨Ji _,Pj _⟩)
end
def ndg(x:Nat):Nat:=x*78913/262144
theorem B1i:∀ x,x<65->2^x<=10^(ndg x+1)/\(ndg x=0\/10^(ndg x-1)<=2^(x-1))/\ndg x<=19:=by decide
theorem Xg{n k:Nat}(h1:10^k<=n)(h2:n<10^(k+1)):(dd n).length=k+1:=by
 have a:=(O0 (n:=n) (k:=k+1)).2 h2
 have b:¬ (dd n).length<=k:=fun e=>by have:=O0.1 e;omega
 omega
theorem B57{d:Nat}(h0:d≠0)(h:d<2^64):(dd d).length=ndg (L0 d)+(if 10^ndg (L0 d)<=d then 1 else 0):=by
 have hb:=Fg h
 obtain ⟨b1,b2⟩:=Cj h0
 obtain ⟨a1,a2,a3⟩:=B1i (L0 d) (by omega)
 split
 ·rename_i hc
  exact Xg hc (by omega)
 ·rename_i hc
  rcases a2 with a2|a2
  ·rw [a2] at hc;simp at hc;omega
  ·obtain ⟨k,hk⟩:∃ k,ndg (L0 d)=k+1:=by
    by_cases hz:ndg (L0 d)=0
    ·rw [hz] at hc;simp at hc;omega
    ·exact ⟨ndg (L0 d)-1,by omega⟩
   rw [hk] at hc a2 ⊢
   rw [Nat.add_sub_cancel] at a2
   rw [C0k]
   exact Xg (by omega) (by omega)
theorem B3c(w n:Nat):pad (w+2) n=pad w (n/100)++[dch (n/10%10),dch (n%10)]:=by
 rw [Nj,Nj,Nat.div_div_eq_div_mul];simp
theorem A5i(n:Nat)(h:n=0):pad 0 n=[]:=by subst h;simp [pad,I7]
abbrev b64:Int:=18446744073709551616
abbrev Mw(h:Heap)(A:Option Addr)(len:Nat)(n:Int):Prop:=Mag .u64 b64 h A len n
structure Win (k:IntKind) (h g:Heap) (b:Nat) (e:TypeId) (A:Option Addr) (pre:List Value) (xs:List Int) (post:List Value):Prop where
 free:g b=none
 eq:h=g.put b (.cells (pre++xs.map (B9n k)++post).toArray e)
 at_:xs=[]\/A=some ⟨b,pre.length,none⟩
section
variable {k:IntKind} {h g:Heap} {b:Nat} {e:TypeId} {A:Option Addr} {pre post:List Value} {xs:List Int}
theorem Win.le(w:Win k h g b e A pre xs post):g.le h:=by rw [w.eq];exact Heap.le_put _ w.free
theorem Win.sl(w:Win k h g b e A pre xs post):SlI k h A xs:=by
 rcases w.at_ with rfl|hA
 ·exact SlI.nil
 ·right
  refine ⟨_,hA,fun i v hv=>?_⟩
  rw [w.eq,D7,D9]
  have hi:i<(xs.map (B9n k)).length:=by
   by_cases hc:i<(xs.map (B9n k)).length
   ·exact hc
   ·rw [C0c (by omega)] at hv;cases hv
  simp only [List.getElem?_toArray]
  rw [B9o,C0w (by omega),B9y,List.getElem?_append_left hi]
  exact hv
theorem Win.store{P:Program}{t:TypeId}(one:P.cellsOf t=1/\(P.info? t).isSome=true)(w:Win k h g b e A pre xs post){a:Addr}(ha:A=some a){i v:Int}(h0:0<=i)(h1:i<xs.length){K:Unit->Heap->Prop}
 (x:∀ h',Win k h' g b e A pre (xs.set i.toNat v) post->K () h'):wpH P (C09 t (.pointer (some (Addr.add a (i.toNat*1)))) (.int k v)) K h:=by
 have hi:i.toNat<xs.length:=by omega
 have hA:A=some ⟨b,pre.length,none⟩:=by
  rcases w.at_ with rfl|hA
  ·simp at hi
  ·exact hA
 rw [ha] at hA
 cases hA
 rw [w.eq,D7,C0q]
 refine Bu one.1 one.2 rfl rfl (by simp;omega) ?_
 refine x _ ⟨w.free,?_,.inr ha⟩
 have:(pre++xs.map (B9n k)++post).toArray.setIfInBounds (pre.length+i.toNat) (.int k v)=(pre++(xs.set i.toNat v).map (B9n k)++post).toArray:=by
  rw [List.map_set]
  simp only [List.setIfInBounds_toArray,B9o]
  congr 1
  rw [List.set_append_right _ _ (by omega),B9y,List.set_append_left _ _ (by simpa using hi)]
 rw [this]
theorem Win.storeN{P:Program}{t:TypeId}(one:P.cellsOf t=1/\(P.info? t).isSome=true)(w:Win k h g b e A pre xs post){a:Addr}(ha:A=some a){i:Nat}{v:Int}(h1:i<xs.length){K:Unit->Heap->Prop}
 (x:∀ h',Win k h' g b e A pre (xs.set i v) post->K () h'):wpH P (C09 t (.pointer (some (Addr.add a (i*1)))) (.int k v)) K h:=by
 have:=w.store one ha (i:=(i:Int)) (v:=v) (K:=K) (by omega) (by omega) (by simpa using x)
 simpa using this
theorem Win.call{P:Program}{f:FuncId}{args:Array Value}(w:Win k h g b e A pre xs post){K:VP}(x:FCall P f args g (fun r h0=>∀ h',Win k h' h0 b e A pre xs post->K r h')):FCall P f args h K:=by
 rw [w.eq]
 exact FCall.frame w.free x fun r h0 h0b hk=>hk _ ⟨h0b,rfl,w.at_⟩
theorem Win.blk(k:IntKind)(e:TypeId){g:Heap}{b:Nat}(hb:g b=none)(zs:List Int):Win k (Go.Proofs.YtajkakhfcokljaaGreatDoor.blk k e g b zs) g b e (some ⟨b,0,none⟩) [] zs []:=
 ⟨hb,by simp [Go.Proofs.YtajkakhfcokljaaGreatDoor.blk],.inr rfl⟩
theorem Win.sub(w:Win k h g b e A pre xs post){l m c:Nat}(hl:l<=m)(hm:m<=xs.length)(hc:xs.length<=c):
 Win k h g b e (I8 A c l 1) (pre++(xs.take l).map (B9n k)) ((xs.drop l).take (m-l)) ((xs.drop m).map (B9n k)++post):=by
 refine ⟨w.free,?_,?_⟩
 ·rw [w.eq]
  congr 3
  have:xs=xs.take l++((xs.drop l).take (m-l)++xs.drop m):=by
   have e1:xs.drop m=(xs.drop l).drop (m-l):=by rw [B9v];congr 1;omega
   rw [e1,B9z,B9z]
  conv=>lhs;rw [this]
  simp [C0s,B9o]
 ·by_cases he:m-l=0
  ·left;simp [he]
  ·right
   rcases w.at_ with rfl|hA
   ·simp at hm;omega
   ·unfold I8
    rw [if_neg (by omega),hA]
    simp only [Option.map_some,D7,C0q,B8z,List.length_map,B8v]
    rw [B8x (by omega)]
theorem Win.whole{h' g':Heap}(w:Win k h g b e A pre xs post){l m:Nat}(hl:l<=m)(hm:m<=xs.length){B:Option Addr}{ys:List Int}(hy:ys.length=m-l)(v:Win k h' g' b e B (pre++(xs.take l).map (B9n k)) ys ((xs.drop m).map (B9n k)++post)):
 Win k h' g' b e A pre (xs.take l++ys++xs.drop m) post:=by
 refine ⟨v.free,?_,?_⟩
 ·rw [v.eq]
  congr 3
  simp [C0s,B9o]
 ·rcases w.at_ with rfl|hA
  ·left
   simp at hm
   have:ys=[]:=B99 (by omega)
   simp [this]
  ·exact .inr hA
theorem Priv.win{n c:Nat}(p:Priv h g e 1 A n c (xs.map (B9n k)))(hx:xs≠[]):∃ b post,Win k h g b e A [] xs post:=by
 obtain ⟨h1,h2,h3⟩:=p
 rcases h3 with ⟨hc,rfl⟩|⟨b,arr,hA,hb,rfl,h4,h5⟩
 ·simp at h1
  exact absurd (B99 (by omega)) hx
 ·refine ⟨b,arr.drop (n*1),hb,?_,.inr hA⟩
  rw [C0b,<- h5,B9z]
end
theorem Ch{P:Program}{t:TypeId}(one:P.cellsOf t=1/\(P.info? t).isSome=true){k:IntKind}{n:Int}{i:Nat}{g:Heap}{b:Nat}{e:TypeId}{zs:List Int}(hi:i<zs.length){K:Unit->Heap->Prop}
 (x:K () (blk k e g b (zs.set i n))):wpH P (C09 t (.pointer (some (Addr.add ⟨b,0,none⟩ (i*1)))) (.int k n)) K (blk k e g b zs):=by
 have:=P7 (P:=P) (t:=t) one (k:=k) (n:=n) (i:=(i:Int)) (g:=g) (b:=b) (e:=e) (zs:=zs) (K:=K) (by simpa using hi) (by simpa using x)
 simpa using this
theorem Dp{P:Program}{t e e' ty:TypeId}{k:IntKind}{bytes:Nat}(s:SliceT P t e' (.int k 0) 1 bytes){h g:Heap}{b:Nat}{A:Option Addr}{pre post:List Value}{xs:List Int}{n c m d:Nat}(w:Win k h g b e A pre xs post)(hn:n=xs.length){B:Option Addr}{ys:List Int}(sy:SlI k h B ys)(hm:m=ys.length)(hle:ys.length<=xs.length){K:VP}
 (x:∀ h',Win k h' g b e A pre (ys++xs.drop ys.length) post->K (I ys.length) h'):wpH P (Builtin.copy_ #[t,t] ty #[.slice A n c,.slice B m d]) K h:=by
 subst hn hm
 obtain ⟨i,hi,hz,hsz,hby⟩:=s.parts
 unfold Builtin.copy_
 simp only [List.getElem?_toArray,B8w,B90,C1,D6 s.und,J0 hi,E7,Builtin.lenOf,hsz]
 have hmin:Nat.min ys.length xs.length=ys.length:=B8x hle
 rw [hmin]
 refine I6 (s:=1) (cs:=ys.map (B9n k)) (by simp) sy ?_
 cases A with
 | none=>
  rcases w.at_ with h0|h0
  ·subst h0
   have:ys=[]:=B99 (by simpa using hle)
   subst this
   exact x h (by simpa using w)
  ·cases h0
 | some a=>
  simp only [C1]
  rcases w.at_ with h0|h0
  ·subst h0
   have:ys=[]:=B99 (by simpa using hle)
   subst this
   exact x h (by simpa using w)
  ·cases h0
   rw [w.eq]
   refine H1 (ys.map (B9n k)) pre.length 0 (pre++xs.map (B9n k)++post) (by simp;omega) (fun v hv=>?_) ?_
   ·obtain ⟨u,_,rfl⟩:=List.mem_map.1 hv;rfl
   ·refine x _ ⟨w.free,?_,?_⟩
    ·congr 3
     unfold I9
     rw [C0k,B9o pre,C0r rfl,List.length_map]
     rw [List.drop_append,B9p (show pre.length<=pre.length+ys.length by omega),B9y,C0b]
     rw [List.drop_append_of_le_length (by simpa using hle),<- List.map_drop,C0s]
     simp only [B9o]
    ·right;rfl
theorem A1g{P:Program}{nm:String}{x y c:Int}(hc:0<=c/\c<=1){f:Nat × Nat × Nat->Value}:Kj P (Extern.MathBitsCarry.three nm #[U x,U y,U c] >>= fun p=>pure (f p))=some (f (x.toNat,y.toNat,c.toNat)):=by
 obtain rfl|rfl:c=0\/c=1:=by omega
 ·rfl
 ·rfl
theorem A62:B92=18446744073709551616:=by decide
theorem Bg{h:Heap}{K:VP}{x y c:Int}(hx:0<=x/\x<18446744073709551616)(hy:0<=y/\y<18446744073709551616)(hc:0<=c/\c<=1)(hK:K (.tuple #[U ((x+y+c)%18446744073709551616),U ((x+y+c)/18446744073709551616)]) h):ECall prog P8 #[U x,U y,U c] h K:=by
 refine B1t A4e (A1g (P:=prog) hc (f:=fun p=>C0y ((p.1+p.2.1+p.2.2)%B92) ((p.1+p.2.1+p.2.2)/B92))) ?_
 have e1:((x.toNat+y.toNat+c.toNat)%B92:Nat)=(((x+y+c)%18446744073709551616:Int)):=by
  rw [A62]
  omega
 have e2:((x.toNat+y.toNat+c.toNat)/B92:Nat)=(((x+y+c)/18446744073709551616:Int)):=by
  rw [A62]
  omega
 show K (.tuple #[U ((x.toNat+y.toNat+c.toNat)%B92:Nat),U ((x.toNat+y.toNat+c.toNat)/B92:Nat)]) h
 rw [e1,e2];exact hK
theorem Cs{h:Heap}{K:VP}{x y c:Int}(hx:0<=x/\x<18446744073709551616)(hy:0<=y/\y<18446744073709551616)(hc:0<=c/\c<=1)(hK:K (.tuple #[U ((x-y-c)%18446744073709551616),U (if x-y-c<0 then 1 else 0)]) h):ECall prog Z2 #[U x,U y,U c] h K:=by
 refine B1t A4c (A1g (P:=prog) hc (f:=fun p=>C0y ((p.1+B92-p.2.1-p.2.2)%B92) (if p.1<p.2.1+p.2.2 then 1 else 0))) ?_
 have e1:((x.toNat+B92-y.toNat-c.toNat)%B92:Nat)=(((x-y-c)%18446744073709551616:Int)):=by
  rw [A62]
  omega
 have e2:(((if x.toNat<y.toNat+c.toNat then 1 else 0:Nat):Nat):Int)=(if x-y-c<0 then 1 else 0):=by
  split<;>split<;>omega
 show K (.tuple #[U ((x.toNat+B92-y.toNat-c.toNat)%B92:Nat),U ((if x.toNat<y.toNat+c.toNat then 1 else 0:Nat):Nat)]) h
 rw [e1,e2];exact hK
def Qq(x y:Int):Int:=if x<y then -1 else if x>y then 1 else 0
theorem A5t{h:Heap}{K:VP}{x:Int}(hK:K (.bool false) h):FCall prog Gh #[I x] h K:=by
 refine A17 _ ?_
 unfold A2o
 have:(x != x)=false:=by simp
 rw [this];exact hK
theorem A5s{h:Heap}{K:VP}{x:Int}(hK:K (.bool false) h):FCall prog Z1 #[U x] h K:=by
 refine Rh _ ?_
 unfold Qm
 have:(x != x)=false:=by simp
 rw [this];exact hK
theorem A77{h:Heap}{K:VP}{x y:Int}(hK:K (I (Qq x y)) h):FCall prog Um #[I x,I y] h K:=by
 refine A8r _ _ ?_
 unfold B2p
 refine A5t ⟨_,rfl,A5t ⟨_,rfl,?_⟩⟩
 unfold Qq at hK
 refine B4 (fun h1=>?_) (fun h1=>B4 (fun h2=>?_) (fun h2=>?_))
 ·rw [if_pos h1] at hK;exact hK
 ·rw [if_neg h1,if_pos h2] at hK;exact hK
 ·rw [if_neg h1,if_neg h2] at hK;exact hK
theorem A76{h:Heap}{K:VP}{x y:Int}(hK:K (I (Qq x y)) h):FCall prog Hn #[U x,U y] h K:=by
 refine Yn _ _ ?_
 unfold Yo
 refine A5s ⟨_,rfl,A5s ⟨_,rfl,?_⟩⟩
 unfold Qq at hK
 refine B4 (fun h1=>?_) (fun h1=>B4 (fun h2=>?_) (fun h2=>?_))
 ·rw [if_pos h1] at hK;exact hK
 ·rw [if_neg h1,if_pos h2] at hK;exact hK
 ·rw [if_neg h1,if_neg h2] at hK;exact hK
theorem Im{h:Heap}{K:VP}{x y:Int}(hx:0<=x/\x<18446744073709551616)(hy:0<=y/\y<18446744073709551616)(hK:K (.tuple #[U (x*y/18446744073709551616),U (x*y%18446744073709551616)]) h):FCall prog Dl #[U x,U y] h K:=by
 refine A8v _ _ ?_
 unfold B2q
 rw [Z9 hx,Z9 hy]
 simp only [Tj]
 obtain ⟨b00,b10,b01,b11,hxy⟩:=Zy hx hy (x1:=x/4294967296) (x0:=x%4294967296) (y1:=y/4294967296) (y0:=y%4294967296) (by omega) (by omega) (by omega) (by omega)
 generalize x/4294967296*(y/4294967296)=p11 at *
 generalize x/4294967296*(y%4294967296)=p10 at *
 generalize x%4294967296*(y/4294967296)=p01 at *
 generalize x%4294967296*(y%4294967296)=p00 at *
 rw [C0 (n:=p00) (by omega) (by omega),C0 (n:=p10) (by omega) (by omega),C0 (n:=p01) (by omega) (by omega),C0 (n:=p11) (by omega) (by omega)]
 rw [C0 (n:=p10+p00/4294967296) (by omega) (by omega),Z9 (by omega)]
 rw [C0 (n:=(p10+p00/4294967296)%4294967296+p01) (by omega) (by omega)]
 rw [C0 (n:=p11+(p10+p00/4294967296)/4294967296) (by omega) (by omega),C0 (by omega) (by omega),F4]
 have:p11+(p10+p00/4294967296)/4294967296+((p10+p00/4294967296)%4294967296+p01)/4294967296=x*y/18446744073709551616:=by
  rw [hxy];omega
 rw [this];exact hK
theorem P6{h:Heap}{K:VP}{x y c:Int}(hx:0<=x/\x<18446744073709551616)(hy:0<=y/\y<18446744073709551616)(hc:0<=c/\c<18446744073709551616)(hK:K (.tuple #[U ((x*y+c)%18446744073709551616),U ((x*y+c)/18446744073709551616)]) h):FCall prog K6 #[U x,U y,U c] h K:=by
 have hm:0<=x*y/\x*y<=18446744073709551615*18446744073709551615:=⟨B98 hx.1 hy.1,C08 (by omega) (by omega) hy.1 (by decide)⟩
 refine Pz _ _ _ ?_
 unfold Ly
 refine Im hx hy ⟨_,_,rfl,?_⟩
 refine Bg (by omega) hc (by omega) ⟨_,_,rfl,?_⟩
 rw [C0 (by omega) (by omega)]
 have e1:(x*y%18446744073709551616+c+0)%18446744073709551616=(x*y+c)%18446744073709551616:=by omega
 have e2:x*y/18446744073709551616+(x*y%18446744073709551616+c+0)/18446744073709551616=(x*y+c)/18446744073709551616:=by omega
 rw [e1,e2];exact hK
theorem B3u(a:Array UInt8):({ data:=a }:ByteArray)=bs a.toList:=by simp [bs]
def A64:List UInt8:=[0,1,2,2,3,3,3,3,4,4,4,4,4,4,4,4,5,5,5,5,5,5,5,5,5,5,5,5,5,5,5,5]++B91 32 6++B91 64 7++B91 128 8
theorem A3a:∀ i,i<256->(A64[i]?).map UInt8.toNat=some (L0 i):=by decide
theorem Uv{x s:Nat}(h:2^s<=x):L0 x=s+L0 (x/2^s):=by
 have hp:0<2^s:=C0p (by decide)
 have h1:x/2^s≠0:=by
  have:=Nat.div_pos h hp;omega
 have:=Sc (l:=x%2^s) (t:=x/2^s) (j:=s) (Nat.mod_lt _ hp) h1
 rw [Nat.mod_add_div] at this
 exact this
theorem A1x{h:Heap}{K:VP}{x:Nat}(hx:x<18446744073709551616)(hK:K (I (L0 x)) h):FCall prog Nl #[U x] h K:=by
 refine A8w _ ?_
 unfold B2r
 have sh:∀ (y s:Nat),s<=64->Int.fdiv (y:Int) (2^(min ((s:Int)).toNat 64))=((y/2^s:Nat):Int):=by
  intro y s hs
  rw [B8t,B8x hs,C0x _ (B94 (B9k (by decide)))]
  simp
 refine ⟨fun l hp=>∃ (y n:Nat),l=[U y,I n]/\hp=h/\y<4294967296/\L0 x=n+L0 y/\n<=32,B4 (fun h1=>?_) (fun h1=>?_),?_⟩
 ·refine ⟨x/2^32,32,?_,rfl,by omega,Uv (by omega),by omega⟩
  rw [show (32:Int)=((32:Nat):Int) from rfl,sh x 32 (by omega)]
 ·exact ⟨x,0,rfl,rfl,by omega,by omega,by omega⟩
 rintro y1 n1 hp ⟨y,n,hl,rfl,hy,hb,hn⟩
 obtain ⟨rfl,rfl⟩:y1=(y:Int)/\n1=(n:Int):=by simpa using hl
 refine ⟨fun l hq=>∃ (y n:Nat),l=[U y,I n]/\hq=hp/\y<65536/\L0 x=n+L0 y/\n<=48,B4 (fun h1=>?_) (fun h1=>?_),?_⟩
 ·refine ⟨y/2^16,n+16,?_,rfl,by omega,by rw [hb,Uv (x:=y) (s:=16) (by omega)];omega,by omega⟩
  rw [show (16:Int)=((16:Nat):Int) from rfl,sh y 16 (by omega),B5 (by omega) (by omega)];rfl
 ·exact ⟨y,n,rfl,rfl,by omega,hb,by omega⟩
 clear hb hy hl
 rintro y1 n1 hp ⟨y,n,hl,rfl,hy,hb,hn⟩
 obtain ⟨rfl,rfl⟩:y1=(y:Int)/\n1=(n:Int):=by simpa using hl
 refine ⟨fun l hq=>∃ (y n:Nat),l=[U y,I n]/\hq=hp/\y<256/\L0 x=n+L0 y/\n<=56,B4 (fun h1=>?_) (fun h1=>?_),?_⟩
 ·refine ⟨y/2^8,n+8,?_,rfl,by omega,by rw [hb,Uv (x:=y) (s:=8) (by omega)];omega,by omega⟩
  rw [show (8:Int)=((8:Nat):Int) from rfl,sh y 8 (by omega),B5 (by omega) (by omega)];rfl
 ·exact ⟨y,n,rfl,rfl,by omega,hb,by omega⟩
 clear hb hy hl
 rintro y1 n1 hp ⟨y,n,hl,rfl,hy,hb,hn⟩
 obtain ⟨rfl,rfl⟩:y1=(y:Int)/\n1=(n:Int):=by simpa using hl
 rw [Rl (by omega) (by omega),B8t]
 have ht:=A3a y hy
 cases hc:A64[y]? with
 | none=>rw [hc] at ht;cases ht
 | some c=>
  rw [hc] at ht
  have hcb:c.toNat=L0 y:=by simpa using ht
  refine ⟨c,⟨by omega,?_⟩,?_⟩
  ·try unfold A1w
   rw [B3u,Jj];exact hc
  ·have hbl:L0 y<=8:=Fg (k:=8) (by omega)
   rw [hcb,B5 (n:=((L0 y:Nat):Int)) (by omega) (by omega),B5 (by omega) (by omega),<- Int.natCast_add,<- hb]
   exact hK
theorem O4{h:Heap}{K:VP}{x:Nat}(hx:x<18446744073709551616)(hK:K (I ((64-L0 x:Nat):Int)) h):FCall prog J1 #[U x] h K:=by
 refine Kb _ ?_
 unfold Fu
 refine A1x hx ⟨_,rfl,?_⟩
 have hbl:L0 x<=64:=Fg (k:=64) (by omega)
 rw [B5 (by omega) (by omega)]
 have:(64:Int)-((L0 x:Nat):Int)=((64-L0 x:Nat):Int):=by omega
 rw [this];exact hK
theorem Xh{a b:Int}{s:Nat}(ha:0<=a)(hb:0<=b/\b<2^s)(hab:a*2^s+b<18446744073709551616):bor .u64 (a*2^s) b=a*2^s+b:=by
 have hp:0<(2:Int)^s:=B9k (by decide)
 have h0:0<=a*2^s:=B98 ha (by omega)
 rw [A0p (by omega) (by omega)]
 have e:(a*2^s).toNat=2^s*a.toNat:=by
  rw [Int.toNat_mul ha (by omega),Nat.mul_comm,Int.toNat_pow_of_nonneg (by decide)];rfl
 have hbn:b.toNat<2^s:=by
  have:((2^s:Nat):Int)=(2:Int)^s:=by simp
  omega
 rw [e,A1u hbn,<- e];omega
theorem U4{s:Nat}(hs:s<=64):(2:Int)^s*2^(64-s)=18446744073709551616:=by
 rw [<- B9l,show s+(64-s)=64 by omega];decide
theorem A9p{x:Int}{s:Nat}(hs:s<=64):Int.fdiv x (2^(min s 64))=x/2^s:=by
 rw [B8x hs];exact C0x x (B94 (B9k (by decide)))
theorem Est.exact{B top u2 v1 v2 U V:Int}(e:Est B 1 top u2 0 v1 v2 0 U V){q:Int}(h:q*(v1*B+v2)<=top*B+u2):q*V<=U:=by
 have h1:=e.hU
 have h2:=e.hV
 have e1:U=top*B+u2:=by rw [h1];omega
 have e2:V=v1*B+v2:=by rw [h2];omega
 rw [e1,e2];exact h
section
variable {h:Heap} {K:VP}
theorem A72{T u2 v1 v2 X Y:Int}{hp:Heap}{J:Int->Heap->Prop}(es:Est 4294967296 1 T u2 0 v1 v2 0 X Y)(_hT:T<18446744073709551616)
 (hJ:∀ q,0<=q->q*Y<=X->X<(q+1)*Y->J q hp):
 ∃ (Inv:Int->Int->Heap->Prop) (mu:Int->Int->Heap->Nat),Inv (T/v1) (T%v1) hp/\
  ∀ q r hp1,Inv q r hp1->(q>=4294967296->Inv q r hp1)/\0<=q/\q<=4294967297/\0<=r/\r<4294967296/\hp1=hp/\
   (q<4294967296->¬ (q*v2>4294967296*r+u2)->J q hp1)/\
   ((q>=4294967296\/q*v2>4294967296*r+u2)->1<=q/\(r+v1>=4294967296->J (q-1) hp1)/\(r+v1<4294967296->Inv (q-1) (r+v1) hp1/\mu (q-1) (r+v1) hp1<mu q r hp1)):=by
 obtain ⟨f1,f2⟩:=es.first
 have hin:=es.init
 have hv0:=es.V0
 have hU0:=es.U0
 have v1r:=es.v1r
 have v2r:=es.v2r
 have u2r:=es.u2r
 have top0:=es.top0
 have hq0:0<=T/v1:=B9m top0 (by omega)
 have hdm:=B9b T v1
 have hm0:=B9f T (show v1≠0 by omega)
 have hm1:=B9j T (show 0<v1 by omega)
 refine ⟨fun q r hp1=>hp1=hp/\0<=q/\q<=4294967297/\0<=r/\r<4294967296/\q*v1+r=T/\X<(q+1)*Y,fun q _ _=>q.toNat,⟨rfl,hq0,by omega,hm0,by omega,by rw [B9a];exact hdm,hin⟩,?_⟩
 rintro q r hp1 ⟨rfl,q0,q1,r0,r1,hqr,hlt⟩
 have key:q*(v1*4294967296+v2)=(T-r)*4294967296+q*v2:=by rw [<- hqr];grind
 refine ⟨fun _=>⟨rfl,q0,q1,r0,r1,hqr,hlt⟩,q0,q1,r0,r1,rfl,fun hb ht=>hJ q q0 (es.exact (by omega)) hlt,fun hbad=>?_⟩
 have hlq:X<q*Y:=by
  rcases hbad with hb|hb
  ·exact es.big hb
  ·exact es.low q0 (by omega)
 have hq1:1<=q:=by
  by_cases hc:1<=q
  ·exact hc
  ·have:q=0:=by omega
   subst this;omega
 have hlt':X<(q-1+1)*Y:=by rw [Int.sub_add_cancel];exact hlq
 have hqr':(q-1)*v1+(r+v1)=T:=by grind
 refine ⟨hq1,fun hr=>?_,fun hr=>⟨⟨rfl,by omega,by omega,by omega,by omega,hqr',hlt'⟩,by show (q-1).toNat<q.toNat;omega⟩⟩
 have key2:(q-1)*(v1*4294967296+v2)=(T-(r+v1))*4294967296+(q-1)*v2:=by rw [<- hqr'];grind
 have hb:(q-1)*v2<=4294967296*v2:=B8u (by omega) v2r.1
 exact hJ (q-1) (by omega) (es.exact (by omega)) hlt'
theorem Nn{hi lo:Int}{y:Nat}(hhi:0<=hi/\hi<y)(hlo:0<=lo/\lo<18446744073709551616)(hy:y<18446744073709551616)
 (hK:K (.tuple #[U ((hi*18446744073709551616+lo)/y),U ((hi*18446744073709551616+lo)%y)]) h):FCall prog Dm #[U hi,U lo,U y] h K:=by
 refine A8x _ _ _ ?_
 unfold B2s
 refine D8 (fun e=>absurd e (by omega)) (fun _=>?_)
 refine B4 (fun e=>absurd e (by omega)) (fun _=>?_)
 refine D8 (fun e=>?_) (fun hne=>?_)
 ·refine B4 (fun e=>absurd e (by omega)) (fun _=>?_)
  refine B4 (fun e=>absurd e (by omega)) (fun _=>?_)
  subst e
  rw [Int.zero_mul,C06] at hK
  rw [B9c hlo.1,B9t hlo.1,C0 (B9m hlo.1 (by omega)) (C0g (C0o _ hlo.1) hlo.2)]
  exact hK
 refine O4 hy ⟨_,rfl,?_⟩
 have hy0:y≠0:=by omega
 obtain ⟨hb1,hb2⟩:=Cj hy0
 have hb64:L0 y<=64:=Fg (k:=64) (by omega)
 have hb0:1<=L0 y:=by unfold L0;rw [if_neg hy0];omega
 obtain ⟨s,hs⟩:∃ s,s=64-L0 y:=⟨_,rfl⟩
 rw [<- hs]
 have hs64:s<64:=by omega
 have hps:0<(2:Int)^s:=B9k (by decide)
 have hsp:=U4 (s:=s) (by omega)
 have hpt:0<(2:Int)^(64-s):=B9k (by decide)
 have hblen:L0 y=64-s:=by omega
 have hyl:(y:Int)<2^(64-s):=by
  rw [<- hblen]
  have:((y:Nat):Int)<((2^L0 y:Nat):Int):=by omega
  simpa using this
 have hyg:(2:Int)^(63-s)<=y:=by
  have:((2^(L0 y-1):Nat):Int)<=((y:Nat):Int):=by omega
  rw [show L0 y-1=63-s by omega] at this
  simpa using this
 have hp63:(2:Int)^s*2^(63-s)=9223372036854775808:=by
  rw [<- B9l,show s+(63-s)=63 by omega];decide
 have es0:B7 (s:Int)=(s:Int):=C0 (by omega) (by omega)
 have es1:B7 ((64:Int)-s)=((64-s:Nat):Int):=by rw [C0 (by omega) (by omega)];omega
 have hYlt:(y:Int)*2^s<18446744073709551616:=by
  rw [<- hsp,B9a];exact C04 hyl hps
 have hYge:9223372036854775808<=(y:Int)*2^s:=by
  rw [<- hp63,B9a (y:Int)];exact B93 hyg (by omega)
 have eY:B7 ((y:Int)*2^(min s 64))=(y:Int)*2^s:=by rw [B8x (by omega),C0 (by omega) hYlt]
 have hhs:hi*2^s+2^s<=(y:Int)*2^s:=by
  have:=B8u (show hi+1<=(y:Int) by omega) (B94 hps)
  rw [Int.add_mul] at this;omega
 have hhs0:0<=hi*2^s:=B98 hhi.1 (by omega)
 have hlq:0<=lo/2^(64-s)/\lo/2^(64-s)<2^s:=by
  refine ⟨B9m hlo.1 (by omega),B9s hpt ?_⟩
  rw [hsp];exact hlo.2
 have eT:bor .u64 (B7 (hi*2^(min s 64))) (Int.fdiv lo (2^(min (64-s) 64)))=hi*2^s+lo/2^(64-s):=by
  rw [B8x (show s<=64 by omega),C0 hhs0 (by omega),A9p (by omega),Xh hhi.1 hlq (by omega)]
 have eL:B7 (lo*2^(min s 64))=lo*2^s%18446744073709551616:=by rw [B8x (by omega),F4]
 have hL0:0<=lo*2^s%18446744073709551616/\lo*2^s%18446744073709551616<18446744073709551616:=⟨B9f _ (by decide),B9j _ (by decide)⟩
 have hN:(hi*18446744073709551616+lo)*2^s=(hi*2^s+lo/2^(64-s))*18446744073709551616+lo*2^s%18446744073709551616:=by
  have d1:lo*2^s/18446744073709551616=lo/2^(64-s):=by
   rw [<- hsp,B9a lo,Int.mul_ediv_mul_of_pos _ _ hps]
  have d2:=B9b (lo*2^s) 18446744073709551616
  rw [d1] at d2
  grind
 generalize hTT:hi*2^s+lo/2^(64-s)=T at *
 generalize hLL:lo*2^s%18446744073709551616=L at *
 generalize hYY:(y:Int)*2^s=Y at *
 have hT0:0<=T/\T<Y:=by omega
 unfold Yq Ys Yp Yr
 simp only [es0,es1,B8t,eY,eT,eL,Tj]
 rw [Z9 (by omega),Z9 (by omega)]
 have e1:Est 4294967296 1 T (L/4294967296) 0 (Y/4294967296) (Y%4294967296) 0 (T*4294967296+L/4294967296) Y:=
  ⟨by decide,by decide,by omega,by omega,by omega,by omega,by omega,by omega,hT0.1,by omega,by omega⟩
 refine B4 (fun e=>absurd e (by omega)) (fun _=>?_)
 refine B4 (fun e=>absurd e (by omega)) (fun _=>?_)
 refine B4 (fun e=>absurd e (by omega)) (fun _=>?_)
 refine B4 (fun e=>absurd e (by omega)) (fun _=>?_)
 refine B4 (fun e=>absurd e (by omega)) (fun _=>?_)
 have bm:∀ {q w:Int},0<=q->q<=4294967296->0<=w->w<4294967296->0<=q*w/\q*w<18446744073709551616:=by
  intro q w a b c d
  refine ⟨B98 a c,?_⟩
  have:=C08 b (show w<=4294967295 by omega) c (by decide)
  omega
 refine ⟨fun l hp=>∃ q,l=[U q]/\hp=h/\0<=q/\q*Y<=T*4294967296+L/4294967296/\T*4294967296+L/4294967296<(q+1)*Y,?_,?_⟩
 ·obtain ⟨Inv,mu,i0,st⟩:=A72 (hp:=h) (J:=fun q hp=>∃ q',[U q]=[U q']/\hp=h/\0<=q'/\q'*Y<=T*4294967296+L/4294967296/\T*4294967296+L/4294967296<(q'+1)*Y) e1 (by omega) (fun q a b c=>⟨q,rfl,rfl,a,b,c⟩)
  refine ⟨fun l hp=>∃ q r,l=[U q,U r]/\Inv q r hp,fun l hp=>mu (iAt l 0) (iAt l 1) hp,⟨T/(Y/4294967296),T%(Y/4294967296),?_,i0⟩,?_⟩
  ·have dm:=B9b T (Y/4294967296)
   have d0:=B9m hT0.1 (show 0<=Y/4294967296 by omega)
   have d1:T/(Y/4294967296)<=T:=C0o _ hT0.1
   have d2:=B9f T (show Y/4294967296≠0 by omega)
   rw [B9c hT0.1,C0 (n:=T/(Y/4294967296)) d0 (by omega),B9a (T/(Y/4294967296))]
   have d3:=B98 (show 0<=Y/4294967296 by omega) d0
   rw [C0 (n:=Y/4294967296*(T/(Y/4294967296))) d3 (by omega),C0 (by omega) (by omega)]
   have:T-Y/4294967296*(T/(Y/4294967296))=T%(Y/4294967296):=by omega
   rw [this]
  rintro q r hp1 ⟨q',r',hl,hI⟩
  obtain ⟨rfl,rfl⟩:q=q'/\r=r':=by simpa using hl
  obtain ⟨_,q0,q1,r0,r1,rfl,ok,bad⟩:=st q r hp1 hI
  have br:=bm (q:=4294967296) (w:=r) (by omega) (by omega) r0 r1
  refine ⟨fun l hp=>l=[]/\hp=hp1/\(q>=4294967296\/q*(Y%4294967296)>4294967296*r+L/4294967296),B4 (fun h1=>⟨rfl,rfl,.inl h1⟩) (fun h1=>?_),?_⟩
  ·have bq:=bm (q:=q) (w:=Y%4294967296) q0 (by omega) (by omega) (by omega)
   rw [C0 bq.1 bq.2,C0 br.1 br.2,C0 (n:=4294967296*r+L/4294967296) (by omega) (by omega)]
   exact B4 (fun h2=>⟨rfl,rfl,.inr h2⟩) (fun h2=>ok (by omega) h2)
  ·rintro hp2 ⟨_,rfl,hbad⟩
   obtain ⟨g1,g2,g3⟩:=bad hbad
   rw [C0 (n:=r+Y/4294967296) (by omega) (by omega),C0 (n:=q-1) (by omega) (by omega)]
   exact B4 (fun h3=>g2 h3) (fun h3=>⟨⟨_,_,rfl,(g3 (by omega)).1⟩,(g3 (by omega)).2⟩)
 rintro q1 hp3 ⟨q1',hl1,rfl,q10,q1a,q1b⟩
 obtain rfl:q1=q1':=by simpa using hl1
 have hq1B:q1<4294967296:=by
  by_cases hc:q1<4294967296
  ·exact hc
  ·have:=B8u (show 4294967296<=q1 by omega) (show 0<=Y by omega);omega
 have hR1:(q1+1)*Y=q1*Y+Y:=by grind
 have hqY0:0<=q1*Y:=B98 q10 (by omega)
 have eR1:B7 (B7 (B7 (T*4294967296)+L/4294967296)-B7 (q1*Y))=T*4294967296+L/4294967296-q1*Y:=by
  simp only [F4];omega
 simp only [eR1]
 generalize hRR:T*4294967296+L/4294967296-q1*Y=R at *
 have hR0:0<=R/\R<Y:=by omega
 refine B4 (fun e=>absurd e (by omega)) (fun _=>?_)
 have e2:Est 4294967296 1 R (L%4294967296) 0 (Y/4294967296) (Y%4294967296) 0 (R*4294967296+L%4294967296) Y:=
  ⟨by decide,by decide,by omega,by omega,by omega,by omega,by omega,by omega,hR0.1,by omega,by omega⟩
 refine ⟨fun l hp=>∃ q,l=[U q]/\hp=hp3/\0<=q/\q*Y<=R*4294967296+L%4294967296/\R*4294967296+L%4294967296<(q+1)*Y,?_,?_⟩
 ·obtain ⟨Inv,mu,i0,st⟩:=A72 (hp:=hp3) (J:=fun q hp=>∃ q',[U q]=[U q']/\hp=hp3/\0<=q'/\q'*Y<=R*4294967296+L%4294967296/\R*4294967296+L%4294967296<(q'+1)*Y) e2 (by omega) (fun q a b c=>⟨q,rfl,rfl,a,b,c⟩)
  refine ⟨fun l hp=>∃ q r,l=[U r,U q]/\Inv q r hp,fun l hp=>mu (iAt l 1) (iAt l 0) hp,⟨R/(Y/4294967296),R%(Y/4294967296),?_,i0⟩,?_⟩
  ·have dm:=B9b R (Y/4294967296)
   have d0:=B9m hR0.1 (show 0<=Y/4294967296 by omega)
   have d1:R/(Y/4294967296)<=R:=C0o _ hR0.1
   have d2:=B9f R (show Y/4294967296≠0 by omega)
   rw [B9c hR0.1,C0 (n:=R/(Y/4294967296)) d0 (by omega),B9a (R/(Y/4294967296))]
   have d3:=B98 (show 0<=Y/4294967296 by omega) d0
   rw [C0 (n:=Y/4294967296*(R/(Y/4294967296))) d3 (by omega),C0 (by omega) (by omega)]
   have:R-Y/4294967296*(R/(Y/4294967296))=R%(Y/4294967296):=by omega
   rw [this]
  rintro r q hp1 ⟨q',r',hl,hI⟩
  obtain ⟨rfl,rfl⟩:r=r'/\q=q':=by simpa using hl
  obtain ⟨_,q0,q1,r0,r1,rfl,ok,bad⟩:=st q r hp1 hI
  have br:=bm (q:=4294967296) (w:=r) (by omega) (by omega) r0 r1
  refine ⟨fun l hp=>l=[]/\hp=hp1/\(q>=4294967296\/q*(Y%4294967296)>4294967296*r+L%4294967296),B4 (fun h1=>⟨rfl,rfl,.inl h1⟩) (fun h1=>?_),?_⟩
  ·have bq:=bm (q:=q) (w:=Y%4294967296) q0 (by omega) (by omega) (by omega)
   rw [C0 bq.1 bq.2,C0 br.1 br.2,C0 (n:=4294967296*r+L%4294967296) (by omega) (by omega)]
   exact B4 (fun h2=>⟨rfl,rfl,.inr h2⟩) (fun h2=>ok (by omega) h2)
  ·rintro hp2 ⟨_,rfl,hbad⟩
   obtain ⟨g1,g2,g3⟩:=bad hbad
   rw [C0 (n:=r+Y/4294967296) (by omega) (by omega),C0 (n:=q-1) (by omega) (by omega)]
   exact B4 (fun h3=>g2 h3) (fun h3=>⟨⟨_,_,rfl,(g3 (by omega)).1⟩,(g3 (by omega)).2⟩)
 rintro q0 hp6 ⟨q0',hl0,rfl,q00,q0a,q0b⟩
 obtain rfl:q0=q0':=by simpa using hl0
 refine B4 (fun e=>absurd e (by omega)) (fun _=>?_)
 have hq0B:q0<4294967296:=by
  by_cases hc:q0<4294967296
  ·exact hc
  ·have:=B8u (show 4294967296<=q0 by omega) (show 0<=Y by omega);omega
 have hR2:(q0+1)*Y=q0*Y+Y:=by grind
 have hqY1:0<=q0*Y:=B98 q00 (by omega)
 have eR0:B7 (B7 (B7 (R*4294967296)+L%4294967296)-B7 (q0*Y))=R*4294967296+L%4294967296-q0*Y:=by
  simp only [F4];omega
 rw [eR0,C0 (n:=q1*4294967296) (by omega) (by omega),C0 (n:=q1*4294967296+q0) (by omega) (by omega),A9p (by omega)]
 have hfin:(hi*18446744073709551616+lo)*2^s=(q1*4294967296+q0)*(y*2^s)+(R*4294967296+L%4294967296-q0*Y):=by
  rw [hN,hYY]
  have:T*18446744073709551616+L=(T*4294967296+L/4294967296)*4294967296+L%4294967296:=by omega
  rw [this]
  have:T*4294967296+L/4294967296=R+q1*Y:=by omega
  rw [this];grind
 have hfin2:R*4294967296+L%4294967296-q0*Y=(hi*18446744073709551616+lo-(q1*4294967296+q0)*y)*2^s:=by grind
 rw [hfin2,Int.mul_ediv_cancel _ (show (2:Int)^s≠0 by omega)]
 have hr0:0<=hi*18446744073709551616+lo-(q1*4294967296+q0)*y:=by
  by_cases hc:0<=hi*18446744073709551616+lo-(q1*4294967296+q0)*y
  ·exact hc
  ·have:=B8u (show hi*18446744073709551616+lo-(q1*4294967296+q0)*y <= -1 by omega) (B94 hps);omega
 have hr1:hi*18446744073709551616+lo-(q1*4294967296+q0)*y<y:=by
  by_cases hc:hi*18446744073709551616+lo-(q1*4294967296+q0)*y<y
  ·exact hc
  ·have:=B8u (show (y:Int)<=hi*18446744073709551616+lo-(q1*4294967296+q0)*y by omega) (B94 hps);omega
 have hdiv:(hi*18446744073709551616+lo)/y=q1*4294967296+q0:=by
  have:hi*18446744073709551616+lo=(hi*18446744073709551616+lo-(q1*4294967296+q0)*y)+(q1*4294967296+q0)*y:=by omega
  rw [this,C0a _ _ (by omega),B9i hr0 hr1,C06]
 have hmod:(hi*18446744073709551616+lo)%y=hi*18446744073709551616+lo-(q1*4294967296+q0)*y:=by
  rw [Int.emod_def,hdiv,B9a (y:Int)]
 rw [hdiv,hmod] at hK
 exact hK
end
theorem K8{xs:List Int}(d:Dig b64 xs)(i:Nat):0<=xs.getD i 0/\xs.getD i 0<18446744073709551616:=d.getD (by decide) i
theorem Ca(c:Int):0<=c%18446744073709551616/\c%18446744073709551616<b64:=⟨B9f _ (by decide),B9j _ (by decide)⟩
section
variable {h g:Heap} {K:VP} {A B:Option Addr} {ac bc:Nat}
theorem Bo{xs:List Int}(s:SlI .u64 h A xs)(hc:xs.length<=ac)(hl:xs.length<=10000000000)(hK:∀ m,m<=xs.length->Norm (xs.take m)->val b64 (xs.take m)=val b64 xs->K (.slice A m ac) h):FCall prog G8 #[.slice A xs.length ac] h K:=by
 refine B0q _ _ _ ?_
 unfold B5x
 refine ⟨fun l h'=>∃ m:Nat,l=[I m]/\m<=xs.length/\h'=h/\val b64 (xs.take m)=val b64 xs,fun l _=>(iAt l 0).toNat,⟨xs.length,rfl,B97 _,rfl,by rw [B96]⟩,?_⟩
 rintro n1 hp ⟨m,hl1,hm,rfl,hv⟩
 obtain rfl:=sI1 hl1
 refine B4 (fun h1=>?_) (fun h1=>?_)
 ·obtain ⟨j,rfl⟩:∃ j,m=j+1:=⟨m-1,by omega⟩
  have e:B3 (((j+1:Nat):Int)-1)=(j:Int):=by rw [B5 (by omega) (by omega)];omega
  rw [e]
  have hv1:=L7 b64 (xs:=xs) (i:=j) (by omega)
  refine s.load rfl (by omega) (by omega) ?_
  rw [B8t]
  refine D8 (fun h2=>?_) (fun h2=>?_)
  ·exact ⟨⟨j,rfl,by omega,rfl,by rw [h2] at hv1;omega⟩,by simp only [iAt,B8w];omega⟩
  ·refine ⟨⟨by omega,by omega⟩,?_⟩
   rw [F8,B8t,B9w,B9w]
   refine hK (j+1) hm ?_ hv
   rw [Em (by omega)];exact Wl h2
 ·have:m=0:=by omega
  subst this
  refine ⟨⟨by omega,by omega⟩,?_⟩
  rw [F8,B8t,B9w,B9w]
  exact hK 0 (by omega) Norm.nil hv
theorem N6{xs:List Int}(s:SlI .u64 h A xs)(hd:Dig b64 xs)(hc:xs.length<=ac)(hl:xs.length<=10000000000)(hK:∀ m,m<=xs.length->Mw h A m (val b64 xs)->K (.slice A m ac) h):FCall prog G8 #[.slice A xs.length ac] h K:=by
 refine Bo s hc hl ?_
 intro m hm hn hv
 refine hK m hm ⟨xs.take m,by simp;omega,?_,hd.take m,hn,hv⟩
 have:=s.cut (c:=ac) (l:=0) (m:=m) (by omega) hm hc
 simpa [F8] using this
theorem Y2{w:Int}(hw:0<=w/\w<18446744073709551616)(hK:∀ A m c h',h.le h'->m<=c->Mw h' A m w->K (.slice A m c) h'):FCall prog T2 #[U w] h K:=by
 refine Xu _ ?_
 unfold Xv
 refine D8 (fun e=>?_) (fun e=>?_)
 ·subst e;exact hK none 0 0 h (B0 h) (B97 _) Mag.zero
 ·refine Q9 N5 rfl ?_
  intro b hb
  exact ⟨_,_,_,rfl,hK _ _ _ _ (Heap.le_put _ hb) (B97 _) ⟨[w],rfl,SlI.new h b [w] B8 _,Dig.one hw,by simpa [Norm] using e,S1 _ _⟩⟩
theorem J2{x y:Int}{an bn:Nat}(ma:Mw h A an x)(mb:Mw h B bn y)(hl:an<=10000000000)(hK:K (I (Qq x y)) h):FCall prog H9 #[.slice A an ac,.slice B bn bc] h K:=by
 obtain ⟨xs,rfl,sx,dx,nx,rfl⟩:=ma
 obtain ⟨ys,rfl,sy,dy,ny,rfl⟩:=mb
 refine Nf _ _ _ _ _ _ ?_
 unfold Ju
 refine O1 (fun h1=>?_) (fun h1=>?_)
 ·refine A77 ⟨_,rfl,?_⟩
  have:Qq (xs.length:Int) (ys.length:Int)=Qq (val b64 xs) (val b64 ys):=by
   unfold Qq
   by_cases h2:xs.length<ys.length
   ·have:=Fx (by decide) dx dy ny h2
    rw [if_pos (by omega),if_pos this]
   ·have:=Fx (by decide) dy dx nx (by omega)
    rw [if_neg (by omega),if_pos (by omega),if_neg (by omega),if_pos (by omega)]
  rw [this];exact hK
 ·have hlen:xs.length=ys.length:=by omega
  refine ⟨fun l h'=>∃ k:Nat,l=[I ((k:Int)-1)]/\k<=xs.length/\h'=h/\xs.drop k=ys.drop k,fun l _=>(iAt l 0+1).toNat,⟨xs.length,?_,B97 _,rfl,?_⟩,?_⟩
  ·rw [B5 (by omega) (by omega)]
  ·rw [C0n,hlen,C0n]
  rintro i hp ⟨k,hl1,hk,rfl,hd⟩
  obtain rfl:i=(k:Int)-1:=by simpa using hl1
  refine B4 (fun h2=>?_) (fun h2=>?_)
  ·obtain ⟨j,rfl⟩:∃ j,k=j+1:=⟨k-1,by omega⟩
   have e:((j+1:Nat):Int)-1=(j:Int):=by omega
   rw [e]
   refine sx.load rfl (by omega) (by omega) ?_
   refine sy.load rfl (by omega) (by omega) ?_
   rw [B8t]
   refine O1 (fun h3=>?_) (fun h3=>?_)
   ·refine sx.load rfl (by omega) (by omega) ?_
    refine sy.load rfl (by omega) (by omega) ?_
    rw [B8t]
    refine A76 ⟨_,rfl,B0 _,?_⟩
    have:Qq (xs.getD j 0) (ys.getD j 0)=Qq (val b64 xs) (val b64 ys):=by
     unfold Qq
     by_cases h4:xs.getD j 0<ys.getD j 0
     ·have:=Fw (by decide) dx dy (i:=j) (by omega) (by omega) hd h4
      rw [if_pos h4,if_pos this]
     ·have:=Fw (by decide) dy dx (i:=j) (by omega) (by omega) hd.symm (by omega)
      rw [if_neg h4,if_pos (by omega),if_neg (by omega),if_pos (by omega)]
    rw [this];exact hK
   ·rw [B5 (by omega) (by omega)]
    refine ⟨⟨j,rfl,by omega,rfl,?_⟩,by simp only [iAt,B8w];omega⟩
    rw [B9u (show j<xs.length by omega),B9u (show j<ys.length by omega),hd]
    congr 1
    simpa [C02,show j<xs.length by omega,show j<ys.length by omega] using h3
  ·have hk0:k=0:=by omega
   subst hk0
   simp at hd
   subst hd
   have:Qq (val b64 xs) (val b64 xs)=0:=by unfold Qq;rw [if_neg (by omega),if_neg (by omega)]
   rw [this] at hK;exact hK
theorem Cg{xs:List Int}{an:Nat}(s:SlI .u64 h A xs)(hn:an=xs.length)(hl:xs.length<=10000000000)(hK:∀ A' c' h' g',h.le g'->Priv h' g' B8 1 A' xs.length c' (xs.map (B9n .u64))->K (.slice A' xs.length c') h'):FCall prog Dd #[.slice A an ac] h K:=by
 subst hn
 refine A7s _ _ _ ?_
 unfold B27
 refine Br.of (fun e=>?_) (fun e=>?_)
 ·have hA:A=none:=by simpa using e
  have hx:xs=[]:=by
   rcases s with h0|⟨a,ha,_⟩
   ·simpa using h0
   ·rw [hA] at ha;cases ha
  subst hx
  exact hK none 0 h h (B0 h) (by simpa using Priv.nil _ _ _ _)
 ·refine A63 N5 ?_
  intro b hb
  refine ⟨_,_,_,rfl,?_⟩
  have hle:=Heap.le_put (h:=h) (b:=b) (.cells #[] B8) hb
  refine Jl N5 (Priv.nil _ _ _ _) (ys:=xs.map (B9n .u64)) (by simp) (SlI.mono hle s) (fun v hv=>?_) (by omega) (by omega) ?_
  ·obtain ⟨a,_,rfl⟩:=List.mem_map.1 hv;rfl
  ·intro A' c' h' g' hg hp
   simp only [Nat.zero_add,C0b] at hp ⊢
   exact ⟨_,_,_,rfl,hK _ _ _ _ (Heap.le_trans hle hg) hp⟩
variable {b:Nat} {e:TypeId} {pre post:List Value}
theorem Fj{xs ys:List Int}{an bn:Nat}(w:Win .u64 h g b e A pre xs post)(hn:an=xs.length)(sy:SlI .u64 g B ys)(hm:bn=ys.length)(dx:Dig b64 xs)(dy:Dig b64 ys)(hle:ys.length<=xs.length)(hfit:val b64 xs+val b64 ys<b64^xs.length)(hl:xs.length<=10000000000)
 (hK:∀ xs' h',xs'.length=xs.length->Dig b64 xs'->val b64 xs'=val b64 xs+val b64 ys->Win .u64 h' g b e A pre xs' post->K (.tuple #[]) h'):FCall prog Q5 #[.slice A an ac,.slice B bn bc] h K:=by
 subst hn hm
 refine A0y _ _ _ _ _ _ ?_
 unfold A2g
 refine ⟨fun l hp=>∃ (k:Nat) (c:Int) (zs:List Int),l=[U c,I k]/\k<=ys.length/\zs.length=xs.length/\Dig b64 zs/\(0<=c/\c<=1)/\Win .u64 hp g b e A pre zs post/\zs.drop k=xs.drop k/\val b64 (zs.take k)+c*b64^k=val b64 (xs.take k)+val b64 (ys.take k),fun l _=>ys.length-(iAt l 1).toNat,⟨0,0,xs,rfl,by omega,rfl,dx,by omega,w,rfl,by simp [val]⟩,?_⟩
 rintro c i hp ⟨k,c',zs,hli,hk,hzl,hd,hc,wz,hdr,hv⟩
 obtain ⟨rfl,rfl⟩:c=c'/\i=(k:Int):=by simpa using hli
 refine B4 (fun h1=>?_) (fun h1=>?_)
 ·have gy:=K8 dy k
  have gz:=K8 hd k
  have hzz:=E4 hdr
  have vx:=C3 b64 xs k
  have vy:=C3 b64 ys k
  refine (sy.mono wz.le).load rfl (by omega) (by omega) ?_
  refine wz.sl.load hzl.symm (by omega) (by omega) ?_
  simp only [B8t]
  refine Bg gz gy hc ⟨_,_,rfl,?_⟩
  obtain ⟨a,ha,_⟩:=SlV.at wz.sl (i:=k) (by simp;omega)
  refine ⟨a,ha,by omega,by omega,wz.storeN F1 ha (by omega) ?_⟩
  intro h' w'
  rw [B5 (n:=(k:Int)+1) (by omega) (by omega)]
  refine ⟨⟨k+1,_,_,rfl,by omega,by simpa using hzl,hd.set (Ca _),by omega,w',?_,?_⟩,by simp only [iAt,B8w,B90];omega⟩
  ·rw [D3 (by omega)];exact D5 hdr
  ·rw [C7 (by omega),E6,B8v,B8x (by omega),B9h,Z8,vx,vy,<- hzz]
   grind
 ·have hkk:k=ys.length:=by omega
  subst hkk
  rw [B96] at hv
  refine ⟨fun l hp=>∃ (k:Nat) (c:Int) (zs:List Int),l=[U c,I k]/\ys.length<=k/\k<=xs.length/\zs.length=xs.length/\Dig b64 zs/\(0<=c/\c<=1)/\Win .u64 hp g b e A pre zs post/\zs.drop k=xs.drop k/\val b64 (zs.take k)+c*b64^k=val b64 (xs.take k)+val b64 ys,fun l _=>xs.length-(iAt l 1).toNat,⟨ys.length,c,zs,rfl,by omega,by omega,hzl,hd,hc,wz,hdr,hv⟩,?_⟩
  clear hv hdr wz hd hzl hc hk h1
  rintro c i hp ⟨k,c',zs,hli,hk0,hk,hzl,hd,hc,wz,hdr,hv⟩
  obtain ⟨rfl,rfl⟩:c=c'/\i=(k:Int):=by simpa using hli
  have hsplit:=F0 b64 zs (i:=k) (by omega)
  have hsplit2:=F0 b64 xs (i:=k) (by omega)
  refine O1 (fun h0=>B4 (fun h1=>?_) (fun h1=>?_)) (fun h0=>?_)
  ·have gz:=K8 hd k
   have hzz:=E4 hdr
   have vx:=C3 b64 xs k
   refine wz.sl.load hzl.symm (by omega) (by omega) ?_
   simp only [B8t]
   refine Bg gz (by omega) hc ⟨_,_,rfl,?_⟩
   obtain ⟨a,ha,_⟩:=SlV.at wz.sl (i:=k) (by simp;omega)
   refine ⟨a,ha,by omega,by omega,wz.storeN F1 ha (by omega) ?_⟩
   intro h' w'
   rw [B5 (n:=(k:Int)+1) (by omega) (by omega)]
   refine ⟨⟨k+1,_,_,rfl,by omega,by omega,by simpa using hzl,hd.set (Ca _),by omega,w',?_,?_⟩,by simp only [iAt,B8w,B90];omega⟩
   ·rw [D3 (by omega)];exact D5 hdr
   ·rw [C7 (by omega),E6,B8v,B8x (by omega),B9h,Z8,vx,<- hzz]
    grind
  ·exfalso
   have hkk:k=xs.length:=by omega
   subst hkk
   have hc1:c=1:=by omega
   subst hc1
   rw [B96] at hv
   have:=C4 (by decide) (hd.take xs.length)
   omega
  ·have hc0:c=0:=by omega
   subst hc0
   refine hK zs hp hzl hd ?_ wz
   rw [hsplit,hsplit2,hdr];omega
theorem Bt{xs ys:List Int}{an bn:Nat}(w:Win .u64 h g b e A pre xs post)(hn:an=xs.length)(sy:SlI .u64 g B ys)(hm:bn=ys.length)(dx:Dig b64 xs)(dy:Dig b64 ys)(hle:ys.length<=xs.length)(hfit:val b64 ys<=val b64 xs)(hl:xs.length<=10000000000)
 (hK:∀ xs' h',xs'.length=xs.length->Dig b64 xs'->val b64 xs'=val b64 xs-val b64 ys->Win .u64 h' g b e A pre xs' post->K (.tuple #[]) h'):FCall prog R2 #[.slice A an ac,.slice B bn bc] h K:=by
 subst hn hm
 refine My _ _ _ _ _ _ ?_
 unfold Jn
 have key:∀ {z y c:Int},(0<=z/\z<18446744073709551616)->(0<=y/\y<18446744073709551616)->(0<=c/\c<=1)->(z-y-c)%18446744073709551616=z-y-c+18446744073709551616*(if z-y-c<0 then 1 else 0):=by
  intro z y c hz hy hc;split<;>omega
 refine ⟨fun l hp=>∃ (k:Nat) (c:Int) (zs:List Int),l=[U c,I k]/\k<=ys.length/\zs.length=xs.length/\Dig b64 zs/\(0<=c/\c<=1)/\Win .u64 hp g b e A pre zs post/\zs.drop k=xs.drop k/\val b64 (zs.take k)=val b64 (xs.take k)-val b64 (ys.take k)+c*b64^k,fun l _=>ys.length-(iAt l 1).toNat,⟨0,0,xs,rfl,by omega,rfl,dx,by omega,w,rfl,by simp [val]⟩,?_⟩
 rintro c i hp ⟨k,c',zs,hli,hk,hzl,hd,hc,wz,hdr,hv⟩
 obtain ⟨rfl,rfl⟩:c=c'/\i=(k:Int):=by simpa using hli
 refine B4 (fun h1=>?_) (fun h1=>?_)
 ·have gy:=K8 dy k
  have gz:=K8 hd k
  have hzz:=E4 hdr
  have vx:=C3 b64 xs k
  have vy:=C3 b64 ys k
  refine (sy.mono wz.le).load rfl (by omega) (by omega) ?_
  refine wz.sl.load hzl.symm (by omega) (by omega) ?_
  simp only [B8t]
  refine Cs gz gy hc ⟨_,_,rfl,?_⟩
  obtain ⟨a,ha,_⟩:=SlV.at wz.sl (i:=k) (by simp;omega)
  refine ⟨a,ha,by omega,by omega,wz.storeN F1 ha (by omega) ?_⟩
  intro h' w'
  rw [B5 (n:=(k:Int)+1) (by omega) (by omega)]
  refine ⟨⟨k+1,_,_,rfl,by omega,by simpa using hzl,hd.set (Ca _),by split<;>omega,w',?_,?_⟩,by simp only [iAt,B8w,B90];omega⟩
  ·rw [D3 (by omega)];exact D5 hdr
  ·rw [C7 (by omega),E6,B8v,B8x (by omega),B9h,vx,vy,<- hzz,hv,key gz gy hc]
   grind
 ·have hkk:k=ys.length:=by omega
  subst hkk
  rw [B96] at hv
  refine ⟨fun l hp=>∃ (k:Nat) (c:Int) (zs:List Int),l=[U c,I k]/\ys.length<=k/\k<=xs.length/\zs.length=xs.length/\Dig b64 zs/\(0<=c/\c<=1)/\Win .u64 hp g b e A pre zs post/\zs.drop k=xs.drop k/\val b64 (zs.take k)=val b64 (xs.take k)-val b64 ys+c*b64^k,fun l _=>xs.length-(iAt l 1).toNat,⟨ys.length,c,zs,rfl,by omega,by omega,hzl,hd,hc,wz,hdr,hv⟩,?_⟩
  clear hv hdr wz hd hzl hc hk h1
  rintro c i hp ⟨k,c',zs,hli,hk0,hk,hzl,hd,hc,wz,hdr,hv⟩
  obtain ⟨rfl,rfl⟩:c=c'/\i=(k:Int):=by simpa using hli
  have hsplit:=F0 b64 zs (i:=k) (by omega)
  have hsplit2:=F0 b64 xs (i:=k) (by omega)
  refine O1 (fun h0=>B4 (fun h1=>?_) (fun h1=>?_)) (fun h0=>?_)
  ·have gz:=K8 hd k
   have hzz:=E4 hdr
   have vx:=C3 b64 xs k
   refine wz.sl.load hzl.symm (by omega) (by omega) ?_
   simp only [B8t]
   refine Cs gz (by omega) hc ⟨_,_,rfl,?_⟩
   obtain ⟨a,ha,_⟩:=SlV.at wz.sl (i:=k) (by simp;omega)
   refine ⟨a,ha,by omega,by omega,wz.storeN F1 ha (by omega) ?_⟩
   intro h' w'
   rw [B5 (n:=(k:Int)+1) (by omega) (by omega)]
   refine ⟨⟨k+1,_,_,rfl,by omega,by omega,by simpa using hzl,hd.set (Ca _),by split<;>omega,w',?_,?_⟩,by simp only [iAt,B8w,B90];omega⟩
   ·rw [D3 (by omega)];exact D5 hdr
   ·rw [C7 (by omega),E6,B8v,B8x (by omega),B9h,vx,<- hzz,hv,key gz (y:=0) (by omega) hc]
    grind
  ·exfalso
   have hkk:k=xs.length:=by omega
   subst hkk
   have hc1:c=1:=by omega
   subst hc1
   rw [B96] at hv
   have:=K7 (by decide) (hd.take xs.length)
   rw [B8v,B8x (by omega)] at this
   omega
  ·have hc0:c=0:=by omega
   subst hc0
   refine hK zs hp hzl hd ?_ wz
   rw [hsplit,hsplit2,hdr];omega
theorem Ux{x y:Int}{an bn:Nat}(ma:Mw h A an x)(mb:Mw h B bn y)(hab:bn<=an)(hl:an<=4000000000)(hb0:bn≠0)(hK:∀ A' m c' h',h.le h'->m<=c'->Mw h' A' m (x+y)->K (.slice A' m c') h'):
 wpH prog (Instr.makeSlice T6 (I (B3 ((an:Int)+1))) (I (B3 ((an:Int)+1)))) (fun v hp1=>∃ (t20A:Option Addr) (t20n:Nat) (t20c:Nat),v= .slice t20A t20n t20c/\∀ ty,wpH prog (Builtin.copy_ #[T6,T6] ty #[.slice t20A t20n t20c,.slice A an ac]) (fun v1 hp2=>∃ (t23:Int),v1=I t23/\FCall prog Q5 #[.slice t20A t20n t20c,.slice B bn bc] hp2 (fun r hp3=>r= .tuple #[]/\FCall prog G8 #[.slice t20A t20n t20c] hp3 (fun r1 hp4=>∃ (t28A:Option Addr) (t28n:Nat) (t28c:Nat),r1= .slice t28A t28n t28c/\K (.slice t28A t28n t28c) hp4))) hp1) h:=by
 obtain ⟨xs,rfl,sx,dx,nx,rfl⟩:=ma
 obtain ⟨ys,rfl,sy,dy,ny,rfl⟩:=mb
 have e1:B3 ((xs.length:Int)+1)=((xs.length+1:Nat):Int):=by rw [B5 (by omega) (by omega)];omega
 rw [e1]
 refine J5 N5 (by omega) (by omega) (by omega) ?_
 intro b hb
 rw [B8t]
 refine ⟨_,_,_,rfl,fun ty=>?_⟩
 have w0:=Win.blk .u64 B8 hb (B91 (xs.length+1) 0)
 refine Dp N5 w0 (by simp) (SlI.mono w0.le sx) rfl (by simp) ?_
 intro h1 w1
 refine ⟨_,rfl,?_⟩
 have hdrop:(B91 (xs.length+1) (0:Int)).drop xs.length=[0]:=by rw [B9e];simp [B9y]
 rw [hdrop] at w1
 have hv1:val b64 (xs++[0])=val b64 xs:=by rw [E6];omega
 have hlx:=K7 (by decide) dx
 have hly:=K7 (by decide) dy
 have hpw:=C8 (B:=b64) (by decide) hab
 have hps:b64^(xs.length+1)=b64^xs.length*18446744073709551616:=B9h _ _
 have hpp:=D4 (B:=b64) (by decide) xs.length
 refine Fj w1 (by simp) sy rfl (dx.append (Dig.one (by decide))) dy (by simp;omega) ?_ (by simp;omega) ?_
 ·rw [hv1,B8z,B9r,hps];omega
 intro zs h2 hzl hzd hzv w2
 refine ⟨rfl,?_⟩
 have hzl':zs.length=xs.length+1:=by rw [hzl];simp
 rw [<- hzl']
 refine N6 w2.sl hzd (by omega) (by omega) ?_
 intro m hm hM
 rw [hzv,hv1] at hM
 exact ⟨_,_,_,rfl,hK _ _ _ _ w2.le hm hM⟩
theorem R9{x y:Int}{an bn:Nat}(ma:Mw h A an x)(mb:Mw h B bn y)(ha:an<=ac)(hb:bn<=bc)(hl:an<=4000000000)(hl2:bn<=4000000000)(hK:∀ A' m c' h',h.le h'->m<=c'->Mw h' A' m (x+y)->K (.slice A' m c') h'):FCall prog N8 #[.slice A an ac,.slice B bn bc] h K:=by
 refine Xy _ _ _ _ _ _ ?_
 unfold Xz
 refine ⟨fun l h'=>h'=h/\∃ (A1 B1:Option Addr) (n1 n2 c1 c2:Nat) (x1 y1:Int),l=[.slice A1 n1 c1,.slice B1 n2 c2]/\Mw h A1 n1 x1/\Mw h B1 n2 y1/\n2<=n1/\n1<=4000000000/\n1<=c1/\x1+y1=x+y,B4 (fun h1=>?_) (fun h1=>?_),?_⟩
 ·exact ⟨rfl,_,_,_,_,_,_,y,x,rfl,mb,ma,by omega,hl2,hb,C0e _ _⟩
 ·exact ⟨rfl,_,_,_,_,_,_,x,y,rfl,ma,mb,by omega,hl,ha,rfl⟩
 ·rintro A1 n1 c1 B1 n2 c2 hp ⟨rfl,A1',B1',n1',n2',c1',c2',x1,y1,hli,m1,m2,hn,hn1,hc1,hxy⟩
  obtain ⟨⟨rfl,rfl,rfl⟩,rfl,rfl,rfl⟩:(A1=A1'/\n1=n1'/\c1=c1')/\B1=B1'/\n2=n2'/\c2=c2':=by simpa using hli
  rw [<- hxy] at hK
  refine D8 (fun h0=>?_) (fun h0=>?_)
  ·have:=(m2.len_zero (by decide)).2 (by omega)
   subst this
   rw [C0m] at hK
   exact hK _ _ _ _ (B0 _) hc1 m1
  ·refine Fv _ (Ux (ac:=c1) (bc:=c2) m1 m2 hn hn1 (by omega) hK) ?_
   rintro v h' ⟨A2,n2',c2',e2,hx⟩
   exact ⟨A2,n2',c2',e2,hx _⟩
theorem J8{x y:Int}{an bn:Nat}(ma:Mw h A an x)(mb:Mw h B bn y)(ha:an<=ac)(hl:an<=4000000000)(hxy:y<=x)(hK:∀ A' m c' h',h.le h'->m<=c'->Mw h' A' m (x-y)->K (.slice A' m c') h'):FCall prog I4 #[.slice A an ac,.slice B bn bc] h K:=by
 have hbn:bn<=an:=mb.len_le (by decide) (C0g hxy (ma.lt (by decide)))
 refine Kz _ _ _ _ _ _ ?_
 unfold Gu
 refine D8 (fun h0=>?_) (fun h0=>?_)
 ·have:=(mb.len_zero (by decide)).2 (by omega)
  subst this
  rw [Int.sub_zero] at hK
  exact hK _ _ _ _ (B0 _) ha ma
 ·obtain ⟨xs,rfl,sx,dx,nx,rfl⟩:=ma
  obtain ⟨ys,rfl,sy,dy,ny,rfl⟩:=mb
  refine Cg sx rfl (by omega) ?_
  intro A1 c1 h1 g1 l1 p1
  refine ⟨_,_,_,rfl,?_⟩
  obtain ⟨b,post,w1⟩:=p1.win (by rintro rfl;rw [List.length_nil] at hbn;omega)
  refine Bt w1 rfl (sy.mono l1) rfl dx dy hbn hxy (by omega) ?_
  intro zs h2 hzl hzd hzv w2
  refine ⟨rfl,?_⟩
  rw [<- hzl]
  refine N6 w2.sl hzd (by have:=p1.2.1;omega) (by omega) ?_
  intro m hm hM
  rw [hzv] at hM
  exact ⟨_,_,_,rfl,hK _ _ _ _ (Heap.le_trans l1 w2.le) (by have:=p1.2.1;omega) hM⟩
theorem Fi{zs xs:List Int}{an bn:Nat}{wd:Int}(w:Win .u64 h g b e A pre zs post)(hn:an=zs.length)(sx:SlI .u64 g B xs)(hm:bn=xs.length)(dz:Dig b64 zs)(dx:Dig b64 xs)(hle:zs.length=xs.length)(hw:0<=wd/\wd<18446744073709551616)(hl:xs.length<=10000000000)
 (hK:∀ zs' c h',zs'.length=zs.length->Dig b64 zs'->(0<=c/\c<18446744073709551616)->val b64 zs'+c*b64^zs.length=val b64 zs+val b64 xs*wd->Win .u64 h' g b e A pre zs' post->K (U c) h'):FCall prog Y5 #[.slice A an ac,.slice B bn bc,U wd] h K:=by
 subst hn hm
 refine Rb _ _ _ _ _ _ _ ?_
 unfold Qd
 refine ⟨fun l hp=>∃ (k:Nat) (c:Int) (us:List Int),l=[U c,I k]/\k<=xs.length/\us.length=zs.length/\Dig b64 us/\(0<=c/\c<18446744073709551616)/\Win .u64 hp g b e A pre us post/\us.drop k=zs.drop k/\val b64 (us.take k)+c*b64^k=val b64 (zs.take k)+val b64 (xs.take k)*wd,fun l _=>xs.length-(iAt l 1).toNat,⟨0,0,zs,rfl,by omega,rfl,dz,by omega,w,rfl,by simp [val]⟩,?_⟩
 rintro c i hp ⟨k,c',us,hli,hk,hul,hd,hc,wz,hdr,hv⟩
 obtain ⟨rfl,rfl⟩:c=c'/\i=(k:Int):=by simpa using hli
 refine B4 (fun h1=>?_) (fun h1=>?_)
 ·have gx:=K8 dx k
  have gz:=K8 hd k
  have hzz:=E4 hdr
  have vx:=C3 b64 xs k
  have vz:=C3 b64 zs k
  have hm:0<=xs.getD k 0*wd/\xs.getD k 0*wd<=18446744073709551615*18446744073709551615:=⟨B98 gx.1 hw.1,C08 (by omega) (by omega) hw.1 (by decide)⟩
  refine (sx.mono wz.le).load rfl (by omega) (by omega) ?_
  rw [B8t]
  refine Im gx hw ⟨_,_,rfl,?_⟩
  generalize hmm:xs.getD k 0*wd=mm at *
  refine Bg (by omega) hc (by omega) ⟨_,_,rfl,?_⟩
  refine wz.sl.load hul.symm (by omega) (by omega) ?_
  rw [B8t]
  refine Bg gz (by omega) (by omega) ⟨_,_,rfl,?_⟩
  obtain ⟨a,ha,_⟩:=SlV.at wz.sl (i:=k) (by simp;omega)
  refine ⟨a,ha,by omega,by omega,wz.storeN F1 ha (by omega) ?_⟩
  intro h' w'
  rw [B5 (n:=(k:Int)+1) (by omega) (by omega)]
  rw [C0 (n:=mm/18446744073709551616+(mm%18446744073709551616+c+0)/18446744073709551616) (by omega) (by omega)]
  rw [C0 (by omega) (by omega)]
  refine ⟨⟨k+1,_,_,rfl,by omega,by simpa using hul,hd.set (Ca _),by omega,w',?_,?_⟩,by simp only [iAt,B8w,B90];omega⟩
  ·rw [D3 (by omega)];exact D5 hdr
  ·rw [C7 (by omega),E6,B8v,B8x (by omega),B9h,vx,vz,<- hzz]
   have key:(us.getD k 0+(mm%18446744073709551616+c+0)%18446744073709551616+0)%18446744073709551616+18446744073709551616*(mm/18446744073709551616+(mm%18446744073709551616+c+0)/18446744073709551616+(us.getD k 0+(mm%18446744073709551616+c+0)%18446744073709551616+0)/18446744073709551616)=us.getD k 0+mm+c:=by omega
   generalize (us.getD k 0+(mm%18446744073709551616+c+0)%18446744073709551616+0)%18446744073709551616=dg at *
   generalize mm/18446744073709551616+(mm%18446744073709551616+c+0)/18446744073709551616+(us.getD k 0+(mm%18446744073709551616+c+0)%18446744073709551616+0)/18446744073709551616=cn at *
   rw [<- hmm] at key
   grind
 ·have hkk:k=xs.length:=by omega
  subst hkk
  rw [B96,<- hle,B96,<- hul,B96] at hv
  exact hK us c hp hul hd hc (by rw [<- hul];exact hv) wz
theorem Gn{zs xs:List Int}{an bn:Nat}{wd:Int}(w:Win .u64 h g b e A pre zs post)(hn:an=zs.length)(sx:SlI .u64 g B xs)(hm:bn=xs.length)(dz:Dig b64 zs)(dx:Dig b64 xs)(hle:zs.length=xs.length)(hw:0<=wd/\wd<18446744073709551616)(hl:xs.length<=10000000000)
 (hK:∀ zs' c h',zs'.length=zs.length->Dig b64 zs'->(0<=c/\c<18446744073709551616)->val b64 zs'=val b64 zs-val b64 xs*wd+c*b64^zs.length->Win .u64 h' g b e A pre zs' post->K (U c) h'):FCall prog R1 #[.slice A an ac,.slice B bn bc,U wd] h K:=by
 subst hn hm
 refine Hp _ _ _ _ _ _ _ ?_
 unfold Dy
 refine ⟨fun l hp=>∃ (k:Nat) (c:Int) (us:List Int),l=[U c,I k]/\k<=xs.length/\us.length=zs.length/\Dig b64 us/\(0<=c/\c<18446744073709551616)/\Win .u64 hp g b e A pre us post/\us.drop k=zs.drop k/\val b64 (us.take k)=val b64 (zs.take k)-val b64 (xs.take k)*wd+c*b64^k,fun l _=>xs.length-(iAt l 1).toNat,⟨0,0,zs,rfl,by omega,rfl,dz,by omega,w,rfl,by simp [val]⟩,?_⟩
 rintro c i hp ⟨k,c',us,hli,hk,hul,hd,hc,wz,hdr,hv⟩
 obtain ⟨rfl,rfl⟩:c=c'/\i=(k:Int):=by simpa using hli
 refine B4 (fun h1=>?_) (fun h1=>?_)
 ·have gx:=K8 dx k
  have gz:=K8 hd k
  have hzz:=E4 hdr
  have vx:=C3 b64 xs k
  have vz:=C3 b64 zs k
  have hm:0<=xs.getD k 0*wd/\xs.getD k 0*wd<=18446744073709551615*18446744073709551615:=⟨B98 gx.1 hw.1,C08 (by omega) (by omega) hw.1 (by decide)⟩
  refine (sx.mono wz.le).load rfl (by omega) (by omega) ?_
  rw [B8t]
  refine Im gx hw ⟨_,_,rfl,?_⟩
  generalize hmm:xs.getD k 0*wd=mm at *
  refine Bg (by omega) hc (by omega) ⟨_,_,rfl,?_⟩
  refine wz.sl.load hul.symm (by omega) (by omega) ?_
  rw [B8t]
  refine Cs gz (by omega) (by omega) ⟨_,_,rfl,?_⟩
  obtain ⟨a,ha,_⟩:=SlV.at wz.sl (i:=k) (by simp;omega)
  refine ⟨a,ha,by omega,by omega,wz.storeN F1 ha (by omega) ?_⟩
  intro h' w'
  rw [B5 (n:=(k:Int)+1) (by omega) (by omega)]
  rw [C0 (n:=mm/18446744073709551616+(mm%18446744073709551616+c+0)/18446744073709551616) (by omega) (by omega)]
  rw [C0 (by split<;>omega) (by split<;>omega)]
  refine ⟨⟨k+1,_,_,rfl,by omega,by simpa using hul,hd.set (Ca _),by split<;>omega,w',?_,?_⟩,by simp only [iAt,B8w,B90];omega⟩
  ·rw [D3 (by omega)];exact D5 hdr
  ·rw [C7 (by omega),E6,B8v,B8x (by omega),B9h,vx,vz,<- hzz,hv]
   have key:(us.getD k 0-(mm%18446744073709551616+c+0)%18446744073709551616-0)%18446744073709551616=us.getD k 0-mm-c+18446744073709551616*(mm/18446744073709551616+(mm%18446744073709551616+c+0)/18446744073709551616+(if us.getD k 0-(mm%18446744073709551616+c+0)%18446744073709551616-0<0 then 1 else 0)):=by split<;>omega
   rw [key]
   generalize mm/18446744073709551616+(mm%18446744073709551616+c+0)/18446744073709551616+(if us.getD k 0-(mm%18446744073709551616+c+0)%18446744073709551616-0<0 then 1 else 0)=cn at *
   rw [<- hmm]
   grind
 ·have hkk:k=xs.length:=by omega
  subst hkk
  rw [B96,<- hle,B96,<- hul,B96] at hv
  exact hK us c hp hul hd hc (by rw [<- hul];exact hv) wz
end
theorem Rr{x z:Int}{s:Nat}(hs:s<=64)(_hx:0<=x/\x<18446744073709551616)(hz:0<=z/\z<(2:Int)^s):
 bor .u64 z (x*2^s%18446744073709551616)=z+x*2^s%18446744073709551616/\z+x*2^s%18446744073709551616<18446744073709551616/\x*2^s%18446744073709551616=2^s*(x%2^(64-s)):=by
 have hp:=U4 hs
 have hps:0<(2:Int)^s:=B9k (by decide)
 have hpt:0<(2:Int)^(64-s):=B9k (by decide)
 have hz64:z<18446744073709551616:=by
  have:(2:Int)^s*1<=2^s*2^(64-s):=B93 (by omega) (by omega)
  omega
 have em:x*2^s%18446744073709551616=2^s*(x%2^(64-s)):=by
  rw [<- hp,B9a x,Int.mul_emod_mul_of_pos _ _ hps]
 have hm:=Ca (x*2^s)
 have ha0:0<=x%2^(64-s):=B9f _ (by omega)
 have e1:(x*2^s%18446744073709551616).toNat=2^s*(x%2^(64-s)).toNat:=by
  rw [em,Int.toNat_mul (by omega) ha0]
  rw [Int.toNat_pow_of_nonneg (by decide)];rfl
 have hzn:z.toNat<2^s:=by
  have:((2^s:Nat):Int)=(2:Int)^s:=by simp
  omega
 have hor:bor .u64 z (x*2^s%18446744073709551616)=z+x*2^s%18446744073709551616:=by
  rw [A0p ⟨hz.1,hz64⟩ hm,e1,Nat.or_comm,A1u hzn,<- e1]
  omega
 refine ⟨hor,?_,em⟩
 rw [<- hor,A0p ⟨hz.1,hz64⟩ hm]
 have:z.toNat ||| (x*2^s%18446744073709551616).toNat<2^64:=Nat.or_lt_two_pow (by omega) (by have:=hm.2;show _<_;omega)
 omega
theorem Gz(k:Nat):b64^k=(2:Int)^(64*k):=by
 rw [show b64=(2:Int)^64 by decide,<- Int.pow_mul]
section
variable {h g:Heap} {K:VP} {A B:Option Addr} {ac bc:Nat}
theorem Q7{x:Int}{an s:Nat}(ma:Mw h A an x)(ha:an<=ac)(hl:an<=1000000000)(hs:s<=10000000000)(hK:∀ A' m c' h',h.le h'->m<=c'->Mw h' A' m (x*2^s)->K (.slice A' m c') h'):FCall prog Q3 #[.slice A an ac,U s] h K:=by
 have h00:=ma.len_zero (by decide)
 refine Uy _ _ _ _ ?_
 unfold Se
 refine D8 (fun h0=>?_) (fun h0=>D8 (fun h1=>?_) (fun h1=>?_))
 ·have:=h00.2 (by omega)
  subst this
  rw [Int.zero_mul] at hK
  exact hK _ _ _ _ (B0 _) ha ma
 ·have:s=0:=by omega
  subst this
  rw [Int.pow_zero,Int.mul_one] at hK
  exact hK _ _ _ _ (B0 _) ha ma
 ·obtain ⟨xs,rfl,sx,dx,nx,rfl⟩:=ma
  obtain ⟨k0,hk0⟩:∃ k0,k0=s/64:=⟨_,rfl⟩
  obtain ⟨r,hr⟩:∃ r,r=s%64:=⟨_,rfl⟩
  have ed:B3 (B7 (C0f (s:Int) 64))=(k0:Int):=by
   rw [B9c (by omega),C0 (by omega) (by omega),B5 (by omega) (by omega)];omega
  have em:Int.tmod (s:Int) 64=(r:Int):=by rw [B9t (by omega)];omega
  have er:B7 ((64:Int)-(r:Int))=((64-r:Nat):Int):=by rw [C0 (by omega) (by omega)];omega
  simp only [ed,em,er,B8t]
  have e1:B3 (B3 ((xs.length:Int)+k0)+1)=((xs.length+k0+1:Nat):Int):=by rw [B5 (n:=(xs.length:Int)+k0) (by omega) (by omega),B5 (by omega) (by omega)];omega
  rw [e1]
  refine J5 N5 (by omega) (by omega) (by omega) ?_
  intro b hb
  rw [B8t]
  refine ⟨_,_,_,rfl,?_⟩
  have hps:0<(2:Int)^r:=B9k (by decide)
  have hpt:0<(2:Int)^(64-r):=B9k (by decide)
  have hpp:=U4 (s:=r) (by omega)
  refine ⟨fun l h'=>∃ (k:Nat) (zs:List Int),l=[I k]/\k<=xs.length/\zs.length=xs.length+k0+1/\Dig b64 zs/\h'=blk .u64 B8 h b zs/\zs.drop (k+k0+1)=B91 (xs.length-k) 0/\zs.getD (k+k0) 0<2^r/\val b64 (zs.take (k+k0+1))=val b64 (xs.take k)*2^s,fun l _=>xs.length-(iAt l 0).toNat,⟨0,_,rfl,by omega,by simp,H0 (by decide) _,rfl,?_,?_,?_⟩,?_⟩
  ·rw [B9e];congr 1;omega
  ·have:(B91 (xs.length+k0+1) (0:Int)).getD (0+k0) 0=0:=by simp [C02,List.getElem?_replicate];split<;>rfl
   rw [this];exact hps
  ·rw [C01,Af];simp [val]
  rintro i hp ⟨k,zs,hli,hk,hzl,hd,rfl,hdr,hg,hv⟩
  obtain rfl:=sI1 hli
  have hle:=V1 (k:=.u64) (e:=B8) hb zs
  refine B4 (fun h1=>?_) (fun h1=>?_)
  ·have gx:=K8 dx k
   have gz:=K8 hd (k+k0)
   have vx:=C3 b64 xs k
   have vz:=C3 b64 zs (k+k0)
   have e2:B3 ((k:Int)+k0)=((k+k0:Nat):Int):=by rw [B5 (by omega) (by omega)];omega
   have e3:B3 (((k+k0:Nat):Int)+1)=((k+k0+1:Nat):Int):=by rw [B5 (by omega) (by omega)];omega
   rw [e2,e3]
   refine (sx.mono hle).load rfl (by omega) (by omega) ?_
   refine (Ci .u64 B8 h b zs).load hzl.symm (by omega) (by omega) ?_
   simp only [B8t]
   refine B4 (fun e=>absurd e (by omega)) (fun _=>?_)
   refine ⟨_,rfl,by omega,by omega,?_⟩
   obtain ⟨o1,o2,o3⟩:=Rr (s:=r) (by omega) gx ⟨gz.1,hg⟩
   rw [B8x (show r<=64 by omega),F4,o1,A9p (show 64-r<=64 by omega)]
   have hm0:=Ca (xs.getD k 0*2^r)
   refine Ch (zs:=zs) (i:=k+k0) F1 (by first|omega|(rw [B9d];omega)) ?_
   refine B4 (fun e=>absurd e (by omega)) (fun _=>?_)
   refine ⟨_,rfl,by omega,by omega,?_⟩
   refine Ch (zs:=zs.set (k+k0) (zs.getD (k+k0) 0+xs.getD k 0*2^r%18446744073709551616)) (i:=k+k0+1) F1 (by first|omega|(rw [B9d];omega)) ?_
   have hq:0<=xs.getD k 0/2^(64-r)/\xs.getD k 0/2^(64-r)<2^r:=⟨B9m gx.1 (by omega),B9s hpt (by rw [hpp];exact gx.2)⟩
   have hpr:(2:Int)^r<=9223372036854775808:=by
    have:=C8 (B:=2) (by decide) (show r<=63 by omega)
    have e:(2:Int)^63=9223372036854775808:=by decide
    omega
   rw [B5 (n:=(k:Int)+1) (by omega) (by omega)]
   refine ⟨⟨k+1,(zs.set (k+k0) (zs.getD (k+k0) 0+xs.getD k 0*2^r%18446744073709551616)).set (k+k0+1) (xs.getD k 0/2^(64-r)),rfl,by omega,by simpa using hzl,(hd.set ⟨by omega,o2⟩).set ⟨hq.1,by show _<(18446744073709551616:Int);omega⟩,rfl,?_,?_,?_⟩,by simp only [iAt,B8w];omega⟩
   ·rw [show k+1+k0+1=(k+k0+1)+1 by omega,D3 (by omega),D3 (by omega),<- B9v,hdr,B9e]
    congr 1
   ·rw [show k+1+k0=k+k0+1 by omega]
    have:((zs.set (k+k0) (zs.getD (k+k0) 0+xs.getD k 0*2^r%18446744073709551616)).set (k+k0+1) (xs.getD k 0/2^(64-r))).getD (k+k0+1) 0=xs.getD k 0/2^(64-r):=by
     rw [C02,List.getElem?_set_self (by rw [B9d];omega)];rfl
    rw [this];exact hq.2
   ·rw [show k+1+k0+1=(k+k0+1)+1 by omega,C7 (by rw [B9d];omega),E6,C7 (by omega),E6]
    simp only [B8v,B8z,B9r]
    rw [B8x (show k+k0<=zs.length by omega),B9h,vx]
    rw [vz] at hv
    have hsp:(2:Int)^s=b64^k0*2^r:=by
     rw [Gz,<- B9l];congr 1;omega
    have hpk:b64^(k+k0)=b64^k*b64^k0:=B9l _ _ _
    have hdm:=B9b (xs.getD k 0) (2^(64-r))
    have key:xs.getD k 0*2^r%18446744073709551616+18446744073709551616*(xs.getD k 0/2^(64-r))=xs.getD k 0*2^r:=by
     rw [o3,<- hpp,Int.mul_assoc,<- C0u]
     have:xs.getD k 0%2^(64-r)+2^(64-r)*(xs.getD k 0/2^(64-r))=xs.getD k 0:=by omega
     rw [this,B9a]
    generalize xs.getD k 0*2^r%18446744073709551616=lo at *
    generalize xs.getD k 0/2^(64-r)=hi at *
    rw [hsp] at hv ⊢
    rw [hpk] at hv ⊢
    have e5:(val b64 (xs.take k)+b64^k*xs.getD k 0)*(b64^k0*2^r)=val b64 (xs.take k)*(b64^k0*2^r)+b64^k*b64^k0*(xs.getD k 0*2^r):=by grind
    rw [e5,<- hv,<- key]
    grind
  ·have hkk:k=xs.length:=by omega
   subst hkk
   rw [B96,B95 (by omega)] at hv
   rw [<- hzl]
   refine N6 (Ci _ _ _ _ _) hd (B97 _) (by omega) ?_
   intro m hm hM
   rw [hv] at hM
   exact ⟨_,_,_,rfl,hK _ _ _ _ (V1 hb _) hm hM⟩
theorem Ds{x:Int}{an s:Nat}(ma:Mw h A an x)(hl:an<=1000000000)(hs:s<=1000000000000)(hK:∀ A' m c' h',h.le h'->m<=c'->Mw h' A' m (x/2^s)->K (.slice A' m c') h'):FCall prog Y4 #[.slice A an ac,U s] h K:=by
 have hx0:=ma.nonneg (by decide)
 have hxl:=ma.lt (by decide)
 refine Qx _ _ _ _ ?_
 unfold Pu
 obtain ⟨k0,hk0⟩:∃ k0,k0=s/64:=⟨_,rfl⟩
 obtain ⟨r,hr⟩:∃ r,r=s%64:=⟨_,rfl⟩
 have ed0:B7 (C0f (s:Int) 64)=(k0:Int):=by
  rw [B9c (by omega),C0 (by omega) (by omega)];omega
 have ed1:B3 (k0:Int)=(k0:Int):=B5 (by omega) (by omega)
 have em:Int.tmod (s:Int) 64=(r:Int):=by rw [B9t (by omega)];omega
 have er:B7 ((64:Int)-(r:Int))=((64-r:Nat):Int):=by rw [C0 (by omega) (by omega)];omega
 have en:B7 (an:Int)=(an:Int):=C0 (by omega) (by omega)
 simp only [ed0,ed1,em,er,en,B8t]
 have hsp:(2:Int)^s=b64^k0*2^r:=by
  rw [Gz,<- B9l];congr 1;omega
 refine B4 (fun h1=>?_) (fun h1=>?_)
 ·have:x/2^s=0:=by
   apply B9i hx0
   rw [hsp]
   have t1:=C8 (B:=b64) (by decide) (show an<=k0 by omega)
   have t2:b64^k0*1<=b64^k0*2^r:=B93 (by have:0<(2:Int)^r:=B9k (by decide);omega) (B94 (D4 (by decide) _))
   omega
  rw [this] at hK
  exact hK _ _ _ _ (B0 _) (B97 _) Mag.zero
 ·obtain ⟨xs,rfl,sx,dx,nx,rfl⟩:=ma
  have e1:B3 ((xs.length:Int)-k0)=((xs.length-k0:Nat):Int):=by rw [B5 (by omega) (by omega)];omega
  rw [e1]
  refine J5 N5 (by omega) (by omega) (by omega) ?_
  intro b hb
  rw [B8t]
  refine ⟨_,_,_,rfl,?_⟩
  have hp:0<(2:Int)^r:=B9k (by decide)
  have hps:=U4 (s:=r) (by omega)
  have hpt:0<(2:Int)^(64-r):=B9k (by decide)
  have hwl:(xs.drop k0).length=xs.length-k0:=B8y
  have hgw:∀ i,(xs.drop k0).getD i 0=xs.getD (k0+i) 0:=fun i=>Wx
  refine ⟨fun l h'=>∃ (k:Nat) (zs:List Int),l=[I k]/\k<=xs.length-k0/\zs.length=xs.length-k0/\Dig b64 zs/\h'=blk .u64 B8 h b zs/\2^r*val b64 (zs.take k)+(xs.drop k0).getD 0 0%2^r=val b64 ((xs.drop k0).take k)+b64^k*((xs.drop k0).getD k 0%2^r),fun l _=>xs.length-(iAt l 0).toNat,⟨0,_,rfl,by omega,by simp,H0 (by decide) _,rfl,by simp [val]⟩,?_⟩
  rintro i hp1 ⟨k,zs,hli,hk,hzl,hd,rfl,hv⟩
  obtain rfl:=sI1 hli
  have hle:∀ zs,h.le (blk .u64 B8 h b zs):=fun zs=>V1 (k:=.u64) (e:=B8) hb zs
  have gz:=K8 (dx.drop k0) k
  refine B4 (fun h2=>?_) (fun h2=>?_)
  ·have e2:B3 ((k:Int)+k0)=((k0+k:Nat):Int):=by rw [B5 (by omega) (by omega)];omega
   have e3:B3 (((k0+k:Nat):Int)+1)=((k0+(k+1):Nat):Int):=by rw [B5 (by omega) (by omega)];omega
   rw [e2,e3]
   refine (sx.mono (hle zs)).load rfl (by omega) (by omega) ?_
   refine B4 (fun e=>absurd e (by omega)) (fun _=>?_)
   refine ⟨_,rfl,by omega,by omega,?_⟩
   simp only [B8t]
   rw [<- hgw k,A9p (show r<=64 by omega)]
   have hq0:0<=(xs.drop k0).getD k 0/2^r:=B9m gz.1 (by omega)
   have hq1:(xs.drop k0).getD k 0/2^r<2^(64-r):=by
    apply B9s hp
    rw [B9a,hps];exact gz.2
   have hpt2:(2:Int)^(64-r)<=18446744073709551616:=by
    rw [<- hps]
    have:=B8u (show 1<=(2:Int)^r by omega) (B94 hpt);omega
   refine Ch (zs:=zs) (i:=k) F1 (by first|omega|(rw [B9d];omega)) ?_
   have d1:Dig b64 (zs.set k ((xs.drop k0).getD k 0/2^r)):=hd.set ⟨hq0,by show _<(18446744073709551616:Int);omega⟩
   have l1:(zs.set k ((xs.drop k0).getD k 0/2^r)).length=xs.length-k0:=by rw [B9d];exact hzl
   have g1:(zs.set k ((xs.drop k0).getD k 0/2^r)).getD k 0=(xs.drop k0).getD k 0/2^r:=by simp [C02,show k<zs.length by omega]
   have vr:=C3 b64 (xs.drop k0) k
   have fin:∀ z:Int,2^r*z=(xs.drop k0).getD k 0-(xs.drop k0).getD k 0%2^r+18446744073709551616*((xs.drop k0).getD (k+1) 0%2^r)->
    2^r*val b64 ((zs.set k z).take (k+1))+(xs.drop k0).getD 0 0%2^r=val b64 ((xs.drop k0).take (k+1))+b64^(k+1)*((xs.drop k0).getD (k+1) 0%2^r):=by
    intro z ez
    rw [C7 (by omega),E6,B8v,B8x (by omega),vr,B9h]
    have e1:2^r*(val b64 (zs.take k)+b64^k*z)=2^r*val b64 (zs.take k)+b64^k*(2^r*z):=by grind
    rw [e1,ez]
    grind
   have hdm:=B9b ((xs.drop k0).getD k 0) (2^r)
   have ek1:B3 ((k:Int)+1)=((k+1:Nat):Int):=by rw [B5 (by omega) (by omega)];omega
   rw [ek1]
   refine B4 (fun h3=>?_) (fun h3=>?_)
   ·have ld:=(Ci .u64 B8 h b (zs.set k ((xs.drop k0).getD k 0/2^r)))
    obtain ⟨aa,haa,hcc⟩:=SlV.at ld (i:=k) (by simp;omega)
    refine ⟨aa,haa,by omega,by omega,(xs.drop k0).getD k 0/2^r,?_,?_⟩
    ·rw [C0q,hcc]
     congr 1
     simp only [List.getElem_map]
     congr 1
     simp
    refine (sx.mono (hle _)).load rfl (by omega) (by omega) ?_
    refine B4 (fun e=>absurd e (by omega)) (fun _=>?_)
    refine ⟨_,rfl,by omega,by omega,?_⟩
    simp only [B8t]
    rw [<- hgw (k+1)]
    have gr:=K8 (dx.drop k0) (k+1)
    obtain ⟨o1,o2,o3⟩:=Rr (s:=64-r) (by omega) gr ⟨hq0,hq1⟩
    rw [B8x (show 64-r<=64 by omega),F4,o1]
    refine Ch (zs:=zs.set k ((xs.drop k0).getD k 0/2^r)) (i:=k) F1 (by first|omega|(rw [B9d];omega)) ?_
    rw [List.set_set]
    have hm0:=Ca ((xs.drop k0).getD (k+1) 0*2^(64-r))
    refine ⟨⟨k+1,zs.set k ((xs.drop k0).getD k 0/2^r+(xs.drop k0).getD (k+1) 0*2^(64-r)%18446744073709551616),rfl,by omega,by simpa using hzl,hd.set ⟨by omega,o2⟩,rfl,fin _ ?_⟩,by simp only [iAt,B8w];omega⟩
    rw [o3,show 64-(64-r)=r by omega,C0u,<- Int.mul_assoc,hps]
    omega
   ·have e0:(xs.drop k0).getD (k+1) 0=0:=by simp only [C02,C0c (show (xs.drop k0).length<=k+1 by omega)];rfl
    refine ⟨⟨k+1,zs.set k ((xs.drop k0).getD k 0/2^r),rfl,by omega,l1,d1,rfl,fin _ ?_⟩,by simp only [iAt,B8w];omega⟩
    rw [e0,Int.zero_emod,C0l,C0m];omega
  ·have hkr:k=xs.length-k0:=by omega
   subst hkr
   have e0:(xs.drop k0).getD (xs.length-k0) 0=0:=by simp only [C02,C0c (show (xs.drop k0).length<=xs.length-k0 by omega)];rfl
   rw [e0,Int.zero_emod,C0l,C0m,B95 (by omega),B95 (by omega)] at hv
   have hr0:=B9f ((xs.drop k0).getD 0 0) (show (2:Int)^r≠0 by omega)
   have hr1:=B9j ((xs.drop k0).getD 0 0) hp
   have hvz:val b64 xs/2^s=val b64 zs:=by
    have sp:=F0 b64 xs (i:=k0) (by omega)
    have t1:=K7 (by decide) (dx.take k0)
    have t2:=C4 (by decide) (dx.take k0)
    rw [B8v,B8x (by omega)] at t1
    rw [hsp,<- Int.ediv_ediv_of_nonneg (B94 (D4 (by decide) _)),sp,Int.add_mul_ediv_left _ _ (by have:=D4 (B:=b64) (by decide) k0;omega),B9i t2 t1,C06,<- hv,C0e,Int.add_mul_ediv_left _ _ (by omega),B9i hr0 hr1,C06]
   rw [<- hzl]
   refine N6 (Ci _ _ _ _ _) hd (B97 _) (by omega) ?_
   intro m hm hM
   rw [<- hvz] at hM
   exact ⟨_,_,_,rfl,hK _ _ _ _ (V1 hb _) hm hM⟩
end
theorem Ba(B:Int)(xs:List Int)(n:Nat):val B (xs++B91 n 0)=val B xs:=by rw [F6,Af];omega
theorem Il{xs:List Int}{k:Nat}(h:Norm xs)(hk:k<xs.length):Norm (xs.drop k):=by
 unfold Norm at *
 rwa [List.getLast?_drop,if_neg (by omega)]
theorem Mw.of{h:Heap}{A:Option Addr}{xs:List Int}(s:SlI .u64 h A xs)(d:Dig b64 xs)(n:Norm xs):Mw h A xs.length (val b64 xs):=⟨xs,rfl,s,d,n,rfl⟩
theorem Ur{k:IntKind}{h:Heap}{A:Option Addr}{xs:List Int}(s:SlI k h A xs){c l:Nat}(hl:l<=xs.length)(hc:xs.length<=c):SlI k h (I8 A c l 1) (xs.drop l):=by
 have:=s.cut (c:=c) (l:=l) (m:=xs.length) hl (B97 _) hc
 rwa [B95 (by rw [B8y];omega)] at this
theorem Gi{k:IntKind}{h:Heap}{A:Option Addr}{xs:List Int}(s:SlI k h A xs){c m:Nat}(hm:m<=xs.length)(hc:xs.length<=c):SlI k h A (xs.take m):=by
 have:=s.cut (c:=c) (l:=0) (m:=m) (by omega) hm hc
 simpa [F8] using this
theorem X6{h:Heap}{K:VP}{A:Option Addr}{ac n:Nat}{v:Int}{xs:List Int}(s:SlI .u64 h A xs)(hd:Dig b64 xs)(hn:n=xs.length)(hv:val b64 xs=v)(hc:n<=ac)(hl:n<=10000000000)(hK:∀ m,m<=n->Mw h A m v->K (.slice A m ac) h):FCall prog G8 #[.slice A n ac] h K:=by
 subst hn hv
 exact N6 s hd hc hl hK
def B68(N:Nat):Prop:=∀ {h:Heap} {K:VP} {A B:Option Addr} {ac bc an bn:Nat} {x y:Int},an+bn<=N->Mw h A an x->Mw h B bn y->an<=ac->bn<=bc->an<=1000000000->bn<=1000000000->
 (∀ A' m c' h',h.le h'->m<=c'->Mw h' A' m (x*y)->K (.slice A' m c') h')->FCall prog D0 #[.slice A an ac,.slice B bn bc] h K
section
variable {h g:Heap} {K:VP} {A B:Option Addr} {ac bc:Nat}
theorem B52{xs ys:List Int}{b:Nat}(hb:h b=none)(sx:SlI .u64 h A xs)(dx:Dig b64 xs)(sy:SlI .u64 h B ys)(dy:Dig b64 ys)(hl:xs.length<=1000000000)(hl2:ys.length<=1000000000)
 (hK:∀ A' m c' h',h.le h'->m<=c'->Mw h' A' m (val b64 xs*val b64 ys)->K (.slice A' m c') h'):
 T4 prog K A xs.length ac B ys.length (some ⟨b,0,none⟩) (xs.length+ys.length) (xs.length+ys.length) (blk .u64 B8 h b (B91 (xs.length+ys.length) 0)):=by
 unfold T4
 refine ⟨fun l hp=>∃ (k:Nat) (zs:List Int),l=[I k]/\k<=ys.length/\zs.length=xs.length+ys.length/\Dig b64 zs/\Win .u64 hp h b B8 (some ⟨b,0,none⟩) [] zs []/\zs.drop (k+xs.length)=B91 (ys.length-k) 0/\val b64 (zs.take (k+xs.length))=val b64 xs*val b64 (ys.take k),fun l _=>ys.length-(iAt l 0).toNat,⟨0,_,rfl,by omega,by simp,H0 (by decide) _,Win.blk .u64 B8 hb _,?_,?_⟩,?_⟩
 ·rw [B9e];congr 1;omega
 ·rw [C01,Af];simp [val]
 rintro i hp ⟨k,zs,hli,hk,hzl,hd,w,hdr,hv⟩
 obtain rfl:=sI1 hli
 refine B4 (fun h1=>?_) (fun h1=>?_)
 ·have gy:=K8 dy k
  have vy:=C3 b64 ys k
  have e1:B3 ((k:Int)+xs.length)=((k+xs.length:Nat):Int):=by rw [B5 (by omega) (by omega)];omega
  rw [e1]
  refine (sy.mono w.le).load rfl (by omega) (by omega) ?_
  simp only [B8t]
  refine ⟨⟨by omega,by omega⟩,⟨by omega,by omega⟩,?_⟩
  have hwl:((zs.drop k).take (k+xs.length-k)).length=xs.length:=by rw [B8v,B8y];omega
  refine Fi (w.sub (l:=k) (m:=k+xs.length) (c:=xs.length+ys.length) (by omega) (by omega) (by omega)) (by rw [hwl];omega) sx rfl ((hd.drop k).take _) dx hwl gy (by omega) ?_
  intro ws c h' hwsl hwsd hc hwv w'
  rw [hwl] at hwsl
  have w2:=w.whole (l:=k) (m:=k+xs.length) (by omega) (by omega) (by omega) w'
  refine ⟨_,rfl,_,rfl,by omega,by omega,?_⟩
  have hl3:(zs.take k++ws++zs.drop (k+xs.length)).length=xs.length+ys.length:=by
   simp only [B8z,B8v,B8y];omega
  refine w2.storeN (i:=k+xs.length) F1 rfl (by omega) ?_
  intro h4 w4
  rw [B5 (n:=(k:Int)+1) (by omega) (by omega)]
  have htk:(zs.take k++ws++zs.drop (k+xs.length)).take (k+xs.length)=zs.take k++ws:=by
   apply C0r
   simp only [B8z,B8v];omega
  have hdk:(zs.take k++ws++zs.drop (k+xs.length)).drop (k+xs.length)=zs.drop (k+xs.length):=by
   apply C0t
   simp only [B8z,B8v];omega
  refine ⟨⟨k+1,_,rfl,by omega,by rw [B9d];exact hl3,(((hd.take k).append hwsd).append (hd.drop _)).set hc,w4,?_,?_⟩,by simp only [iAt,B8w];omega⟩
  ·rw [show k+1+xs.length=(k+xs.length)+1 by omega,D3 (by omega),<- B9v,hdk,hdr,B9e]
   congr 1
  ·rw [show k+1+xs.length=(k+xs.length)+1 by omega,C7 (by omega),htk,E6,F6,vy]
   simp only [B8z,B8v]
   rw [B8x (by omega),hwsl,B9l]
   have hs1:val b64 (zs.take (k+xs.length))=val b64 (zs.take k)+b64^k*val b64 ((zs.drop k).take (k+xs.length-k)):=by
    rw [show k+xs.length-k=xs.length by omega,List.take_add,F6,B8v,B8x (by omega)]
   rw [hwl] at hwv
   rw [hs1] at hv
   grind
 ·have hkk:k=ys.length:=by omega
  subst hkk
  rw [B96,B95 (by omega)] at hv
  rw [<- hzl]
  refine N6 w.sl hd (B97 _) (by omega) ?_
  intro m hm hM
  rw [hv] at hM
  exact ⟨_,_,_,rfl,hK _ _ _ _ w.le hm hM⟩
theorem Kk{x y:Int}{an bn N:Nat}(ih:B68 N)(hN:2*bn<=N)(ma:Mw h A an x)(mb:Mw h B bn y)(ha:an<=ac)(hbc:bn<=bc)(hl:an<=1000000000)(hb0:0<bn)(hba:bn<=an)(hK:∀ A' m c' h',h.le h'->m<=c'->Mw h' A' m (x*y)->K (.slice A' m c') h'):FCall prog Aj #[.slice A an ac,.slice B bn bc] h K:=by
 have hy0:=mb.nonneg (by decide)
 have hylt:=mb.lt (by decide)
 obtain ⟨xs,rfl,sx,dx,nx,rfl⟩:=ma
 refine Mz _ _ _ _ _ _ ?_
 unfold Jo
 have e1:B3 ((xs.length:Int)+bn)=((xs.length+bn:Nat):Int):=by rw [B5 (by omega) (by omega)];omega
 rw [e1]
 refine J5 N5 (by omega) (by omega) (by omega) ?_
 intro b hb
 rw [B8t]
 refine ⟨_,_,_,rfl,?_⟩
 refine ⟨fun l hp=>∃ (k:Nat) (zs:List Int) (g:Heap),l=[I k]/\k<=xs.length+bn/\h.le g/\zs.length=xs.length+bn/\Dig b64 zs/\Win .u64 hp g b B8 (some ⟨b,0,none⟩) [] zs []/\val b64 zs=val b64 (xs.take k)*y,fun l _=>xs.length+bn-(iAt l 0).toNat,⟨0,_,h,rfl,by omega,B0 h,by simp,H0 (by decide) _,Win.blk .u64 B8 hb _,by rw [Af];simp [val]⟩,?_⟩
 rintro i hp ⟨k,zs,g,hli,hk,lg,hzl,hd,w,hv⟩
 obtain rfl:=sI1 hli
 refine B4 (fun h1=>?_) (fun h1=>?_)
 ·have e2:B3 ((k:Int)+bn)=((k+bn:Nat):Int):=by rw [B5 (by omega) (by omega)];omega
  rw [e2]
  obtain ⟨en,hen⟩:∃ en,en=min xs.length (k+bn):=⟨_,rfl⟩
  have e3:(if (xs.length:Int)<((k+bn:Nat):Int) then (xs.length:Int) else ((k+bn:Nat):Int))=(en:Int):=by split<;>omega
  rw [e3]
  simp only [B8t]
  refine ⟨⟨by omega,by omega⟩,⟨by omega,by omega⟩,⟨by omega,by omega⟩,?_⟩
  have hpl:((xs.drop k).take (en-k)).length=en-k:=by rw [B8v,B8y];omega
  have sp:SlI .u64 g (I8 A ac k 1) ((xs.drop k).take (en-k)):=(sx.mono lg).cut (c:=ac) (l:=k) (m:=en) (by omega) (by omega) ha
  have dp:Dig b64 ((xs.drop k).take (en-k)):=(dx.drop k).take _
  have hx0:=C4 (by decide) dx
  have goal:∀ m,m<=en-k->Norm (((xs.drop k).take (en-k)).take m)->val b64 (((xs.drop k).take (en-k)).take m)=val b64 ((xs.drop k).take (en-k))->
   FCall prog D0 #[.slice (I8 A ac k 1) m (ac-k),.slice B bn bc] hp (fun r1 hp3=>∃ (t38A:Option Addr) (t38n:Nat) (t38c:Nat),r1= .slice t38A t38n t38c/\Heap.le hp hp3/\FCall prog Q5 #[.slice (I8 (some ⟨b,0,none⟩) (xs.length+bn) k 1) (xs.length+bn-k) (xs.length+bn-k),.slice t38A t38n t38c] hp3 (fun r2 hp4=>r2= .tuple #[]/\(∃ (k_1:Nat) (zs:List Int) (g:Heap),[I ((k+bn:Nat):Int)]=[I k_1]/\k_1<=xs.length+bn/\h.le g/\zs.length=xs.length+bn/\Dig b64 zs/\Win .u64 hp4 g b B8 (some ⟨b,0,none⟩) [] zs []/\val b64 zs=val b64 (xs.take k_1)*y)/\xs.length+bn-(iAt [I ((k+bn:Nat):Int)] 0).toNat<xs.length+bn-(iAt [I k] 0).toNat)):=by
   intro m hm hnm hvm
   have Mp:Mw g (I8 A ac k 1) m (val b64 ((xs.drop k).take (en-k))):=⟨((xs.drop k).take (en-k)).take m,by rw [B8v];omega,Gi sp (c:=ac) (by omega) (by omega),dp.take m,hnm,hvm⟩
   refine w.call ?_
   refine ih (by omega) Mp (mb.mono lg) (by omega) hbc (by omega) (by omega) ?_
   intro A' m' c' g2 l2 hc2 M2 h3 w3
   refine ⟨_,_,_,rfl,?_,?_⟩
   ·rw [w.eq,w3.eq]
    intro kk o hk2
    by_cases hkb:kk=b
    ·subst hkb;rw [B9] at hk2 ⊢;exact hk2
    ·rw [B6 _ _ hkb] at hk2 ⊢;exact l2 kk o hk2
   obtain ⟨ps,hpl2,sps,dps,nps,hpv⟩:=M2
   have hsp:=F0 b64 zs (i:=k) (by omega)
   have hz0:=C4 (by decide) (hd.take k)
   have htk:xs.take en=xs.take k++(xs.drop k).take (en-k):=by
    have:=List.take_add (l:=xs) (i:=k) (j:=en-k)
    rwa [show k+(en-k)=en by omega] at this
   have hvt:val b64 (xs.take en)=val b64 (xs.take k)+b64^k*val b64 ((xs.drop k).take (en-k)):=by
    rw [htk,F6,B8v,B8x (by omega)]
   have hTot:val b64 zs+b64^k*val b64 ps=val b64 (xs.take en)*y:=by
    rw [hv,hpv,hvt];grind
   have hTl:val b64 (xs.take en)*y<b64^(xs.length+bn):=by
    have t1:=K7 (by decide) (dx.take en)
    have t2:=C4 (by decide) (dx.take en)
    rw [B8v,B8x (by omega)] at t1
    have t3:val b64 (xs.take en)*y<=b64^en*y:=B8u (by omega) hy0
    have t4:b64^en*y<b64^en*b64^bn:=C04 hylt (D4 (by decide) en)
    rw [<- B9l] at t4
    have t5:=C8 (B:=b64) (by decide) (show en+bn<=xs.length+bn by omega)
    omega
   have hfit:val b64 (zs.drop k)+val b64 ps<b64^(xs.length+bn-k):=by
    have e5:b64^(xs.length+bn)=b64^k*b64^(xs.length+bn-k):=by rw [<- B9l];congr 1;omega
    by_cases hc:val b64 (zs.drop k)+val b64 ps<b64^(xs.length+bn-k)
    ·exact hc
    ·have:=B93 (show b64^(xs.length+bn-k)<=val b64 (zs.drop k)+val b64 ps by omega) (B94 (D4 (B:=b64) (by decide) k))
     rw [C0u] at this
     omega
   have hzd0:=C4 (by decide) (hd.drop k)
   have hpn:ps.length<=xs.length+bn-k:=by
    have Mps:Mw g2 A' ps.length (val b64 ps):=⟨ps,rfl,sps,dps,nps,rfl⟩
    exact Mps.len_le (by decide) (by omega)
   have ws:=w3.sub (l:=k) (m:=xs.length+bn) (c:=xs.length+bn) (by omega) (by omega) (by omega)
   have hwd:(zs.drop k).take (xs.length+bn-k)=zs.drop k:=B95 (by rw [B8y];omega)
   have hwl:(zs.drop k).length=xs.length+bn-k:=by rw [B8y];omega
   rw [hwd] at ws
   refine Fj ws hwl.symm sps hpl2 (hd.drop k) dps (by omega) (by rw [hwl];exact hfit) (by omega) ?_
   intro us h5 hul hud huv w5
   have w6:=w3.whole (l:=k) (m:=xs.length+bn) (by omega) (by omega) (by omega) w5
   refine ⟨rfl,⟨k+bn,_,g2,rfl,by omega,Heap.le_trans lg l2,?_,((hd.take k).append hud).append (hd.drop _),w6,?_⟩,by simp only [iAt,B8w];omega⟩
   ·simp only [B8z,B8v,B8y];omega
   ·rw [B9p (by omega),C0d,F6,B8v,B8x (by omega),huv]
    have:xs.take (k+bn)=xs.take en:=by
     rw [hen]
     by_cases hc:xs.length<=k+bn
     ·rw [B8x hc,B96,B95 hc]
     ·rw [Nat.min_eq_right (by omega)]
    rw [this,<- hTot,hsp];grind
  have tr:=Bo (K:=fun r hp2=>∃ (t36A:Option Addr) (t36n:Nat) (t36c:Nat),r= .slice t36A t36n t36c/\Heap.le hp hp2/\FCall prog D0 #[.slice t36A t36n t36c,.slice B bn bc] hp2 (fun r1 hp3=>∃ (t38A:Option Addr) (t38n:Nat) (t38c:Nat),r1= .slice t38A t38n t38c/\Heap.le hp2 hp3/\FCall prog Q5 #[.slice (I8 (some ⟨b,0,none⟩) (xs.length+bn) k 1) (xs.length+bn-k) (xs.length+bn-k),.slice t38A t38n t38c] hp3 (fun r2 hp4=>r2= .tuple #[]/\(∃ (k_1:Nat) (zs:List Int) (g:Heap),[I ((k+bn:Nat):Int)]=[I k_1]/\k_1<=xs.length+bn/\h.le g/\zs.length=xs.length+bn/\Dig b64 zs/\Win .u64 hp4 g b B8 (some ⟨b,0,none⟩) [] zs []/\val b64 zs=val b64 (xs.take k_1)*y)/\xs.length+bn-(iAt [I ((k+bn:Nat):Int)] 0).toNat<xs.length+bn-(iAt [I k] 0).toNat))) (ac:=ac-k) (sp.mono w.le) (by omega) (by omega) (fun m hm hnm hvm=>⟨_,_,_,rfl,B0 _,goal m (by omega) hnm hvm⟩)
  rw [hpl] at tr
  exact tr
 ·have htl:xs.take k=xs:=B95 (by omega)
  rw [htl] at hv
  rw [<- hzl]
  refine N6 w.sl hd (B97 _) (by omega) ?_
  intro m hm hM
  rw [hv] at hM
  exact ⟨_,_,_,rfl,hK _ _ _ _ (Heap.le_trans lg w.le) hm hM⟩
theorem B8q{X0 X1 Y0 Y1 P:Int}(hx0:0<=X0)(hx1:0<=X1)(hy0:0<=Y0)(hy1:0<=Y1):
 X0*Y0<=(X0+X1)*(Y0+Y1)/\X1*Y1<=(X0+X1)*(Y0+Y1)-X0*Y0/\(X0+P*X1)*(Y0+P*Y1)=X0*Y0+P*((X0+X1)*(Y0+Y1)-X0*Y0-X1*Y1)+P*P*(X1*Y1):=by
 have a:=B98 hx0 hy0
 have b:=B98 hx0 hy1
 have c:=B98 hx1 hy0
 have d:=B98 hx1 hy1
 have e:(X0+X1)*(Y0+Y1)=X0*Y0+X0*Y1+X1*Y0+X1*Y1:=by grind
 refine ⟨by omega,by omega,?_⟩
 rw [e];grind
theorem B75:∀ N,B68 N:=by
 intro N
 induction N with
 | zero=>
  intro h K A B ac bc an bn x y hN ma mb ha hb hl hl2 hK
  have h0:=ma.len_zero (by decide)
  have hx:x=0:=h0.2 (by omega)
  subst hx
  rw [Int.zero_mul] at hK
  refine Cl _ _ _ _ _ _ ?_
  unfold Bm
  refine ⟨fun l h'=>h'=h/\l=[.slice A an ac,.slice B bn bc],B4 (fun e=>absurd e (by omega)) (fun _=>⟨rfl,rfl⟩),?_⟩
  rintro A1 n1 c1 B1 n2 c2 hp ⟨rfl,hl⟩
  obtain ⟨⟨rfl,rfl,rfl⟩,rfl,rfl,rfl⟩:(A1=A/\n1=an/\c1=ac)/\B1=B/\n2=bn/\c2=bc:=by simpa using hl
  refine D8 (fun _=>hK none 0 0 _ (B0 _) (B97 _) Mag.zero) (fun e=>absurd (by omega) e)
 | succ N ih=>
  intro h K A B ac bc an bn x y hN ma mb ha hb hl hl2 hK
  refine Cl _ _ _ _ _ _ ?_
  unfold Bm
  refine ⟨fun l h'=>h'=h/\∃ (A1 B1:Option Addr) (n1 n2 c1 c2:Nat) (x1 y1:Int),l=[.slice A1 n1 c1,.slice B1 n2 c2]/\Mw h A1 n1 x1/\Mw h B1 n2 y1/\n2<=n1/\n1<=1000000000/\n1<=c1/\n2<=c2/\n1+n2<=N+1/\x1*y1=x*y,B4 (fun h1=>?_) (fun h1=>?_),?_⟩
  ·exact ⟨rfl,_,_,_,_,_,_,y,x,rfl,mb,ma,by omega,hl2,hb,ha,by omega,B9a _ _⟩
  ·exact ⟨rfl,_,_,_,_,_,_,x,y,rfl,ma,mb,by omega,hl,ha,hb,by omega,rfl⟩
  clear ma mb ha hb hl hl2 hN
  rintro A1 n1 c1 B1 n2 c2 hp ⟨rfl,A1',B1',n1',n2',c1',c2',x1,y1,hli,m1,m2,hn,hl1,hc1,hc2,hNN,hxy⟩
  obtain ⟨⟨rfl,rfl,rfl⟩,rfl,rfl,rfl⟩:(A1=A1'/\n1=n1'/\c1=c1')/\B1=B1'/\n2=n2'/\c2=c2':=by simpa using hli
  rw [<- hxy] at hK
  clear hli hxy
  have hz:=m2.len_zero (by decide)
  refine D8 (fun h0=>?_) (fun h0=>?_)
  ·have:y1=0:=hz.2 (by omega)
   subst this
   rw [C0l] at hK
   exact hK none 0 0 _ (B0 _) (B97 _) Mag.zero
  ·refine ⟨fun l h'=>∃ t:Bool,h'=hp/\l=[.bool t]/\(t=true->y1=1),D8 (fun h1=>?_) (fun h1=>⟨false,rfl,rfl,fun e=>by cases e⟩),?_⟩
   ·obtain ⟨ys,hyl,sy,dy,ny,hyv⟩:=m2
    refine sy.load hyl (by omega) (by omega) ⟨_,rfl,rfl,fun e=>?_⟩
    have e1:ys.getD 0 0=1:=by simpa using e
    obtain ⟨d,rfl⟩:∃ d,ys=[d]:=by
     cases ys with
     | nil=>simp at hyl;omega
     | cons d r=>
      cases r with
      | nil=>exact ⟨d,rfl⟩
      | cons _ _=>simp at hyl;omega
    rw [<- hyv,S1];simpa using e1
   rintro tb hp1 ⟨t',rfl,hl2,hone⟩
   obtain rfl:tb=t':=by simpa using hl2
   refine Br.of (fun e=>?_) (fun _=>?_)
   ·rw [hone e,Int.mul_one] at hK
    exact hK _ _ _ _ (B0 _) hc1 m1
   clear hone hl2
   have eL:B3 ((n1:Int)+n2)=((n1+n2:Nat):Int):=by rw [B5 (by omega) (by omega)];omega
   refine B4 (fun h2=>?_) (fun h2=>?_)
   ·obtain ⟨xs,rfl,sx,dx,nx,rfl⟩:=m1
    obtain ⟨ys,rfl,sy,dy,ny,rfl⟩:=m2
    rw [eL]
    refine J5 N5 (by omega) (by omega) (by omega) ?_
    intro b hb
    rw [B8t]
    exact ⟨_,_,_,rfl,B52 hb sx dx sy dy hl1 (by omega) hK⟩
   ·obtain ⟨H,hH⟩:∃ H,H=(n1+1)/2:=⟨_,rfl⟩
    have eH:B3 (C0f (B3 ((n1:Int)+1)) 2)=(H:Int):=by
     rw [B5 (n:=(n1:Int)+1) (by omega) (by omega),B9c (by omega),B5 (by omega) (by omega)];omega
    have e2H:B3 ((2:Int)*(H:Int))=((2*H:Nat):Int):=by rw [B5 (by omega) (by omega)];omega
    simp only [eH,eL,e2H,B8t]
    refine B4 (fun h3=>?_) (fun h3=>?_)
    ·refine Kk ih (by omega) m1 m2 hc1 hc2 hl1 (by omega) (by omega) ?_
     intro A' m c' h' l' k' M'
     exact ⟨_,_,_,rfl,hK _ _ _ _ l' k' M'⟩
    ·have hx0:=m1.nonneg (by decide)
     have hxlt:=m1.lt (by decide)
     have hylt:=m2.lt (by decide)
     have hy0:=m2.nonneg (by decide)
     obtain ⟨xs,rfl,sx,dx,nx,rfl⟩:=m1
     obtain ⟨ys,rfl,sy,dy,ny,rfl⟩:=m2
     have hHx:H<xs.length:=by omega
     have hHy:H<ys.length:=by omega
     have x0n:=C4 (by decide) (dx.take H)
     have x1n:=C4 (by decide) (dx.drop H)
     have y0n:=C4 (by decide) (dy.take H)
     have y1n:=C4 (by decide) (dy.drop H)
     have spx:=F0 b64 xs (i:=H) (by omega)
     have spy:=F0 b64 ys (i:=H) (by omega)
     have x0l:=K7 (by decide) (dx.take H)
     have y0l:=K7 (by decide) (dy.take H)
     rw [B8v,B8x (by omega)] at x0l y0l
     have hx1M:Mw hp1 (I8 A1 c1 H 1) (xs.length-H) (val b64 (xs.drop H)):=by
      have:=Mw.of (Ur sx (c:=c1) (l:=H) (by omega) hc1) (dx.drop H) (Il nx hHx)
      rwa [B8y] at this
     have hy1M:Mw hp1 (I8 B1 c2 H 1) (ys.length-H) (val b64 (ys.drop H)):=by
      have:=Mw.of (Ur sy (c:=c2) (l:=H) (by omega) hc2) (dy.drop H) (Il ny hHy)
      rwa [B8y] at this
     obtain ⟨ka,kb,kc⟩:=B8q (P:=b64^H) x0n x1n y0n y1n
     rw [<- spx,<- spy] at kc
     generalize hX0:val b64 (xs.take H)=X0 at *
     generalize hX1:val b64 (xs.drop H)=X1 at *
     generalize hY0:val b64 (ys.take H)=Y0 at *
     generalize hY1:val b64 (ys.drop H)=Y1 at *
     rw [F8,F8,B9w,B9w,B9w]
     refine ⟨⟨by omega,by omega⟩,⟨by omega,by omega⟩,?_⟩
     refine X6 (Gi sx (c:=c1) (m:=H) (by omega) hc1) (dx.take H) (by rw [B8v];omega) hX0 (by omega) (by omega) ?_
     intro mx hmx MX0
     refine ⟨_,_,_,rfl,B0 _,⟨by omega,by omega⟩,⟨by omega,by omega⟩,?_⟩
     refine X6 (Gi sy (c:=c2) (m:=H) (by omega) hc2) (dy.take H) (by rw [B8v];omega) hY0 (by omega) (by omega) ?_
     intro my hmy MY0
     refine ⟨_,_,_,rfl,B0 _,?_⟩
     refine ih (by omega) MX0 MY0 (by omega) (by omega) (by omega) (by omega) ?_
     intro A3 n3 c3 g3 l3 k3 M3
     refine ⟨_,_,_,rfl,?_⟩
     refine ih (by omega) (hx1M.mono l3) (hy1M.mono l3) (by omega) (by omega) (by omega) (by omega) ?_
     intro A4 n4 c4 g4 l4 k4 M4
     refine ⟨_,_,_,rfl,?_⟩
     have l34:=Heap.le_trans l3 l4
     refine R9 (MX0.mono l34) (hx1M.mono l34) (by omega) (by omega) (by omega) (by omega) ?_
     intro A5 n5 c5 g5 l5 k5 M5
     refine ⟨_,_,_,rfl,?_⟩
     have l35:=Heap.le_trans l34 l5
     refine R9 (MY0.mono l35) (hy1M.mono l35) (by omega) (by omega) (by omega) (by omega) ?_
     intro A6 n6 c6 g6 l6 k6 M6
     refine ⟨_,_,_,rfl,?_⟩
     have hx1l:=hx1M.lt (by decide)
     have hy1l:=hy1M.lt (by decide)
     have hpH:=D4 (B:=b64) (by decide) H
     have hpH1:b64^(H+1)=b64^H*18446744073709551616:=B9h _ _
     have n5le:n5<=H+1:=by
      refine M5.len_le (by decide) ?_
      have:=C8 (B:=b64) (by decide) (show xs.length-H<=H by omega)
      omega
     have n6le:n6<=H+1:=by
      refine M6.len_le (by decide) ?_
      have:=C8 (B:=b64) (by decide) (show ys.length-H<=H by omega)
      omega
     refine ih (by omega) (M5.mono l6) M6 k5 k6 (by omega) (by omega) ?_
     intro A7 n7 c7 g7 l7 k7 M7
     refine ⟨_,_,_,rfl,?_⟩
     have l37:=Heap.le_trans (Heap.le_trans l5 l6) l7
     have hprod:∀ {p q:Int} {i j:Nat},0<=p->p<b64^i->0<=q->q<b64^j->p*q<b64^(i+j):=by
      intro p q i j a b c d
      rw [B9l]
      have t1:p*q<=b64^i*q:=B8u (by omega) c
      have t2:b64^i*q<b64^i*b64^j:=C04 d (D4 (by decide) i)
      omega
     have n7le:n7<=n5+n6:=M7.len_le (by decide) (hprod (M5.nonneg (by decide)) (M5.lt (by decide)) (M6.nonneg (by decide)) (M6.lt (by decide)))
     refine J8 M7 (M3.mono (Heap.le_trans l4 l37)) k7 (by omega) ka ?_
     intro A8 n8 c8 g8 l8 k8 M8
     refine ⟨_,_,_,rfl,?_⟩
     have n8le:n8<=n7:=M8.len_le (by decide) (by have:=M7.lt (by decide);have:=M3.nonneg (by decide);omega)
     refine J8 M8 (M4.mono (Heap.le_trans l37 l8)) k8 (by omega) kb ?_
     intro A9 n9 c9 g9 l9 k9 M9
     refine ⟨_,_,_,rfl,?_⟩
     have l39:=Heap.le_trans l37 (Heap.le_trans l8 l9)
     have lfin:hp1.le g9:=Heap.le_trans l34 l39
     refine J5 N5 (by omega) (by omega) (by omega) ?_
     intro b hb
     rw [B8t]
     refine ⟨_,_,_,rfl,?_⟩
     have w0:=Win.blk .u64 B8 hb (B91 (xs.length+ys.length) 0)
     have n3le:n3<=H+H:=M3.len_le (by decide) (hprod x0n x0l y0n y0l)
     have n4le:n4<=(xs.length-H)+(ys.length-H):=M4.len_le (by decide) (hprod x1n hx1l y1n hy1l)
     obtain ⟨lo,hlol,slo,dlo,nlo,hlov⟩:=M3.mono (Heap.le_trans l4 l39)
     obtain ⟨hi,hhil,shi,dhi,nhi,hhiv⟩:=M4.mono l39
     obtain ⟨mi,hmil,smi,dmi,nmi,hmiv⟩:=M9
     refine Dp N5 w0 (by simp) (slo.mono w0.le) hlol (by simp;omega) ?_
     intro h10 w10
     refine ⟨_,rfl,⟨by omega,by omega⟩,?_⟩
     have hz1:lo++(B91 (xs.length+ys.length) (0:Int)).drop lo.length=lo++B91 (xs.length+ys.length-lo.length) 0:=by rw [B9e]
     rw [hz1] at w10
     have w11:=w10.sub (l:=2*H) (m:=xs.length+ys.length) (c:=xs.length+ys.length) (by omega) (by simp;omega) (by simp;omega)
     have hz2:((lo++B91 (xs.length+ys.length-lo.length) (0:Int)).drop (2*H)).take (xs.length+ys.length-2*H)=B91 (xs.length+ys.length-2*H) 0:=by
      rw [List.drop_append,B9p (by omega),C0b,B9e,C01]
      congr 1;omega
     rw [hz2] at w11
     refine Dp N5 w11 (by simp) (shi.mono w11.le) hhil (by simp;omega) ?_
     intro h12 w12
     refine ⟨_,rfl,⟨by omega,by omega⟩,?_⟩
     rw [B9e] at w12
     have w13:=w10.whole (l:=2*H) (m:=xs.length+ys.length) (by omega) (by simp;omega) (by simp;omega) w12
     have hz3:(lo++B91 (xs.length+ys.length-lo.length) (0:Int)).take (2*H)=lo++B91 (2*H-lo.length) 0:=by
      rw [List.take_append,B95 (by omega),C01]
      congr 2;omega
     have hz4:(lo++B91 (xs.length+ys.length-lo.length) (0:Int)).drop (xs.length+ys.length)=[]:=by
      apply B9p;simp;omega
     rw [hz3,hz4,C0d] at w13
     generalize hzs:lo++B91 (2*H-lo.length) (0:Int)++(hi++B91 (xs.length+ys.length-2*H-hi.length) 0)=zs at w13
     have hzl:zs.length=xs.length+ys.length:=by
      rw [<- hzs];simp;omega
     have hzd:Dig b64 zs:=by
      rw [<- hzs]
      exact (dlo.append (H0 (by decide) _)).append (dhi.append (H0 (by decide) _))
     have hzv:val b64 zs=X0*Y0+b64^H*b64^H*(X1*Y1):=by
      rw [<- hzs,F6,Ba,Ba,hlov,hhiv]
      have:(lo++B91 (2*H-lo.length) (0:Int)).length=H+H:=by simp;omega
      rw [this,B9l]
     have w14:=w13.sub (l:=H) (m:=xs.length+ys.length) (c:=xs.length+ys.length) (by omega) (by omega) (by omega)
     have hz5:(zs.drop H).take (xs.length+ys.length-H)=zs.drop H:=B95 (by rw [B8y];omega)
     have hz6:(zs.drop H).length=xs.length+ys.length-H:=by rw [B8y];omega
     rw [hz5] at w14
     have hsp:=F0 b64 zs (i:=H) (by omega)
     have hz0:=C4 (by decide) (hzd.take H)
     have hzd0:=C4 (by decide) (hzd.drop H)
     have hTl:val b64 xs*val b64 ys<b64^(xs.length+ys.length):=hprod hx0 hxlt hy0 hylt
     have hTot:val b64 zs+b64^H*val b64 mi=val b64 xs*val b64 ys:=by rw [kc,hzv,hmiv];grind
     have hfit:val b64 (zs.drop H)+val b64 mi<b64^(xs.length+ys.length-H):=by
      have e5:b64^(xs.length+ys.length)=b64^H*b64^(xs.length+ys.length-H):=by rw [<- B9l];congr 1;omega
      by_cases hc:val b64 (zs.drop H)+val b64 mi<b64^(xs.length+ys.length-H)
      ·exact hc
      ·have:=B93 (show b64^(xs.length+ys.length-H)<=val b64 (zs.drop H)+val b64 mi by omega) (B94 hpH)
       rw [C0u] at this
       omega
     have hmn:mi.length<=xs.length+ys.length-H:=by
      have Mmi:Mw g9 A9 mi.length (val b64 mi):=⟨mi,rfl,smi,dmi,nmi,rfl⟩
      exact Mmi.len_le (by decide) (by omega)
     refine Fj w14 hz6.symm smi hmil (hzd.drop H) dmi (by omega) (by rw [hz6];exact hfit) (by omega) ?_
     intro us h15 hul hud huv w15
     refine ⟨rfl,?_⟩
     have w16:=w13.whole (l:=H) (m:=xs.length+ys.length) (by omega) (by omega) (by omega) w15
     rw [B9p (show zs.length<=xs.length+ys.length by omega),C0d] at w16
     have hfl:(zs.take H++us).length=xs.length+ys.length:=by
      simp only [B8z,B8v];omega
     rw [<- hfl]
     refine N6 w16.sl ((hzd.take H).append hud) (by omega) (by omega) ?_
     intro m hm hM
     have hfv:val b64 (zs.take H++us)=val b64 xs*val b64 ys:=by
      rw [F6,B8v,B8x (by omega),huv,<- hTot,hsp];grind
     rw [hfv] at hM
     exact ⟨_,_,_,rfl,hK _ _ _ _ (Heap.le_trans lfin w16.le) hm hM⟩
theorem G1{x y:Int}{an bn:Nat}(ma:Mw h A an x)(mb:Mw h B bn y)(ha:an<=ac)(hb:bn<=bc)(hl:an<=1000000000)(hl2:bn<=1000000000)(hK:∀ A' m c' h',h.le h'->m<=c'->Mw h' A' m (x*y)->K (.slice A' m c') h'):FCall prog D0 #[.slice A an ac,.slice B bn bc] h K:=
 B75 _ (B97 _) ma mb ha hb hl hl2 hK
end
section
variable {h g:Heap} {K:VP} {A B:Option Addr} {ac bc:Nat}
theorem A70{hi lo y:Int}(hhi:0<=hi/\hi<y)(hlo:0<=lo/\lo<18446744073709551616)(hy:y<18446744073709551616)
 (hK:K (.tuple #[U ((hi*18446744073709551616+lo)/y),U ((hi*18446744073709551616+lo)%y)]) h):FCall prog Dm #[U hi,U lo,U y] h K:=by
 obtain ⟨n,rfl⟩:∃ n:Nat,y=n:=⟨y.toNat,by omega⟩
 exact Nn hhi hlo (by omega) hK
theorem Ph{x:Int}{an w:Nat}(ma:Mw h A an x)(hw:0<w/\w<18446744073709551616)(hl:an<=1000000000)(hK:∀ A' m c' h',h.le h'->m<=c'->m<=an->Mw h' A' m (x/w)->K (.tuple #[.slice A' m c',U (x%w)]) h'):FCall prog Dc #[.slice A an ac,U w] h K:=by
 obtain ⟨xs,rfl,sx,dx,nx,rfl⟩:=ma
 refine Ra _ _ _ _ ?_
 unfold Qb
 refine J5 N5 (by omega) (by omega) (by omega) ?_
 intro b hb
 rw [B8t]
 refine ⟨_,_,_,rfl,?_⟩
 refine ⟨fun l h'=>∃ (k:Nat) (r:Int) (zs:List Int),l=[U r,I ((k:Int)-1)]/\k<=xs.length/\zs.length=xs.length/\Dig b64 zs/\(0<=r/\r<w)/\h'=blk .u64 B8 h b zs/\val b64 (xs.drop k)=val b64 (zs.drop k)*w+r,fun l _=>(iAt l 1+1).toNat,⟨xs.length,0,_,by rw [B5 (by omega) (by omega)],by omega,by simp,H0 (by decide) _,by omega,rfl,by simp [val]⟩,?_⟩
 rintro r i hp ⟨k,r',zs,hli,hk,hzl,hd,hr,rfl,hv⟩
 obtain ⟨rfl,rfl⟩:r=r'/\i=(k:Int)-1:=by simpa using hli
 have hle:=V1 (k:=.u64) (e:=B8) hb zs
 refine B4 (fun h1=>?_) (fun h1=>?_)
 ·obtain ⟨j,rfl⟩:∃ j,k=j+1:=⟨k-1,by omega⟩
  have e:((j+1:Nat):Int)-1=(j:Int):=by omega
  rw [e]
  have gx:=K8 dx j
  refine (sx.mono hle).load rfl (by omega) (by omega) ?_
  rw [B8t]
  refine Nn hr gx hw.2 ⟨_,_,rfl,?_⟩
  have hT:0<=r*18446744073709551616+xs.getD j 0:=by omega
  have hq:0<=(r*18446744073709551616+xs.getD j 0)/w/\(r*18446744073709551616+xs.getD j 0)/w<18446744073709551616:=by
   constructor
   ·exact B9m hT (by omega)
   ·apply B9s (by omega)
    have:(r+1)*18446744073709551616<=(w:Int)*18446744073709551616:=B8u (by omega) (by decide)
    omega
  refine ⟨_,rfl,by omega,by omega,?_⟩
  refine Ch (zs:=zs) (i:=j) F1 (by omega) ?_
  rw [B5 (by omega) (by omega)]
  refine ⟨⟨j,_,zs.set j ((r*18446744073709551616+xs.getD j 0)/w),rfl,by omega,by simpa using hzl,hd.set hq,⟨B9f _ (by omega),B9j _ (by omega)⟩,rfl,?_⟩,by simp only [iAt,B8w,B90];omega⟩
  rw [R8 (by omega),Hx b64 (by omega),hv]
  have:=B9b (r*18446744073709551616+xs.getD j 0) w
  simp only [val]
  grind
 ·have hk0:k=0:=by omega
  subst hk0
  rw [C07,C07] at hv
  rw [<- hzl]
  refine N6 (Ci _ _ _ _ _) hd (B97 _) (by omega) ?_
  intro m hm hM
  have hq:val b64 xs/w=val b64 zs:=by
   rw [hv,C0e,C0a _ _ (by omega),B9i hr.1 hr.2,C06]
  have hrm:val b64 xs%w=r:=by
   rw [hv,C0e,C0v,C0i hr.1 hr.2]
  rw [<- hq] at hM
  rw [<- hrm]
  exact ⟨_,_,_,rfl,hK _ _ _ _ (V1 hb _) hm (by omega) hM⟩
theorem Ih{x:Int}{an w:Nat}(ma:Mw h A an x)(hw:0<w/\w<18446744073709551616)(hl:an<=1000000000)(hK:K (U (x%w)) h):FCall prog V7 #[.slice A an ac,U w] h K:=by
 obtain ⟨xs,rfl,sx,dx,nx,rfl⟩:=ma
 refine La _ _ _ _ ?_
 unfold Gv
 refine ⟨fun l h'=>∃ (k:Nat) (r:Int) (Q:Int),l=[U r,I ((k:Int)-1)]/\k<=xs.length/\(0<=r/\r<w)/\h'=h/\val b64 (xs.drop k)=Q*w+r,fun l _=>(iAt l 1+1).toNat,⟨xs.length,0,0,by rw [B5 (by omega) (by omega)],by omega,by omega,rfl,by simp [val]⟩,?_⟩
 rintro r i hp ⟨k,r',Q,hli,hk,hr,rfl,hv⟩
 obtain ⟨rfl,rfl⟩:r=r'/\i=(k:Int)-1:=by simpa using hli
 refine B4 (fun h1=>?_) (fun h1=>?_)
 ·obtain ⟨j,rfl⟩:∃ j,k=j+1:=⟨k-1,by omega⟩
  have e:((j+1:Nat):Int)-1=(j:Int):=by omega
  rw [e]
  have gx:=K8 dx j
  refine sx.load rfl (by omega) (by omega) ?_
  rw [B8t]
  refine Nn hr gx hw.2 ⟨_,_,rfl,?_⟩
  rw [B5 (by omega) (by omega)]
  refine ⟨⟨j,_,b64*Q+(r*18446744073709551616+xs.getD j 0)/w,rfl,by omega,⟨B9f _ (by omega),B9j _ (by omega)⟩,rfl,?_⟩,by simp only [iAt,B8w,B90];omega⟩
  rw [Hx b64 (by omega),hv]
  have:=B9b (r*18446744073709551616+xs.getD j 0) w
  show _+(18446744073709551616:Int)*_=((18446744073709551616:Int)*_+_)*_+_
  grind
 ·have hk0:k=0:=by omega
  subst hk0
  rw [C07] at hv
  have hrm:val b64 xs%w=r:=by
   rw [hv,C0e,C0v,C0i hr.1 hr.2]
  rw [hrm] at hK;exact hK
theorem Up{us vs:List Int}{m wn dn:Nat}{X Y:Int}(su:SlI .u64 h A us)(sv:SlI .u64 h B vs)(hwn:wn=us.length)(hdn:dn=vs.length)(du:Dig b64 us)(dv:Dig b64 vs)(hu:us.length=m+3)(hv:vs.length=m+2)(hl:m<=10000000000)(h1:b64<=2*vs.getD (m+1) 0)(hX:val b64 us=X)(hY:val b64 vs=Y)(hlt:X<Y*b64)
 (hK:∀ q,0<=q->q<18446744073709551616->X<(q+1)*Y->(q-1)*Y<=X->K (U q) h):FCall prog Hl #[.slice A wn ac,.slice B dn bc] h K:=by
 subst hwn hdn
 have es:=B1u (B:=b64) (by decide) du dv hu hv h1 (by rw [hX,hY];exact hlt)
 rw [hX,hY] at es
 have gu:=K8 du (m+2)
 have gu1:=K8 du (m+1)
 have gv:=K8 dv (m+1)
 have v1r:=es.v1r
 have v2r:=es.v2r
 have u2r:=es.u2r
 have hv0:=es.V0
 have hU0:=es.U0
 refine Xw _ _ _ _ _ _ ?_
 unfold Xx
 have e1:B3 ((vs.length:Int)-1)=((m+1:Nat):Int):=by rw [B5 (by omega) (by omega)];omega
 have e2:B3 ((vs.length:Int)-2)=(m:Int):=by rw [B5 (by omega) (by omega)];omega
 have e3:((vs.length:Nat):Int)=((m+2:Nat):Int):=by omega
 rw [e1,e2,e3]
 refine sv.load (by omega) (by omega) (by omega) ?_
 refine sv.load (by omega) (by omega) (by omega) ?_
 refine su.load rfl (by omega) (by omega) ?_
 simp only [B8t]
 refine B4 (fun h2=>?_) (fun h2=>?_)
 ·have ht:=es.top (by
   have:vs.getD (m+1) 0*b64<=us.getD (m+2) 0*b64:=B8u h2 (by decide)
   omega)
  exact hK 18446744073709551615 (by omega) (by omega) ht.2 ht.1
 ·refine su.load rfl (by omega) (by omega) ?_
  refine su.load rfl (by omega) (by omega) ?_
  simp only [B8t]
  refine A70 (by omega) gu1 gv.2 ⟨_,_,rfl,B0 h,?_⟩
  generalize hT:us.getD (m+2) 0*b64+us.getD (m+1) 0=T at es
  have hT':us.getD (m+2) 0*18446744073709551616+us.getD (m+1) 0=T:=hT
  have hT0:0<=T:=es.top0
  have hin:=es.init
  have hdm:=B9b T (vs.getD (m+1) 0)
  have hm0:=B9f T (show vs.getD (m+1) 0≠0 by omega)
  have hm1:=B9j T (show 0<vs.getD (m+1) 0 by omega)
  have hq0:0<=T/vs.getD (m+1) 0:=B9m hT0 (by omega)
  have hq1:T/vs.getD (m+1) 0<18446744073709551616:=by
   apply B9s (by omega)
   have:(us.getD (m+2) 0+1)*18446744073709551616<=vs.getD (m+1) 0*18446744073709551616:=B8u (by omega) (by decide)
   have:=gu1.2
   have:18446744073709551616*vs.getD (m+1) 0=vs.getD (m+1) 0*18446744073709551616:=B9a _ _
   omega
  refine ⟨fun l h'=>∃ q r:Int,l=[U q,U r]/\h'=h/\(0<=q/\q<18446744073709551616)/\(0<=r/\r<18446744073709551616)/\q*vs.getD (m+1) 0+r=T/\X<(q+1)*Y,fun l _=>(iAt l 0).toNat,⟨_,_,rfl,rfl,⟨hq0,hq1⟩,by omega,by rw [B9a];exact hdm,hin⟩,?_⟩
  rintro q r hp ⟨q',r',hl2,rfl,hq,hr,hqr,hlt2⟩
  obtain ⟨rfl,rfl⟩:q=q'/\r=r':=by simpa using hl2
  have hm:0<=q*vs.getD m 0/\q*vs.getD m 0<=18446744073709551615*18446744073709551615:=⟨B98 hq.1 v2r.1,C08 (by omega) (by have:=(K8 dv m).2;omega) v2r.1 (by decide)⟩
  have key:q*(vs.getD (m+1) 0*b64+vs.getD m 0)=(T-r)*18446744073709551616+q*vs.getD m 0:=by
   rw [<- hqr];show q*(vs.getD (m+1) 0*(18446744073709551616:Int)+vs.getD m 0)=_;grind
  have pass:q*vs.getD m 0<=r*18446744073709551616+us.getD m 0->K (U q) hp:=by
   intro hp2
   refine hK q hq.1 hq.2 hlt2 (es.up (by show q<=(18446744073709551616:Int);omega) ?_)
   rw [key];show _<=T*(18446744073709551616:Int)+_;omega
  have fail:¬ (q*vs.getD m 0<=r*18446744073709551616+us.getD m 0)->Br (decide (B7 (r+vs.getD (m+1) 0)<vs.getD (m+1) 0)) (K (U (B7 (q-1))) hp) ((∃ q_1 r_1:Int,[U (B7 (q-1)),U (B7 (r+vs.getD (m+1) 0))]=[U q_1,U r_1]/\hp=hp/\(0<=q_1/\q_1<18446744073709551616)/\(0<=r_1/\r_1<18446744073709551616)/\q_1*vs.getD (m+1) 0+r_1=T/\X<(q_1+1)*Y)/\(iAt [U (B7 (q-1)),U (B7 (r+vs.getD (m+1) 0))] 0).toNat<(iAt [U q,U r] 0).toNat):=by
   intro hf
   have hlq:X<q*Y:=es.low hq.1 (by rw [key];show T*(18446744073709551616:Int)+_<_;omega)
   have hq1:1<=q:=by
    by_cases hc:1<=q
    ·exact hc
    ·have:q=0:=by omega
     subst this;omega
   have hlt':X<(q-1+1)*Y:=by rw [Int.sub_add_cancel];exact hlq
   have hqr':(q-1)*vs.getD (m+1) 0+(r+vs.getD (m+1) 0)=T:=by grind
   rw [C0 (n:=q-1) (by omega) (by omega)]
   refine B4 (fun h3=>?_) (fun h3=>?_)
   ·rw [F4] at h3
    have hb:(q-1)*vs.getD m 0<=18446744073709551616*vs.getD m 0:=B8u (by omega) v2r.1
    have key2:(q-1)*(vs.getD (m+1) 0*b64+vs.getD m 0)=(T-(r+vs.getD (m+1) 0))*18446744073709551616+(q-1)*vs.getD m 0:=by
     rw [<- hqr'];show (q-1)*(vs.getD (m+1) 0*(18446744073709551616:Int)+vs.getD m 0)=_;grind
    refine hK (q-1) (by omega) (by omega) hlt' (es.up (by show q-1<=(18446744073709551616:Int);omega) ?_)
    rw [key2]
    have:=v2r.2
    show _<=T*(18446744073709551616:Int)+_
    have:vs.getD m 0<18446744073709551616:=v2r.2
    omega
   ·have h3':r+vs.getD (m+1) 0<18446744073709551616:=by
     by_cases hc:r+vs.getD (m+1) 0<18446744073709551616
     ·exact hc
     ·rw [F4] at h3;have:=v1r.2;have:vs.getD (m+1) 0<18446744073709551616:=v1r.2;omega
    rw [C0 (n:=r+vs.getD (m+1) 0) (by omega) h3']
    exact ⟨⟨q-1,r+vs.getD (m+1) 0,rfl,rfl,by omega,by omega,hqr',hlt'⟩,by simp only [iAt,B8w];omega⟩
  refine Im hq (by have:=v2r.2;exact ⟨v2r.1,this⟩) ⟨_,_,rfl,?_⟩
  have gum:0<=us.getD m 0/\us.getD m 0<18446744073709551616:=K8 du m
  refine B4 (fun h3=>pass (by omega)) (fun h3=>?_)
  refine D8 (fun h4=>?_) (fun h4=>fail (by omega))
  refine su.load rfl (by omega) (by omega) ?_
  rw [B8t]
  exact B4 (fun h5=>pass (by omega)) (fun h5=>fail (by omega))
end
section
variable {h g:Heap} {K:VP} {bu bq:Nat} {pre qs:List Int} {VA:Option Addr} {vs:List Int}
theorem B5t{n N:Nat}{ws:List Int}{q:Int}{J:LP}(hu:g bu=none)(hq:g bq=none)(hne:bu≠bq)(sv:SlI .u64 g VA vs)(dv:Dig b64 vs)(hn:n=vs.length)(dw:Dig b64 ws)(hN:N=(pre++ws).length)(hl:n<ws.length)(hbig:N<=4000000000)
 (hD:val b64 (ws.take n)+val b64 vs<2*b64^n) (hD0:b64^n<=val b64 (ws.take n)+val b64 vs) (htop:ws.getD n 0=18446744073709551615)
 (hJ:∀ ws',ws'.length=ws.length->Dig b64 ws'->ws'.drop (n+1)=ws.drop (n+1)->ws'.getD n 0=0->val b64 (ws'.take n)=val b64 (ws.take n)+val b64 vs-b64^n->J [U (B7 (q-1))] (V3 .u64 B8 g bu (pre++ws') bq qs)):
 V9 prog n VA n (some ⟨bu,0,none⟩) N (pre.length:Int) q J (V3 .u64 B8 g bu (pre++ws) bq qs):=by
 unfold V9
 refine ⟨fun l h'=>∃ (k:Nat) (c:Int) (zs:List Int),l=[U c,I k]/\k<=n/\zs.length=ws.length/\Dig b64 zs/\(0<=c/\c<=1)/\h'=V3 .u64 B8 g bu (pre++zs) bq qs/\zs.drop k=ws.drop k/\val b64 (zs.take k)+c*b64^k=val b64 (ws.take k)+val b64 (vs.take k),fun l _=>n-(iAt l 1).toNat,⟨0,0,ws,rfl,by omega,rfl,dw,by omega,rfl,rfl,by simp [val]⟩,?_⟩
 rintro c i hp ⟨k,c',zs,hli,hk,hzl,hd,hc,rfl,hdr,hv⟩
 obtain ⟨rfl,rfl⟩:c=c'/\i=(k:Int):=by simpa using hli
 have hle:g.le (V3 .u64 B8 g bu (pre++zs) bq qs):=Kx hu hq hne
 have su:SlI .u64 (V3 .u64 B8 g bu (pre++zs) bq qs) (some ⟨bu,0,none⟩) (pre++zs):=Pq hne
 have hNz:N=(pre++zs).length:=by rw [hN,B8z,B8z,hzl]
 have hNl:N=pre.length+zs.length:=by rw [hNz,B8z]
 have ejk:B3 ((pre.length:Int)+k)=((k+pre.length:Nat):Int):=by rw [B5 (by omega) (by omega)];omega
 have ejn:B3 ((pre.length:Int)+n)=((n+pre.length:Nat):Int):=by rw [B5 (by omega) (by omega)];omega
 refine B4 (fun h1=>?_) (fun h1=>?_)
 ·have gv:=K8 dv k
  have gz:=K8 hd k
  have hzz:=E4 hdr
  have vv:=C3 b64 vs k
  have vw:=C3 b64 ws k
  rw [ejk]
  refine (sv.mono hle).load hn (by omega) (by omega) ?_
  refine su.load hNz (by omega) (by omega) ?_
  simp only [B8t,Cx]
  refine Bg gz gv hc ⟨_,_,rfl,?_⟩
  refine ⟨_,rfl,by omega,by omega,?_⟩
  have st:=L9 (P:=prog) (t:=B8) (k:=.u64) (e:=B8) (g:=g) (bu:=bu) (bq:=bq) (us:=pre++zs) (qs:=qs) (i:=((k+pre.length:Nat):Int)) (n:=(zs.getD k 0+vs.getD k 0+c)%18446744073709551616) F1 hne (by rw [B8t];omega)
   (K:=fun _ hp15=>(∃ (k_1:Nat) (c_1:Int) (zs_1:List Int),[U ((zs.getD k 0+vs.getD k 0+c)/18446744073709551616),I (B3 ((k:Int)+1))]=[U c_1,I k_1]/\k_1<=n/\zs_1.length=ws.length/\Dig b64 zs_1/\(0<=c_1/\c_1<=1)/\hp15=V3 .u64 B8 g bu (pre++zs_1) bq qs/\zs_1.drop k_1=ws.drop k_1/\val b64 (zs_1.take k_1)+c_1*b64^k_1=val b64 (ws.take k_1)+val b64 (vs.take k_1))/\n-(iAt [U ((zs.getD k 0+vs.getD k 0+c)/18446744073709551616),I (B3 ((k:Int)+1))] 1).toNat<n-(iAt [U c,I k] 1).toNat)
  rw [B8t] at st
  refine st ?_
  rw [Gy,B5 (n:=(k:Int)+1) (by omega) (by omega)]
  refine ⟨⟨k+1,_,zs.set k ((zs.getD k 0+vs.getD k 0+c)%18446744073709551616),rfl,by omega,by simpa using hzl,hd.set (Ca _),by omega,rfl,?_,?_⟩,by simp only [iAt,B8w,B90];omega⟩
  ·rw [D3 (by omega)];exact D5 hdr
  ·rw [C7 (by omega),E6,B8v,B8x (by omega),B9h,Z8,vv,vw,<- hzz]
   grind
 ·have hkn:k=n:=by omega
  subst hkn
  have hzz:=E4 hdr
  rw [ejn]
  refine su.load hNz (by omega) (by omega) ?_
  rw [B8t,Cx,hzz,htop]
  refine ⟨_,rfl,by omega,by omega,?_⟩
  have hvs:vs.take k=vs:=by rw [hn,B96]
  rw [hvs] at hv
  have hlt:=K7 (by decide) (hd.take k)
  rw [B8v,B8x (by omega)] at hlt
  have h0:=C4 (by decide) (hd.take k)
  have hc1:c=1:=by
   by_cases hc0:c=0
   ·subst hc0;omega
   ·omega
  subst hc1
  have e0:B7 (18446744073709551615+1)=0:=by rw [F4];omega
  rw [e0]
  have st:=L9 (P:=prog) (t:=B8) (k:=.u64) (e:=B8) (g:=g) (bu:=bu) (bq:=bq) (us:=pre++zs) (qs:=qs) (i:=((k+pre.length:Nat):Int)) (n:=0) F1 hne (by rw [B8t];omega) (K:=fun _ hp16=>J [U (B7 (q-1))] hp16)
  rw [B8t] at st
  refine st ?_
  rw [Gy]
  refine hJ (zs.set k 0) (by simpa using hzl) (hd.set (by decide)) (by rw [D3 (by omega)];exact D5 hdr) (by simp [C02,show k<zs.length by omega]) ?_
  rw [List.take_set_of_le (by omega)]
  omega
end
theorem A93{g h':Heap}{e:TypeId}{bu bq:Nat}{A:Option Addr}{us qs:List Int}(hne:bu≠bq)(w:Win .u64 h' (blk .u64 e g bq qs) bu e A [] us []):h'=V3 .u64 e g bu us bq qs:=by
 rw [Ff hne,w.eq]
 simp [blk]
theorem B0h{g:Heap}{e:TypeId}{bu bq:Nat}{us qs:List Int}(hu:g bu=none)(hne:bu≠bq):Win .u64 (V3 .u64 e g bu us bq qs) (blk .u64 e g bq qs) bu e (some ⟨bu,0,none⟩) [] us []:=by
 rw [Ff hne]
 refine Win.blk .u64 e ?_ us
 unfold blk;rw [B6 _ _ hne];exact hu
theorem Xi{P:Program}{t:TypeId}{k:IntKind}{e:TypeId}{g:Heap}{bu bq:Nat}{us qs:List Int}(one:P.cellsOf t=1/\(P.info? t).isSome=true)(hne:bu≠bq){n:Int}{i:Nat}(hi:i<us.length){K:Unit->Heap->Prop}
 (x:K () (V3 k e g bu (us.set i n) bq qs)):wpH P (C09 t (.pointer (some (Addr.add ⟨bu,0,none⟩ (i*1)))) (.int k n)) K (V3 k e g bu us bq qs):=by
 have:=L9 (P:=P) (t:=t) (k:=k) (e:=e) (g:=g) (bu:=bu) (bq:=bq) (us:=us) (qs:=qs) (i:=(i:Int)) (n:=n) (K:=K) one hne (by simpa using hi) (by simpa using x)
 simpa using this
theorem Xj{P:Program}{t:TypeId}{k:IntKind}{e:TypeId}{g:Heap}{bu bq:Nat}{us qs:List Int}(one:P.cellsOf t=1/\(P.info? t).isSome=true){n:Int}{i:Nat}(hi:i<qs.length){K:Unit->Heap->Prop}
 (x:K () (V3 k e g bu us bq (qs.set i n))):wpH P (C09 t (.pointer (some (Addr.add ⟨bq,0,none⟩ (i*1)))) (.int k n)) K (V3 k e g bu us bq qs):=by
 have:=Pr (P:=P) (t:=t) (k:=k) (e:=e) (g:=g) (bu:=bu) (bq:=bq) (us:=us) (qs:=qs) (i:=(i:Int)) (n:=n) (K:=K) one (by simpa using hi) (by simpa using x)
 simpa using this
section
variable {h g:Heap} {K:VP} {bu bq:Nat} {VA:Option Addr} {vs us0:List Int}
set_option maxHeartbeats 1000000 in
theorem Zh{s mm N nq vc xn:Nat}{a b Y:Int}(hu:g bu=none)(hq:g bq=none)(hne:bu≠bq)(sv:SlI .u64 g VA vs)(dv:Dig b64 vs)(hn:vs.length=mm+2)(hv1:b64<=2*vs.getD (mm+1) 0)(hs:s<64)(hY:val b64 vs=Y)(hYb:Y=b*2^s)(du:Dig b64 us0)(hN:us0.length=N)(hua:val b64 us0=a*2^s)(hxn:N=xn+1)(hnq:N=nq+(mm+2))(hnq1:1<=nq)(hbig:N<=1000000001)(htop:val b64 (us0.drop nq)<Y)
 (hK:∀ A1 m1 c1 A2 m2 c2 h',g.le h'->m1<=c1->m2<=c2->Mw h' A1 m1 (a/b)->Mw h' A2 m2 (a%b)->K (.tuple #[.slice A1 m1 c1,.slice A2 m2 c2]) h'):
 W4 prog xn (mm+2) K (s:Int) VA (mm+2) vc (some ⟨bu,0,none⟩) N N (some ⟨bq,0,none⟩) nq nq (V3 .u64 B8 g bu us0 bq (B91 nq 0)):=by
 have hp:0<(2:Int)^s:=B9k (by decide)
 have hYlt:Y<b64^(mm+2):=by rw [<- hY,<- hn];exact K7 (by decide) dv
 have hY0:0<Y:=by have:=C4 (by decide) (du.drop nq);omega
 have e0:B3 ((xn:Int)-((mm+2:Nat):Int))=(nq:Int)-1:=by rw [B5 (by omega) (by omega)];omega
 unfold W4
 refine ⟨fun l h'=>∃ (k:Nat) (us qs:List Int),l=[I ((k:Int)-1)]/\k<=nq/\us.length=N/\qs.length=nq/\Dig b64 us/\Dig b64 qs/\h'=V3 .u64 B8 g bu us bq qs/\val b64 (us.drop k)<Y/\val b64 us0=val b64 (qs.drop k)*Y*b64^k+val b64 us,fun l _=>(iAt l 0+1).toNat,⟨nq,us0,_,by rw [e0],by omega,hN,by simp,du,H0 (by decide) _,rfl,htop,by simp [val]⟩,?_⟩
 rintro j hp11 ⟨k,us,qs,hli,hk,hul,hql,hdu,hdq,rfl,hlt,hv⟩
 obtain rfl:j=(k:Int)-1:=by simpa using hli
 have hle:g.le (V3 .u64 B8 g bu us bq qs):=Kx hu hq hne
 have su:SlI .u64 (V3 .u64 B8 g bu us bq qs) (some ⟨bu,0,none⟩) us:=Pq hne
 unfold Dz
 refine B4 (fun h1=>?_) (fun h1=>?_)
 ·obtain ⟨j,rfl⟩:∃ j,k=j+1:=⟨k-1,by omega⟩
  have ej:((j+1:Nat):Int)-1=(j:Int):=by omega
  rw [ej]
  have e1:B3 ((j:Int)+((mm+2:Nat):Int))=((j+(mm+2):Nat):Int):=by rw [B5 (by omega) (by omega)];omega
  have e2:B3 (((j+(mm+2):Nat):Int)+1)=((j+(mm+3):Nat):Int):=by rw [B5 (by omega) (by omega)];omega
  simp only [e1,e2,B8t]
  have dws:=hdu.drop j
  have hwl:(us.drop j).length=N-j:=by rw [B8y,hul]
  have hzero:val b64 ((us.drop j).drop (mm+3))=0:=by
   have:=Bi (B:=b64) (by decide) (n:=mm+2) (hdu.drop (j+1)) (by omega)
   rw [B9v] at this ⊢
   rw [show j+(mm+3)=j+1+(mm+2) by omega];exact this
  have hX1:=Vu b64 us j
  have hXB:val b64 (us.drop j)<Y*b64:=by
   have hdj:=K8 hdu j
   rw [hX1]
   have t1:b64*(val b64 (us.drop (j+1))+1)<=b64*Y:=B93 (by omega) (by decide)
   have t2:b64*(val b64 (us.drop (j+1))+1)=b64*val b64 (us.drop (j+1))+18446744073709551616:=by show (18446744073709551616:Int)*_=_;grind
   have t3:Y*b64=b64*Y:=B9a _ _
   omega
  have hsp:=F0 b64 (us.drop j) (i:=mm+3) (by omega)
  rw [hzero,C0l,C0m] at hsp
  have hts:=F7 b64 (us.drop j) (mm+2)
  have hX:val b64 (us.drop j)=val b64 ((us.drop j).take (mm+2))+b64^(mm+2)*(us.drop j).getD (mm+2) 0:=by rw [hsp];exact hts
  refine ⟨⟨by omega,by omega⟩,⟨by omega,by omega⟩,?_⟩
  have sw:SlI .u64 (V3 .u64 B8 g bu us bq qs) (I8 (some ⟨bu,0,none⟩) N j 1) ((us.drop j).take (mm+3)):=by
   have:=su.cut (c:=N) (l:=j) (m:=j+(mm+3)) (by omega) (by omega) (by omega)
   rwa [show j+(mm+3)-j=mm+3 by omega] at this
  generalize hXX:val b64 (us.drop j)=X at *
  refine Up (m:=mm) (X:=X) (Y:=Y) sw (sv.mono hle) (by rw [B8v,hwl];omega) hn.symm (dws.take _) dv (by rw [B8v,hwl];omega) hn (by omega) hv1 hsp.symm hY hXB ?_
  intro q q0 q1 q2 q3
  refine ⟨_,rfl,⟨by omega,by omega⟩,⟨by omega,by omega⟩,?_⟩
  have w0:=B0h (e:=B8) (us:=us) (qs:=qs) hu hne
  have svq:SlI .u64 (blk .u64 B8 g bq qs) VA vs:=sv.mono (V1 hq qs)
  have hW:(us.drop j).take (j+(mm+2)-j)=(us.drop j).take (mm+2):=by rw [show j+(mm+2)-j=mm+2 by omega]
  have w1:=w0.sub (l:=j) (m:=j+(mm+2)) (c:=N) (by omega) (by omega) (by omega)
  rw [hW] at w1
  have hWl:((us.drop j).take (mm+2)).length=mm+2:=by rw [B8v,hwl];omega
  refine Gn w1 (by rw [hWl];omega) svq hn.symm (dws.take _) dv (by rw [hWl,hn]) ⟨q0,q1⟩ (by omega) ?_
  intro W c h2 hWl2 hWd hc hWv w2
  rw [hWl] at hWl2 hWv
  refine ⟨_,rfl,?_⟩
  have w3:=w0.whole (l:=j) (m:=j+(mm+2)) (by omega) (by omega) (by omega) w2
  have h2e:=A93 hne w3
  have hpre:(us.take j).length=j:=by rw [B8v,hul];omega
  have hd3:us.drop (j+(mm+2))=(us.drop j).drop (mm+2):=by rw [B9v]
  rw [B9o,hd3] at h2e
  subst h2e
  generalize hws:us.drop j=ws at *
  have hwsl:(W++ws.drop (mm+2)).length=ws.length:=by rw [B8z,B8y];omega
  have dW:Dig b64 (W++ws.drop (mm+2)):=hWd.append (dws.drop _)
  have gtop:(W++ws.drop (mm+2)).getD (mm+2) 0=ws.getD (mm+2) 0:=by
   simp only [C02]
   rw [C0w (by omega),hWl2,Nat.sub_self,List.getElem?_drop,C0k]
  have gt64:=K8 dws (mm+2)
  have hNl:(us.take j++(W++ws.drop (mm+2))).length=N:=by rw [B8z,hwsl,hpre];omega
  have su2:SlI .u64 (V3 .u64 B8 g bu (us.take j++(W++ws.drop (mm+2))) bq qs) (some ⟨bu,0,none⟩) (us.take j++(W++ws.drop (mm+2))):=Pq hne
  have hj2:j+(mm+2)=(mm+2)+(us.take j).length:=by omega
  refine su2.load hNl.symm (by omega) (by omega) ?_
  rw [B8t,hj2,Cx,gtop]
  refine ⟨_,rfl,by omega,by omega,?_⟩
  refine Xi (i:=mm+2+(us.take j).length) F1 hne (by omega) ?_
  rw [Gy]
  have hP:0<b64^(mm+2):=D4 (by decide) _
  have hlW:=K7 (by decide) hWd
  have hlW0:=C4 (by decide) hWd
  rw [hWl2] at hlW
  rw [hY] at hWv
  have hD:X-q*Y=val b64 W+(ws.getD (mm+2) 0-c)*b64^(mm+2):=by rw [hWv,hX];grind
  have hDlt:X-q*Y<Y:=by
   have:(q+1)*Y=q*Y+Y:=by grind
   omega
  have hDge: -Y<=X-q*Y:=by
   have:(q-1)*Y=q*Y-Y:=by grind
   omega
  have hX0:0<=X:=by
   have t1:=C4 (by decide) (dws.take (mm+2))
   have t2:=B98 (B94 hP) gt64.1
   omega
  have hdel:ws.getD (mm+2) 0-c=0\/ws.getD (mm+2) 0-c= -1:=by
   have t2:ws.getD (mm+2) 0-c<1:=by
    by_cases hc:ws.getD (mm+2) 0-c<1
    ·exact hc
    ·have:=B8u (show 1<=ws.getD (mm+2) 0-c by omega) (B94 hP);omega
   have t3: -2<ws.getD (mm+2) 0-c:=by
    by_cases hc: -2<ws.getD (mm+2) 0-c
    ·exact hc
    ·have:=B8u (show ws.getD (mm+2) 0-c <= -2 by omega) (B94 hP);omega
   omega
  have htk:∀ v,((W++ws.drop (mm+2)).set (mm+2) v).take (mm+2)=W:=by
   intro v
   rw [List.take_set_of_le (by omega),C0r hWl2]
  have hgs:∀ v,((W++ws.drop (mm+2)).set (mm+2) v).getD (mm+2) 0=v:=by
   intro v
   rw [C02,List.getElem?_set_self (by omega)];rfl
  have hdr:∀ v,((W++ws.drop (mm+2)).set (mm+2) v).drop (mm+3)=ws.drop (mm+3):=by
   intro v
   rw [D3 (by omega),show mm+3=(mm+2)+1 by omega,<- B9v,C0t hWl2,B9v]
  refine ⟨fun l h'=>∃ ws' q',l=[U q']/\h'=V3 .u64 B8 g bu (us.take j++ws') bq qs/\ws'.length=ws.length/\Dig b64 ws'/\ws'.drop (mm+3)=ws.drop (mm+3)/\ws'.getD (mm+2) 0=0/\val b64 (ws'.take (mm+2))=X-q'*Y/\0<=X-q'*Y/\X-q'*Y<Y/\0<=q'/\q'<18446744073709551616,B4 (fun h3=>?_) (fun h3=>?_),?_⟩
  ·have hdel1:ws.getD (mm+2) 0-c= -1:=by omega
   rw [hdel1] at hD ⊢
   have hm1:B7 (-1)=18446744073709551615:=by rw [F4];omega
   rw [hm1]
   have hqpos:1<=q:=by
    by_cases hc:1<=q
    ·exact hc
    ·have:q=0:=by omega
     subst this;omega
   have e5:(q-1)*Y=q*Y-Y:=by grind
   have bk:=B5t (g:=g) (bu:=bu) (bq:=bq) (pre:=us.take j) (qs:=qs) (VA:=VA) (vs:=vs) (n:=mm+2) (N:=N) (ws:=(W++ws.drop (mm+2)).set (mm+2) 18446744073709551615) (q:=q)
    (J:=fun l h'=>∃ ws' q',l=[U q']/\h'=V3 .u64 B8 g bu (us.take j++ws') bq qs/\ws'.length=ws.length/\Dig b64 ws'/\ws'.drop (mm+3)=ws.drop (mm+3)/\ws'.getD (mm+2) 0=0/\val b64 (ws'.take (mm+2))=X-q'*Y/\0<=X-q'*Y/\X-q'*Y<Y/\0<=q'/\q'<18446744073709551616)
    hu hq hne sv dv hn.symm (dW.set (by decide)) (by rw [B8z,B9d,hwsl,hpre];omega) (by rw [B9d,hwsl];omega) (by omega) (by rw [htk,hY];omega) (by rw [htk,hY];omega) (hgs _) ?_
   ·rw [hpre] at bk;exact bk
   ·intro ws' g1 g2 g3 g4 g5
    rw [htk,hY] at g5
    rw [C0 (n:=q-1) (by omega) (by omega)]
    refine ⟨ws',q-1,rfl,rfl,by rw [g1,B9d,hwsl],g2,by rw [g3,hdr],g4,by omega,by omega,by omega,by omega,by omega⟩
  ·have hdel0:ws.getD (mm+2) 0-c=0:=by omega
   rw [hdel0] at hD ⊢
   have hm0:B7 0=0:=by rw [F4];omega
   rw [hm0]
   exact ⟨(W++ws.drop (mm+2)).set (mm+2) 0,q,rfl,rfl,by rw [B9d,hwsl],dW.set (by decide),hdr _,hgs _,by rw [htk];omega,by omega,hDlt,q0,q1⟩
  ·rintro q4 hp17 ⟨ws',q',hl1,rfl,g1,g2,g3,g4,g5,g6,g7,g8,g9⟩
   obtain rfl:q4=q':=by simpa using hl1
   refine ⟨_,rfl,by omega,by omega,?_⟩
   refine Xj (i:=j) F1 (by omega) ?_
   rw [B5 (by omega) (by omega)]
   have hvw:val b64 ws'=X-q4*Y:=by
    have z1:=F0 b64 ws' (i:=mm+3) (by omega)
    rw [g3,hzero,F7,g4,g5] at z1
    simp at z1
    omega
   refine ⟨⟨j,us.take j++ws',qs.set j q4,rfl,by omega,by rw [B8z,g1,hpre];omega,by simpa using hql,(hdu.take j).append g2,hdq.set ⟨g8,g9⟩,rfl,?_,?_⟩,by simp only [iAt,B8w];omega⟩
   ·rw [C0t hpre,hvw];exact g7
   ·have hs2:=F0 b64 us (i:=j) (by omega)
    rw [hws,hXX] at hs2
    rw [hv,R8 (by omega),F6,hpre,hvw,hs2,B9h]
    simp only [val]
    grind
 ·have hk0:k=0:=by omega
  subst hk0
  simp at hlt hv
  have hb0:0<b:=by
   by_cases hc:0<b
   ·exact hc
   ·have:=B8u (show b<=0 by omega) (B94 hp);omega
  have hus0:=C4 (by decide) hdu
  have hR:val b64 us=(a-val b64 qs*b)*2^s:=by
   rw [hua,hYb] at hv
   grind
  have hr0:0<=a-val b64 qs*b:=by
   by_cases hc:0<=a-val b64 qs*b
   ·exact hc
   ·have:=B8u (show a-val b64 qs*b <= -1 by omega) (B94 hp);omega
  have hr1:a-val b64 qs*b<b:=by
   by_cases hc:a-val b64 qs*b<b
   ·exact hc
   ·have:=B8u (show b<=a-val b64 qs*b by omega) (B94 hp);omega
  have hdiv:a/b=val b64 qs:=by
   have:a=(a-val b64 qs*b)+val b64 qs*b:=by omega
   rw [this,C0a _ _ (by omega),B9i hr0 hr1,C06]
  have hmod:a%b=a-val b64 qs*b:=by
   have:=Int.emod_def a b
   rw [this,hdiv,B9a]
  rw [hdiv,hmod] at hK
  rw [<- hql]
  refine N6 B21 hdq (B97 _) (by omega) ?_
  intro m1 hm1 M1
  refine ⟨_,_,_,rfl,?_⟩
  rw [<- hul]
  refine N6 su hdu (B97 _) (by omega) ?_
  intro m2 hm2 M2
  refine ⟨_,_,_,rfl,?_⟩
  rw [C0 (by omega) (by omega)]
  refine Ds M2 (by have:=M2.len_le (by decide) (j:=mm+2) (by omega);omega) (by omega) ?_
  intro A3 m3 c3 h3 l3 k3 M3
  have hsh:val b64 us/2^s=a-val b64 qs*b:=by rw [hR,Int.mul_ediv_cancel _ (by omega)]
  rw [hsh] at M3
  exact ⟨_,_,_,rfl,hK _ _ _ _ _ _ _ (Heap.le_trans hle l3) (by omega) k3 (M1.mono l3) M3⟩
end
section
variable {h g:Heap} {K:VP} {A B:Option Addr} {ac bc:Nat}
set_option maxHeartbeats 1000000 in
theorem Ce{x y:Int}{an bn:Nat}(ma:Mw h A an x)(mb:Mw h B bn y)(ha:an<=ac)(hbc:bn<=bc)(hy:y≠0)(hl:an<=1000000000)(hl2:bn<=1000000000)
 (hK:∀ A1 m1 c1 A2 m2 c2 h',h.le h'->m1<=c1->m2<=c2->Mw h' A1 m1 (x/y)->Mw h' A2 m2 (x%y)->K (.tuple #[.slice A1 m1 c1,.slice A2 m2 c2]) h'):FCall prog H8 #[.slice A an ac,.slice B bn bc] h K:=by
 have hx0:=ma.nonneg (by decide)
 have hy0:=mb.nonneg (by decide)
 have hb0:=mb.len_zero (by decide)
 have ha1:=ma.lt (by decide)
 have hb1:=mb.lt (by decide)
 refine Nb _ _ _ _ _ _ ?_
 unfold Jq
 refine J2 ma mb (by omega) ⟨_,rfl,B4 (fun h1=>?_) (fun h1=>D8 (fun h2=>?_) (fun h2=>?_))⟩
 ·have hlt:x<y:=by
   unfold Qq at h1
   by_cases hc:x<y
   ·exact hc
   ·rw [if_neg hc] at h1
    by_cases hc2:x>y
    ·rw [if_pos hc2] at h1;omega
    ·rw [if_neg hc2] at h1;omega
  rw [B9i hx0 hlt,C0i hx0 hlt] at hK
  exact hK none 0 0 _ _ _ _ (B0 h) (B97 _) ha Mag.zero ma
 ·obtain ⟨ys,rfl,sy,dy,ny,rfl⟩:=mb
  have h2':ys.length=1:=by omega
  obtain ⟨d,rfl⟩:∃ d,ys=[d]:=by
   cases ys with
   | nil=>simp at h2'
   | cons d r=>
    cases r with
    | nil=>exact ⟨d,rfl⟩
    | cons _ _=>simp at h2'
  rw [S1] at hy hy0 hK
  have hd:=dy d (by simp)
  obtain ⟨w,rfl⟩:∃ w:Nat,d=w:=⟨d.toNat,by omega⟩
  refine sy.load rfl (by omega) (by simp) ?_
  show FCall _ _ #[_,U (w:Int)] _ _
  have hw:w<18446744073709551616:=by have:=hd.2;have:(w:Int)<18446744073709551616:=this;omega
  refine Ph ma ⟨by omega,hw⟩ hl ?_
  intro A' m c' h' hle hm hmn hM
  refine ⟨_,_,_,_,rfl,?_⟩
  refine Y2 ⟨B9f _ (by omega),by have:=B9j x (show (0:Int)<w by omega);omega⟩ ?_
  intro A2 m2 c2 h3 l3 k3 M3
  exact ⟨_,_,_,rfl,hK _ _ _ _ _ _ _ (Heap.le_trans hle l3) hm k3 (hM.mono l3) M3⟩
 ·have hge:y<=x:=by
   unfold Qq at h1
   by_cases hc:x<y
   ·rw [if_pos hc] at h1;omega
   ·omega
  have hbn:bn<=an:=mb.len_le (by decide) (C0g hge ha1)
  have mb':=mb
  have ma':=ma
  obtain ⟨ys,rfl,sy,dy,ny,rfl⟩:=mb
  obtain ⟨mm,hmm⟩:∃ mm,ys.length=mm+2:=⟨ys.length-2,by omega⟩
  have gt:=K8 dy (mm+1)
  have ht0:=Vx (m:=mm+1) hmm ny
  obtain ⟨hyt,hyt2⟩:=Z6 (B:=b64) (by decide) dy (m:=mm+1) hmm
  have e1:B3 ((ys.length:Int)-1)=((mm+1:Nat):Int):=by rw [B5 (by omega) (by omega)];omega
  rw [e1]
  refine sy.load rfl (by omega) (by omega) ?_
  rw [B8t]
  obtain ⟨t,ht⟩:∃ t:Nat,ys.getD (mm+1) 0=t:=⟨(ys.getD (mm+1) 0).toNat,by omega⟩
  rw [ht] at gt ht0 hyt hyt2 ⊢
  have ht0':t≠0:=by omega
  refine O4 (by omega) ⟨_,rfl,?_⟩
  obtain ⟨hb1',hb2'⟩:=Cj ht0'
  have hb64:L0 t<=64:=Fg (k:=64) (by omega)
  have hbb0:1<=L0 t:=by unfold L0;rw [if_neg ht0'];omega
  obtain ⟨s,hs⟩:∃ s,s=64-L0 t:=⟨_,rfl⟩
  rw [<- hs]
  have hs64:s<64:=by omega
  have hps:0<(2:Int)^s:=B9k (by decide)
  have hsp:=U4 (s:=s) (by omega)
  have hblen:L0 t=64-s:=by omega
  have htl:(t:Int)+1<=2^(64-s):=by
   rw [<- hblen]
   have:((t+1:Nat):Int)<=((2^L0 t:Nat):Int):=by omega
   simpa using this
  have htg:(2:Int)^(63-s)<=t:=by
   have:((2^(L0 t-1):Nat):Int)<=((t:Nat):Int):=by omega
   rw [show L0 t-1=63-s by omega] at this
   simpa using this
  have hp63:(2:Int)^s*2^(63-s)=9223372036854775808:=by
   rw [<- B9l,show s+(63-s)=63 by omega];decide
  have es0:B7 (s:Int)=(s:Int):=C0 (by omega) (by omega)
  rw [es0]
  have hpm:=D4 (B:=b64) (by decide) (mm+1)
  have hY1:val b64 ys*2^s<b64^(mm+2):=by
   have t2:val b64 ys*2^s<((t:Int)+1)*b64^(mm+1)*2^s:=C03 hyt hps
   have t3:((t:Int)+1)*b64^(mm+1)*2^s=((t:Int)+1)*2^s*b64^(mm+1):=by grind
   have t4:((t:Int)+1)*2^s*b64^(mm+1)<=18446744073709551616*b64^(mm+1):=by
    apply B8u _ (B94 hpm)
    rw [<- hsp,B9a (2^s)]
    exact B8u htl (B94 hps)
   have t5:b64^(mm+2)=18446744073709551616*b64^(mm+1):=by rw [B9h b64 (mm+1),B9a]
   omega
  have hY2:9223372036854775808*b64^(mm+1)<=val b64 ys*2^s:=by
   have t1:(t:Int)*b64^(mm+1)*2^s<=val b64 ys*2^s:=B8u hyt2 (B94 hps)
   have t2:9223372036854775808*b64^(mm+1)<=(t:Int)*2^s*b64^(mm+1):=by
    apply B8u _ (B94 hpm)
    rw [<- hp63,B9a (t:Int)]
    exact B93 htg (by omega)
   have t3:(t:Int)*2^s*b64^(mm+1)=(t:Int)*b64^(mm+1)*2^s:=by grind
   omega
  refine Q7 mb' hbc hl2 (by omega) ?_
  intro A1 n1 c1 g1 l1 k1 M1
  refine ⟨_,_,_,rfl,?_⟩
  have hn1:n1=mm+2:=by
   have q1:=M1.len_le (by decide) hY1
   have q2:=M1.lt (by decide)
   by_cases hc:n1=mm+2
   ·exact hc
   ·have:=C8 (B:=b64) (by decide) (show n1<=mm+1 by omega)
    omega
  subst hn1
  obtain ⟨vs,hvl,sv,dv,nv,hvv⟩:=M1
  have hv1:b64<=2*vs.getD (mm+1) 0:=by
   obtain ⟨q1,q2⟩:=Z6 (B:=b64) (by decide) dv (m:=mm+1) hvl.symm
   rw [hvv] at q1
   have:9223372036854775808<vs.getD (mm+1) 0+1:=by
    by_cases hc:9223372036854775808<vs.getD (mm+1) 0+1
    ·exact hc
    ·have:=B8u (show vs.getD (mm+1) 0+1<=9223372036854775808 by omega) (B94 hpm);omega
   show (18446744073709551616:Int)<=_
   omega
  have eN:B3 ((an:Int)+1)=((an+1:Nat):Int):=by rw [B5 (by omega) (by omega)];omega
  rw [eN]
  refine J5 N5 (by omega) (by omega) (by omega) ?_
  intro bu hbu
  rw [B8t]
  refine ⟨_,_,_,rfl,?_⟩
  have w0:=Win.blk .u64 B8 hbu (B91 (an+1) 0)
  refine w0.call ?_
  refine Q7 (ma'.mono l1) ha hl (by omega) ?_
  intro A3 n3 c3 g3 l3 k3 M3 h4 w4
  refine ⟨_,_,_,rfl,?_⟩
  have hxs:x*2^s<b64^(an+1):=by
   have t1:x*2^s<b64^an*2^s:=C03 ha1 hps
   have t2:b64^an*2^s<=b64^an*18446744073709551616:=by
    apply B93 _ (B94 (D4 (by decide) an))
    have:=C8 (B:=2) (by decide) (show s<=64 by omega)
    have e:(2:Int)^64=18446744073709551616:=by decide
    omega
   rw [B9h];show _<b64^an*(18446744073709551616:Int);omega
  have hn3:=M3.len_le (by decide) hxs
  obtain ⟨us,hul,sus,dus,nus,husv⟩:=M3
  refine Dp N5 w4 (by simp) (sus.mono w4.le) hul (by simp;omega) ?_
  intro h5 w5
  refine ⟨_,rfl,?_⟩
  rw [B9e] at w5
  generalize hu0:us++B91 (an+1-us.length) (0:Int)=us0 at w5
  have hu0l:us0.length=an+1:=by rw [<- hu0];simp;omega
  have hu0d:Dig b64 us0:=by rw [<- hu0];exact dus.append (H0 (by decide) _)
  have hu0v:val b64 us0=x*2^s:=by rw [<- hu0,Ba];exact husv
  obtain ⟨nq,hnq⟩:∃ nq,an+1=nq+(mm+2):=⟨an+1-(mm+2),by omega⟩
  have eq:B3 (B3 ((an:Int)-(ys.length:Int))+1)=(nq:Int):=by
   rw [B5 (n:=(an:Int)-(ys.length:Int)) (by omega) (by omega),B5 (by omega) (by omega)];omega
  rw [eq]
  refine J5 N5 (by omega) (by omega) (by omega) ?_
  intro bq hbq
  rw [B8t]
  refine ⟨_,_,_,rfl,?_⟩
  have h5e:h5=blk .u64 B8 g3 bu us0:=by rw [w5.eq];simp [blk]
  subst h5e
  have hg3u:g3 bu=none:=w5.free
  have hne:bu≠bq:=by
   rintro rfl
   unfold blk at hbq
   rw [B9] at hbq;cases hbq
  have hbq':g3 bq=none:=by
   have:=hbq
   unfold blk at this
   rwa [B6 _ _ hne.symm] at this
  rw [hmm]
  refine Zh (us0:=us0) (N:=an+1) (xn:=an) hg3u hbq' hne (sv.mono l3) dv hvl.symm hv1 hs64 hvv rfl hu0d hu0l hu0v rfl hnq (by omega) (by omega) ?_ ?_
  ·have s1:=F0 b64 us0 (i:=nq) (by omega)
   have s2:=C4 (by decide) (hu0d.take nq)
   have s3:val b64 us0<b64^an*2^s:=by
    rw [hu0v];exact C03 ha1 hps
   have s4:b64^(mm+1)<=val b64 ys:=by
    have:=B8u (show 1<=(t:Int) by omega) (B94 hpm);omega
   have s5:b64^nq*(b64^(mm+1)*2^s)<=b64^nq*(val b64 ys*2^s):=B93 (B8u s4 (B94 hps)) (B94 (D4 (by decide) nq))
   have s6:b64^nq*(b64^(mm+1)*2^s)=b64^an*2^s:=by
    rw [<- Int.mul_assoc,<- B9l,show nq+(mm+1)=an by omega]
   by_cases hc:val b64 (us0.drop nq)<val b64 ys*2^s
   ·exact hc
   ·have:=B93 (show val b64 ys*2^s<=val b64 (us0.drop nq) by omega) (B94 (D4 (B:=b64) (by decide) nq));omega
  ·intro A5 m5 c5 A6 m6 c6 h6 l6 k5 k6 M5 M6
   exact hK _ _ _ _ _ _ _ (Heap.le_trans l1 (Heap.le_trans l3 l6)) k5 k6 M5 M6
end
end Go.Proofs.YtajkakhfcokljaaGreatDoor
