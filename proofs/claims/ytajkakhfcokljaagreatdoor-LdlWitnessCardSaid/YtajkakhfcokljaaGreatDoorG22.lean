/-
  Texts of this proof, merged by a program of ours.
-/
import Derived.Test.YtajkakhfcokljaaGreatDoorG21
import Derived.Test.YtajkakhfcokljaaGreatDoorG20
import Derived.Test.YtajkakhfcokljaaGreatDoorG09
import Derived.Test.YtajkakhfcokljaaGreatDoorRows
import Derived.Below
import Derived.ChangeSame
import Derived.WideShapes
import Derived.LaidLaws
import Derived.Lib.LaidTab
open Go.Proofs.Tryz
open Bool renaming eq_iff_iff->C3t
open Int renaming natAbs_natCast->C2w,toNat_natCast->C2x,natCast_mul->C2z,gcd->C34,natCast_pow->C35,ofNat_tdiv->C3j
open List renaming getElem?_eq_getElem->C2y,exists_cons_of_ne_nil->C30,takeWhile_append_dropWhile->C33,length_append->C36,length_take->C3b,take_of_length_le->C3c,take_append_drop->C3f,length_map->C3g,head?_cons->C3h,drop_zero->C3i,getElem_map->C3p
open List.cons renaming injEq->C3s
open Nat renaming pow_le_pow_right->C31,div_le_self->C32,gcd_dvd_right->C38,mul_one->C39,gcd->C3a,sub_zero->C3e,pow_le_pow_left->C3k,le_refl->C3l,lt_of_lt_of_le->C3m,pow_succ->C3o,min_eq_left->C3q,div_one->C3r
open Option.some renaming injEq->C37
open Rat renaming num_eq_zero->C3d
open _root_.Go.Value.slice renaming injEq->C3n
namespace Go.Proofs.YtajkakhfcokljaaGreatDoor
set_option linter.all false
set_option maxRecDepth 20000
open Go
def Ft(i:Nat):Nat:=10^(19*2^i)
theorem A7e(i:Nat):Ft i=(10^19)^(2^i):=Nat.pow_mul _ _ _
theorem B1q(i:Nat):0<Ft i:=Nat.pow_pos (by decide)
theorem A7d:Ft 0=10000000000000000000:=by decide
theorem Zb(i:Nat):Ft (i+1)=Ft i*Ft i:=by
 unfold Ft
 rw [<- Nat.pow_add]
 congr 1
 rw [C3o];omega
theorem B5k(i:Nat):(Ft i:Int)<b64^(2^i):=by
 have h:(10^19)^(2^i)<(18446744073709551616:Nat)^(2^i):=Nat.pow_lt_pow_left (by decide) (Nat.pos_iff_ne_zero.1 (Nat.pow_pos (by decide)))
 rw [<- A7e] at h
 have h2:((Ft i:Nat):Int)<((18446744073709551616^(2^i):Nat):Int):=Int.ofNat_lt.2 h
 rw [C35] at h2
 exact h2
theorem B5l(i:Nat):(2:Int)^(63*2^i)<=(Ft i:Int):=by
 have h:(2^63)^(2^i)<=(10^19)^(2^i):=C3k (by decide) _
 rw [<- A7e,<- Nat.pow_mul] at h
 have h2:((2^(63*2^i):Nat):Int)<=((Ft i:Nat):Int):=Int.ofNat_le.2 h
 rw [C35] at h2
 exact h2
theorem B7y{k m:Nat}(h:(2:Int)^k<2^m):k<m:=by
 by_cases hk:k<m
 ·exact hk
 ·have:=C9 (B:=2) (by decide) (show m<=k by omega)
  omega
abbrev slT(s:Option Addr × Nat × Nat):Value:=.slice s.1 s.2.1 s.2.2
def Pws(h:Heap)(PA:Option Addr)(k:Nat):Prop:=∃ ss:List (Option Addr × Nat × Nat),ss.length=k/\SlV h PA (ss.map slT)/\∀ i s,ss[i]? = some s->s.2.1<=s.2.2/\Mw h s.1 s.2.1 (Ft i:Int)
theorem Pws.mono{h h':Heap}(l:h.le h'){PA:Option Addr}{k:Nat}(p:Pws h PA k):Pws h' PA k:=by
 obtain ⟨ss,h1,h2,h3⟩:=p
 exact ⟨ss,h1,h2.mono l,fun i s e=>⟨(h3 i s e).1,(h3 i s e).2.mono l⟩⟩
theorem Pws.take{h:Heap}{PA:Option Addr}{k j:Nat}(p:Pws h PA k)(hj:j<=k):Pws h PA j:=by
 obtain ⟨ss,h1,h2,h3⟩:=p
 refine ⟨ss.take j,by rw [C3b];omega,?_,fun i s e=>?_⟩
 ·have:=SlV.cut (c:=(ss.map slT).length) h2 (Nat.zero_le j) (by rw [C3g];omega) (C3l _)
  rw [I5,C3i,C3e,<- List.map_take] at this
  exact this
 ·rw [List.getElem?_take] at e
  split at e
  ·exact h3 i s e
  ·cases e
theorem Pws.at{h:Heap}{PA:Option Addr}{k i:Nat}(p:Pws h PA k)(hi:i<k):∃ (a:Addr) (A:Option Addr) (n c:Nat),PA=some a/\h.cell? (a.add i)=some (.slice A n c)/\n<=c/\Mw h A n (Ft i:Int):=by
 obtain ⟨ss,h1,h2,h3⟩:=p
 obtain ⟨a,ha,hc⟩:=h2.at (i:=i) (by rw [C3g];omega)
 rw [C3p] at hc
 obtain ⟨h4,h5⟩:=h3 i ss[i] (C2y (by omega))
 exact ⟨a,_,_,_,ha,hc,h4,h5⟩
theorem Mw.tenP_le{h:Heap}{A:Option Addr}{n i:Nat}(m:Mw h A n (Ft i:Int)):n<=2^i:=m.len_le (by decide) (B5k i)
theorem Mw.tenP_ge{h:Heap}{A:Option Addr}{n i:Nat}(m:Mw h A n (Ft i:Int)):2^i<2*n:=by
 have h1:=m.lt (by decide)
 rw [Ik] at h1
 have h2:=B7y (Int.lt_of_le_of_lt (B5l i) h1)
 omega
theorem Ext.weak{g g0 g' h':Heap}{eT e2:TypeId}{A A':Option Addr}{n c n' c':Nat}{l t:List UInt8}(l0:g0.le g)(x:Ext g eT A n c l t A' n' c' e2 g' h'):Ext g0 eT A n c l t A' n' c' e2 g' h':=⟨A0 l0 x.le,x.priv,x.len,x.fit,x.tag⟩
theorem B40(w n:Nat):w<=(pad w n).length:=by simp [pad];omega
theorem B5s{j:Nat}(hj:j<=30):B4 (19*2^(min j 64))=((19*2^j:Nat):Int):=by
 rw [C3q (by omega)]
 have h1:2^j<=2^30:=C31 (by decide) hj
 have h2:(19*2^j:Int)=((19*2^j:Nat):Int):=by rw [C2z,C35];rfl
 rw [h2,B6 (by omega) (by have:(2:Nat)^30=1073741824:=by decide
                          omega)]
theorem Xk{l:List UInt8}(hd:∀ c∈l,H9 c):(K9 l:Int)<b64^l.length:=by
 have h1:=Nf hd
 have h2:10^l.length<=(18446744073709551616:Nat)^l.length:=C3k (by decide) _
 have h3:((K9 l:Nat):Int)<((18446744073709551616^l.length:Nat):Int):=Int.ofNat_lt.2 (C3m h1 h2)
 rw [C35] at h3
 exact h3
theorem Ov:∀ (k:Nat) {h g:Heap} {K:VP} {A XA PA:Option Addr} {n c xn xc pc v W:Nat} {eT:TypeId} {l:List UInt8},Gp g->Priv h g eT 1 A n c (yv l)->Mw g XA xn (v:Int)->xn<=xc->xn<=10000000->Pws g PA k->k<=pc->k<=26->(W=0\/W=19*2^k)->n+(pad W v).length<=1000000000->
 (∀ A' n' c' e3 g' h',Ext g eT A n c l (pad W v) A' n' c' e3 g' h'->K (.slice A' n' c') h')->FCall prog G9 #[.slice A n c,.slice XA xn xc,I (W:Int),.slice PA k pc] h K:=by
 intro k
 induction k with
 | zero=>
  intro h g K A XA PA n c xn xc pc v W eT l gp p M hxc hx hP hpc hk hW hn hK
  have:=B40 W v
  refine Ha _ _ _ _ _ _ _ _ _ _ ?_
  unfold Hb
  refine B5 (fun _=>?_) (fun e=>absurd (by decide) e)
  refine Dm gp p M hx (by omega) (by omega) ?_
  intro A' n' c' e2 g' h' x
  exact ⟨_,_,_,rfl,hK _ _ _ e2 g' _ x⟩
 | succ j ih=>
  intro h g K A XA PA n c xn xc pc v W eT l gp p M hxc hx hP hpc hk hW hn hK
  have hge:=B40 W v
  have e1:B4 (((j+1:Nat):Int)-1)=(j:Int):=by rw [B6 (by omega) (by omega)];omega
  refine Ha _ _ _ _ _ _ _ _ _ _ ?_
  unfold Hb
  simp only [e1,C2x,C3e,I5,B5s (show j<=30 by omega)]
  refine B5 (fun e=>absurd e (by omega)) (fun _=>B5 (fun _=>?_) (fun _=>?_))
  ·refine Dm gp p M hx (by omega) (by omega) ?_
   intro A' n' c' e2 g' h' x
   exact ⟨_,_,_,rfl,hK _ _ _ e2 g' _ x⟩
  ·obtain ⟨a,PA',pn,pcc,ha,hc,hpc',Mp⟩:=hP.at (i:=j) (by omega)
   refine ⟨a,ha,by omega,by omega,_,_,_,by rw [C39];exact B8 p.le hc,?_⟩
   have hpn:=Mp.tenP_le
   have h2j:2^j<=2^26:=C31 (by decide) (by omega)
   have h24:(2:Nat)^26=67108864:=by decide
   have hpp:=B1q j
   refine p.call ?_
   refine R4 M Mp hxc hpc' (by omega) (by omega) (by omega) ?_
   intro A1 m1 c1 A2 m2 c2 g1 l1 k1 k2 M1 M2 h1 p1
   refine ⟨_,_,_,_,_,_,rfl,?_⟩
   rw [<- Int.natCast_ediv] at M1
   rw [<- Int.natCast_emod] at M2
   have hv:=Nat.div_add_mod v (Ft j)
   have hlt:=Nat.mod_lt v hpp
   have hqv:=C32 v (Ft j)
   generalize v/Ft j=q at *
   generalize v%Ft j=r at *
   have hz:=M1.len_zero (by decide)
   have hvlt:=M.lt (by decide)
   have hm1:m1<=xn:=M1.len_le (by decide) (by omega)
   have hm2:m2<=xn:=M2.len_le (by decide) (by
    have h0:0<=Ft j*q:=Nat.zero_le _
    generalize Ft j*q=z at *
    omega)
   have hv':v=q*10^(19*2^j)+r:=by rw [<- hv,Nat.mul_comm];rfl
   have hs2:2^(j+1)=2*2^j:=by rw [C3o];omega
   refine B5 (fun e=>absurd e (by omega)) (fun _=>?_)
   refine D8 (fun e0=>D8 (fun eW=>?_) (fun eW=>?_)) (fun e0=>?_)
   ·obtain rfl:W=0:=by omega
    obtain rfl:q=0:=by omega
    obtain rfl:v=r:=by omega
    refine ⟨⟨by omega,by omega⟩,?_⟩
    refine ih (W:=0) (gp.mono l1) p1 M2 k2 (by omega) ((hP.mono l1).take (by omega)) (by omega) (by omega) (.inl rfl) hn ?_
    intro A4 n4 c4 e4 g4 h4 x4
    exact ⟨_,_,_,rfl,hK _ _ _ _ _ _ (x4.weak l1)⟩
   all_goals
    have hw:q≠0\/19*2^j<=W:=by omega
    have hsp:=Zo (w:=W) (h:=q) (l:=r) (k:=19*2^j) hlt hw
    rw [<- hv'] at hsp
    have hpl:(pad (19*2^j) r).length=19*2^j:=Ub hlt
    have hle:(pad W v).length=(pad (W-19*2^j) q).length+19*2^j:=by rw [hsp,C36,hpl]
    refine ⟨⟨by omega,by omega⟩,?_⟩
    have e3:(if (0:Int)>B4 ((W:Int)-((19*2^j:Nat):Int)) then (0:Int) else B4 ((W:Int)-((19*2^j:Nat):Int)))=((W-19*2^j:Nat):Int):=by
     rw [B6 (by omega) (by omega)]
     split<;>omega
    rw [e3]
    refine ih (gp.mono l1) p1 M1 k1 (by omega) ((hP.mono l1).take (by omega)) (by omega) (by omega) (by omega) (by omega) ?_
    intro A3 n3 c3 e3 g3 h3 x3
    have hn3:=x3.len
    have l3:=A0 l1 x3.le
    refine ⟨_,_,_,rfl,⟨by omega,by omega⟩,?_⟩
    refine ih (gp.mono l3) x3.priv (M2.mono x3.le) k2 (by omega) ((hP.mono l3).take (by omega)) (by omega) (by omega) (.inr rfl) (by omega) ?_
    intro A4 n4 c4 e4 g4 h4 x4
    refine ⟨_,_,_,rfl,hK _ _ _ e4 g4 _ ?_⟩
    rw [hsp]
    exact (x3.trans x4).weak l1
theorem Fz:∀ (k:Nat) {h:Heap} {K:VP} {PA:Option Addr} {pc:Nat} {l:List UInt8},(∀ c∈l,H9 c)->l.length<=100000000->Pws h PA k->k<=pc->k<=30->(∀ A n c h',h.le h'->n<=c->Mw h' A n (K9 l:Int)->K (.slice A n c) h')->FCall prog K7 #[.string (bs l),.slice PA k pc] h K:=by
 intro k
 induction k using Nat.strongRecOn with
 | _ k ih=>
  intro h K PA pc l hd hl hP hpc hk hK
  refine Ti _ _ _ _ ?_
  unfold Sa
  rw [J9]
  have simple:FCall prog L3 #[.string (bs l)] h (fun r hp=>∃ (A:Option Addr) (n c:Nat),r= .slice A n c/\K (.slice A n c) hp):=by
   refine Ou hd hl ?_
   intro A n c h' l1 hc M
   exact ⟨_,_,_,rfl,hK _ _ _ _ l1 hc M⟩
  refine ⟨fun s hp=>hp=h/\∃ j:Nat,s=[I ((j:Int)-1)]/\j<=k,fun s _=>(iAt s 0+1).toNat,⟨rfl,k,by rw [B6 (by omega) (by omega)],C3l _⟩,?_⟩
  rintro last hp ⟨rfl,j,hs,hj⟩
  obtain rfl:last=(j:Int)-1:=by simpa using hs
  refine B5 (fun h0=>?_) (fun h0=>B5 (fun _=>simple) (fun e=>absurd (show (j:Int)-1<0 by omega) e))
  obtain ⟨i,rfl⟩:∃ i,j=i+1:=⟨j-1,by omega⟩
  have e0:((i+1:Nat):Int)-1=(i:Int):=by omega
  have hpi:0<2^i:=Nat.pow_pos (by decide)
  simp only [e0,C2x,C3e,I5,B5s (show i<=30 by omega)]
  refine B5 (fun e=>absurd e (by omega)) (fun _=>B5 (fun h1=>?_) (fun h1=>?_))
  ·refine ⟨⟨trivial,i,by rw [B6 (by omega) (by omega)],by omega⟩,?_⟩
   simp only [iAt,List.getElem?_cons_zero]
   rw [B6 (by omega) (by omega)]
   omega
  refine B5 (fun e=>absurd e (by omega)) (fun _=>B5 (fun _=>simple) (fun h570=>B5 (fun e=>absurd e (by omega)) (fun _=>?_)))
  have e2:B4 ((l.length:Int)-((19*2^i:Nat):Int))=((l.length-19*2^i:Nat):Int):=by rw [B6 (by omega) (by omega)];omega
  simp only [e2,C2x,L7,C3i,C3e]
  obtain ⟨a,PA',pn,pcc,ha,hc,hpc',Mp⟩:=hP.at (i:=i) (by omega)
  refine ⟨⟨by omega,by omega⟩,⟨by omega,by omega⟩,a,ha,by omega,by omega,_,_,_,by rw [C39];exact hc,?_⟩
  have hpn:=Mp.tenP_le
  have h2i:19*2^i<l.length:=by omega
  have hd1:∀ c∈l.take (l.length-19*2^i),H9 c:=fun c hc=>hd c (List.mem_of_mem_take hc)
  have hd2:∀ c∈l.drop (l.length-19*2^i),H9 c:=fun c hc=>hd c (List.mem_of_mem_drop hc)
  have hl1:(l.take (l.length-19*2^i)).length=l.length-19*2^i:=by rw [C3b];omega
  have hl2:(l.drop (l.length-19*2^i)).length=19*2^i:=by rw [List.length_drop];omega
  have hval:K9 l=K9 (l.take (l.length-19*2^i))*Ft i+K9 (l.drop (l.length-19*2^i)):=by
   have:=Eu (l.take (l.length-19*2^i)) (l.drop (l.length-19*2^i))
   rw [C3f,hl2] at this
   exact this
  have hb:=Xk hd
  have hb1:=Xk hd1
  have hb2:=Xk hd2
  rw [hl1] at hb1
  rw [hl2] at hb2
  refine ih i (by omega) hd1 (by omega) (hP.take (by omega)) (by omega) (by omega) ?_
  intro A1 n1 c1 h1 l1 k1 M1
  refine ⟨_,_,_,rfl,l1,?_⟩
  have hn1:=M1.len_le (by decide) hb1
  refine H1 M1 (Mp.mono l1) k1 hpc' (by omega) (by omega) ?_
  intro A2 n2 c2 h2 l2 k2 M2
  refine ⟨_,_,_,rfl,l2,⟨by omega,by omega⟩,⟨by omega,by omega⟩,?_⟩
  rw [<- C2z] at M2
  have hn2:=M2.len_le (by decide) (Int.lt_of_le_of_lt (Int.ofNat_le.2 (by rw [hval];exact Nat.le_add_right _ _)) hb)
  rw [C3c (by rw [hl2];omega)]
  refine ih i (by omega) hd2 (by omega) ((hP.mono (A0 l1 l2)).take (by omega)) (by omega) (by omega) ?_
  intro A3 n3 c3 h3 l3 k3 M3
  refine ⟨_,_,_,rfl,l3,?_⟩
  have hn3:=M3.len_le (by decide) hb2
  refine Q5 (M2.mono l3) M3 k2 k3 (by omega) (by omega) ?_
  intro A4 n4 c4 h4 l4 k4 M4
  refine ⟨_,_,_,rfl,l4,hK _ _ _ _ (A0 l1 (A0 l2 (A0 l3 l4))) k4 ?_⟩
  rw [<- Int.natCast_add,<- hval] at M4
  exact M4
section
variable {h g:Heap} {K:VP} {A XA:Option Addr} {n c:Nat} {eT:TypeId} {l:List UInt8}
theorem Zc{hs:Heap}{ss:List (Option Addr × Nat × Nat)}{s:Option Addr × Nat × Nat}(h3:∀ i s,ss[i]? = some s->s.2.1<=s.2.2/\Mw hs s.1 s.2.1 (Ft i:Int))(h4:s.2.1<=s.2.2/\Mw hs s.1 s.2.1 (Ft ss.length:Int)):∀ i t,(ss++[s])[i]? = some t->t.2.1<=t.2.2/\Mw hs t.1 t.2.1 (Ft i:Int):=by
 intro i t e
 by_cases hi:i<ss.length
 ·rw [List.getElem?_append_left hi] at e;exact h3 i t e
 ·rw [List.getElem?_append_right (by omega)] at e
  by_cases h0:i=ss.length
  ·subst h0
   simp at e
   subst e;exact h4
  ·rw [List.getElem?_eq_none (by simp;omega)] at e;cases e
theorem Vn{hs:Heap}{b:Nat}{e:TypeId}: ∀ i (t:Option Addr × Nat × Nat),[((some ⟨b,0,none⟩:Option Addr),1,1)][i]? = some t->t.2.1<=t.2.2/\Mw (hs.put b (.cells #[U 10000000000000000000] e)) t.1 t.2.1 (Ft i:Int):=by
 intro i t e0
 rcases i with _|i
 ·simp at e0
  subst e0
  refine ⟨C3l _,[10000000000000000000],rfl,SlI.new _ _ _ _ _,?_,?_,?_⟩
  ·intro x hx;simp at hx;subst hx;decide
  ·unfold Norm;simp
  ·rw [A7d];simp [val]
 ·simp at e0
theorem Qh(hd:∀ c∈l,H9 c)(hl:l.length<=100000000)(hK:∀ A n c h',h.le h'->n<=c->Mw h' A n (K9 l:Int)->K (.slice A n c) h'):FCall prog Eh #[.string (bs l)] h K:=by
 refine Th _ ?_
 unfold Rz
 rw [J9]
 refine B5 (fun h5=>?_) (fun _=>?_)
 ·refine Y8 O1 rfl ?_
  intro b1 hb1
  refine ⟨_,_,_,rfl,?_⟩
  refine Ci A3o (Priv.nil _ _ _ none) rfl rfl (by omega) (by omega) ?_
  intro A1 c1 h1 g1 lg1 p1
  refine ⟨fun s hp=>∃ (ss:List (Option Addr × Nat × Nat)) (PA:Option Addr) (k pc:Nat) (g:Heap),s=[.slice PA k pc]/\Priv hp g Dv 1 PA k pc (ss.map slT)/\ss.length=k/\0<k/\h.le g/\(∀ i s,ss[i]? = some s->s.2.1<=s.2.2/\Mw g s.1 s.2.1 (Ft i:Int))/\2^(k-1)<=l.length,fun s _=>match s with|[.slice _ n _]=>l.length-n|_=>0,⟨[(some ⟨b1,0,none⟩,1,1)],A1,1,c1,g1,rfl,p1,rfl,by omega,A0 (Heap.le_put _ hb1) lg1,fun i s e=>⟨(Vn (hs:=h) (b:=b1) (e:=C0) i s e).1,(Vn (hs:=h) (b:=b1) (e:=C0) i s e).2.mono lg1⟩,by simp;omega⟩,?_⟩
  rintro PA k pc hp ⟨ss,PA',k',pc',g,hs,p,hk,hk0,lg,hw,hkl⟩
  simp only [C3s,C3n,and_true] at hs
  obtain ⟨rfl,rfl,rfl⟩:=hs
  have hk27:k-1<27:=by
   by_cases hc:k-1<27
   ·exact hc
   ·have:2^27<=2^(k-1):=C31 (by decide) (by omega)
    have:(2:Nat)^27=134217728:=by decide
    omega
  rw [C2x,B5s (show k<=30 by omega)]
  have e1:B4 ((k:Int)-1)=((k-1:Nat):Int):=by rw [B6 (by omega) (by omega)];omega
  have hPg:Pws hp PA k:=⟨ss,hk,p.slV,fun i s e=>⟨(hw i s e).1,(hw i s e).2.mono p.le⟩⟩
  refine B5 (fun e=>absurd e (by omega)) (fun _=>B5 (fun h6=>?_) (fun h6=>?_))
  ·obtain ⟨a,ha,hc⟩:=p.slV.at (i:=k-1) (by rw [C3g];omega)
   rw [C3p] at hc
   obtain ⟨h4,M⟩:=hw (k-1) (ss[k-1]'(by omega)) (C2y (by omega))
   generalize ss[k-1]'(by omega)=s at *
   rw [e1,C2x,C39]
   refine ⟨a,ha,by omega,by omega,_,_,_,hc,?_⟩
   have hlen:=M.tenP_le
   refine p.call ?_
   refine H1 M M h4 h4 (by omega) (by omega) ?_
   intro A2 m2 c2 g2 l2 k2 M2 h2 p2
   refine ⟨_,_,_,rfl,?_⟩
   refine Ci A3o p2 rfl rfl (by omega) (by omega) ?_
   intro A3 c3 h3 g3 l3 p3
   have hm:2^k=2*2^(k-1):=by
    obtain ⟨i,rfl⟩:∃ i,k=i+1:=⟨k-1,by omega⟩
    rw [C3o];simp;omega
   have hkk:k<2^k:=Nat.lt_two_pow_self
   refine ⟨⟨ss++[(A2,m2,c2)],A3,k+1,c3,g3,rfl,?_,by simp;omega,by omega,A0 lg (A0 l2 l3),?_,?_⟩,?_⟩
   ·rw [List.map_append];exact p3
   ·refine Zc (fun i s e=>⟨(hw i s e).1,(hw i s e).2.mono (A0 l2 l3)⟩) ⟨k2,?_⟩
    rw [hk,show Ft k=Ft (k-1)*Ft (k-1) by rw [<- Zb];congr 1;omega,C2z]
    exact M2.mono l3
   ·rw [Nat.add_sub_cancel];omega
   ·show l.length-(k+1)<l.length-k
    omega
  ·refine Fz k hd hl hPg p.2.1 (by omega) ?_
   intro A n c h' l1 hc M
   exact ⟨_,_,_,rfl,hK _ _ _ _ (A0 lg (A0 p.le l1)) hc M⟩
 ·refine Fz 0 hd hl ⟨[],rfl,SlV.nil,by simp⟩ (by omega) (by omega) ?_
  intro A n c h' l1 hc M
  exact ⟨_,_,_,rfl,hK _ _ _ _ l1 hc M⟩
theorem Ua(hd:∀ c∈l,H9 c)(hl:l.length<=100000000)(hK:∀ A n c h',h.le h'->ZI h' false A n c (K9 l:Int)->K (.agg #[.bool false,.slice A n c]) h'):FCall prog Pi #[.string (bs l)] h K:=by
 refine B07 _ ?_
 unfold B4u
 refine Qh hd hl ?_
 intro A n c h' l1 hc M
 refine ⟨_,_,_,rfl,hK _ _ _ _ l1 ⟨hc,?_,?_⟩⟩
 ·rw [C2w];exact M
 ·symm;rw [decide_eq_false_iff_not];omega
end
theorem Priv.le_put'{h g:Heap}{e:TypeId}{s:Nat}{A:Option Addr}{n c:Nat}{xs:List Value}(p:Priv h g e s A n c xs){b:Nat}(hb:h b=none)(o:Obj):g.le (g.put b o):=by
 intro k o' hk
 have hne:k≠b:=by
  rintro rfl
  rw [p.le k o' hk] at hb;cases hb
 rw [B7 _ _ hne];exact hk
theorem A70{n:Int}(h0:9223372036854775808<=n)(h1:n<18446744073709551616):B4 n=n-18446744073709551616:=by
 unfold B4 IntKind.wrap
 simp only [IntKind.signed,IntKind.bits]
 have e:n%18446744073709551616=n:=by omega
 simp only [show (2^64:Int)=18446744073709551616 from rfl,show (2^(64-1):Int)=9223372036854775808 from rfl,e]
 rw [if_pos (by simp;omega)]
section
variable {h g:Heap} {K:VP} {A XA:Option Addr} {n c:Nat} {eT:TypeId} {l:List UInt8}
theorem B91{v xn:Nat}(hv:(v:Int)<b64^xn):(dd v).length<=20*xn:=by
 refine O8.2 ?_
 rw [Nat.pow_mul]
 have h1:((v:Nat):Int)<((18446744073709551616^xn:Nat):Int):=by rw [C35];exact hv
 exact C3m (Int.ofNat_lt.1 h1) (C3k (by decide) _)
theorem Fe{xn xc v:Nat}(gp:Gp g)(p:Priv h g eT 1 A n c (yv l))(M:Mw g XA xn (v:Int))(hxc:xn<=xc)(hx:xn<=10000000)(hn:n<=200000000)
 (hK:∀ A' n' c' e3 g' h',Ext g eT A n c l (L9 v) A' n' c' e3 g' h'->K (.slice A' n' c') h'):FCall prog V7 #[.slice A n c,.slice XA xn xc] h K:=by
 have h0:=M.len_zero (by decide)
 refine Sf _ _ _ _ _ _ ?_
 unfold Oo
 refine D8 (fun e=>?_) (fun e=>?_)
 ·obtain rfl:v=0:=by omega
  refine Jv (ch:=48) rfl p (by omega) ?_
  intro A' n' c' e2 g' h' x
  exact hK _ _ _ _ _ _ x
 ·have hv0:v≠0:=by omega
  refine D8 (fun e1=>?_) (fun e1=>?_)
  ·obtain ⟨xs,hxl,sx,dx,nx,hxv⟩:=M
   obtain ⟨w,rfl⟩:∃ w,xs=[w]:=by
    rcases xs with _|⟨w,_|⟨w',r⟩⟩
    ·simp at hxl;omega
    ·exact ⟨w,rfl⟩
    ·simp at hxl;omega
   rw [T7] at hxv
   subst hxv
   refine (SlI.mono p.le sx).load hxl (by omega) (by omega) ?_
   have hw:=dx v (by simp)
   refine Fd (gp.mono p.le) p (by have:(v:Int)<18446744073709551616:=hw.2;omega) (by omega) ?_
   intro A' n' c' e2 g' h' x
   exact ⟨_,_,_,rfl,hK _ _ _ _ _ _ x⟩
  ·have hdl:=B91 (M.lt (by decide))
   have hpl:(pad 0 v).length<=200000000:=by rw [A3y];omega
   refine Y8 O1 rfl ?_
   intro b1 hb1
   refine ⟨_,_,_,rfl,?_⟩
   have p1:=p.put hb1 (.cells #[U 10000000000000000000] C0)
   have l1:=p.le_put' hb1 (.cells #[U 10000000000000000000] C0)
   have w1:=fun i s e=>Vn (hs:=g) (b:=b1) (e:=C0) i s e
   generalize h.put b1 (Obj.cells #[U 10000000000000000000] C0)=h1 at *
   generalize g.put b1 (Obj.cells #[U 10000000000000000000] C0)=g1 at *
   refine Y8 A3o rfl ?_
   intro b2 hb2
   refine ⟨_,_,_,rfl,?_⟩
   have split:∀ {hp:Heap} {ss:List (Option Addr × Nat × Nat)} {PA:Option Addr} {k pc:Nat} {gp1 gp2:Heap},Priv hp gp1 Dv 1 PA k pc (ss.map slT)->Priv gp1 gp2 eT 1 A n c (yv l)->ss.length=k->g.le gp2->(∀ i s,ss[i]? = some s->s.2.1<=s.2.2/\Mw gp2 s.1 s.2.1 (Ft i:Int))->k<=26->
    FCall prog G9 #[.slice A n c,.slice XA xn xc,I (0:Int),.slice PA k pc] hp (fun r hp9=>∃ (A1:Option Addr) (n1 c1:Nat),r= .slice A1 n1 c1/\K (.slice A1 n1 c1) hp9):=by
    intro hp ss PA k pc gp1 gp2 pP pT hk lg hw hk24
    obtain ⟨g3,pT3,pP3⟩:=pP.swap pT
    have l3:=A0 lg pP3.le
    refine Ov k (W:=0) (gp.mono l3) pT3 (M.mono l3) hxc hx ⟨ss,hk,pP3.slV,fun i s e=>⟨(hw i s e).1,(hw i s e).2.mono pP3.le⟩⟩ pP3.2.1 hk24 (.inl rfl) (by omega) ?_
    intro A' n' c' e2 g' h' x
    refine ⟨_,_,_,rfl,hK _ _ _ e2 g' _ ?_⟩
    rw [A3y,<- V8 hv0] at x
    exact x.weak l3
   refine ⟨fun s hp=>∃ (ss:List (Option Addr × Nat × Nat)) (PA:Option Addr) (k pc:Nat) (gp1 gp2:Heap),s=[.slice PA k pc]/\Priv hp gp1 Dv 1 PA k pc (ss.map slT)/\Priv gp1 gp2 eT 1 A n c (yv l)/\ss.length=k/\0<k/\g.le gp2/\(∀ i s,ss[i]? = some s->s.2.1<=s.2.2/\Mw gp2 s.1 s.2.1 (Ft i:Int))/\2^(k-1)<=2*xn,fun s _=>match s with|[.slice _ n _]=>xn-n|_=>0,⟨[(some ⟨b1,0,none⟩,1,1)],_,1,1,h1,g1,rfl,⟨by simp,by simp,.inr ⟨b2,[.slice (some ⟨b1,0,none⟩) 1 1],rfl,hb2,rfl,by simp,by simp⟩⟩,p1,rfl,by omega,l1,w1,by simp;omega⟩,?_⟩
   rintro PA k pc hp ⟨ss,PA',k',pc',gp1,gp2,hs,pP,pT,hk,hk0,lg,hw,hkx⟩
   simp only [C3s,C3n,and_true] at hs
   obtain ⟨rfl,rfl,rfl⟩:=hs
   have hk24:k<=26:=by
    by_cases hc:k<=26
    ·exact hc
    ·have h1:2^26<=2^(k-1):=C31 (by decide) (by omega)
     have h2:(2:Nat)^26=67108864:=by decide
     omega
   refine B5 (fun h30=>?_) (fun _=>split pP pT hk lg hw hk24)
   have e1:B4 ((k:Int)-1)=((k-1:Nat):Int):=by rw [B6 (by omega) (by omega)];omega
   obtain ⟨a,ha,hc⟩:=pP.slV.at (i:=k-1) (by rw [C3g];omega)
   rw [C3p] at hc
   obtain ⟨h4,Mk⟩:=hw (k-1) (ss[k-1]'(by omega)) (C2y (by omega))
   generalize ss[k-1]'(by omega)=s at *
   simp only [e1,C2x,C39]
   refine ⟨a,ha,by omega,by omega,_,_,_,hc,?_⟩
   have hge:=Mk.tenP_ge
   have hle:=Mk.tenP_le
   have e2:B4 (2*(s.2.1:Int))=2*(s.2.1:Int):=B6 (by omega) (by omega)
   rw [e2]
   refine B5 (fun h5=>?_) (fun _=>split pP pT hk lg hw hk24)
   refine ⟨a,ha,by omega,by omega,_,_,_,hc,?_⟩
   refine pP.call (pT.call ?_)
   refine H1 Mk Mk h4 h4 (by omega) (by omega) ?_
   intro A2 m2 c2 g2 l2 k2 M2 gp1' pT' hp' pP'
   refine ⟨_,_,_,rfl,?_⟩
   refine Ci A3o pP' rfl rfl (by omega) (by omega) ?_
   intro A3 c3 h3 g3 l3 p3
   obtain ⟨g4,l4,pT4⟩:=pT'.after l3
   have hm:2^k=2*2^(k-1):=by
    obtain ⟨i,rfl⟩:∃ i,k=i+1:=⟨k-1,by omega⟩
    rw [C3o];simp;omega
   have hkk:k<2^k:=Nat.lt_two_pow_self
   refine ⟨⟨ss++[(A2,m2,c2)],A3,k+1,c3,g3,g4,rfl,?_,pT4,by simp;omega,by omega,A0 lg (A0 l2 l4),?_,?_⟩,?_⟩
   ·rw [List.map_append];exact p3
   ·refine Zc (fun i s e=>⟨(hw i s e).1,(hw i s e).2.mono (A0 l2 l4)⟩) ⟨k2,?_⟩
    rw [hk,show Ft k=Ft (k-1)*Ft (k-1) by rw [<- Zb];congr 1;omega,C2z]
    exact M2.mono l4
   ·rw [Nat.add_sub_cancel];omega
   ·show xn-(k+1)<xn-k
    omega
theorem B1f{z:Int}{s:Bool}{xn xc m:Nat}(i:ZI h s XA xn xc z)(hz:ZB m z)(hm:m<=100000000):xn<=10000000:=by
 obtain ⟨k,hk⟩:∃ k,k=10000000:=⟨_,rfl⟩
 rw [<- hk]
 refine i.mag.len_le (by decide) ?_
 rw [Ik]
 have h1:(z.natAbs:Int)<2^m:=by
  have:((z.natAbs:Nat):Int)<((2^m:Nat):Int):=Int.ofNat_lt.2 hz
  simpa using this
 have h2:=C9 (B:=2) (by decide) (show m<=64*k by omega)
 exact Int.lt_of_lt_of_le h1 h2
theorem Fn{s:Bool}{xn xc:Nat}{z:Int}(gp:Gp g)(p:Priv h g eT 1 A n c (yv l))(i:ZI g s XA xn xc z){m:Nat}(hz:ZB m z)(hm:m<=100000000)(hn:n<=100000000)
 (hK:∀ A' n' c' e3 g' h',Ext g eT A n c l (Jk z) A' n' c' e3 g' h'->K (.slice A' n' c') h'):FCall prog Gf #[.agg #[.bool s,.slice XA xn xc],.slice A n c] h K:=by
 have hx:=B1f i hz hm
 refine A6a _ _ _ _ _ _ _ ?_
 unfold B04
 refine Br.of (fun e=>?_) (fun e=>?_)
 ·have hneg:z<0:=by have:=i.sgn;rw [e] at this;simpa using this.symm
  rw [A3m hneg] at hK
  refine Jv (ch:=45) rfl p (by omega) ?_
  intro A1 n1 c1 e1 g1 hp1 x1
  have:=x1.len
  refine Fe (gp.mono x1.le) x1.priv (i.mag.mono x1.le) i.cap hx (by simp at this;omega) ?_
  intro A2 n2 c2 e2 g2 hp2 x2
  exact ⟨_,_,_,rfl,hK _ _ _ _ _ _ (x1.trans x2)⟩
 ·have hneg:¬ z<0:=by have:=i.sgn;rw [e] at this;simpa using this.symm
  rw [Pf hneg] at hK
  refine Fe gp p i.mag i.cap hx (by omega) ?_
  intro A2 n2 c2 e2 g2 hp2 x2
  exact ⟨_,_,_,rfl,hK _ _ _ _ _ _ x2⟩
theorem Ym{s:Bool}{xn xc:Nat}{z:Int}(gp:Gp h)(i:ZI h s XA xn xc z){m:Nat}(hz:ZB m z)(hm:m<=100000000)(hK:K (.string (bs (Jk z))) h):FCall prog Qv #[.agg #[.bool s,.slice XA xn xc]] h K:=by
 refine FCall.pure (A67 _ _ _ _ ?_)
 unfold A9y
 refine Fn (l:=[]) (eT:=F8) gp (Priv.nil _ _ _ _) i hz hm (by omega) ?_
 intro A' n' c' e2 g' h' x
 refine ⟨_,_,_,rfl,?_⟩
 have hx:=x.len
 refine Jm Fb.und Cr T8 x.priv.slV (by simpa using hx) ⟨_,rfl,?_⟩
 exact ⟨A0 x.le x.priv.le,hK⟩
theorem A1g{s:Bool}{xn xc:Nat}{z:Int}(i:ZI h s XA xn xc z)(hK1: -9223372036854775808<=z->z<9223372036854775808->K (.tuple #[I z,.bool true]) h)(hK0:¬ (-9223372036854775808<=z/\z<9223372036854775808)->K (.tuple #[I 0,.bool false]) h):FCall prog Wn #[.agg #[.bool s,.slice XA xn xc]] h K:=by
 have hz:=i.zeroIff
 have cx:=W4 i.sgn
 refine B02 _ _ _ _ ?_
 unfold B4s
 refine D8 (fun e=>?_) (fun e=>?_)
 ·obtain rfl:z=0:=by omega
  exact hK1 (by omega) (by omega)
 ·obtain ⟨xs,hxl,sx,dx,nx,hxv⟩:=i.mag
  have g0:=L6 dx 0
  refine sx.load hxl (by omega) (by omega) ?_
  rw [show ((0:Int)).toNat=0 from rfl]
  refine B5 (fun e1=>?_) (fun e1=>?_)
  ·refine hK0 ?_
   have hge:=i.mag.ge (by decide) (by omega)
   have h2:b64^1<=b64^(xn-1):=C9 (by decide) (by omega)
   have h3:b64^1=18446744073709551616:=by decide
   omega
  ·obtain ⟨w,rfl⟩:∃ w,xs=[w]:=by
    rcases xs with _|⟨w,_|⟨w',r⟩⟩
    ·simp at hxl;omega
    ·exact ⟨w,rfl⟩
    ·simp at hxl;omega
   rw [T7] at hxv
   have hw:[w].getD 0 0=w:=rfl
   rw [hw] at g0 ⊢
   rcases cx with ⟨rfl,hx⟩|⟨rfl,hx⟩
   ·refine Br.of (fun _=>?_) (fun e2=>by cases e2)
    refine B5 (fun e3=>?_) (fun e3=>?_)
    ·have:B4 (B9 (0-w))=z:=by rw [E7,A70 (by omega) (by omega)];omega
     rw [this];exact hK1 (by omega) (by omega)
    ·refine Br.of (fun e4=>by cases e4) (fun _=>?_)
     exact hK0 (by omega)
   ·refine Br.of (fun e2=>by cases e2) (fun _=>?_)
    refine Br.of (fun _=>?_) (fun e4=>by cases e4)
    refine B5 (fun e3=>?_) (fun e3=>?_)
    ·have:B4 w=z:=by rw [B6 (by omega) (by omega)];omega
     rw [this];exact hK1 (by omega) (by omega)
    ·exact hK0 (by omega)
end
theorem B5q(q:Rat)(f:Int):(q-f).num=q.num-f*q.den/\(q-f).den=q.den:=by
 have hc:C3a (q.num-f*q.den).natAbs q.den=1:=by
  have h1:C34 (q.num-f*q.den) q.den=C34 q.num q.den:=Int.gcd_sub_mul_right_left _ _ _
  have h2:C34 q.num q.den=1:=by
   have:=q.reduced
   unfold Nat.Coprime at this
   unfold C34
   simpa using this
  rw [h2] at h1
  unfold C34 at h1
  simpa using h1
 have e:q-f=⟨q.num-f*q.den,q.den,q.den_nz,hc⟩:=by
  rw [Rat.sub_def',Rat.mk_eq_mkRat];simp
 rw [e];exact ⟨rfl,rfl⟩
theorem A8c(a b:Rat):(a*b).num=a.num.tdiv (C3a a.num.natAbs b.den:Nat)*b.num.tdiv (C3a b.num.natAbs a.den:Nat)/\(a*b).den=a.den/(C3a b.num.natAbs a.den)*(b.den/(C3a a.num.natAbs b.den)):=by
 show (Rat.mul a b).num=_/\(Rat.mul a b).den=_
 delta Rat.mul
 simp only [Int.divExact_eq_tdiv,Nat.divExact_eq_div,and_self]
theorem Uq(a b:Rat)(h:a.den.gcd b.den=1):(a+b).num=a.num*b.den+b.num*a.den/\(a+b).den=a.den*b.den:=by
 show (Rat.add a b).num=_/\(Rat.add a b).den=_
 delta Rat.add
 simp only [h,dif_pos,and_self]
theorem Up(a b:Rat)(h:a.den.gcd b.den≠1){g r:Nat}{z:Int}(hg:g=a.den.gcd b.den)(hz:z=a.num*(b.den/g:Nat)+b.num*(a.den/g:Nat))(hr:r=z.natAbs.gcd g):(a+b).num=z.tdiv r/\(a+b).den=a.den/g*(b.den/r):=by
 subst hg hz
 have hd:r∣b.den:=by rw [hr];exact Nat.dvd_trans (C38 ..) (C38 ..)
 show (Rat.add a b).num=_/\(Rat.add a b).den=_
 delta Rat.add
 simp only [h,dif_neg,not_false_eq_true]
 rw [Rat.maybeNormalize_eq]
 subst hr
 refine ⟨?_,Nat.mul_div_assoc _ hd⟩
 simp only [Int.divExact_eq_tdiv]
theorem Kz(a:Rat)(z:Int):(a+z).num=z*a.den+a.num/\(a+z).den=a.den:=by
 have:=B5q a (-z)
 rw [Rat.intCast_neg] at this
 have e:a - -(z:Rat)=a+z:=by grind
 rw [e] at this
 refine ⟨by rw [this.1,Int.neg_mul];omega,this.2⟩
theorem Ui{q:Rat}(h:q.den=1):q=(q.num:Rat):=by
 apply Rat.ext
 ·simp
 ·simpa using h
abbrev dgt(c:UInt8):Bool:=decide (H9 c)
theorem Jn(l:List UInt8):∀ c∈l.takeWhile dgt,H9 c:=by
 induction l with
 | nil=>simp
 | cons d r ih=>
  intro c hc
  by_cases hd:H9 d
  ·simp [hd] at hc
   rcases hc with rfl|hc
   ·exact hd
   ·exact ih c hc
  ·simp [hd] at hc
def B25(l:List UInt8):Bool:=decide ([45] <+: l)
def Cv(l:List UInt8):List UInt8:=if [45] <+: l then l.drop 1 else l
theorem A3x(l:List UInt8):l=(if B25 l then [45] else [])++Cv l:=by
 unfold B25 Cv
 by_cases h:[45] <+: l
 ·obtain ⟨t,rfl⟩:=h;simp
 ·simp [h]
theorem A7y(l:List UInt8):B25 l=(l.head? == some 45):=by
 unfold B25
 cases l with
 | nil=>simp
 | cons c r=>
  rw [C3h,C3t,decide_eq_true_iff,beq_iff_eq,C37]
  constructor
  ·rintro ⟨t,e⟩;simp at e;exact e.1.symm
  ·rintro rfl;exact ⟨r,rfl⟩
theorem Form.parts{l:List UInt8}{neg:Bool}{a b:List UInt8}(f:Form l neg a b):neg=B25 l/\a=(Cv l).takeWhile dgt/\(if b=[] then [] else 47::b)=(Cv l).dropWhile dgt:=by
 have hn:neg=B25 l:=by rw [A7y];exact f.head
 have e:=A3x l
 rw [<- hn] at e
 have e2:=e.symm.trans f.eq
 rw [List.append_assoc] at e2
 have e3:=List.append_cancel_left e2
 have hr:∀ c,(if b=[] then [] else 47::b:List UInt8).head? = some c->¬ H9 c:=by
  intro c hc
  split at hc
  ·simp at hc
  ·simp at hc;subst hc;decide
 have:=Dy f.da hr
 rw [<- e3] at this
 exact ⟨hn,this.1.symm,this.2.symm⟩
section
variable {h g:Heap} {K:VP} {l:List UInt8}
theorem Ie(hl:l.length<=1000000000)(hK:K (.tuple #[.string (bs (l.takeWhile dgt)),.string (bs (l.dropWhile dgt))]) h):FCall prog W5 #[.string (bs l)] h K:=by
 refine Xv _ ?_
 unfold Ut
 simp only [J9]
 refine ⟨fun L hp=>L=[I (((l.takeWhile dgt).length:Nat):Int)]/\hp=h,?_,?_⟩
 ·refine ⟨fun L hp=>∃ k:Nat,L=[I k]/\hp=h/\k<=l.length/\(∀ c∈l.take k,H9 c),fun L _=>l.length-(iAt L 0).toNat,⟨0,rfl,rfl,by omega,by simp⟩,?_⟩
  rintro n hp ⟨k,hL,rfl,hk,hd⟩
  obtain rfl:=sI1 hL
  have stop:(∀ c,(l.drop k).head? = some c->¬ H9 c)->[I (k:Int)]=[I (((l.takeWhile dgt).length:Nat):Int)]/\hp=hp:=by
   intro hs
   have:=Dy hd hs
   rw [C3f] at this
   refine ⟨?_,rfl⟩
   rw [this.1,C3b,C3q hk]
  refine B5 (fun h1=>?_) (fun h1=>?_)
  ·have hkl:k<l.length:=by omega
   have hget:(bs l)[(k:Int).toNat]? = some l[k]:=by rw [C2x,Oi,C2y hkl]
   have hh:(l.drop k).head? = some l[k]:=by rw [List.head?_drop,C2y hkl]
   refine ⟨l[k],⟨by omega,hget⟩,B5 (fun h2=>?_) (fun h2=>?_)⟩
   ·refine ⟨l[k],⟨by omega,hget⟩,B5 (fun h3=>?_) (fun h3=>?_)⟩
    ·rw [B6 (by omega) (by omega)]
     refine ⟨⟨k+1,rfl,rfl,by omega,?_⟩,by simp only [iAt,List.getElem?_cons_zero];omega⟩
     rw [List.take_succ_eq_append_getElem hkl]
     intro c hc
     rcases List.mem_append.1 hc with h4|h4
     ·exact hd c h4
     ·rw [List.mem_singleton.1 h4];exact ⟨by omega,by omega⟩
    ·exact stop (fun c hc=>by rw [hh] at hc;cases hc;intro hd;exact h3 (by have:=hd.2;omega))
   ·exact stop (fun c hc=>by rw [hh] at hc;cases hc;intro hd;exact h2 (by have:=hd.1;omega))
  ·exact stop (fun c hc=>by rw [List.drop_of_length_le (by omega)] at hc;cases hc)
 ·rintro n hp ⟨hL,rfl⟩
  obtain rfl:n=(((l.takeWhile dgt).length:Nat):Int):=by simpa using hL
  have hle:(l.takeWhile dgt).length<=l.length:=(List.takeWhile_sublist _).length_le
  have e1:l.take (l.takeWhile dgt).length=l.takeWhile dgt:=by
   conv=>lhs;rw [<- C33 (p:=dgt) (l:=l)]
   rw [C33,List.prefix_iff_eq_take.1 (List.takeWhile_prefix _)]
   rw [C3b,C3q hle]
  have e2:l.drop (l.takeWhile dgt).length=l.dropWhile dgt:=by
   have h5:l.takeWhile dgt++l.drop (l.takeWhile dgt).length=l.takeWhile dgt++l.dropWhile dgt:=by
    rw [C33]
    conv=>lhs;lhs;rw [<- e1]
    exact C3f _ _
   exact List.append_cancel_left h5
  refine ⟨⟨by omega,by omega⟩,⟨by omega,by omega⟩,?_⟩
  rw [C2x,L7,L7,C3i,C3e,e1,e2,C3c (by rw [<- e2,List.length_drop];omega)]
  exact hK
theorem Dj(a:List UInt8):((bs a).toList==({ data:=#[] }:ByteArray).toList)=decide (a=[]):=Oj a []
theorem A5a(hl:l.length<=1000000000)(hK1:∀ neg a b,Form l neg a b->K (.tuple #[.agg #[.bool neg,.string (bs a),.string (bs b)],.bool true]) h)(hK0:(∀ neg a b,¬ Form l neg a b)->∀ neg a b,K (.tuple #[.agg #[.bool neg,.string (bs a),.string (bs b)],.bool false]) h):FCall prog Wq #[.string (bs l)] h K:=by
 refine B0a _ ?_
 unfold B4x
 refine Te (q:=[45]) ⟨_,_,rfl,?_⟩
 have hpl:(Cv l).length<=l.length:=by unfold Cv;split<;>simp
 show FCall prog W5 #[.string (bs (Cv l))] h _
 refine Ie (by omega) ⟨_,_,rfl,?_⟩
 show Br _ _ _
 have hspl:Cv l=(Cv l).takeWhile dgt++(Cv l).dropWhile dgt:=List.takeWhile_append_dropWhile.symm
 have hda:∀ c∈(Cv l).takeWhile dgt,H9 c:=Jn _
 have hfp:∀ neg a b,Form l neg a b->neg=B25 l/\a=(Cv l).takeWhile dgt/\(if b=[] then [] else 47::b)=(Cv l).dropWhile dgt:=fun neg a b f=>f.parts
 have hl2:=A3x l
 have hal:((Cv l).takeWhile dgt).length<=l.length:=Nat.le_trans (List.takeWhile_sublist _).length_le hpl
 have hrl:((Cv l).dropWhile dgt).length<=l.length:=Nat.le_trans (List.dropWhile_sublist _).length_le hpl
 have hrh:∀ c,((Cv l).dropWhile dgt).head? = some c->¬ H9 c:=fun c hc=>by
  have:=List.head?_dropWhile_not dgt (Cv l)
  rw [hc] at this
  simpa using this
 show Br _ _ _
 have hneg:decide ([45] <+: l)=B25 l:=rfl
 rw [hneg]
 generalize B25 l=neg at *
 generalize (Cv l).takeWhile dgt=a at *
 generalize (Cv l).dropWhile dgt=r at *
 generalize Cv l=t at *
 subst hspl
 have e48:((bs a).toList==({ data:=#[48] }:ByteArray).toList)=decide (a=[48]):=Oj a [48]
 rw [e48,Dj,Dj]
 refine B5 (fun h1=>?_) (fun h1=>?_)
 ·subst h1
  refine Br.not (Br.of (fun hn=>?_) (fun hn=>?_))
  ·subst hn
   refine hK0 ?_ _ _ []
   intro n' a' b' f
   obtain ⟨rfl,rfl,_⟩:=hfp _ _ _ f
   rcases f.ha with h2|h2
   ·exact h2 rfl
   ·cases h2.2.1
  ·subst hn
   by_cases hr:r=[]
   ·rw [decide_eq_true hr]
    subst hr
    refine hK1 false [48] [] ⟨by simpa using hl2,by simpa using hda,by simp,by simp,.inr ⟨rfl,rfl,rfl⟩,by simp,by simp⟩
   ·rw [decide_eq_false hr]
    refine hK0 ?_ _ _ []
    intro n' a' b' f
    obtain ⟨rfl,rfl,h3⟩:=hfp _ _ _ f
    rcases f.ha with h2|h2
    ·exact h2 rfl
    ·rw [h2.2.2] at h3;exact hr (by simpa using h3.symm)
 ·refine ⟨fun L hp=>L=[.bool (decide (a=[]\/a.head? = some 48))]/\hp=h,?_,?_⟩
  ·refine B5 (fun h2=>⟨by simp [h2],rfl⟩) (fun h2=>?_)
   obtain ⟨c,r2,rfl⟩:=C30 h2
   refine ⟨c,⟨by omega,by rw [Oi];rfl⟩,?_,rfl⟩
   congr 2
   rw [C3t,beq_iff_eq,decide_eq_true_iff]
   simp only [reduceCtorEq,false_or,C3h,C37]
   constructor
   ·intro e;apply UInt8.toNat_inj.1;show c.toNat=48;omega
   ·rintro rfl;rfl
  rintro t31 hp ⟨hL,rfl⟩
  obtain rfl:t31=decide (a=[]\/a.head? = some 48):=by simpa using hL
  refine B5 (fun h2=>?_) (fun h2=>?_)
  ·refine hK0 ?_ _ _ []
   intro n' a' b' f
   obtain ⟨rfl,rfl,_⟩:=hfp _ _ _ f
   rcases h2 with h2|h2
   ·exact f.ne h2
   ·rcases f.ha with h3|h3
    ·exact h3 h2
    ·exact h1 h3.1
  ·have hane:a≠[]:=fun e=>h2 (.inl e)
   have hah:a.head? ≠ some 48:=fun e=>h2 (.inr e)
   refine B5 (fun h3=>?_) (fun h3=>?_)
   ·subst h3
    exact hK1 neg a [] ⟨by simpa using hl2,hda,by simp,hane,.inl hah,by simp,by simp⟩
   ·obtain ⟨c,r2,rfl⟩:=C30 h3
    refine ⟨c,⟨by omega,by rw [Oi];rfl⟩,R2 (fun h4=>?_) (fun h4=>?_)⟩
    ·refine hK0 ?_ _ _ []
     intro n' a' b' f
     obtain ⟨rfl,rfl,h5⟩:=hfp _ _ _ f
     by_cases hb:b'=[]
     ·simp [hb] at h5
     ·rw [if_neg hb] at h5
      simp at h5
      exact h4 (by rw [<- h5.1];rfl)
    ·have hc:c=47:=by apply UInt8.toNat_inj.1;show c.toNat=47;omega
     subst hc
     refine ⟨⟨by omega,by rw [J9];simp;omega⟩,?_⟩
     rw [L7,show ((1:Int)).toNat=1 from rfl,J9,C3c (by simp),List.drop_succ_cons,C3i]
     refine Ie (by simp at hrl;omega) ⟨_,_,rfl,?_⟩
     have hsp2:r2=r2.takeWhile dgt++r2.dropWhile dgt:=List.takeWhile_append_dropWhile.symm
     have hdb:∀ c∈r2.takeWhile dgt,H9 c:=Jn _
     have hbp:∀ b':List UInt8,(∀ c∈b',H9 c)->b'=r2->r2.takeWhile dgt=b'/\r2.dropWhile dgt=[]:=by
      intro b' hd e
      subst e
      have:=Dy (r:=[]) hd (by simp)
      simpa using this
     generalize r2.takeWhile dgt=b at *
     generalize r2.dropWhile dgt=s at *
     have no:(s≠[]\/b=[]\/b.head? = some 48\/b=[49])->∀ neg' a' b',¬ Form (((if neg=true then [45] else [])++(a++47::r2))) neg' a' b':=by
      rintro hbad n' a' b' f
      rw [<- hl2] at f
      obtain ⟨rfl,rfl,h5⟩:=hfp _ _ _ f
      by_cases hb:b'=[]
      ·simp [hb] at h5
      ·rw [if_neg hb] at h5
       simp at h5
       obtain ⟨e6,e7⟩:=hbp b' f.db h5
       subst e6
       rcases hbad with h6|h6|h6|h6
       ·exact h6 e7
       ·exact hb h6
       ·exact f.hb h6
       ·exact f.b1 h6
     rw [Dj,Dj]
     have e49:((bs b).toList==({ data:=#[49] }:ByteArray).toList)=decide (b=[49]):=Oj b [49]
     rw [e49]
     refine B5 (fun h6=>?_) (fun h6=>hK0 (by rw [hl2];exact no (.inl h6)) _ _ _)
     subst h6
     rw [List.append_nil] at hsp2
     subst hsp2
     refine Br.not (B5 (fun h7=>hK0 (by rw [hl2];exact no (.inr (.inl h7))) _ _ _) (fun h7=>?_))
     obtain ⟨c,r3,rfl⟩:=C30 h7
     refine ⟨c,⟨by omega,by rw [Oi];rfl⟩,R2 (fun h8=>?_) (fun h8=>?_)⟩
     ·by_cases h9:c::r3=[49]
      ·rw [decide_eq_true h9]
       exact hK0 (by rw [hl2];exact no (.inr (.inr (.inr h9)))) _ _ _
      ·rw [decide_eq_false h9]
       refine hK1 neg a (c::r3) ⟨by simpa using hl2,hda,hdb,hane,.inl hah,?_,h9⟩
       intro e;simp at e;exact h8 (by rw [e];rfl)
     ·have hh:(c::r3).head? = some 48:=by
       simp only [C3h,C37]
       apply UInt8.toNat_inj.1;show c.toNat=48;omega
      exact hK0 (by rw [hl2];exact no (.inr (.inr (.inl hh)))) _ _ _
end
theorem B1k{q:Rat}(h:q.den=1):M0 q=Jk q.num:=by unfold M0;rw [if_pos h,List.append_nil]
theorem A7a{q:Rat}(h:q.den≠1):M0 q=Jk q.num++[47]++Jk (q.den:Int):=by
 unfold M0;rw [if_neg h,Pf (i:=(q.den:Int)) (by omega),C2w];simp
section
variable {h g:Heap} {K:VP} {l:List UInt8}
end
structure RQ (h:Heap) (w:QV) (q:Rat):Prop where
 num:ZI h w.s w.A w.n w.c q.num
 den:ZI h w.s2 w.A2 w.n2 w.c2 (if q.den=1 then 0 else (q.den:Int))
theorem ZB.gcd{m:Nat}{x y:Int}(hy:y≠0)(h:ZB m y):ZB m (C34 x y:Int):=by
 refine h.le ?_
 rw [C2w]
 exact Nat.le_of_dvd (by omega) (Int.natAbs_dvd_natAbs.2 (Int.gcd_dvd_right x y))
section
variable {h h':Heap} {K:VP} {A B:Option Addr} {n c n' c':Nat} {s s':Bool} {x y z:Int} {m:Nat} {p q:Rat} {a b w:QV} {l:List UInt8}
theorem RQ.mono(hl:h.le h')(i:RQ h w q):RQ h' w q:=⟨i.num.mono hl,i.den.mono hl⟩
theorem RQ.whole(i:ZI h s A n c z):RQ h ⟨s,A,n,c,false,none,0,0⟩ (z:Rat):=⟨by simpa using i,by simpa using ZI.zero⟩
theorem RQ.zero:RQ h ⟨false,none,0,0,false,none,0,0⟩ 0:=⟨ZI.zero,ZI.zero⟩
theorem R8(i:RQ h w q)(hK:K (.bool (decide (q.den=1))) h):FCall prog E9 #[.agg #[.bool w.s2,.slice w.A2 w.n2 w.c2]] h K:=by
 refine F9 i.den ?_
 have:=q.den_nz
 have e:decide ((if q.den=1 then (0:Int) else (q.den:Int))=0)=decide (q.den=1):=by
  rw [decide_eq_decide];split<;>omega
 rw [e];exact hK
theorem R6(i:ZI h s A n c z)(j:ZI h s' B n' c' y)(h1:q.num=z)(h2:(q.den:Int)=y)(hK:∀ w,RQ h w q->K w.v h):FCall prog T2 #[.agg #[.bool s,.slice A n c],.agg #[.bool s',.slice B n' c']] h K:=by
 subst h1 h2
 refine A6d _ _ _ _ _ _ _ _ ?_
 unfold B0c
 refine R5 j ⟨_,rfl,B5 (fun e=>?_) (fun e=>?_)⟩
 ·exact hK ⟨s,A,n,c,false,none,0,0⟩ ⟨i,by rw [if_pos (by omega)];exact ZI.zero⟩
 ·exact hK ⟨s,A,n,c,s',B,n',c'⟩ ⟨i,by rw [if_neg (by omega)];exact j⟩
theorem Ju(i:RQ h w q)(hK:∀ s A n c h',h.le h'->ZI h' s A n c (q.den:Int)->K (.agg #[.bool s,.slice A n c]) h'):FCall prog Ug #[w.v] h K:=by
 refine B75 _ _ _ _ _ _ _ _ ?_
 unfold C2e
 refine R8 i ⟨_,rfl,B5 (fun e=>?_) (fun e=>?_)⟩
 ·refine Fl (by decide) (by decide) ?_
  intro s A n c h1 l1 i1
  exact ⟨_,_,_,_,rfl,hK _ _ _ _ _ l1 (by rw [e];exact i1)⟩
 ·have:=i.den
  rw [if_neg e] at this
  exact hK _ _ _ _ _ (B3 _) this
theorem Rr(gl:Gtz h)(i:ZI h s A n c x)(j:ZI h s' B n' c' y)(hx:ZB m x)(hy:ZB m y)(hm:m<=6400000000)(hy0:0<y)(hK:∀ s1 A1 n1 c1 s2 A2 n2 c2 h',h.le h'->ZI h' s1 A1 n1 c1 (x.tdiv (C34 x y))->ZI h' s2 A2 n2 c2 (y.tdiv (C34 x y))->K (.tuple #[.agg #[.bool s1,.slice A1 n1 c1],.agg #[.bool s2,.slice A2 n2 c2]]) h'):FCall prog Ki #[.agg #[.bool s,.slice A n c],.agg #[.bool s',.slice B n' c']] h K:=by
 refine A6e _ _ _ _ _ _ _ _ ?_
 unfold B0d
 refine R5 j ⟨_,rfl,B5 (fun e=>?_) (fun e=>?_)⟩
 ·subst e
  have hg:C34 x 1=1:=by simp
  rw [hg] at hK
  exact hK _ _ _ _ _ _ _ _ _ (B3 _) (by simpa using i) (by simpa using j)
 ·refine Co gl i j hx hy hm ?_
  intro A1 n1 c1 h1 l1 i1
  have hg:=Int.gcd_pos_of_ne_zero_right x (show y≠0 by omega)
  have hgb:ZB m (C34 x y:Int):=ZB.gcd (by omega) hy
  refine ⟨_,_,_,_,rfl,O2 (i.mono l1) i1 hx hgb hm (by omega) ?_⟩
  intro s2 A2 n2 c2 h2 l2 i2
  refine ⟨_,_,_,_,rfl,l2,O2 (j.mono (A0 l1 l2)) (i1.mono l2) hy hgb hm (by omega) ?_⟩
  intro s3 A3 n3 c3 h3 l3 i3
  exact ⟨_,_,_,_,rfl,l3,hK _ _ _ _ _ _ _ _ _ (A0 l1 (A0 l2 l3)) (i2.mono l3) i3⟩
theorem A5d(i:RQ h w q)(hK:∀ w',RQ h w' (-q)->K w'.v h):FCall prog A8z #[w.v] h K:=by
 refine B72 _ _ _ _ _ _ _ _ ?_
 unfold C2b
 refine Bg i.num ?_
 intro s' i'
 exact ⟨_,_,_,_,rfl,B3 _,hK ⟨s',w.A,w.n,w.c,w.s2,w.A2,w.n2,w.c2⟩ ⟨by simpa using i',by simpa using i.den⟩⟩
theorem A21(i:RQ h w q)(hK:K (I q.num.sign) h):FCall prog A2j #[w.v] h K:=by
 refine B39 _ _ _ _ _ _ _ _ ?_
 unfold B9c
 exact Lr i.num ⟨_,rfl,hK⟩
theorem Fy(i:RQ h w q)(hK:K (.bool (decide (q=0))) h):FCall prog Gg #[w.v] h K:=by
 refine A6h _ _ _ _ _ _ _ _ ?_
 unfold B0i
 refine F9 i.num ⟨_,rfl,?_⟩
 have e:decide (q.num=0)=decide (q=0):=by rw [decide_eq_decide];exact C3d
 rw [e];exact hK
theorem Tw(gl:Gtz h)(i:RQ h a p)(j:RQ h b q)(hp:Sz m p)(hq:Sz m q)(hm:2*m+1<=6400000000)(hK:∀ w h',h.le h'->RQ h' w (p+q)->K w.v h'):FCall prog A48 #[a.v,b.v] h K:=by
 have hpd:=p.den_nz
 have hqd:=q.den_nz
 have M:∀ {z:Int},ZB m z->ZB (2*m+1) z:=fun hz=>hz.mono (by omega)
 refine B76 _ _ _ _ _ _ _ _ _ _ _ _ _ _ _ _ ?_
 unfold C2f
 refine ⟨fun L hp=>L=[.bool (decide (p.den=1/\q.den=1))]/\hp=h,R8 i ⟨_,rfl,B5 (fun e=>?_) (fun e=>?_)⟩,?_⟩
 ·exact R8 j ⟨_,rfl,by simp [e],rfl⟩
 ·exact ⟨by simp [e],rfl⟩
 rintro t10 hp2 ⟨hL,rfl⟩
 obtain rfl:t10=decide (p.den=1/\q.den=1):=by simpa using hL
 refine B5 (fun e=>?_) (fun e=>?_)
 ·refine Jc i.num j.num hp.num hq.num (by omega) ?_
  intro s1 A1 n1 c1 h1 l1 i1
  refine ⟨_,_,_,_,rfl,hK ⟨s1,A1,n1,c1,false,none,0,0⟩ _ l1 ?_⟩
  have:=RQ.whole i1
  rw [Rat.intCast_add,<- Ui e.1,<- Ui e.2] at this
  exact this
 ·refine ⟨fun L hp=>L=[.bool (decide (p.den=1))]/\hp=hp2,R8 i ⟨_,rfl,rfl,rfl⟩,?_⟩
  rintro t25 hp5 ⟨hL,rfl⟩
  obtain rfl:t25=decide (p.den=1):=by simpa using hL
  refine B5 (fun e1=>?_) (fun e1=>?_)
  ·have hq1:q.den≠1:=fun e2=>e ⟨e1,e2⟩
   have jd:=j.den
   rw [if_neg hq1] at jd
   refine O3 i.num jd hp.num hq.den (by omega) ?_
   intro s1 A1 n1 c1 h1 l1 i1
   refine ⟨_,_,_,_,rfl,l1,Jc (m:=2*m+1) i1 (j.num.mono l1) ((hp.num.mul hq.den).mono (by omega)) (M hq.num) hm ?_⟩
   intro s2 A2 n2 c2 h2 l2 i2
   have hpp:=Kz q p.num
   rw [<- Ui e1,Rat.add_comm] at hpp
   refine ⟨_,_,_,_,rfl,l2,hK ⟨s2,A2,n2,c2,b.s2,b.A2,b.n2,b.c2⟩ _ (A0 l1 l2) ⟨by rw [hpp.1];exact i2,?_⟩⟩
   rw [hpp.2]
   exact j.den.mono (A0 l1 l2)
  ·refine R8 j ⟨_,rfl,B5 (fun e2=>?_) (fun e2=>?_)⟩
   ·have idn:=i.den
    rw [if_neg e1] at idn
    refine O3 j.num idn hq.num hp.den (by omega) ?_
    intro s1 A1 n1 c1 h1 l1 i1
    refine ⟨_,_,_,_,rfl,l1,Jc (m:=2*m+1) i1 (i.num.mono l1) ((hq.num.mul hp.den).mono (by omega)) (M hp.num) hm ?_⟩
    intro s2 A2 n2 c2 h2 l2 i2
    have hpp:=Kz p q.num
    rw [<- Ui e2] at hpp
    refine ⟨_,_,_,_,rfl,l2,hK ⟨s2,A2,n2,c2,a.s2,a.A2,a.n2,a.c2⟩ _ (A0 l1 l2) ⟨by rw [hpp.1];exact i2,?_⟩⟩
    rw [hpp.2]
    exact i.den.mono (A0 l1 l2)
   ·have idn:=i.den
    have jdn:=j.den
    rw [if_neg e1] at idn
    rw [if_neg e2] at jdn
    refine Co gl idn jdn hp.den hq.den (by omega) ?_
    intro A1 n1 c1 h1 l1 ig
    rw [Int.gcd_natCast_natCast] at ig
    obtain ⟨g,hg⟩:∃ g,g=p.den.gcd q.den:=⟨_,rfl⟩
    rw [<- hg] at ig
    have hg0:0<g:=by rw [hg];exact Nat.gcd_pos_of_pos_left _ (by omega)
    have hgd:g∣q.den:=by rw [hg];exact C38 ..
    have hgz:ZB m (g:Int):=hq.den.le (by simpa using Nat.le_of_dvd (by omega) hgd)
    refine ⟨_,_,_,_,rfl,O2 (jdn.mono l1) ig hq.den hgz (by omega) (by omega) ?_⟩
    intro s2 A2 n2 c2 h2 l2 il
    rw [<- C3j] at il
    refine ⟨_,_,_,_,rfl,l2,O2 (idn.mono (A0 l1 l2)) (ig.mono l2) hp.den hgz (by omega) (by omega) ?_⟩
    intro s3 A3 n3 c3 h3 l3 ir
    rw [<- C3j] at ir
    have hlb:ZB m ((q.den/g:Nat):Int):=hq.den.le (by rw [C2w,C2w];exact C32 _ _)
    have hrb:ZB m ((p.den/g:Nat):Int):=hp.den.le (by rw [C2w,C2w];exact C32 _ _)
    have l13:=A0 l1 (A0 l2 l3)
    refine ⟨_,_,_,_,rfl,l3,O3 (i.num.mono l13) (il.mono l3) hp.num hlb (by omega) ?_⟩
    intro s4 A4 n4 c4 h4 l4 i4
    refine ⟨_,_,_,_,rfl,l4,O3 (j.num.mono (A0 l13 l4)) (ir.mono l4) hq.num hrb (by omega) ?_⟩
    intro s5 A5 n5 c5 h5 l5 i5
    refine ⟨_,_,_,_,rfl,l5,Jc (m:=2*m) (i4.mono l5) i5 ((hp.num.mul hlb).mono (by omega)) ((hq.num.mul hrb).mono (by omega)) (by omega) ?_⟩
    intro s6 A6 n6 c6 h6 l6 iz
    obtain ⟨z,hz⟩:∃ z,z=p.num*((q.den/g:Nat):Int)+q.num*((p.den/g:Nat):Int):=⟨_,rfl⟩
    rw [<- hz] at iz
    have hzb:ZB (2*m+1) z:=by
     rw [hz]
     exact ((hp.num.mul hlb).mono (show m+m<=2*m by omega)).add ((hq.num.mul hrb).mono (show m+m<=2*m by omega))
    have l16:=A0 l13 (A0 l4 (A0 l5 l6))
    refine ⟨_,_,_,_,rfl,l6,F9 iz ⟨_,rfl,B5 (fun hz0=>?_) (fun hz0=>?_)⟩⟩
    ·have:p+q=0:=by
      rw [<- C3d]
      by_cases h1':p.den.gcd q.den=1
      ·have:=(Uq p q h1').1
       rw [<- hg] at h1'
       rw [h1',C3r,C3r] at hz
       rw [this,<- hz,hz0]
      ·have:=(Up p q h1' hg hz rfl).1
       rw [this,hz0];simp
     rw [this] at hK
     exact hK ⟨false,none,0,0,false,none,0,0⟩ _ l16 RQ.zero
    ·refine R5 (ig.mono (A0 l2 (A0 l3 (A0 l4 (A0 l5 l6))))) ⟨_,rfl,B5 (fun hg1=>?_) (fun hg1=>?_)⟩
     ·have hg1':g=1:=by omega
      have hpp:=Uq p q (by rw [<- hg];exact hg1')
      rw [hg1',C3r,C3r] at hz
      refine O3 (idn.mono l16) (jdn.mono l16) hp.den hq.den (by omega) ?_
      intro s7 A7 n7 c7 h7 l7 i7
      refine ⟨_,_,_,_,rfl,l7,R6 (q:=p+q) (iz.mono l7) i7 (by rw [hpp.1,hz]) (by rw [hpp.2,C2z]) ?_⟩
      intro w iw
      exact ⟨_,_,_,_,_,_,_,_,rfl,B3 _,hK _ _ (A0 l16 l7) iw⟩
     ·have hg1':p.den.gcd q.den≠1:=by rw [<- hg];omega
      obtain ⟨r,hr⟩:∃ r,r=z.natAbs.gcd g:=⟨_,rfl⟩
      have hpp:=Up p q hg1' hg hz hr
      have hr0:0<r:=by rw [hr];exact Nat.gcd_pos_of_pos_right _ hg0
      have hrg:r<=g:=by rw [hr];exact Nat.le_of_dvd hg0 (C38 ..)
      have igg:=ig.mono (A0 l2 (A0 l3 (A0 l4 (A0 l5 l6))))
      refine Co (gl.mono l16) iz igg hzb (M hgz) hm ?_
      intro A7 n7 c7 h7 l7 i7
      have e7:C34 z (g:Int)=r:=hr.symm
      rw [e7] at i7
      have hrz:ZB m (r:Int):=hgz.le (by simpa using hrg)
      refine ⟨_,_,_,_,rfl,O2 (iz.mono l7) i7 hzb (M hrz) hm (by omega) ?_⟩
      intro s8 A8 n8 c8 h8 l8 i8
      refine ⟨_,_,_,_,rfl,l8,O2 (jdn.mono (A0 l16 (A0 l7 l8))) (i7.mono l8) hq.den hrz (by omega) (by omega) ?_⟩
      intro s9 A9 n9 c9 h9 l9 i9
      rw [<- C3j] at i9
      have h9b:ZB m ((q.den/r:Nat):Int):=hq.den.le (by rw [C2w,C2w];exact C32 _ _)
      refine ⟨_,_,_,_,rfl,l9,O3 (ir.mono (A0 l4 (A0 l5 (A0 l6 (A0 l7 (A0 l8 l9)))))) i9 hrb h9b (by omega) ?_⟩
      intro s10 A10 n10 c10 h10 l10 i10
      refine ⟨_,_,_,_,rfl,l10,R6 (q:=p+q) (i8.mono (A0 l9 l10)) i10 hpp.1 (by rw [hpp.2,C2z]) ?_⟩
      intro w iw
      exact ⟨_,_,_,_,_,_,_,_,rfl,B3 _,hK _ _ (A0 l16 (A0 l7 (A0 l8 (A0 l9 l10)))) iw⟩
theorem A5c(gl:Gtz h)(i:RQ h a p)(j:RQ h b q)(hp:Sz m p)(hq:Sz m q)(hm:2*m+1<=6400000000)(hK:∀ w h',h.le h'->RQ h' w (p-q)->K w.v h'):FCall prog A8y #[a.v,b.v] h K:=by
 refine B71 _ _ _ _ _ _ _ _ _ _ _ _ _ _ _ _ ?_
 unfold C2a
 refine A5d j ?_
 intro w' j'
 refine ⟨_,_,_,_,_,_,_,_,rfl,B3 _,Tw gl i j' hp hq.neg hm ?_⟩
 intro w2 h2 l2 i2
 rw [<- Rat.sub_eq_add_neg] at i2
 exact ⟨_,_,_,_,_,_,_,_,rfl,l2,hK _ _ l2 i2⟩
end
structure Gl (h:Heap):Prop where
 tz:Gtz h
 p10:Gp h
theorem Gl.mono{h h':Heap}(g:Gl h)(l:h.le h'):Gl h':=⟨g.tz.mono l,g.p10.mono l⟩
section
variable {h h':Heap} {K:VP} {A B:Option Addr} {n c n' c':Nat} {s s':Bool} {x y z:Int} {m:Nat} {p q:Rat} {a b w:QV} {l:List UInt8}
theorem Lz(gl:Gtz h)(i:RQ h a p)(j:RQ h b q)(hp:Sz m p)(hq:Sz m q)(hm:m<=6400000000)(hK:∀ w h',h.le h'->RQ h' w (p*q)->K w.v h'):FCall prog A03 #[a.v,b.v] h K:=by
 have hpd:=p.den_nz
 have hqd:=q.den_nz
 refine B73 _ _ _ _ _ _ _ _ _ _ _ _ _ _ _ _ ?_
 unfold C2c
 refine ⟨fun L hp=>L=[.bool (decide (p.num=0\/q.num=0))]/\hp=h,F9 i.num ⟨_,rfl,B5 (fun e=>?_) (fun e=>?_)⟩,?_⟩
 ·exact ⟨by simp [e],rfl⟩
 ·exact F9 j.num ⟨_,rfl,by simp [e],rfl⟩
 rintro t16 hp2 ⟨hL,rfl⟩
 obtain rfl:t16=decide (p.num=0\/q.num=0):=by simpa using hL
 refine B5 (fun e=>?_) (fun e=>?_)
 ·have:p*q=0:=by
   rw [C3d,C3d] at e
   exact Rat.mul_eq_zero.2 e
  rw [this] at hK
  exact hK ⟨false,none,0,0,false,none,0,0⟩ _ (B3 _) RQ.zero
 ·refine ⟨fun L hp=>L=[.bool (decide (p.den=1/\q.den=1))]/\hp=hp2,R8 i ⟨_,rfl,B5 (fun e=>?_) (fun e=>?_)⟩,?_⟩
  ·exact R8 j ⟨_,rfl,by simp [e],rfl⟩
  ·exact ⟨by simp [e],rfl⟩
  rintro t25 hp5 ⟨hL,rfl⟩
  obtain rfl:t25=decide (p.den=1/\q.den=1):=by simpa using hL
  refine B5 (fun e=>?_) (fun e=>?_)
  ·refine O3 i.num j.num hp.num hq.num hm ?_
   intro s1 A1 n1 c1 h1 l1 i1
   refine ⟨_,_,_,_,rfl,hK ⟨s1,A1,n1,c1,false,none,0,0⟩ _ l1 ?_⟩
   have:=RQ.whole i1
   rw [Rat.intCast_mul,<- Ui e.1,<- Ui e.2] at this
   exact this
  ·have hpp:=A8c p q
   refine Ju j ?_
   intro s1 A1 n1 c1 h1 l1 jd
   refine ⟨_,_,_,_,rfl,l1,Rr (gl.mono l1) (i.num.mono l1) jd hp.num hq.den hm (by omega) ?_⟩
   intro s2 A2 n2 c2 s3 A3 n3 c3 h2 l2 i2 i3
   have l12:=A0 l1 l2
   refine ⟨_,_,_,_,_,_,_,_,rfl,l2,Ju (i.mono l12) ?_⟩
   intro s4 A4 n4 c4 h4 l4 idn
   refine ⟨_,_,_,_,rfl,l4,Rr (gl.mono (A0 l12 l4)) (j.num.mono (A0 l12 l4)) idn hq.num hp.den hm (by omega) ?_⟩
   intro s5 A5 n5 c5 s6 A6 n6 c6 h5 l5 i5 i6
   have e1:C34 p.num (q.den:Int)=C3a p.num.natAbs q.den:=rfl
   have e2:C34 q.num (p.den:Int)=C3a q.num.natAbs p.den:=rfl
   rw [e1] at i2 i3
   rw [e2] at i5 i6
   rw [<- C3j] at i3 i6
   refine ⟨_,_,_,_,_,_,_,_,rfl,l5,O3 (i2.mono (A0 l4 l5)) i5 hp.num.tdiv hq.num.tdiv hm ?_⟩
   intro s7 A7 n7 c7 h7 l7 i7
   have b1:ZB m ((p.den/C3a q.num.natAbs p.den:Nat):Int):=hp.den.le (by rw [C2w,C2w];exact C32 _ _)
   have b2:ZB m ((q.den/C3a p.num.natAbs q.den:Nat):Int):=hq.den.le (by rw [C2w,C2w];exact C32 _ _)
   refine ⟨_,_,_,_,rfl,l7,O3 (i6.mono l7) (i3.mono (A0 l4 (A0 l5 l7))) b1 b2 hm ?_⟩
   intro s8 A8 n8 c8 h8 l8 i8
   refine ⟨_,_,_,_,rfl,l8,R6 (q:=p*q) (i7.mono l8) i8 hpp.1 (by rw [hpp.2,C2z]) ?_⟩
   intro w iw
   exact ⟨_,_,_,_,_,_,_,_,rfl,B3 _,hK _ _ (A0 l12 (A0 l4 (A0 l5 (A0 l7 l8)))) iw⟩
theorem Vv(i:RQ h w q)(hK:∀ w h',h.le h'->RQ h' w q⁻¹->K w.v h'):FCall prog My #[w.v] h K:=by
 have hqd:=q.den_nz
 refine A39 _ _ _ _ _ _ _ _ ?_
 unfold A4u
 refine Lr i.num ⟨_,rfl,D8 (fun e=>?_) (fun e=>?_)⟩
 ·have h0:q.num=0:=Int.sign_eq_zero_iff_zero.1 e
  have:q⁻¹=0:=by rw [Rat.num_eq_zero.1 h0];exact Rat.inv_zero
  rw [this] at hK
  exact hK ⟨false,none,0,0,false,none,0,0⟩ _ (B3 _) RQ.zero
 ·have h0:q.num≠0:=fun e0=>e (by rw [e0];rfl)
  refine D8 (fun e1=>?_) (fun e1=>?_)
  ·have hneg:q.num<0:=Int.sign_neg_iff.1 (by omega)
   refine Ju i ?_
   intro s1 A1 n1 c1 h1 l1 i1
   refine ⟨_,_,_,_,rfl,l1,Bg i1 ?_⟩
   intro s2 i2
   refine ⟨_,_,_,_,rfl,B3 _,Bg (i.num.mono l1) ?_⟩
   intro s3 i3
   refine ⟨_,_,_,_,rfl,B3 _,R6 (q:=q⁻¹) i2 i3 ?_ ?_ ?_⟩
   ·rw [Rat.num_inv,e1];omega
   ·rw [Rat.den_inv,if_neg h0];omega
   ·intro w iw
    exact ⟨_,_,_,_,_,_,_,_,rfl,B3 _,hK _ _ l1 iw⟩
  ·have hpos:0<q.num:=by
    rcases Int.lt_trichotomy q.num 0 with h1|h1|h1
    ·exact absurd (Int.sign_eq_neg_one_of_neg h1) e1
    ·exact absurd h1 h0
    ·exact h1
   refine Ju i ?_
   intro s1 A1 n1 c1 h1 l1 i1
   refine ⟨_,_,_,_,rfl,l1,R6 (q:=q⁻¹) i1 (i.num.mono l1) ?_ ?_ ?_⟩
   ·rw [Rat.num_inv,Int.sign_eq_one_of_pos hpos,Int.one_mul]
   ·rw [Rat.den_inv,if_neg h0];omega
   ·intro w iw
    exact ⟨_,_,_,_,_,_,_,_,rfl,B3 _,hK _ _ l1 iw⟩
theorem Mc(gl:Gtz h)(i:RQ h a p)(j:RQ h b q)(hp:Sz m p)(hq:Sz m q)(hm1:1<=m)(hm:m<=6400000000)(hK:∀ w h',h.le h'->RQ h' w (p/q)->K w.v h'):FCall prog A04 #[a.v,b.v] h K:=by
 refine B74 _ _ _ _ _ _ _ _ _ _ _ _ _ _ _ _ ?_
 unfold C2d
 refine Vv j ?_
 intro w1 h1 l1 j1
 refine ⟨_,_,_,_,_,_,_,_,rfl,l1,Lz (gl.mono l1) (i.mono l1) j1 hp (hq.inv hm1) hm ?_⟩
 intro w2 h2 l2 i2
 rw [<- Rat.div_def] at i2
 exact ⟨_,_,_,_,_,_,_,_,rfl,l2,hK _ _ (A0 l1 l2) i2⟩
theorem Xj{t:List UInt8}{k:Nat}(h:∀ c∈t,H9 c)(hk:t.length<=k):ZB (4*k) (K9 t:Int):=by
 unfold ZB
 rw [C2w]
 exact C3m (Bp h) (C31 (by decide) (by omega))
theorem Form.lens{neg:Bool}{a b:List UInt8}(f:Form l neg a b):a.length<=l.length/\b.length<=l.length:=by
 have:=congrArg List.length f.eq
 simp only [C36] at this
 by_cases hb:b=[]
 ·rw [if_pos hb] at this;subst hb;simp at this ⊢;omega
 ·rw [if_neg hb] at this;simp at this;omega
theorem A5f(gl:Gtz h)(hl:l.length<=100000000)(hK1:∀ q,l=M0 q->∀ w h',h.le h'->RQ h' w q->K (.tuple #[w.v,.bool true]) h')(hK0:¬ IsNum l->∀ (w:QV) h',h.le h'->RQ h' w 0->K (.tuple #[w.v,.bool false]) h'):FCall prog A2i #[.string (bs l)] h K:=by
 refine B38 _ ?_
 unfold B9b
 refine A5a (by omega) ?_ ?_
 ·intro neg a b f
  refine ⟨_,_,_,_,rfl,Br.not ?_⟩
  have hlen:=f.lens
  refine Ua f.da (by omega) ?_
  intro A1 n1 c1 h1 l1 i1
  refine ⟨_,_,_,_,rfl,?_⟩
  refine ⟨fun L hp=>∃ s2:Bool,L=[.bool s2,.slice A1 n1 c1,.bool false,.slice none 0 0]/\hp=h1/\ZI h1 s2 A1 n1 c1 (St neg a),Br.of (fun e=>?_) (fun e=>?_),?_⟩
  ·refine Bg i1 ?_
   intro s2 i2
   exact ⟨_,_,_,_,rfl,s2,rfl,rfl,by unfold St;rw [e];exact i2⟩
  ·exact ⟨false,rfl,rfl,by unfold St;rw [e];exact i1⟩
  rintro x0 x1A x1n x1c x2 x3A x3n x3c hp3 ⟨s2,hL,rfl,i2⟩
  simp only [C3s,C3n,Value.bool.injEq,and_true] at hL
  obtain ⟨rfl,⟨rfl,rfl,rfl⟩,rfl,rfl,rfl,rfl⟩:=hL
  have habs:(St neg a).natAbs=K9 a:=by unfold St;split<;>simp
  rw [Dj]
  refine B5 (fun hb=>?_) (fun hb=>?_)
  ·subst hb
   obtain ⟨q,hq⟩:=f.isNum.2 (by unfold Uh;simp)
   obtain ⟨h2,h3⟩:=f.of_txt hq
   refine hK1 q hq ⟨x0,x1A,x1n,x1c,false,none,0,0⟩ _ l1 ⟨by rw [h2];exact i2,?_⟩
   rw [h3,show Uh []=1 from rfl,if_pos rfl];exact ZI.zero
  ·refine Ua f.db (by omega) ?_
   intro A4 n4 c4 h4 l4 i4
   have hnb:ZB (4*l.length) (St neg a):=(Xj f.da (k:=l.length) (by omega)).le (by rw [habs,C2w];exact C3l _)
   refine ⟨_,_,_,_,rfl,Co (gl.mono (A0 l1 l4)) (i2.mono l4) i4 hnb (Xj f.db (k:=l.length) (by omega)) (by omega) ?_⟩
   intro A5 n5 c5 h5 l5 i5
   refine ⟨_,_,_,_,rfl,R5 i5 ⟨_,rfl,?_⟩⟩
   have hfd:Uh b=K9 b:=by unfold Uh;rw [if_neg hb]
   have hgg:C34 (St neg a) (K9 b:Int)=C3a (K9 a) (Uh b):=by
    rw [hfd];show C3a (St neg a).natAbs (K9 b)=_;rw [habs]
   rw [hgg]
   refine Br.not (B5 (fun e1=>?_) (fun e1=>?_))
   ·obtain ⟨q,hq⟩:=f.isNum.2 (by omega)
    obtain ⟨h2,h3⟩:=f.of_txt hq
    have hd1:Uh b≠1:=by
     intro e2
     have h6:=Ku f.db hb (.inl f.hb)
     rw [<- hfd,e2] at h6
     apply f.b1
     rw [<- h6];simp [L9,Ae,J1,dch]
    refine hK1 q hq ⟨x0,x1A,x1n,x1c,false,A4,n4,c4⟩ _ (A0 l1 (A0 l4 l5)) ⟨by rw [h2];exact i2.mono (A0 l4 l5),?_⟩
    rw [h3,if_neg hd1,hfd];exact i4.mono l5
   ·refine hK0 ?_ ⟨false,none,0,0,false,none,0,0⟩ _ (A0 l1 (A0 l4 l5)) RQ.zero
    intro hn
    exact e1 (by rw [f.isNum.1 hn];rfl)
 ·intro hf neg a b
  refine ⟨_,_,_,_,rfl,Br.not ?_⟩
  refine hK0 ?_ ⟨false,none,0,0,false,none,0,0⟩ _ (B3 _) RQ.zero
  intro hn
  obtain ⟨neg',a',b',f⟩:=hn.form
  exact hf _ _ _ f
theorem Zi(gp:Gp h)(i:RQ h w q)(hq:Sz m q)(hm:m<=40000000)(hK:K (.string (bs (M0 q))) h):FCall prog Ra #[w.v] h K:=by
 refine FCall.pure (A6f _ _ _ _ _ _ _ _ ?_)
 unfold B0g
 refine R8 i ⟨_,rfl,B5 (fun e=>?_) (fun e=>?_)⟩
 ·rw [B1k e] at hK
  refine A1g i.num (fun h1 h2=>?_) (fun h1=>?_)
  ·refine ⟨_,_,rfl,Br.of (fun _=>A37 _ ?_) (fun e=>by cases e)⟩
   unfold A4r
   exact Tc gp h1 h2 ⟨_,rfl,_,rfl,B3 _,hK⟩
  ·refine ⟨_,_,rfl,Br.of (fun e=>by cases e) (fun _=>?_)⟩
   exact Ym gp i.num hq.num (by omega) ⟨_,rfl,B3 _,hK⟩
 ·rw [A7a e] at hK
  have idn:=i.den
  rw [if_neg e] at idn
  refine Fn (l:=[]) (eT:=F8) gp (Priv.nil _ _ _ _) i.num hq.num (by omega) (by omega) ?_
  intro A1 n1 c1 e1 g1 h1 x1
  refine ⟨_,_,_,rfl,?_⟩
  have hl1:(Jk q.num).length<=50000000:=by
   unfold Jk
   have:=Bq hq.num
   split<;>simp<;>omega
  have hx1:=x1.len
  refine Jv (ch:=47) rfl x1.priv (by omega) ?_
  intro A2 n2 c2 e2 g2 h2 x2
  have x12:=x1.trans x2
  have hx2:=x12.len
  rw [C36,List.length_singleton] at hx2
  refine Fn (gp.mono x12.le) x2.priv (idn.mono x12.le) hq.den (by omega) (by omega) ?_
  intro A3 n3 c3 e3 g3 h3 x3
  refine ⟨_,_,_,rfl,?_⟩
  rw [List.append_assoc] at x3
  have x123:=x12.trans x3
  have hx3:=x123.len
  refine Jm Fb.und Cr T8 x123.priv.slV (by simpa using hx3) ⟨_,rfl,?_⟩
  refine ⟨A0 x123.le x123.priv.le,?_⟩
  simpa using hK
end
structure Tx (m:Nat) (l:List UInt8):Prop where
 len:l.length<=100000000
 sz:Sz m (rv l)
theorem B1l{m:Nat}{z:Int}(h:ZB m z):(Jk z).length<=m+2:=by
 have:=Bq h
 unfold Jk;split
 ·rw [List.length_cons];omega
 ·omega
theorem A3l{m:Nat}{q:Rat}(h:Sz m q):(M0 q).length<=2*m+4:=by
 have h1:=B1l h.num
 have h2:=Bq (n:=q.den) (m:=m) (by have:=h.den;unfold ZB at this;simpa using this)
 unfold M0
 split
 ·simp;omega
 ·simp;omega
theorem A79(q:Rat):∃ c r,M0 q=c::r/\(c=45↔q<0):=by
 have f:=Fs q
 have hne:M0 q≠[]:=by
  intro e
  have:=f.eq
  rw [e] at this
  have h2:=f.ne
  have:=congrArg List.length this
  simp only [C36,List.length_nil] at this
  exact h2 (List.eq_nil_of_length_eq_zero (by omega))
 obtain ⟨c,r,e⟩:=C30 hne
 refine ⟨c,r,e,?_⟩
 have hh:=f.head
 rw [e,C3h,C3t,decide_eq_true_iff,beq_iff_eq,C37] at hh
 rw [<- hh,Rat.lt_iff];simp
section
variable {h:Heap} {K:VP} {m:Nat} {a b:List UInt8}
end
def C1l(h:Heap)(r:Value)(h':Heap):Prop:=r= .bool true/\h.le h'
theorem A7p{x:List UInt8}{k:Nat}(hl:x.length<=k)(hk:1<=k):Sz (4*k) (rv x):=by
 by_cases hn:IsNum x
 ·obtain ⟨neg,a,b,f⟩:=hn.form
  obtain ⟨h1,h2⟩:=f.rv_num hn
  have hlen:=f.lens
  have habs:(St neg a).natAbs=K9 a:=by unfold St;split<;>simp
  refine ⟨?_,?_⟩
  ·rw [h1];exact (Xj f.da (k:=k) (by omega)).le (by rw [habs,C2w];exact C3l _)
  ·rw [h2]
   unfold Uh
   split
   ·exact ZB.one (by omega)
   ·exact Xj f.db (by omega)
 ·rw [A7q hn];exact Sz.zero (by omega)
end Go.Proofs.YtajkakhfcokljaaGreatDoor
namespace Go.Proofs.YtajkakhfcokljaaGreatDoor
set_option maxRecDepth 20000
open Go Go.RowKit
def memOf(W:World):Heap:=fun b=>W.heap[b]?
theorem frame_of{P:Program}{f:FuncId}{args:Array Value}{W:World}(x:FCall P f args (memOf W) (C1l (memOf W))):Calls P f args W fun e w'=>e= .returned (.bool true)/\Below W.heap.size W w':=by
 refine (x W (fun b o e=>e)).mono ?_
 rintro e W' ⟨r,h',he,⟨hr,hle⟩,fr⟩
 subst hr
 refine ⟨he,fr.os,fr.tape,fr.output,fr.size,fun k hk=>?_⟩
 have e0:memOf W k=some W.heap[k]:=Array.getElem?_eq_getElem hk
 have:=fr.sim k _ (hle k _ e0)
 rw [this];exact e0.symm
theorem Mm{W:World}{a:Addr}{v:Value}(e:W.cell? a=some v):(memOf W).cell? a=some v:=by
 unfold World.cell? at e
 unfold Heap.cell? memOf
 exact e
theorem A45{P:Program}{W:World}{x:String × DataW Unit}{rest:List (String × DataW Unit)}(h:laidMet P (x::rest) W):laidMet P rest W:=by
 obtain ⟨n,d⟩:=x
 obtain ⟨ps,⟨g,t,cs,fuel,p,q,h1,h2,h3,h4,h5,rfl⟩,h6,h7⟩:=h
 exact ⟨q,h5,(List.nodup_append.1 h6).2.1,fun b off hb=>h7 b off (List.mem_append_right _ hb)⟩
def C0t:List Int:=[0,1,28,2,29,14,24,3,30,22,20,15,25,17,4,8,31,27,13,23,21,19,16,7,26,12,18,6,11,5,10,9]
def B1s:List Int:=[0,1,56,2,57,49,28,3,61,58,42,50,38,29,17,4,62,47,59,36,45,43,51,22,53,39,33,30,24,18,12,5,63,55,48,27,60,41,37,16,46,35,44,21,52,32,23,11,54,26,40,15,34,20,31,10,25,14,19,9,13,8,7,6]
def B5o:List Int:=[1,10,100,1000,10000,100000,1000000,10000000,100000000,1000000000,10000000000,100000000000,1000000000000,10000000000000,100000000000000,1000000000000000,10000000000000000,100000000000000000,1000000000000000000,10000000000000000000]
theorem B48:prog.globalNamed "math/bits.deBruijn64tab" = some 3:=by kernel_rfl
theorem B49:prog.globalNamed "internal/strconv.uint64pow10" = some 2:=by kernel_rfl
theorem tabs_gl{W:World}(h:laidMet prog [("math/bits.deBruijn32tab",Rows.laid_math_bits_deBruijn32tab),("math/bits.deBruijn64tab",Rows.laid_math_bits_deBruijn64tab),("internal/strconv.uint64pow10",Rows.laid_internal_strconv_uint64pow10)] W):Gl (memOf W):=by
 have h2:=A45 h
 have h3:=A45 h2
 have t64:Lib.TabIs prog W "math/bits.deBruijn64tab" .u8 B1s:=Lib.tabIs_of_head (rest:=[("internal/strconv.uint64pow10",Rows.laid_internal_strconv_uint64pow10)]) B48 (by kernel_rfl) underlying297 underlying5 (by kernel_rfl) (by kernel_rfl) h2
 have t10:Lib.TabIs prog W "internal/strconv.uint64pow10" .u64 B5o:=Lib.tabIs_of_head (rest:=[]) B49 (by kernel_rfl) underlying287 underlying130 (by kernel_rfl) (by kernel_rfl) h3
 have k64:∀ k,k<64->Yw k<B1s.length/\B1s.getD (Yw k) 0=(k:Int):=by decide +kernel
 have k10:∀ k,k<20->B5o.getD k 0=((10^k:Nat):Int):=by decide +kernel
 refine ⟨fun k hk=>?_,fun k hk=>?_⟩
 ·obtain ⟨a,b⟩:=k64 k hk
  have:=Mm (t64.cell B48 (Yw k) a)
  rw [D7,C39,Nat.zero_add,this,b]
 ·have:=Mm (t10.cell B49 k (by show k<20;exact hk))
  rw [D7,C39,Nat.zero_add,this,k10 k hk]
def A8l(zs:List Int)(k:IntKind):Obj->Obj
 | .cells _ t frozen=>.cells (zs.map (Value.int k)).toArray t frozen
 | o=>o
def layTabs(a:Array Obj):Array Obj:=((a.modify 4 (A8l C0t .u8)).modify 3 (A8l B1s .u8)).modify 2 (A8l B5o .u64)
end Go.Proofs.YtajkakhfcokljaaGreatDoor
