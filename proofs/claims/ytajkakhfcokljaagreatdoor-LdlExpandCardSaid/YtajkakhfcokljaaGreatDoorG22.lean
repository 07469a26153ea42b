/-
  Texts of this proof, merged by a program of ours.
-/
import Derived.Test.YtajkakhfcokljaaGreatDoorG21
import Derived.Test.YtajkakhfcokljaaGreatDoorG20
import Derived.Test.YtajkakhfcokljaaGreatDoorG09
import Derived.Test.YtajkakhfcokljaaGreatDoorRows
import Derived.Below
import Derived.ChangeSame
import Derived.WideShapes
import Derived.LaidLaws
import Derived.Lib.LaidTab
open Go.Proofs.Tryz
set_option linter.all false
open Bool renaming eq_iff_iff->C42
open Int renaming natAbs_natCast->C34,toNat_natCast->C35,natCast_pow->C3e,natCast_mul->C3f,gcd->C3v,sign_eq_neg_one_of_neg->C43
open List renaming getElem?_eq_getElem->C36,exists_cons_of_ne_nil->C38,getElem?_cons_zero->C39,takeWhile_append_dropWhile->C3c,length_take->C3d,length_append->C3g,take_of_length_le->C3j,take_append_drop->C3m,length_map->C3n,head?_cons->C3o,drop_zero->C3p,take_succ_eq_append_getElem->C3t,getElem_map->C3y
open List.cons renaming injEq->C3a
open Nat renaming pow_le_pow_right->C37,gcd->C3b,mul_one->C3i,sub_zero->C3k,min_eq_left->C3l,pow_le_pow_left->C3q,le_refl->C3r,lt_of_lt_of_le->C3s,pow_succ->C3w,le_trans->C3x,div_le_self->C41
open Option.some renaming injEq->C3h
open Rat renaming num_eq_zero->C40
open _root_.Go.Value.int renaming injEq->C3z
open _root_.Go.Value.slice renaming injEq->C3u
namespace Go.Proofs.YtajkakhfcokljaaGreatDoor
set_option maxRecDepth 20000
open Go
def Fm(i:Nat):Nat:=10^(19*2^i)
theorem A7m(i:Nat):Fm i=(10^19)^(2^i):=Nat.pow_mul _ _ _
theorem B24(i:Nat):0<Fm i:=Nat.pow_pos (by decide)
theorem A7l:Fm 0=10000000000000000000:=by decide
theorem Zv(i:Nat):Fm (i+1)=Fm i*Fm i:=by
 unfold Fm
 rw [<- Nat.pow_add]
 congr 1
 rw [C3w];omega
theorem B5x(i:Nat):(Fm i:Int)<b64^(2^i):=by
 have h:(10^19)^(2^i)<(18446744073709551616:Nat)^(2^i):=Nat.pow_lt_pow_left (by decide) (Nat.pos_iff_ne_zero.1 (Nat.pow_pos (by decide)))
 rw [<- A7m] at h
 have h2:((Fm i:Nat):Int)<((18446744073709551616^(2^i):Nat):Int):=Int.ofNat_lt.2 h
 rw [C3e] at h2
 exact h2
theorem B5y(i:Nat):(2:Int)^(63*2^i)<=(Fm i:Int):=by
 have h:(2^63)^(2^i)<=(10^19)^(2^i):=C3q (by decide) _
 rw [<- A7m,<- Nat.pow_mul] at h
 have h2:((2^(63*2^i):Nat):Int)<=((Fm i:Nat):Int):=Int.ofNat_le.2 h
 rw [C3e] at h2
 exact h2
theorem B88{k m:Nat}(h:(2:Int)^k<2^m):k<m:=by
 by_cases hk:k<m
 ·exact hk
 ·have:=D0 (B:=2) (by decide) (show m<=k by omega)
  omega
abbrev slT(s:Option Addr × Nat × Nat):Value:=.slice s.1 s.2.1 s.2.2
def Pws(h:Heap)(PA:Option Addr)(k:Nat):Prop:=∃ ss:List (Option Addr × Nat × Nat),ss.length=k/\SlV h PA (ss.map slT)/\∀ i s,ss[i]? = some s->s.2.1<=s.2.2/\Mw h s.1 s.2.1 (Fm i:Int)
theorem Pws.mono{h h':Heap}(l:h.le h'){PA:Option Addr}{k:Nat}(p:Pws h PA k):Pws h' PA k:=by
 obtain ⟨ss,h1,h2,h3⟩:=p
 exact ⟨ss,h1,h2.mono l,fun i s e=>⟨(h3 i s e).1,(h3 i s e).2.mono l⟩⟩
theorem Pws.take{h:Heap}{PA:Option Addr}{k j:Nat}(p:Pws h PA k)(hj:j<=k):Pws h PA j:=by
 obtain ⟨ss,h1,h2,h3⟩:=p
 refine ⟨ss.take j,by rw [C3d];omega,?_,fun i s e=>?_⟩
 ·have:=SlV.cut (c:=(ss.map slT).length) h2 (Nat.zero_le j) (by rw [C3n];omega) (C3r _)
  rw [G9,C3p,C3k,<- List.map_take] at this
  exact this
 ·rw [List.getElem?_take] at e
  split at e
  ·exact h3 i s e
  ·cases e
theorem Pws.at{h:Heap}{PA:Option Addr}{k i:Nat}(p:Pws h PA k)(hi:i<k):∃ (a:Addr) (A:Option Addr) (n c:Nat),PA=some a/\h.cell? (a.add i)=some (.slice A n c)/\n<=c/\Mw h A n (Fm i:Int):=by
 obtain ⟨ss,h1,h2,h3⟩:=p
 obtain ⟨a,ha,hc⟩:=h2.at (i:=i) (by rw [C3n];omega)
 rw [C3y] at hc
 obtain ⟨h4,h5⟩:=h3 i ss[i] (C36 (by omega))
 exact ⟨a,_,_,_,ha,hc,h4,h5⟩
theorem Mw.tenP_le{h:Heap}{A:Option Addr}{n i:Nat}(m:Mw h A n (Fm i:Int)):n<=2^i:=m.len_le (by decide) (B5x i)
theorem Mw.tenP_ge{h:Heap}{A:Option Addr}{n i:Nat}(m:Mw h A n (Fm i:Int)):2^i<2*n:=by
 have h1:=m.lt (by decide)
 rw [Is] at h1
 have h2:=B88 (Int.lt_of_le_of_lt (B5y i) h1)
 omega
theorem Ext.weak{g g0 g' h':Heap}{eT e2:TypeId}{A A':Option Addr}{n c n' c':Nat}{l t:List UInt8}(l0:g0.le g)(x:Ext g eT A n c l t A' n' c' e2 g' h'):Ext g0 eT A n c l t A' n' c' e2 g' h':=⟨B0 l0 x.le,x.priv,x.len,x.fit,x.tag⟩
theorem B47(w n:Nat):w<=(pad w n).length:=by simp [pad];omega
theorem B65{j:Nat}(hj:j<=30):B5 (19*2^(min j 64))=((19*2^j:Nat):Int):=by
 rw [C3l (by omega)]
 have h1:2^j<=2^30:=C37 (by decide) hj
 have h2:(19*2^j:Int)=((19*2^j:Nat):Int):=by rw [C3f,C3e];rfl
 rw [h2,B7 (by omega) (by have:(2:Nat)^30=1073741824:=by decide
                          omega)]
theorem Yd{l:List UInt8}(hd:∀ c∈l,G1 c):(J0 l:Int)<b64^l.length:=by
 have h1:=Ek hd
 have h2:10^l.length<=(18446744073709551616:Nat)^l.length:=C3q (by decide) _
 have h3:((J0 l:Nat):Int)<((18446744073709551616^l.length:Nat):Int):=Int.ofNat_lt.2 (C3s h1 h2)
 rw [C3e] at h3
 exact h3
theorem Pk:∀ (k:Nat) {h g:Heap} {K:VP} {A XA PA:Option Addr} {n c xn xc pc v W:Nat} {eT:TypeId} {l:List UInt8},Gp g->Priv h g eT 1 A n c (yv l)->Mw g XA xn (v:Int)->xn<=xc->xn<=10000000->Pws g PA k->k<=pc->k<=26->(W=0\/W=19*2^k)->n+(pad W v).length<=1000000000->
 (∀ A' n' c' e3 g' h',Ext g eT A n c l (pad W v) A' n' c' e3 g' h'->K (.slice A' n' c') h')->FCall prog G2 #[.slice A n c,.slice XA xn xc,I (W:Int),.slice PA k pc] h K:=by
 intro k
 induction k with
 | zero=>
  intro h g K A XA PA n c xn xc pc v W eT l gp p M hxc hx hP hpc hk hW hn hK
  have:=B47 W v
  refine Gy _ _ _ _ _ _ _ _ _ _ ?_
  unfold Gz
  refine B6 (fun _=>?_) (fun e=>absurd (by decide) e)
  refine Dc gp p M hx (by omega) (by omega) ?_
  intro A' n' c' e2 g' h' x
  exact ⟨_,_,_,rfl,hK _ _ _ e2 g' _ x⟩
 | succ j ih=>
  intro h g K A XA PA n c xn xc pc v W eT l gp p M hxc hx hP hpc hk hW hn hK
  have hge:=B47 W v
  have e1:B5 (((j+1:Nat):Int)-1)=(j:Int):=by rw [B7 (by omega) (by omega)];omega
  refine Gy _ _ _ _ _ _ _ _ _ _ ?_
  unfold Gz
  simp only [e1,C35,C3k,G9,B65 (show j<=30 by omega)]
  refine B6 (fun e=>absurd e (by omega)) (fun _=>B6 (fun _=>?_) (fun _=>?_))
  ·refine Dc gp p M hx (by omega) (by omega) ?_
   intro A' n' c' e2 g' h' x
   exact ⟨_,_,_,rfl,hK _ _ _ e2 g' _ x⟩
  ·obtain ⟨a,PA',pn,pcc,ha,hc,hpc',Mp⟩:=hP.at (i:=j) (by omega)
   refine ⟨a,ha,by omega,by omega,_,_,_,by rw [C3i];exact B9 p.le hc,?_⟩
   have hpn:=Mp.tenP_le
   have h2j:2^j<=2^26:=C37 (by decide) (by omega)
   have h24:(2:Nat)^26=67108864:=by decide
   have hpp:=B24 j
   refine p.call ?_
   refine R3 M Mp hxc hpc' (by omega) (by omega) (by omega) ?_
   intro A1 m1 c1 A2 m2 c2 g1 l1 k1 k2 M1 M2 h1 p1
   refine ⟨_,_,_,_,_,_,rfl,?_⟩
   rw [<- Int.natCast_ediv] at M1
   rw [<- Int.natCast_emod] at M2
   have hv:=Nat.div_add_mod v (Fm j)
   have hlt:=Nat.mod_lt v hpp
   have hqv:=C41 v (Fm j)
   generalize v/Fm j=q at *
   generalize v%Fm j=r at *
   have hz:=M1.len_zero (by decide)
   have hvlt:=M.lt (by decide)
   have hm1:m1<=xn:=M1.len_le (by decide) (by omega)
   have hm2:m2<=xn:=M2.len_le (by decide) (by
    have h0:0<=Fm j*q:=Nat.zero_le _
    generalize Fm j*q=z at *
    omega)
   have hv':v=q*10^(19*2^j)+r:=by rw [<- hv,Nat.mul_comm];rfl
   have hs2:2^(j+1)=2*2^j:=by rw [C3w];omega
   refine B6 (fun e=>absurd e (by omega)) (fun _=>?_)
   refine D9 (fun e0=>D9 (fun eW=>?_) (fun eW=>?_)) (fun e0=>?_)
   ·obtain rfl:W=0:=by omega
    obtain rfl:q=0:=by omega
    obtain rfl:v=r:=by omega
    refine ⟨⟨by omega,by omega⟩,?_⟩
    refine ih (W:=0) (gp.mono l1) p1 M2 k2 (by omega) ((hP.mono l1).take (by omega)) (by omega) (by omega) (.inl rfl) hn ?_
    intro A4 n4 c4 e4 g4 h4 x4
    exact ⟨_,_,_,rfl,hK _ _ _ _ _ _ (x4.weak l1)⟩
   all_goals
    have hw:q≠0\/19*2^j<=W:=by omega
    have hsp:=A09 (w:=W) (h:=q) (l:=r) (k:=19*2^j) hlt hw
    rw [<- hv'] at hsp
    have hpl:(pad (19*2^j) r).length=19*2^j:=Vb hlt
    have hle:(pad W v).length=(pad (W-19*2^j) q).length+19*2^j:=by rw [hsp,C3g,hpl]
    refine ⟨⟨by omega,by omega⟩,?_⟩
    have e3:(if (0:Int)>B5 ((W:Int)-((19*2^j:Nat):Int)) then (0:Int) else B5 ((W:Int)-((19*2^j:Nat):Int)))=((W-19*2^j:Nat):Int):=by
     rw [B7 (by omega) (by omega)]
     split<;>omega
    rw [e3]
    refine ih (gp.mono l1) p1 M1 k1 (by omega) ((hP.mono l1).take (by omega)) (by omega) (by omega) (by omega) (by omega) ?_
    intro A3 n3 c3 e3 g3 h3 x3
    have hn3:=x3.len
    have l3:=B0 l1 x3.le
    refine ⟨_,_,_,rfl,⟨by omega,by omega⟩,?_⟩
    refine ih (gp.mono l3) x3.priv (M2.mono x3.le) k2 (by omega) ((hP.mono l3).take (by omega)) (by omega) (by omega) (.inr rfl) (by omega) ?_
    intro A4 n4 c4 e4 g4 h4 x4
    refine ⟨_,_,_,rfl,hK _ _ _ e4 g4 _ ?_⟩
    rw [hsp]
    exact (x3.trans x4).weak l1
theorem Ft:∀ (k:Nat) {h:Heap} {K:VP} {PA:Option Addr} {pc:Nat} {l:List UInt8},(∀ c∈l,G1 c)->l.length<=100000000->Pws h PA k->k<=pc->k<=30->(∀ A n c h',h.le h'->n<=c->Mw h' A n (J0 l:Int)->K (.slice A n c) h')->FCall prog L3 #[.string (bs l),.slice PA k pc] h K:=by
 intro k
 induction k using Nat.strongRecOn with
 | _ k ih=>
  intro h K PA pc l hd hl hP hpc hk hK
  refine Ue _ _ _ _ ?_
  unfold St
  rw [I6]
  have simple:FCall prog L6 #[.string (bs l)] h (fun r hp=>∃ (A:Option Addr) (n c:Nat),r= .slice A n c/\K (.slice A n c) hp):=by
   refine Pi hd hl ?_
   intro A n c h' l1 hc M
   exact ⟨_,_,_,rfl,hK _ _ _ _ l1 hc M⟩
  refine ⟨fun s hp=>hp=h/\∃ j:Nat,s=[I ((j:Int)-1)]/\j<=k,fun s _=>(iAt s 0+1).toNat,⟨rfl,k,by rw [B7 (by omega) (by omega)],C3r _⟩,?_⟩
  rintro last hp ⟨rfl,j,hs,hj⟩
  obtain rfl:last=(j:Int)-1:=by simpa using hs
  refine B6 (fun h0=>?_) (fun h0=>B6 (fun _=>simple) (fun e=>absurd (show (j:Int)-1<0 by omega) e))
  obtain ⟨i,rfl⟩:∃ i,j=i+1:=⟨j-1,by omega⟩
  have e0:((i+1:Nat):Int)-1=(i:Int):=by omega
  have hpi:0<2^i:=Nat.pow_pos (by decide)
  simp only [e0,C35,C3k,G9,B65 (show i<=30 by omega)]
  refine B6 (fun e=>absurd e (by omega)) (fun _=>B6 (fun h1=>?_) (fun h1=>?_))
  ·refine ⟨⟨trivial,i,by rw [B7 (by omega) (by omega)],by omega⟩,?_⟩
   simp only [iAt,C39]
   rw [B7 (by omega) (by omega)]
   omega
  refine B6 (fun e=>absurd e (by omega)) (fun _=>B6 (fun _=>simple) (fun h570=>B6 (fun e=>absurd e (by omega)) (fun _=>?_)))
  have e2:B5 ((l.length:Int)-((19*2^i:Nat):Int))=((l.length-19*2^i:Nat):Int):=by rw [B7 (by omega) (by omega)];omega
  simp only [e2,C35,N2,C3p,C3k]
  obtain ⟨a,PA',pn,pcc,ha,hc,hpc',Mp⟩:=hP.at (i:=i) (by omega)
  refine ⟨⟨by omega,by omega⟩,⟨by omega,by omega⟩,a,ha,by omega,by omega,_,_,_,by rw [C3i];exact hc,?_⟩
  have hpn:=Mp.tenP_le
  have h2i:19*2^i<l.length:=by omega
  have hd1:∀ c∈l.take (l.length-19*2^i),G1 c:=fun c hc=>hd c (List.mem_of_mem_take hc)
  have hd2:∀ c∈l.drop (l.length-19*2^i),G1 c:=fun c hc=>hd c (List.mem_of_mem_drop hc)
  have hl1:(l.take (l.length-19*2^i)).length=l.length-19*2^i:=by rw [C3d];omega
  have hl2:(l.drop (l.length-19*2^i)).length=19*2^i:=by rw [List.length_drop];omega
  have hval:J0 l=J0 (l.take (l.length-19*2^i))*Fm i+J0 (l.drop (l.length-19*2^i)):=by
   have:=Em (l.take (l.length-19*2^i)) (l.drop (l.length-19*2^i))
   rw [C3m,hl2] at this
   exact this
  have hb:=Yd hd
  have hb1:=Yd hd1
  have hb2:=Yd hd2
  rw [hl1] at hb1
  rw [hl2] at hb2
  refine ih i (by omega) hd1 (by omega) (hP.take (by omega)) (by omega) (by omega) ?_
  intro A1 n1 c1 h1 l1 k1 M1
  refine ⟨_,_,_,rfl,l1,?_⟩
  have hn1:=M1.len_le (by decide) hb1
  refine G8 M1 (Mp.mono l1) k1 hpc' (by omega) (by omega) ?_
  intro A2 n2 c2 h2 l2 k2 M2
  refine ⟨_,_,_,rfl,l2,⟨by omega,by omega⟩,⟨by omega,by omega⟩,?_⟩
  rw [<- C3f] at M2
  have hn2:=M2.len_le (by decide) (Int.lt_of_le_of_lt (Int.ofNat_le.2 (by rw [hval];exact Nat.le_add_right _ _)) hb)
  rw [C3j (by rw [hl2];omega)]
  refine ih i (by omega) hd2 (by omega) ((hP.mono (B0 l1 l2)).take (by omega)) (by omega) (by omega) ?_
  intro A3 n3 c3 h3 l3 k3 M3
  refine ⟨_,_,_,rfl,l3,?_⟩
  have hn3:=M3.len_le (by decide) hb2
  refine T1 (M2.mono l3) M3 k2 k3 (by omega) (by omega) ?_
  intro A4 n4 c4 h4 l4 k4 M4
  refine ⟨_,_,_,rfl,l4,hK _ _ _ _ (B0 l1 (B0 l2 (B0 l3 l4))) k4 ?_⟩
  rw [<- Int.natCast_add,<- hval] at M4
  exact M4
section
variable {h g:Heap} {K:VP} {A XA:Option Addr} {n c:Nat} {eT:TypeId} {l:List UInt8}
theorem Zw{hs:Heap}{ss:List (Option Addr × Nat × Nat)}{s:Option Addr × Nat × Nat}(h3:∀ i s,ss[i]? = some s->s.2.1<=s.2.2/\Mw hs s.1 s.2.1 (Fm i:Int))(h4:s.2.1<=s.2.2/\Mw hs s.1 s.2.1 (Fm ss.length:Int)):∀ i t,(ss++[s])[i]? = some t->t.2.1<=t.2.2/\Mw hs t.1 t.2.1 (Fm i:Int):=by
 intro i t e
 by_cases hi:i<ss.length
 ·rw [List.getElem?_append_left hi] at e;exact h3 i t e
 ·rw [List.getElem?_append_right (by omega)] at e
  by_cases h0:i=ss.length
  ·subst h0
   simp at e
   subst e;exact h4
  ·rw [List.getElem?_eq_none (by simp;omega)] at e;cases e
theorem Wk{hs:Heap}{b:Nat}{e:TypeId}: ∀ i (t:Option Addr × Nat × Nat),[((some ⟨b,0,none⟩:Option Addr),1,1)][i]? = some t->t.2.1<=t.2.2/\Mw (hs.put b (.cells #[U 10000000000000000000] e)) t.1 t.2.1 (Fm i:Int):=by
 intro i t e0
 rcases i with _|i
 ·simp at e0
  subst e0
  refine ⟨C3r _,[10000000000000000000],rfl,SlI.new _ _ _ _ _,?_,?_,?_⟩
  ·intro x hx;simp at hx;subst hx;decide
  ·unfold Norm;simp
  ·rw [A7l];simp [val]
 ·simp at e0
theorem Qx(hd:∀ c∈l,G1 c)(hl:l.length<=100000000)(hK:∀ A n c h',h.le h'->n<=c->Mw h' A n (J0 l:Int)->K (.slice A n c) h'):FCall prog Dx #[.string (bs l)] h K:=by
 refine Ud _ ?_
 unfold Ss
 rw [I6]
 refine B6 (fun h5=>?_) (fun _=>?_)
 ·refine Y7 O6 rfl ?_
  intro b1 hb1
  refine ⟨_,_,_,rfl,?_⟩
  refine Cb A3z (Priv.nil _ _ _ none) rfl rfl (by omega) (by omega) ?_
  intro A1 c1 h1 g1 lg1 p1
  refine ⟨fun s hp=>∃ (ss:List (Option Addr × Nat × Nat)) (PA:Option Addr) (k pc:Nat) (g:Heap),s=[.slice PA k pc]/\Priv hp g Do 1 PA k pc (ss.map slT)/\ss.length=k/\0<k/\h.le g/\(∀ i s,ss[i]? = some s->s.2.1<=s.2.2/\Mw g s.1 s.2.1 (Fm i:Int))/\2^(k-1)<=l.length,fun s _=>match s with|[.slice _ n _]=>l.length-n|_=>0,⟨[(some ⟨b1,0,none⟩,1,1)],A1,1,c1,g1,rfl,p1,rfl,by omega,B0 (Heap.le_put _ hb1) lg1,fun i s e=>⟨(Wk (hs:=h) (b:=b1) (e:=C1) i s e).1,(Wk (hs:=h) (b:=b1) (e:=C1) i s e).2.mono lg1⟩,by simp;omega⟩,?_⟩
  rintro PA k pc hp ⟨ss,PA',k',pc',g,hs,p,hk,hk0,lg,hw,hkl⟩
  simp only [C3a,C3u,and_true] at hs
  obtain ⟨rfl,rfl,rfl⟩:=hs
  have hk27:k-1<27:=by
   by_cases hc:k-1<27
   ·exact hc
   ·have:2^27<=2^(k-1):=C37 (by decide) (by omega)
    have:(2:Nat)^27=134217728:=by decide
    omega
  rw [C35,B65 (show k<=30 by omega)]
  have e1:B5 ((k:Int)-1)=((k-1:Nat):Int):=by rw [B7 (by omega) (by omega)];omega
  have hPg:Pws hp PA k:=⟨ss,hk,p.slV,fun i s e=>⟨(hw i s e).1,(hw i s e).2.mono p.le⟩⟩
  refine B6 (fun e=>absurd e (by omega)) (fun _=>B6 (fun h6=>?_) (fun h6=>?_))
  ·obtain ⟨a,ha,hc⟩:=p.slV.at (i:=k-1) (by rw [C3n];omega)
   rw [C3y] at hc
   obtain ⟨h4,M⟩:=hw (k-1) (ss[k-1]'(by omega)) (C36 (by omega))
   generalize ss[k-1]'(by omega)=s at *
   rw [e1,C35,C3i]
   refine ⟨a,ha,by omega,by omega,_,_,_,hc,?_⟩
   have hlen:=M.tenP_le
   refine p.call ?_
   refine G8 M M h4 h4 (by omega) (by omega) ?_
   intro A2 m2 c2 g2 l2 k2 M2 h2 p2
   refine ⟨_,_,_,rfl,?_⟩
   refine Cb A3z p2 rfl rfl (by omega) (by omega) ?_
   intro A3 c3 h3 g3 l3 p3
   have hm:2^k=2*2^(k-1):=by
    obtain ⟨i,rfl⟩:∃ i,k=i+1:=⟨k-1,by omega⟩
    rw [C3w];simp;omega
   have hkk:k<2^k:=Nat.lt_two_pow_self
   refine ⟨⟨ss++[(A2,m2,c2)],A3,k+1,c3,g3,rfl,?_,by simp;omega,by omega,B0 lg (B0 l2 l3),?_,?_⟩,?_⟩
   ·rw [List.map_append];exact p3
   ·refine Zw (fun i s e=>⟨(hw i s e).1,(hw i s e).2.mono (B0 l2 l3)⟩) ⟨k2,?_⟩
    rw [hk,show Fm k=Fm (k-1)*Fm (k-1) by rw [<- Zv];congr 1;omega,C3f]
    exact M2.mono l3
   ·rw [Nat.add_sub_cancel];omega
   ·show l.length-(k+1)<l.length-k
    omega
  ·refine Ft k hd hl hPg p.2.1 (by omega) ?_
   intro A n c h' l1 hc M
   exact ⟨_,_,_,rfl,hK _ _ _ _ (B0 lg (B0 p.le l1)) hc M⟩
 ·refine Ft 0 hd hl ⟨[],rfl,SlV.nil,by simp⟩ (by omega) (by omega) ?_
  intro A n c h' l1 hc M
  exact ⟨_,_,_,rfl,hK _ _ _ _ l1 hc M⟩
theorem Hn(hd:∀ c∈l,G1 c)(hl:l.length<=100000000)(hK:∀ A n c h',h.le h'->ZI h' false A n c (J0 l:Int)->K (.agg #[.bool false,.slice A n c]) h'):FCall prog Hr #[.string (bs l)] h K:=by
 refine B0a _ ?_
 unfold B50
 refine Qx hd hl ?_
 intro A n c h' l1 hc M
 refine ⟨_,_,_,rfl,hK _ _ _ _ l1 ⟨hc,?_,?_⟩⟩
 ·rw [C34];exact M
 ·symm;rw [decide_eq_false_iff_not];omega
end
theorem Priv.le_put'{h g:Heap}{e:TypeId}{s:Nat}{A:Option Addr}{n c:Nat}{xs:List Value}(p:Priv h g e s A n c xs){b:Nat}(hb:h b=none)(o:Obj):g.le (g.put b o):=by
 intro k o' hk
 have hne:k≠b:=by
  rintro rfl
  rw [p.le k o' hk] at hb;cases hb
 rw [B8 _ _ hne];exact hk
theorem A77{n:Int}(h0:9223372036854775808<=n)(h1:n<18446744073709551616):B5 n=n-18446744073709551616:=by
 unfold B5 IntKind.wrap
 simp only [IntKind.signed,IntKind.bits]
 have e:n%18446744073709551616=n:=by omega
 simp only [show (2^64:Int)=18446744073709551616 from rfl,show (2^(64-1):Int)=9223372036854775808 from rfl,e]
 rw [if_pos (by simp;omega)]
section
variable {h g:Heap} {K:VP} {A XA:Option Addr} {n c:Nat} {eT:TypeId} {l:List UInt8}
theorem B97{v xn:Nat}(hv:(v:Int)<b64^xn):(dd v).length<=20*xn:=by
 refine P7.2 ?_
 rw [Nat.pow_mul]
 have h1:((v:Nat):Int)<((18446744073709551616^xn:Nat):Int):=by rw [C3e];exact hv
 exact C3s (Int.ofNat_lt.1 h1) (C3q (by decide) _)
theorem Ey{xn xc v:Nat}(gp:Gp g)(p:Priv h g eT 1 A n c (yv l))(M:Mw g XA xn (v:Int))(hxc:xn<=xc)(hx:xn<=10000000)(hn:n<=200000000)
 (hK:∀ A' n' c' e3 g' h',Ext g eT A n c l (L9 v) A' n' c' e3 g' h'->K (.slice A' n' c') h'):FCall prog V8 #[.slice A n c,.slice XA xn xc] h K:=by
 have h0:=M.len_zero (by decide)
 refine Ta _ _ _ _ _ _ ?_
 unfold Pc
 refine D9 (fun e=>?_) (fun e=>?_)
 ·obtain rfl:v=0:=by omega
  refine Kg (ch:=48) rfl p (by omega) ?_
  intro A' n' c' e2 g' h' x
  exact hK _ _ _ _ _ _ x
 ·have hv0:v≠0:=by omega
  refine D9 (fun e1=>?_) (fun e1=>?_)
  ·obtain ⟨xs,hxl,sx,dx,nx,hxv⟩:=M
   obtain ⟨w,rfl⟩:∃ w,xs=[w]:=by
    rcases xs with _|⟨w,_|⟨w',r⟩⟩
    ·simp at hxl;omega
    ·exact ⟨w,rfl⟩
    ·simp at hxl;omega
   rw [T3] at hxv
   subst hxv
   refine (SlI.mono p.le sx).load hxl (by omega) (by omega) ?_
   have hw:=dx v (by simp)
   refine Ew (gp.mono p.le) p (by have:(v:Int)<18446744073709551616:=hw.2;omega) (by omega) ?_
   intro A' n' c' e2 g' h' x
   exact ⟨_,_,_,rfl,hK _ _ _ _ _ _ x⟩
  ·have hdl:=B97 (M.lt (by decide))
   have hpl:(pad 0 v).length<=200000000:=by rw [A4c];omega
   refine Y7 O6 rfl ?_
   intro b1 hb1
   refine ⟨_,_,_,rfl,?_⟩
   have p1:=p.put hb1 (.cells #[U 10000000000000000000] C1)
   have l1:=p.le_put' hb1 (.cells #[U 10000000000000000000] C1)
   have w1:=fun i s e=>Wk (hs:=g) (b:=b1) (e:=C1) i s e
   generalize h.put b1 (Obj.cells #[U 10000000000000000000] C1)=h1 at *
   generalize g.put b1 (Obj.cells #[U 10000000000000000000] C1)=g1 at *
   refine Y7 A3z rfl ?_
   intro b2 hb2
   refine ⟨_,_,_,rfl,?_⟩
   have split:∀ {hp:Heap} {ss:List (Option Addr × Nat × Nat)} {PA:Option Addr} {k pc:Nat} {gp1 gp2:Heap},Priv hp gp1 Do 1 PA k pc (ss.map slT)->Priv gp1 gp2 eT 1 A n c (yv l)->ss.length=k->g.le gp2->(∀ i s,ss[i]? = some s->s.2.1<=s.2.2/\Mw gp2 s.1 s.2.1 (Fm i:Int))->k<=26->
    FCall prog G2 #[.slice A n c,.slice XA xn xc,I (0:Int),.slice PA k pc] hp (fun r hp9=>∃ (A1:Option Addr) (n1 c1:Nat),r= .slice A1 n1 c1/\K (.slice A1 n1 c1) hp9):=by
    intro hp ss PA k pc gp1 gp2 pP pT hk lg hw hk24
    obtain ⟨g3,pT3,pP3⟩:=pP.swap pT
    have l3:=B0 lg pP3.le
    refine Pk k (W:=0) (gp.mono l3) pT3 (M.mono l3) hxc hx ⟨ss,hk,pP3.slV,fun i s e=>⟨(hw i s e).1,(hw i s e).2.mono pP3.le⟩⟩ pP3.2.1 hk24 (.inl rfl) (by omega) ?_
    intro A' n' c' e2 g' h' x
    refine ⟨_,_,_,rfl,hK _ _ _ e2 g' _ ?_⟩
    rw [A4c,<- W6 hv0] at x
    exact x.weak l3
   refine ⟨fun s hp=>∃ (ss:List (Option Addr × Nat × Nat)) (PA:Option Addr) (k pc:Nat) (gp1 gp2:Heap),s=[.slice PA k pc]/\Priv hp gp1 Do 1 PA k pc (ss.map slT)/\Priv gp1 gp2 eT 1 A n c (yv l)/\ss.length=k/\0<k/\g.le gp2/\(∀ i s,ss[i]? = some s->s.2.1<=s.2.2/\Mw gp2 s.1 s.2.1 (Fm i:Int))/\2^(k-1)<=2*xn,fun s _=>match s with|[.slice _ n _]=>xn-n|_=>0,⟨[(some ⟨b1,0,none⟩,1,1)],_,1,1,h1,g1,rfl,⟨by simp,by simp,.inr ⟨b2,[.slice (some ⟨b1,0,none⟩) 1 1],rfl,hb2,rfl,by simp,by simp⟩⟩,p1,rfl,by omega,l1,w1,by simp;omega⟩,?_⟩
   rintro PA k pc hp ⟨ss,PA',k',pc',gp1,gp2,hs,pP,pT,hk,hk0,lg,hw,hkx⟩
   simp only [C3a,C3u,and_true] at hs
   obtain ⟨rfl,rfl,rfl⟩:=hs
   have hk24:k<=26:=by
    by_cases hc:k<=26
    ·exact hc
    ·have h1:2^26<=2^(k-1):=C37 (by decide) (by omega)
     have h2:(2:Nat)^26=67108864:=by decide
     omega
   refine B6 (fun h30=>?_) (fun _=>split pP pT hk lg hw hk24)
   have e1:B5 ((k:Int)-1)=((k-1:Nat):Int):=by rw [B7 (by omega) (by omega)];omega
   obtain ⟨a,ha,hc⟩:=pP.slV.at (i:=k-1) (by rw [C3n];omega)
   rw [C3y] at hc
   obtain ⟨h4,Mk⟩:=hw (k-1) (ss[k-1]'(by omega)) (C36 (by omega))
   generalize ss[k-1]'(by omega)=s at *
   simp only [e1,C35,C3i]
   refine ⟨a,ha,by omega,by omega,_,_,_,hc,?_⟩
   have hge:=Mk.tenP_ge
   have hle:=Mk.tenP_le
   have e2:B5 (2*(s.2.1:Int))=2*(s.2.1:Int):=B7 (by omega) (by omega)
   rw [e2]
   refine B6 (fun h5=>?_) (fun _=>split pP pT hk lg hw hk24)
   refine ⟨a,ha,by omega,by omega,_,_,_,hc,?_⟩
   refine pP.call (pT.call ?_)
   refine G8 Mk Mk h4 h4 (by omega) (by omega) ?_
   intro A2 m2 c2 g2 l2 k2 M2 gp1' pT' hp' pP'
   refine ⟨_,_,_,rfl,?_⟩
   refine Cb A3z pP' rfl rfl (by omega) (by omega) ?_
   intro A3 c3 h3 g3 l3 p3
   obtain ⟨g4,l4,pT4⟩:=pT'.after l3
   have hm:2^k=2*2^(k-1):=by
    obtain ⟨i,rfl⟩:∃ i,k=i+1:=⟨k-1,by omega⟩
    rw [C3w];simp;omega
   have hkk:k<2^k:=Nat.lt_two_pow_self
   refine ⟨⟨ss++[(A2,m2,c2)],A3,k+1,c3,g3,g4,rfl,?_,pT4,by simp;omega,by omega,B0 lg (B0 l2 l4),?_,?_⟩,?_⟩
   ·rw [List.map_append];exact p3
   ·refine Zw (fun i s e=>⟨(hw i s e).1,(hw i s e).2.mono (B0 l2 l4)⟩) ⟨k2,?_⟩
    rw [hk,show Fm k=Fm (k-1)*Fm (k-1) by rw [<- Zv];congr 1;omega,C3f]
    exact M2.mono l4
   ·rw [Nat.add_sub_cancel];omega
   ·show xn-(k+1)<xn-k
    omega
theorem B1q{z:Int}{s:Bool}{xn xc m:Nat}(i:ZI h s XA xn xc z)(hz:ZB m z)(hm:m<=100000000):xn<=10000000:=by
 obtain ⟨k,hk⟩:∃ k,k=10000000:=⟨_,rfl⟩
 rw [<- hk]
 refine i.mag.len_le (by decide) ?_
 rw [Is]
 have h1:(z.natAbs:Int)<2^m:=by
  have:((z.natAbs:Nat):Int)<((2^m:Nat):Int):=Int.ofNat_lt.2 hz
  simpa using this
 have h2:=D0 (B:=2) (by decide) (show m<=64*k by omega)
 exact Int.lt_of_lt_of_le h1 h2
theorem Fh{s:Bool}{xn xc:Nat}{z:Int}(gp:Gp g)(p:Priv h g eT 1 A n c (yv l))(i:ZI g s XA xn xc z){m:Nat}(hz:ZB m z)(hm:m<=100000000)(hn:n<=100000000)
 (hK:∀ A' n' c' e3 g' h',Ext g eT A n c l (Io z) A' n' c' e3 g' h'->K (.slice A' n' c') h'):FCall prog Fx #[.agg #[.bool s,.slice XA xn xc],.slice A n c] h K:=by
 have hx:=B1q i hz hm
 refine A6f _ _ _ _ _ _ _ ?_
 unfold B07
 refine Br.of (fun e=>?_) (fun e=>?_)
 ·have hneg:z<0:=by have:=i.sgn;rw [e] at this;simpa using this.symm
  rw [A3x hneg] at hK
  refine Kg (ch:=45) rfl p (by omega) ?_
  intro A1 n1 c1 e1 g1 hp1 x1
  have:=x1.len
  refine Ey (gp.mono x1.le) x1.priv (i.mag.mono x1.le) i.cap hx (by simp at this;omega) ?_
  intro A2 n2 c2 e2 g2 hp2 x2
  exact ⟨_,_,_,rfl,hK _ _ _ _ _ _ (x1.trans x2)⟩
 ·have hneg:¬ z<0:=by have:=i.sgn;rw [e] at this;simpa using this.symm
  rw [Pu hneg] at hK
  refine Ey gp p i.mag i.cap hx (by omega) ?_
  intro A2 n2 c2 e2 g2 hp2 x2
  exact ⟨_,_,_,rfl,hK _ _ _ _ _ _ x2⟩
theorem Zh{s:Bool}{xn xc:Nat}{z:Int}(gp:Gp h)(i:ZI h s XA xn xc z){m:Nat}(hz:ZB m z)(hm:m<=100000000)(hK:K (.string (bs (Io z))) h):FCall prog Rp #[.agg #[.bool s,.slice XA xn xc]] h K:=by
 refine FCall.pure (A6c _ _ _ _ ?_)
 unfold B01
 refine Fh (l:=[]) (eT:=F5) gp (Priv.nil _ _ _ _) i hz hm (by omega) ?_
 intro A' n' c' e2 g' h' x
 refine ⟨_,_,_,rfl,?_⟩
 have hx:=x.len
 refine Jv Et.und Cl T4 x.priv.slV (by simpa using hx) ⟨_,rfl,?_⟩
 exact ⟨B0 x.le x.priv.le,hK⟩
theorem A1x{s:Bool}{xn xc:Nat}{z:Int}(i:ZI h s XA xn xc z)(hK1: -9223372036854775808<=z->z<9223372036854775808->K (.tuple #[I z,.bool true]) h)(hK0:¬ (-9223372036854775808<=z/\z<9223372036854775808)->K (.tuple #[I 0,.bool false]) h):FCall prog Xi #[.agg #[.bool s,.slice XA xn xc]] h K:=by
 have hz:=i.zeroIff
 have cx:=W8 i.sgn
 refine B05 _ _ _ _ ?_
 unfold B4y
 refine D9 (fun e=>?_) (fun e=>?_)
 ·obtain rfl:z=0:=by omega
  exact hK1 (by omega) (by omega)
 ·obtain ⟨xs,hxl,sx,dx,nx,hxv⟩:=i.mag
  have g0:=N0 dx 0
  refine sx.load hxl (by omega) (by omega) ?_
  rw [show ((0:Int)).toNat=0 from rfl]
  refine B6 (fun e1=>?_) (fun e1=>?_)
  ·refine hK0 ?_
   have hge:=i.mag.ge (by decide) (by omega)
   have h2:b64^1<=b64^(xn-1):=D0 (by decide) (by omega)
   have h3:b64^1=18446744073709551616:=by decide
   omega
  ·obtain ⟨w,rfl⟩:∃ w,xs=[w]:=by
    rcases xs with _|⟨w,_|⟨w',r⟩⟩
    ·simp at hxl;omega
    ·exact ⟨w,rfl⟩
    ·simp at hxl;omega
   rw [T3] at hxv
   have hw:[w].getD 0 0=w:=rfl
   rw [hw] at g0 ⊢
   rcases cx with ⟨rfl,hx⟩|⟨rfl,hx⟩
   ·refine Br.of (fun _=>?_) (fun e2=>by cases e2)
    refine B6 (fun e3=>?_) (fun e3=>?_)
    ·have:B5 (C0 (0-w))=z:=by rw [E8,A77 (by omega) (by omega)];omega
     rw [this];exact hK1 (by omega) (by omega)
    ·refine Br.of (fun e4=>by cases e4) (fun _=>?_)
     exact hK0 (by omega)
   ·refine Br.of (fun e2=>by cases e2) (fun _=>?_)
    refine Br.of (fun _=>?_) (fun e4=>by cases e4)
    refine B6 (fun e3=>?_) (fun e3=>?_)
    ·have:B5 w=z:=by rw [B7 (by omega) (by omega)];omega
     rw [this];exact hK1 (by omega) (by omega)
    ·exact hK0 (by omega)
end
theorem A8h(a b:Rat):(a*b).num=a.num.tdiv (C3b a.num.natAbs b.den:Nat)*b.num.tdiv (C3b b.num.natAbs a.den:Nat)/\(a*b).den=a.den/(C3b b.num.natAbs a.den)*(b.den/(C3b a.num.natAbs b.den)):=by
 show (Rat.mul a b).num=_/\(Rat.mul a b).den=_
 delta Rat.mul
 simp only [Int.divExact_eq_tdiv,Nat.divExact_eq_div,and_self]
theorem B4r{q:Rat}(h:q.den=1):q=(q.num:Rat):=by
 apply Rat.ext
 ·simp
 ·simpa using h
abbrev dgt(c:UInt8):Bool:=decide (G1 c)
theorem Jw(l:List UInt8):∀ c∈l.takeWhile dgt,G1 c:=by
 induction l with
 | nil=>simp
 | cons d r ih=>
  intro c hc
  by_cases hd:G1 d
  ·simp [hd] at hc
   rcases hc with rfl|hc
   ·exact hd
   ·exact ih c hc
  ·simp [hd] at hc
def B2k(l:List UInt8):Bool:=decide ([45] <+: l)
def Co(l:List UInt8):List UInt8:=if [45] <+: l then l.drop 1 else l
theorem A4b(l:List UInt8):l=(if B2k l then [45] else [])++Co l:=by
 unfold B2k Co
 by_cases h:[45] <+: l
 ·obtain ⟨t,rfl⟩:=h;simp
 ·simp [h]
theorem A84(l:List UInt8):B2k l=(l.head? == some 45):=by
 unfold B2k
 cases l with
 | nil=>simp
 | cons c r=>
  rw [C3o,C42,decide_eq_true_iff,beq_iff_eq,C3h]
  constructor
  ·rintro ⟨t,e⟩;simp at e;exact e.1.symm
  ·rintro rfl;exact ⟨r,rfl⟩
theorem Form.parts{l:List UInt8}{neg:Bool}{a b:List UInt8}(f:Form l neg a b):neg=B2k l/\a=(Co l).takeWhile dgt/\(if b=[] then [] else 47::b)=(Co l).dropWhile dgt:=by
 have hn:neg=B2k l:=by rw [A84];exact f.head
 have e:=A4b l
 rw [<- hn] at e
 have e2:=e.symm.trans f.eq
 rw [List.append_assoc] at e2
 have e3:=List.append_cancel_left e2
 have hr:∀ c,(if b=[] then [] else 47::b:List UInt8).head? = some c->¬ G1 c:=by
  intro c hc
  split at hc
  ·simp at hc
  ·simp at hc;subst hc;decide
 have:=Dq f.da hr
 rw [<- e3] at this
 exact ⟨hn,this.1.symm,this.2.symm⟩
section
variable {h g:Heap} {K:VP} {l:List UInt8}
theorem Ih(hl:l.length<=1000000000)(hK:K (.tuple #[.string (bs (l.takeWhile dgt)),.string (bs (l.dropWhile dgt))]) h):FCall prog X9 #[.string (bs l)] h K:=by
 refine Yp _ ?_
 unfold Vp
 simp only [I6]
 refine ⟨fun L hp=>L=[I (((l.takeWhile dgt).length:Nat):Int)]/\hp=h,?_,?_⟩
 ·refine ⟨fun L hp=>∃ k:Nat,L=[I k]/\hp=h/\k<=l.length/\(∀ c∈l.take k,G1 c),fun L _=>l.length-(iAt L 0).toNat,⟨0,rfl,rfl,by omega,by simp⟩,?_⟩
  rintro n hp ⟨k,hL,rfl,hk,hd⟩
  obtain rfl:=sI1 hL
  have stop:(∀ c,(l.drop k).head? = some c->¬ G1 c)->[I (k:Int)]=[I (((l.takeWhile dgt).length:Nat):Int)]/\hp=hp:=by
   intro hs
   have:=Dq hd hs
   rw [C3m] at this
   refine ⟨?_,rfl⟩
   rw [this.1,C3d,C3l hk]
  refine B6 (fun h1=>?_) (fun h1=>?_)
  ·have hkl:k<l.length:=by omega
   have hget:(bs l)[(k:Int).toNat]? = some l[k]:=by rw [C35,Ii,C36 hkl]
   have hh:(l.drop k).head? = some l[k]:=by rw [List.head?_drop,C36 hkl]
   refine ⟨l[k],⟨by omega,hget⟩,B6 (fun h2=>?_) (fun h2=>?_)⟩
   ·refine ⟨l[k],⟨by omega,hget⟩,B6 (fun h3=>?_) (fun h3=>?_)⟩
    ·rw [B7 (by omega) (by omega)]
     refine ⟨⟨k+1,rfl,rfl,by omega,?_⟩,by simp only [iAt,C39];omega⟩
     rw [C3t hkl]
     intro c hc
     rcases List.mem_append.1 hc with h4|h4
     ·exact hd c h4
     ·rw [List.mem_singleton.1 h4];exact ⟨by omega,by omega⟩
    ·exact stop (fun c hc=>by rw [hh] at hc;cases hc;intro hd;exact h3 (by have:=hd.2;omega))
   ·exact stop (fun c hc=>by rw [hh] at hc;cases hc;intro hd;exact h2 (by have:=hd.1;omega))
  ·exact stop (fun c hc=>by rw [List.drop_of_length_le (by omega)] at hc;cases hc)
 ·rintro n hp ⟨hL,rfl⟩
  obtain rfl:n=(((l.takeWhile dgt).length:Nat):Int):=by simpa using hL
  have hle:(l.takeWhile dgt).length<=l.length:=(List.takeWhile_sublist _).length_le
  have e1:l.take (l.takeWhile dgt).length=l.takeWhile dgt:=by
   conv=>lhs;rw [<- C3c (p:=dgt) (l:=l)]
   rw [C3c,List.prefix_iff_eq_take.1 (List.takeWhile_prefix _)]
   rw [C3d,C3l hle]
  have e2:l.drop (l.takeWhile dgt).length=l.dropWhile dgt:=by
   have h5:l.takeWhile dgt++l.drop (l.takeWhile dgt).length=l.takeWhile dgt++l.dropWhile dgt:=by
    rw [C3c]
    conv=>lhs;lhs;rw [<- e1]
    exact C3m _ _
   exact List.append_cancel_left h5
  refine ⟨⟨by omega,by omega⟩,⟨by omega,by omega⟩,?_⟩
  rw [C35,N2,N2,C3p,C3k,e1,e2,C3j (by rw [<- e2,List.length_drop];omega)]
  exact hK
theorem U8(a:List UInt8):((bs a).toList==({ data:=#[] }:ByteArray).toList)=decide (a=[]):=Gn a []
theorem Mq(hl:l.length<=1000000000)(hK1:∀ neg a b,Form l neg a b->K (.tuple #[.agg #[.bool neg,.string (bs a),.string (bs b)],.bool true]) h)(hK0:(∀ neg a b,¬ Form l neg a b)->∀ neg a b,K (.tuple #[.agg #[.bool neg,.string (bs a),.string (bs b)],.bool false]) h):FCall prog Ks #[.string (bs l)] h K:=by
 refine B0e _ ?_
 unfold B54
 refine Ub (q:=[45]) ⟨_,_,rfl,?_⟩
 have hpl:(Co l).length<=l.length:=by unfold Co;split<;>simp
 show FCall prog X9 #[.string (bs (Co l))] h _
 refine Ih (by omega) ⟨_,_,rfl,?_⟩
 show Br _ _ _
 have hspl:Co l=(Co l).takeWhile dgt++(Co l).dropWhile dgt:=List.takeWhile_append_dropWhile.symm
 have hda:∀ c∈(Co l).takeWhile dgt,G1 c:=Jw _
 have hfp:∀ neg a b,Form l neg a b->neg=B2k l/\a=(Co l).takeWhile dgt/\(if b=[] then [] else 47::b)=(Co l).dropWhile dgt:=fun neg a b f=>f.parts
 have hl2:=A4b l
 have hal:((Co l).takeWhile dgt).length<=l.length:=C3x (List.takeWhile_sublist _).length_le hpl
 have hrl:((Co l).dropWhile dgt).length<=l.length:=C3x (List.dropWhile_sublist _).length_le hpl
 have hrh:∀ c,((Co l).dropWhile dgt).head? = some c->¬ G1 c:=fun c hc=>by
  have:=List.head?_dropWhile_not dgt (Co l)
  rw [hc] at this
  simpa using this
 show Br _ _ _
 have hneg:decide ([45] <+: l)=B2k l:=rfl
 rw [hneg]
 generalize B2k l=neg at *
 generalize (Co l).takeWhile dgt=a at *
 generalize (Co l).dropWhile dgt=r at *
 generalize Co l=t at *
 subst hspl
 have e48:((bs a).toList==({ data:=#[48] }:ByteArray).toList)=decide (a=[48]):=Gn a [48]
 rw [e48,U8,U8]
 refine B6 (fun h1=>?_) (fun h1=>?_)
 ·subst h1
  refine O5 (Br.of (fun hn=>?_) (fun hn=>?_))
  ·subst hn
   refine hK0 ?_ _ _ []
   intro n' a' b' f
   obtain ⟨rfl,rfl,_⟩:=hfp _ _ _ f
   rcases f.ha with h2|h2
   ·exact h2 rfl
   ·cases h2.2.1
  ·subst hn
   by_cases hr:r=[]
   ·rw [decide_eq_true hr]
    subst hr
    refine hK1 false [48] [] ⟨by simpa using hl2,by simpa using hda,by simp,by simp,.inr ⟨rfl,rfl,rfl⟩,by simp,by simp⟩
   ·rw [decide_eq_false hr]
    refine hK0 ?_ _ _ []
    intro n' a' b' f
    obtain ⟨rfl,rfl,h3⟩:=hfp _ _ _ f
    rcases f.ha with h2|h2
    ·exact h2 rfl
    ·rw [h2.2.2] at h3;exact hr (by simpa using h3.symm)
 ·refine ⟨fun L hp=>L=[.bool (decide (a=[]\/a.head? = some 48))]/\hp=h,?_,?_⟩
  ·refine B6 (fun h2=>⟨by simp [h2],rfl⟩) (fun h2=>?_)
   obtain ⟨c,r2,rfl⟩:=C38 h2
   refine ⟨c,⟨by omega,by rw [Ii];rfl⟩,?_,rfl⟩
   congr 2
   rw [C42,beq_iff_eq,decide_eq_true_iff]
   simp only [reduceCtorEq,false_or,C3o,C3h]
   constructor
   ·intro e;apply UInt8.toNat_inj.1;show c.toNat=48;omega
   ·rintro rfl;rfl
  rintro t31 hp ⟨hL,rfl⟩
  obtain rfl:t31=decide (a=[]\/a.head? = some 48):=by simpa using hL
  refine B6 (fun h2=>?_) (fun h2=>?_)
  ·refine hK0 ?_ _ _ []
   intro n' a' b' f
   obtain ⟨rfl,rfl,_⟩:=hfp _ _ _ f
   rcases h2 with h2|h2
   ·exact f.ne h2
   ·rcases f.ha with h3|h3
    ·exact h3 h2
    ·exact h1 h3.1
  ·have hane:a≠[]:=fun e=>h2 (.inl e)
   have hah:a.head? ≠ some 48:=fun e=>h2 (.inr e)
   refine B6 (fun h3=>?_) (fun h3=>?_)
   ·subst h3
    exact hK1 neg a [] ⟨by simpa using hl2,hda,by simp,hane,.inl hah,by simp,by simp⟩
   ·obtain ⟨c,r2,rfl⟩:=C38 h3
    refine ⟨c,⟨by omega,by rw [Ii];rfl⟩,H1 (fun h4=>?_) (fun h4=>?_)⟩
    ·refine hK0 ?_ _ _ []
     intro n' a' b' f
     obtain ⟨rfl,rfl,h5⟩:=hfp _ _ _ f
     by_cases hb:b'=[]
     ·simp [hb] at h5
     ·rw [if_neg hb] at h5
      simp at h5
      exact h4 (by rw [<- h5.1];rfl)
    ·have hc:c=47:=by apply UInt8.toNat_inj.1;show c.toNat=47;omega
     subst hc
     refine ⟨⟨by omega,by rw [I6];simp;omega⟩,?_⟩
     rw [N2,show ((1:Int)).toNat=1 from rfl,I6,C3j (by simp),List.drop_succ_cons,C3p]
     refine Ih (by simp at hrl;omega) ⟨_,_,rfl,?_⟩
     have hsp2:r2=r2.takeWhile dgt++r2.dropWhile dgt:=List.takeWhile_append_dropWhile.symm
     have hdb:∀ c∈r2.takeWhile dgt,G1 c:=Jw _
     have hbp:∀ b':List UInt8,(∀ c∈b',G1 c)->b'=r2->r2.takeWhile dgt=b'/\r2.dropWhile dgt=[]:=by
      intro b' hd e
      subst e
      have:=Dq (r:=[]) hd (by simp)
      simpa using this
     generalize r2.takeWhile dgt=b at *
     generalize r2.dropWhile dgt=s at *
     have no:(s≠[]\/b=[]\/b.head? = some 48\/b=[49])->∀ neg' a' b',¬ Form (((if neg=true then [45] else [])++(a++47::r2))) neg' a' b':=by
      rintro hbad n' a' b' f
      rw [<- hl2] at f
      obtain ⟨rfl,rfl,h5⟩:=hfp _ _ _ f
      by_cases hb:b'=[]
      ·simp [hb] at h5
      ·rw [if_neg hb] at h5
       simp at h5
       obtain ⟨e6,e7⟩:=hbp b' f.db h5
       subst e6
       rcases hbad with h6|h6|h6|h6
       ·exact h6 e7
       ·exact hb h6
       ·exact f.hb h6
       ·exact f.b1 h6
     rw [U8,U8]
     have e49:((bs b).toList==({ data:=#[49] }:ByteArray).toList)=decide (b=[49]):=Gn b [49]
     rw [e49]
     refine B6 (fun h6=>?_) (fun h6=>hK0 (by rw [hl2];exact no (.inl h6)) _ _ _)
     subst h6
     rw [List.append_nil] at hsp2
     subst hsp2
     refine O5 (B6 (fun h7=>hK0 (by rw [hl2];exact no (.inr (.inl h7))) _ _ _) (fun h7=>?_))
     obtain ⟨c,r3,rfl⟩:=C38 h7
     refine ⟨c,⟨by omega,by rw [Ii];rfl⟩,H1 (fun h8=>?_) (fun h8=>?_)⟩
     ·by_cases h9:c::r3=[49]
      ·rw [decide_eq_true h9]
       exact hK0 (by rw [hl2];exact no (.inr (.inr (.inr h9)))) _ _ _
      ·rw [decide_eq_false h9]
       refine hK1 neg a (c::r3) ⟨by simpa using hl2,hda,hdb,hane,.inl hah,?_,h9⟩
       intro e;simp at e;exact h8 (by rw [e];rfl)
     ·have hh:(c::r3).head? = some 48:=by
       simp only [C3o,C3h]
       apply UInt8.toNat_inj.1;show c.toNat=48;omega
      exact hK0 (by rw [hl2];exact no (.inr (.inr (.inl hh)))) _ _ _
end
theorem B1x{q:Rat}(h:q.den=1):K3 q=Io q.num:=by unfold K3;rw [if_pos h,List.append_nil]
theorem A7g{q:Rat}(h:q.den≠1):K3 q=Io q.num++[47]++Io (q.den:Int):=by
 unfold K3;rw [if_neg h,Pu (i:=(q.den:Int)) (by omega),C34];simp
section
variable {h g:Heap} {K:VP} {l:List UInt8}
theorem C0r{k:Nat}(h:k<=18):10^k<=1000000000000000000:=C3x (C37 (by decide) h) (by decide)
theorem Ev(hd:∀ c∈l,G1 c)(hl:l.length<=18)(hK:K (I (J0 l:Int)) h):FCall prog V9 #[.string (bs l)] h K:=by
 refine Tg _ ?_
 unfold Pd
 simp only [I6]
 refine ⟨fun L hp=>∃ k:Nat,L=[I (J0 (l.take k):Int),I k]/\hp=h/\k<=l.length,fun L _=>l.length-(iAt L 1).toNat,⟨0,rfl,rfl,by omega⟩,?_⟩
 rintro n t7 hp ⟨k,hL,rfl,hk⟩
 simp only [C3a,C3z,and_true,true_and] at hL
 obtain ⟨rfl,rfl⟩:=hL
 refine B6 (fun h1=>?_) (fun h1=>?_)
 ·have hkl:k<l.length:=by omega
  have hdc:=hd l[k] (List.getElem_mem hkl)
  have hlt:=Ek (l:=l.take (k+1)) (fun c hc=>hd c (List.mem_of_mem_take hc))
  rw [C3d,C3l (by omega)] at hlt
  have ht:=C0r (k:=k+1) (by omega)
  have hs:J0 (l.take (k+1))=10*J0 (l.take k)+(l[k].toNat-48):=by rw [C3t hkl,Gk]
  unfold G1 at hdc
  refine ⟨l[k],⟨by omega,by rw [C35,Ii,C36 hkl]⟩,?_⟩
  have e:B5 (B5 (10*((J0 (l.take k):Nat):Int))+B5 (wu8 (((l[k].toNat:Nat):Int)-48)))=((J0 (l.take (k+1)):Nat):Int):=by
   rw [Ur (by omega) (by omega),B7 (n:=((l[k].toNat:Nat):Int)-48) (by omega) (by omega),B7 (n:=10*((J0 (l.take k):Nat):Int)) (by omega) (by omega),B7 (by omega) (by omega)]
   omega
  rw [e,B7 (n:=(k:Int)+1) (by omega) (by omega)]
  exact ⟨⟨k+1,rfl,rfl,by omega⟩,by simp only [iAt,C39,List.getElem?_cons_succ];omega⟩
 ·obtain rfl:k=l.length:=by omega
  rw [List.take_length];exact hK
theorem A7k{a b:Nat}(hK:K (I (C3b a b:Int)) h):FCall prog A90 #[I (a:Int),I (b:Int)] h K:=by
 refine B7d _ _ ?_
 unfold C2i
 refine ⟨fun L hp=>∃ x y:Nat,L=[I x,I y]/\hp=h/\C3b x y=C3b a b,fun L _=>(iAt L 1).toNat,⟨a,b,rfl,rfl,rfl⟩,?_⟩
 rintro a1 b1 hp ⟨x,y,hL,rfl,hg⟩
 obtain ⟨rfl,rfl⟩:a1=(x:Int)/\b1=(y:Int):=by simpa using hL
 refine H1 (fun h1=>?_) (fun h1=>?_)
 ·have hy:y≠0:=by omega
  refine B6 (fun e=>absurd e h1) (fun _=>?_)
  have e:Int.tmod (x:Int) (y:Int)=((x%y:Nat):Int):=(Int.ofNat_tmod x y).symm
  rw [e]
  have hlt:=Nat.mod_lt x (Nat.pos_of_ne_zero hy)
  refine ⟨⟨y,x%y,rfl,rfl,?_⟩,by simp only [iAt,C39,List.getElem?_cons_succ];omega⟩
  rw [<- hg,Nat.gcd_comm x y,Nat.gcd_rec y x,Nat.gcd_comm]
 ·obtain rfl:y=0:=by omega
  rw [Nat.gcd_zero_right] at hg
  rw [hg];exact hK
theorem Tu(hK1:∀ q,l=K3 q->q.num.natAbs<1000000000->q.den<1000000000->K (.tuple #[.agg #[I q.num,I (q.den:Int)],.bool true]) h)(hK0:K (.tuple #[.agg #[I 0,I 0],.bool false]) h):FCall prog Fy #[.string (bs l)] h K:=by
 refine Yo _ ?_
 unfold Vo
 rw [I6]
 refine B6 (fun _=>hK0) (fun h1=>?_)
 refine Mq (by omega) ?_ ?_
 ·intro neg a b f
  refine ⟨_,_,_,_,rfl,?_⟩
  simp only [I6]
  refine ⟨fun L hp=>L=[.bool (decide (a.length>9\/b.length>9))]/\hp=h,Br.of (fun e=>by cases e) (fun _=>B6 (fun h2=>⟨?_,rfl⟩) (fun h2=>⟨?_,rfl⟩)),?_⟩
  ·rw [decide_eq_true (show a.length>9\/b.length>9 by omega)]
  ·by_cases hb9:b.length>9
   ·rw [decide_eq_true (show a.length>9\/b.length>9 by omega)]
    exact congrArg (fun x=>[Value.bool x]) (decide_eq_true (show ((b.length:Nat):Int)>9 by omega))
   ·rw [decide_eq_false (show ¬ (a.length>9\/b.length>9) by omega)]
    exact congrArg (fun x=>[Value.bool x]) (decide_eq_false (show ¬ ((b.length:Nat):Int)>9 by omega))
  rintro t29 hp ⟨hL,rfl⟩
  obtain rfl:t29=decide (a.length>9\/b.length>9):=by simpa using hL
  refine B6 (fun _=>hK0) (fun h2=>?_)
  have habs:(Ov neg a).natAbs=J0 a:=by unfold Ov;split<;>simp
  have hva:=Ek f.da
  have hvb:=Ek f.db
  have h9:∀ k,k<=9->10^k<=1000000000:=fun k hk=>C3x (C37 (by decide) hk) (by decide)
  have h9a:=h9 a.length (by omega)
  have h9b:=h9 b.length (by omega)
  refine Ev f.da (by omega) ⟨_,rfl,?_⟩
  refine ⟨fun L hp'=>L=[I 0,I 0,I (J0 a:Int),I (Jm b:Int)]/\hp'=hp/\C3b (J0 a) (Jm b)=1,?_,?_⟩
  ·rw [U8]
   refine O5 (B6 (fun h3=>?_) (fun h3=>?_))
   ·subst h3;exact ⟨rfl,rfl,by unfold Jm;simp⟩
   ·refine Ev f.db (by omega) ⟨_,rfl,A7k ⟨_,rfl,H1 (fun _=>hK0) (fun h4=>?_)⟩⟩
    have hfd:Jm b=J0 b:=by unfold Jm;rw [if_neg h3]
    rw [hfd]
    exact ⟨rfl,rfl,by omega⟩
  ·rintro t20 t21 x0 x1 hp5 ⟨hL5,rfl,hg⟩
   simp only [C3a,C3z,and_true,true_and] at hL5
   obtain ⟨_,_,rfl,rfl⟩:=hL5
   obtain ⟨q,hq⟩:=f.isNum.2 hg
   have hqf:=f.of_txt hq
   have hfd1:Jm b<1000000000:=by unfold Jm;split<;>omega
   refine ⟨fun L hp'=>L=[I q.num,I (q.den:Int)]/\hp'=hp5,Br.of (fun e=>?_) (fun e=>?_),?_⟩
   ·rw [hqf.1,hqf.2,e,B7 (by omega) (by omega)]
    exact ⟨by unfold Ov;simp,rfl⟩
   ·rw [hqf.1,hqf.2,e]
    exact ⟨by unfold Ov;simp,rfl⟩
   ·rintro y0 y1 hp6 ⟨hL6,rfl⟩
    simp only [C3a,C3z,and_true,true_and] at hL6
    obtain ⟨rfl,rfl⟩:=hL6
    exact hK1 q hq (by rw [hqf.1,habs];omega) (by rw [hqf.2];exact hfd1)
 ·intro hf neg a b
  refine ⟨_,_,_,_,rfl,?_⟩
  refine ⟨fun L hp=>L=[.bool true]/\hp=h,O5 ⟨rfl,rfl⟩,?_⟩
  rintro t29 hp ⟨hL,rfl⟩
  obtain rfl:t29=true:=by simpa using hL
  exact Br.of (fun _=>hK0) (fun e=>by cases e)
end
structure RQ (h:Heap) (w:QV) (q:Rat):Prop where
 num:ZI h w.s w.A w.n w.c q.num
 den:ZI h w.s2 w.A2 w.n2 w.c2 (if q.den=1 then 0 else (q.den:Int))
theorem ZB.gcd{m:Nat}{x y:Int}(hy:y≠0)(h:ZB m y):ZB m (C3v x y:Int):=by
 refine h.le ?_
 rw [C34]
 exact Nat.le_of_dvd (by omega) (Int.natAbs_dvd_natAbs.2 (Int.gcd_dvd_right x y))
section
variable {h h':Heap} {K:VP} {A B:Option Addr} {n c n' c':Nat} {s s':Bool} {x y z:Int} {m:Nat} {p q:Rat} {a b w:QV} {l:List UInt8}
theorem RQ.mono(hl:h.le h')(i:RQ h w q):RQ h' w q:=⟨i.num.mono hl,i.den.mono hl⟩
theorem RQ.whole(i:ZI h s A n c z):RQ h ⟨s,A,n,c,false,none,0,0⟩ (z:Rat):=⟨by simpa using i,by simpa using ZI.zero⟩
theorem RQ.zero:RQ h ⟨false,none,0,0,false,none,0,0⟩ 0:=⟨ZI.zero,ZI.zero⟩
theorem Hp(i:RQ h w q)(hK:K (.bool (decide (q.den=1))) h):FCall prog G0 #[.agg #[.bool w.s2,.slice w.A2 w.n2 w.c2]] h K:=by
 refine F6 i.den ?_
 have:=q.den_nz
 have e:decide ((if q.den=1 then (0:Int) else (q.den:Int))=0)=decide (q.den=1):=by
  rw [decide_eq_decide];split<;>omega
 rw [e];exact hK
theorem Bg(i:ZI h s A n c z)(j:ZI h s' B n' c' y)(h1:q.num=z)(h2:(q.den:Int)=y)(hK:∀ w,RQ h w q->K w.v h):FCall prog Bk #[.agg #[.bool s,.slice A n c],.agg #[.bool s',.slice B n' c']] h K:=by
 subst h1 h2
 refine A6i _ _ _ _ _ _ _ _ ?_
 unfold B0g
 refine O7 j ⟨_,rfl,B6 (fun e=>?_) (fun e=>?_)⟩
 ·exact hK ⟨s,A,n,c,false,none,0,0⟩ ⟨i,by rw [if_pos (by omega)];exact ZI.zero⟩
 ·exact hK ⟨s,A,n,c,s',B,n',c'⟩ ⟨i,by rw [if_neg (by omega)];exact j⟩
theorem Kf(i:RQ h w q)(hK:∀ s A n c h',h.le h'->ZI h' s A n c (q.den:Int)->K (.agg #[.bool s,.slice A n c]) h'):FCall prog Vf #[w.v] h K:=by
 refine B7h _ _ _ _ _ _ _ _ ?_
 unfold C2l
 refine Hp i ⟨_,rfl,B6 (fun e=>?_) (fun e=>?_)⟩
 ·refine Fe (by decide) (by decide) ?_
  intro s A n c h1 l1 i1
  exact ⟨_,_,_,_,rfl,hK _ _ _ _ _ l1 (by rw [e];exact i1)⟩
 ·have:=i.den
  rw [if_neg e] at this
  exact hK _ _ _ _ _ (B4 _) this
theorem Sj(gl:Gtz h)(i:ZI h s A n c x)(j:ZI h s' B n' c' y)(hx:ZB m x)(hy:ZB m y)(hm:m<=6400000000)(hy0:0<y)(hK:∀ s1 A1 n1 c1 s2 A2 n2 c2 h',h.le h'->ZI h' s1 A1 n1 c1 (x.tdiv (C3v x y))->ZI h' s2 A2 n2 c2 (y.tdiv (C3v x y))->K (.tuple #[.agg #[.bool s1,.slice A1 n1 c1],.agg #[.bool s2,.slice A2 n2 c2]]) h'):FCall prog Kt #[.agg #[.bool s,.slice A n c],.agg #[.bool s',.slice B n' c']] h K:=by
 refine A6j _ _ _ _ _ _ _ _ ?_
 unfold B0h
 refine O7 j ⟨_,rfl,B6 (fun e=>?_) (fun e=>?_)⟩
 ·subst e
  have hg:C3v x 1=1:=by simp
  rw [hg] at hK
  exact hK _ _ _ _ _ _ _ _ _ (B4 _) (by simpa using i) (by simpa using j)
 ·refine Ff gl i j hx hy hm ?_
  intro A1 n1 c1 h1 l1 i1
  have hg:=Int.gcd_pos_of_ne_zero_right x (show y≠0 by omega)
  have hgb:ZB m (C3v x y:Int):=ZB.gcd (by omega) hy
  refine ⟨_,_,_,_,rfl,Bc (i.mono l1) i1 hx hgb hm (by omega) ?_⟩
  intro s2 A2 n2 c2 h2 l2 i2
  refine ⟨_,_,_,_,rfl,l2,Bc (j.mono (B0 l1 l2)) (i1.mono l2) hy hgb hm (by omega) ?_⟩
  intro s3 A3 n3 c3 h3 l3 i3
  exact ⟨_,_,_,_,rfl,l3,hK _ _ _ _ _ _ _ _ _ (B0 l1 (B0 l2 l3)) (i2.mono l3) i3⟩
theorem A2d(i:RQ h w q)(hK:K (I q.num.sign) h):FCall prog A2z #[w.v] h K:=by
 refine B3j _ _ _ _ _ _ _ _ ?_
 unfold B9k
 exact Mh i.num ⟨_,rfl,hK⟩
theorem Fq(i:RQ h w q)(hK:K (.bool (decide (q=0))) h):FCall prog Ga #[w.v] h K:=by
 refine A6n _ _ _ _ _ _ _ _ ?_
 unfold B0m
 refine F6 i.num ⟨_,rfl,?_⟩
 have e:decide (q.num=0)=decide (q=0):=by rw [decide_eq_decide];exact C40
 rw [e];exact hK
end
structure Gl (h:Heap):Prop where
 tz:Gtz h
 p10:Gp h
theorem Gl.mono{h h':Heap}(g:Gl h)(l:h.le h'):Gl h':=⟨g.tz.mono l,g.p10.mono l⟩
section
variable {h h':Heap} {K:VP} {A B:Option Addr} {n c n' c':Nat} {s s':Bool} {x y z:Int} {m:Nat} {p q:Rat} {a b w:QV} {l:List UInt8}
theorem Ux(gl:Gtz h)(i:RQ h a p)(j:RQ h b q)(hp:Sz m p)(hq:Sz m q)(hm:m<=6400000000)(hK:∀ w h',h.le h'->RQ h' w (p*q)->K w.v h'):FCall prog A4n #[a.v,b.v] h K:=by
 have hpd:=p.den_nz
 have hqd:=q.den_nz
 refine B7f _ _ _ _ _ _ _ _ _ _ _ _ _ _ _ _ ?_
 unfold C2j
 refine ⟨fun L hp=>L=[.bool (decide (p.num=0\/q.num=0))]/\hp=h,F6 i.num ⟨_,rfl,B6 (fun e=>?_) (fun e=>?_)⟩,?_⟩
 ·exact ⟨by simp [e],rfl⟩
 ·exact F6 j.num ⟨_,rfl,by simp [e],rfl⟩
 rintro t16 hp2 ⟨hL,rfl⟩
 obtain rfl:t16=decide (p.num=0\/q.num=0):=by simpa using hL
 refine B6 (fun e=>?_) (fun e=>?_)
 ·have:p*q=0:=by
   rw [C40,C40] at e
   exact Rat.mul_eq_zero.2 e
  rw [this] at hK
  exact hK ⟨false,none,0,0,false,none,0,0⟩ _ (B4 _) RQ.zero
 ·refine ⟨fun L hp=>L=[.bool (decide (p.den=1/\q.den=1))]/\hp=hp2,Hp i ⟨_,rfl,B6 (fun e=>?_) (fun e=>?_)⟩,?_⟩
  ·exact Hp j ⟨_,rfl,by simp [e],rfl⟩
  ·exact ⟨by simp [e],rfl⟩
  rintro t25 hp5 ⟨hL,rfl⟩
  obtain rfl:t25=decide (p.den=1/\q.den=1):=by simpa using hL
  refine B6 (fun e=>?_) (fun e=>?_)
  ·refine Ci i.num j.num hp.num hq.num hm ?_
   intro s1 A1 n1 c1 h1 l1 i1
   refine ⟨_,_,_,_,rfl,hK ⟨s1,A1,n1,c1,false,none,0,0⟩ _ l1 ?_⟩
   have:=RQ.whole i1
   rw [Rat.intCast_mul,<- B4r e.1,<- B4r e.2] at this
   exact this
  ·have hpp:=A8h p q
   refine Kf j ?_
   intro s1 A1 n1 c1 h1 l1 jd
   refine ⟨_,_,_,_,rfl,l1,Sj (gl.mono l1) (i.num.mono l1) jd hp.num hq.den hm (by omega) ?_⟩
   intro s2 A2 n2 c2 s3 A3 n3 c3 h2 l2 i2 i3
   have l12:=B0 l1 l2
   refine ⟨_,_,_,_,_,_,_,_,rfl,l2,Kf (i.mono l12) ?_⟩
   intro s4 A4 n4 c4 h4 l4 idn
   refine ⟨_,_,_,_,rfl,l4,Sj (gl.mono (B0 l12 l4)) (j.num.mono (B0 l12 l4)) idn hq.num hp.den hm (by omega) ?_⟩
   intro s5 A5 n5 c5 s6 A6 n6 c6 h5 l5 i5 i6
   have e1:C3v p.num (q.den:Int)=C3b p.num.natAbs q.den:=rfl
   have e2:C3v q.num (p.den:Int)=C3b q.num.natAbs p.den:=rfl
   rw [e1] at i2 i3
   rw [e2] at i5 i6
   rw [<- Int.ofNat_tdiv] at i3 i6
   refine ⟨_,_,_,_,_,_,_,_,rfl,l5,Ci (i2.mono (B0 l4 l5)) i5 hp.num.tdiv hq.num.tdiv hm ?_⟩
   intro s7 A7 n7 c7 h7 l7 i7
   have b1:ZB m ((p.den/C3b q.num.natAbs p.den:Nat):Int):=hp.den.le (by rw [C34,C34];exact C41 _ _)
   have b2:ZB m ((q.den/C3b p.num.natAbs q.den:Nat):Int):=hq.den.le (by rw [C34,C34];exact C41 _ _)
   refine ⟨_,_,_,_,rfl,l7,Ci (i6.mono l7) (i3.mono (B0 l4 (B0 l5 l7))) b1 b2 hm ?_⟩
   intro s8 A8 n8 c8 h8 l8 i8
   refine ⟨_,_,_,_,rfl,l8,Bg (q:=p*q) (i7.mono l8) i8 hpp.1 (by rw [hpp.2,C3f]) ?_⟩
   intro w iw
   exact ⟨_,_,_,_,_,_,_,_,rfl,B4 _,hK _ _ (B0 l12 (B0 l4 (B0 l5 (B0 l7 l8)))) iw⟩
theorem Ws(i:RQ h w q)(hK:∀ w h',h.le h'->RQ h' w q⁻¹->K w.v h'):FCall prog Nj #[w.v] h K:=by
 have hqd:=q.den_nz
 refine A3m _ _ _ _ _ _ _ _ ?_
 unfold A57
 refine Mh i.num ⟨_,rfl,D9 (fun e=>?_) (fun e=>?_)⟩
 ·have h0:q.num=0:=Int.sign_eq_zero_iff_zero.1 e
  have:q⁻¹=0:=by rw [Rat.num_eq_zero.1 h0];exact Rat.inv_zero
  rw [this] at hK
  exact hK ⟨false,none,0,0,false,none,0,0⟩ _ (B4 _) RQ.zero
 ·have h0:q.num≠0:=fun e0=>e (by rw [e0];rfl)
  refine D9 (fun e1=>?_) (fun e1=>?_)
  ·have hneg:q.num<0:=Int.sign_neg_iff.1 (by omega)
   refine Kf i ?_
   intro s1 A1 n1 c1 h1 l1 i1
   refine ⟨_,_,_,_,rfl,l1,Ch i1 ?_⟩
   intro s2 i2
   refine ⟨_,_,_,_,rfl,B4 _,Ch (i.num.mono l1) ?_⟩
   intro s3 i3
   refine ⟨_,_,_,_,rfl,B4 _,Bg (q:=q⁻¹) i2 i3 ?_ ?_ ?_⟩
   ·rw [Rat.num_inv,e1];omega
   ·rw [Rat.den_inv,if_neg h0];omega
   ·intro w iw
    exact ⟨_,_,_,_,_,_,_,_,rfl,B4 _,hK _ _ l1 iw⟩
  ·have hpos:0<q.num:=by
    rcases Int.lt_trichotomy q.num 0 with h1|h1|h1
    ·exact absurd (C43 h1) e1
    ·exact absurd h1 h0
    ·exact h1
   refine Kf i ?_
   intro s1 A1 n1 c1 h1 l1 i1
   refine ⟨_,_,_,_,rfl,l1,Bg (q:=q⁻¹) i1 (i.num.mono l1) ?_ ?_ ?_⟩
   ·rw [Rat.num_inv,Int.sign_eq_one_of_pos hpos,Int.one_mul]
   ·rw [Rat.den_inv,if_neg h0];omega
   ·intro w iw
    exact ⟨_,_,_,_,_,_,_,_,rfl,B4 _,hK _ _ l1 iw⟩
theorem Uy(gl:Gtz h)(i:RQ h a p)(j:RQ h b q)(hp:Sz m p)(hq:Sz m q)(hm1:1<=m)(hm:m<=6400000000)(hK:∀ w h',h.le h'->RQ h' w (p/q)->K w.v h'):FCall prog A4o #[a.v,b.v] h K:=by
 refine B7g _ _ _ _ _ _ _ _ _ _ _ _ _ _ _ _ ?_
 unfold C2k
 refine Ws j ?_
 intro w1 h1 l1 j1
 refine ⟨_,_,_,_,_,_,_,_,rfl,l1,Ux (gl.mono l1) (i.mono l1) j1 hp (hq.inv hm1) hm ?_⟩
 intro w2 h2 l2 i2
 rw [<- Rat.div_def] at i2
 exact ⟨_,_,_,_,_,_,_,_,rfl,l2,hK _ _ (B0 l1 l2) i2⟩
theorem Nn{t:List UInt8}{k:Nat}(h:∀ c∈t,G1 c)(hk:t.length<=k):ZB (4*k) (J0 t:Int):=by
 unfold ZB
 rw [C34]
 exact C3s (Bl h) (C37 (by decide) (by omega))
theorem Form.lens{neg:Bool}{a b:List UInt8}(f:Form l neg a b):a.length<=l.length/\b.length<=l.length:=by
 have:=congrArg List.length f.eq
 simp only [C3g] at this
 by_cases hb:b=[]
 ·rw [if_pos hb] at this;subst hb;simp at this ⊢;omega
 ·rw [if_neg hb] at this;simp at this;omega
theorem A5o(gl:Gtz h)(hl:l.length<=100000000)(hK1:∀ q,l=K3 q->∀ w h',h.le h'->RQ h' w q->K (.tuple #[w.v,.bool true]) h')(hK0:¬ IsNum l->∀ (w:QV) h',h.le h'->RQ h' w 0->K (.tuple #[w.v,.bool false]) h'):FCall prog A2y #[.string (bs l)] h K:=by
 refine B3i _ ?_
 unfold B9i
 refine Mq (by omega) ?_ ?_
 ·intro neg a b f
  refine ⟨_,_,_,_,rfl,O5 ?_⟩
  have hlen:=f.lens
  refine Hn f.da (by omega) ?_
  intro A1 n1 c1 h1 l1 i1
  refine ⟨_,_,_,_,rfl,?_⟩
  refine ⟨fun L hp=>∃ s2:Bool,L=[.bool s2,.slice A1 n1 c1,.bool false,.slice none 0 0]/\hp=h1/\ZI h1 s2 A1 n1 c1 (Ov neg a),Br.of (fun e=>?_) (fun e=>?_),?_⟩
  ·refine Ch i1 ?_
   intro s2 i2
   exact ⟨_,_,_,_,rfl,s2,rfl,rfl,by unfold Ov;rw [e];exact i2⟩
  ·exact ⟨false,rfl,rfl,by unfold Ov;rw [e];exact i1⟩
  rintro x0 x1A x1n x1c x2 x3A x3n x3c hp3 ⟨s2,hL,rfl,i2⟩
  simp only [C3a,C3u,Value.bool.injEq,and_true] at hL
  obtain ⟨rfl,⟨rfl,rfl,rfl⟩,rfl,rfl,rfl,rfl⟩:=hL
  have habs:(Ov neg a).natAbs=J0 a:=by unfold Ov;split<;>simp
  rw [U8]
  refine B6 (fun hb=>?_) (fun hb=>?_)
  ·subst hb
   obtain ⟨q,hq⟩:=f.isNum.2 (by unfold Jm;simp)
   obtain ⟨h2,h3⟩:=f.of_txt hq
   refine hK1 q hq ⟨x0,x1A,x1n,x1c,false,none,0,0⟩ _ l1 ⟨by rw [h2];exact i2,?_⟩
   rw [h3,show Jm []=1 from rfl,if_pos rfl];exact ZI.zero
  ·refine Hn f.db (by omega) ?_
   intro A4 n4 c4 h4 l4 i4
   have hnb:ZB (4*l.length) (Ov neg a):=(Nn f.da (k:=l.length) (by omega)).le (by rw [habs,C34];exact C3r _)
   refine ⟨_,_,_,_,rfl,Ff (gl.mono (B0 l1 l4)) (i2.mono l4) i4 hnb (Nn f.db (k:=l.length) (by omega)) (by omega) ?_⟩
   intro A5 n5 c5 h5 l5 i5
   refine ⟨_,_,_,_,rfl,O7 i5 ⟨_,rfl,?_⟩⟩
   have hfd:Jm b=J0 b:=by unfold Jm;rw [if_neg hb]
   have hgg:C3v (Ov neg a) (J0 b:Int)=C3b (J0 a) (Jm b):=by
    rw [hfd];show C3b (Ov neg a).natAbs (J0 b)=_;rw [habs]
   rw [hgg]
   refine O5 (B6 (fun e1=>?_) (fun e1=>?_))
   ·obtain ⟨q,hq⟩:=f.isNum.2 (by omega)
    obtain ⟨h2,h3⟩:=f.of_txt hq
    have hd1:Jm b≠1:=by
     intro e2
     have h6:=Lk f.db hb (.inl f.hb)
     rw [<- hfd,e2] at h6
     apply f.b1
     rw [<- h6];simp [L9,Ae,J2,dch]
    refine hK1 q hq ⟨x0,x1A,x1n,x1c,false,A4,n4,c4⟩ _ (B0 l1 (B0 l4 l5)) ⟨by rw [h2];exact i2.mono (B0 l4 l5),?_⟩
    rw [h3,if_neg hd1,hfd];exact i4.mono l5
   ·refine hK0 ?_ ⟨false,none,0,0,false,none,0,0⟩ _ (B0 l1 (B0 l4 l5)) RQ.zero
    intro hn
    exact e1 (by rw [f.isNum.1 hn];rfl)
 ·intro hf neg a b
  refine ⟨_,_,_,_,rfl,O5 ?_⟩
  refine hK0 ?_ ⟨false,none,0,0,false,none,0,0⟩ _ (B4 _) RQ.zero
  intro hn
  obtain ⟨neg',a',b',f⟩:=hn.form
  exact hf _ _ _ f
theorem A01(gp:Gp h)(i:RQ h w q)(hq:Sz m q)(hm:m<=40000000)(hK:K (.string (bs (K3 q))) h):FCall prog Rv #[w.v] h K:=by
 refine FCall.pure (A6l _ _ _ _ _ _ _ _ ?_)
 unfold B0k
 refine Hp i ⟨_,rfl,B6 (fun e=>?_) (fun e=>?_)⟩
 ·rw [B1x e] at hK
  refine A1x i.num (fun h1 h2=>?_) (fun h1=>?_)
  ·refine ⟨_,_,rfl,Br.of (fun _=>A3k _ ?_) (fun e=>by cases e)⟩
   unfold A56
   exact Ty gp h1 h2 ⟨_,rfl,_,rfl,B4 _,hK⟩
  ·refine ⟨_,_,rfl,Br.of (fun e=>by cases e) (fun _=>?_)⟩
   exact Zh gp i.num hq.num (by omega) ⟨_,rfl,B4 _,hK⟩
 ·rw [A7g e] at hK
  have idn:=i.den
  rw [if_neg e] at idn
  refine Fh (l:=[]) (eT:=F5) gp (Priv.nil _ _ _ _) i.num hq.num (by omega) (by omega) ?_
  intro A1 n1 c1 e1 g1 h1 x1
  refine ⟨_,_,_,rfl,?_⟩
  have hl1:(Io q.num).length<=50000000:=by
   unfold Io
   have:=Bm hq.num
   split<;>simp<;>omega
  have hx1:=x1.len
  refine Kg (ch:=47) rfl x1.priv (by omega) ?_
  intro A2 n2 c2 e2 g2 h2 x2
  have x12:=x1.trans x2
  have hx2:=x12.len
  rw [C3g,List.length_singleton] at hx2
  refine Fh (gp.mono x12.le) x2.priv (idn.mono x12.le) hq.den (by omega) (by omega) ?_
  intro A3 n3 c3 e3 g3 h3 x3
  refine ⟨_,_,_,rfl,?_⟩
  rw [List.append_assoc] at x3
  have x123:=x12.trans x3
  have hx3:=x123.len
  refine Jv Et.und Cl T4 x123.priv.slV (by simpa using hx3) ⟨_,rfl,?_⟩
  refine ⟨B0 x123.le x123.priv.le,?_⟩
  simpa using hK
end
structure Tx (m:Nat) (l:List UInt8):Prop where
 len:l.length<=100000000
 sz:Sz m (rv l)
theorem B1y{m:Nat}{z:Int}(h:ZB m z):(Io z).length<=m+2:=by
 have:=Bm h
 unfold Io;split
 ·rw [List.length_cons];omega
 ·omega
theorem B1w{m:Nat}{q:Rat}(h:Sz m q):(K3 q).length<=2*m+4:=by
 have h1:=B1y h.num
 have h2:=Bm (n:=q.den) (m:=m) (by have:=h.den;unfold ZB at this;simpa using this)
 unfold K3
 split
 ·simp;omega
 ·simp;omega
theorem Zq(q:Rat):∃ c r,K3 q=c::r/\(c=45↔q<0):=by
 have f:=Fl q
 have hne:K3 q≠[]:=by
  intro e
  have:=f.eq
  rw [e] at this
  have h2:=f.ne
  have:=congrArg List.length this
  simp only [C3g,List.length_nil] at this
  exact h2 (List.eq_nil_of_length_eq_zero (by omega))
 obtain ⟨c,r,e⟩:=C38 hne
 refine ⟨c,r,e,?_⟩
 have hh:=f.head
 rw [e,C3o,C42,decide_eq_true_iff,beq_iff_eq,C3h] at hh
 rw [<- hh,Rat.lt_iff];simp
theorem C2w:rv [48]=0:=by
 have:[48]=K3 0:=by simp [K3,Io,L9]
 rw [this,Ka]
theorem C0p:K3 0=[48]:=by simp [K3,Io,L9]
section
variable {h:Heap} {K:VP} {m:Nat} {a b:List UInt8}
theorem Us(gl:Gl h)(hl:a.length<=100000000)(hK1:IsNum a->K (.bool true) h)(hK0:¬ IsNum a->K (.bool false) h):FCall prog Py #[.string (bs a)] h K:=by
 refine FCall.pure (B0d _ ?_)
 unfold B53
 refine Tu ?_ ?_
 ·intro q e _ _
  exact ⟨_,_,_,rfl,Br.of (fun _=>⟨B4 _,hK1 ⟨q,e⟩⟩) (fun e=>by cases e)⟩
 ·refine ⟨_,_,_,rfl,Br.of (fun e=>by cases e) (fun _=>?_)⟩
  refine Mq (by omega) ?_ ?_
  ·intro neg x y f
   refine ⟨_,_,_,_,rfl,Br.of (fun e=>by cases e) (fun _=>?_)⟩
   have hlen:=f.lens
   rw [U8]
   refine B6 (fun e=>?_) (fun e=>?_)
   ·subst e
    exact ⟨B4 _,hK1 (f.isNum.2 (by unfold Jm;simp))⟩
   ·refine Hn f.da (by omega) ?_
    intro A1 n1 c1 h1 l1 i1
    refine ⟨_,_,_,_,rfl,l1,Hn f.db (by omega) ?_⟩
    intro A2 n2 c2 h2 l2 i2
    refine ⟨_,_,_,_,rfl,l2,Ff (gl.tz.mono (B0 l1 l2)) (i1.mono l2) i2 (Nn f.da (k:=a.length) (by omega)) (Nn f.db (k:=a.length) (by omega)) (by omega) ?_⟩
    intro A3 n3 c3 h3 l3 i3
    refine ⟨_,_,_,_,rfl,l3,O7 i3 ⟨_,rfl,B4 _,B0 l1 (B0 l2 l3),?_⟩⟩
    rw [Int.gcd_natCast_natCast]
    have hfd:Jm y=J0 y:=by unfold Jm;rw [if_neg e]
    by_cases hg:C3b (J0 x) (J0 y)=1
    ·rw [decide_eq_true (by rw [hg];rfl)]
     exact hK1 (f.isNum.2 (by rw [hfd];exact hg))
    ·rw [decide_eq_false (by omega)]
     exact hK0 (fun hn=>hg (by rw [<- hfd];exact f.isNum.1 hn))
  ·intro hf neg x y
   refine ⟨_,_,_,_,rfl,Br.of (fun _=>⟨B4 _,hK0 ?_⟩) (fun e=>by cases e)⟩
   intro hn
   obtain ⟨neg',a',b',f⟩:=hn.form
   exact hf _ _ _ f
theorem B66{q:Rat}(hq:q≠0)(hneg:¬ q<0):q.num.sign=1:=by
 have h1:¬ q.num<0:=fun e=>hneg (by rw [Rat.lt_iff];simpa using e)
 have h2:q.num≠0:=fun e=>hq (Rat.num_eq_zero.1 e)
 exact Int.sign_eq_one_of_pos (by omega)
theorem A5e(gl:Gl h)(hl:a.length<=100000000)(hK:K (I (rv a).num.sign) h):FCall prog A2x #[.string (bs a)] h K:=by
 refine B3h _ ?_
 unfold B9h
 have e48:((bs a).toList==({ data:=#[48] }:ByteArray).toList)=decide (a=[48]):=Gn a [48]
 rw [e48]
 refine B6 (fun e=>?_) (fun e=>?_)
 ·subst e;rw [C2w] at hK;exact hK
 ·refine Us gl hl ?_ ?_
  ·rintro ⟨q,rfl⟩
   rw [Ka] at hK
   have hq0:q≠0:=by rintro rfl;exact e C0p
   obtain ⟨c,r,e1,e2⟩:=Zq q
   refine ⟨_,rfl,O5 ?_⟩
   refine ⟨c,⟨by omega,by rw [Ii,e1];rfl⟩,D9 (fun h1=>?_) (fun h1=>?_)⟩
   ·have hc:c=45:=by apply UInt8.toNat_inj.1;show c.toNat=45;omega
    have:=(Rat.lt_iff q 0).1 (e2.1 hc)
    rw [C43 (by simpa using this)] at hK
    exact hK
   ·have hc:¬ q<0:=fun h2=>h1 (by rw [e2.2 h2];rfl)
    rw [B66 hq0 hc] at hK
    exact hK
  ·intro hn
   rw [A45 hn] at hK
   exact ⟨_,rfl,O5 hK⟩
end
def C0k(h:Heap)(r:Value)(h':Heap):Prop:=r= .bool true/\h.le h'
theorem B2f{x:List UInt8}{k:Nat}(hl:x.length<=k)(hk:1<=k):Sz (4*k) (rv x):=by
 by_cases hn:IsNum x
 ·obtain ⟨neg,a,b,f⟩:=hn.form
  obtain ⟨h1,h2⟩:=f.rv_num hn
  have hlen:=f.lens
  have habs:(Ov neg a).natAbs=J0 a:=by unfold Ov;split<;>simp
  refine ⟨?_,?_⟩
  ·rw [h1];exact (Nn f.da (k:=k) (by omega)).le (by rw [habs,C34];exact C3r _)
  ·rw [h2]
   unfold Jm
   split
   ·exact ZB.one (by omega)
   ·exact Nn f.db (by omega)
 ·rw [A45 hn];exact Sz.zero (by omega)
end Go.Proofs.YtajkakhfcokljaaGreatDoor
namespace Go.Proofs.YtajkakhfcokljaaGreatDoor
set_option maxRecDepth 20000
open Go Go.RowKit
def memOf(W:World):Heap:=fun b=>W.heap[b]?
theorem frame_of{P:Program}{f:FuncId}{args:Array Value}{W:World}(x:FCall P f args (memOf W) (C0k (memOf W))):Calls P f args W fun e w'=>e= .returned (.bool true)/\Below W.heap.size W w':=by
 refine (x W (fun b o e=>e)).mono ?_
 rintro e W' ⟨r,h',he,⟨hr,hle⟩,fr⟩
 subst hr
 refine ⟨he,fr.os,fr.tape,fr.output,fr.size,fun k hk=>?_⟩
 have e0:memOf W k=some W.heap[k]:=Array.getElem?_eq_getElem hk
 have:=fr.sim k _ (hle k _ e0)
 rw [this];exact e0.symm
theorem Nf{W:World}{a:Addr}{v:Value}(e:W.cell? a=some v):(memOf W).cell? a=some v:=by
 unfold World.cell? at e
 unfold Heap.cell? memOf
 exact e
theorem A4k{P:Program}{W:World}{x:String × DataW Unit}{rest:List (String × DataW Unit)}(h:laidMet P (x::rest) W):laidMet P rest W:=by
 obtain ⟨n,d⟩:=x
 obtain ⟨ps,⟨g,t,cs,fuel,p,q,h1,h2,h3,h4,h5,rfl⟩,h6,h7⟩:=h
 exact ⟨q,h5,(List.nodup_append.1 h6).2.1,fun b off hb=>h7 b off (List.mem_append_right _ hb)⟩
def C0s:List Int:=[0,1,28,2,29,14,24,3,30,22,20,15,25,17,4,8,31,27,13,23,21,19,16,7,26,12,18,6,11,5,10,9]
def B26:List Int:=[0,1,56,2,57,49,28,3,61,58,42,50,38,29,17,4,62,47,59,36,45,43,51,22,53,39,33,30,24,18,12,5,63,55,48,27,60,41,37,16,46,35,44,21,52,32,23,11,54,26,40,15,34,20,31,10,25,14,19,9,13,8,7,6]
def B61:List Int:=[1,10,100,1000,10000,100000,1000000,10000000,100000000,1000000000,10000000000,100000000000,1000000000000,10000000000000,100000000000000,1000000000000000,10000000000000000,100000000000000000,1000000000000000000,10000000000000000000]
theorem B4f:prog.globalNamed "math/bits.deBruijn64tab" = some 3:=by kernel_rfl
theorem B4g:prog.globalNamed "internal/strconv.uint64pow10" = some 2:=by kernel_rfl
theorem tabs_gl{W:World}(h:laidMet prog [("math/bits.deBruijn32tab",Rows.laid_math_bits_deBruijn32tab),("math/bits.deBruijn64tab",Rows.laid_math_bits_deBruijn64tab),("internal/strconv.uint64pow10",Rows.laid_internal_strconv_uint64pow10)] W):Gl (memOf W):=by
 have h2:=A4k h
 have h3:=A4k h2
 have t64:Lib.TabIs prog W "math/bits.deBruijn64tab" .u8 B26:=Lib.tabIs_of_head (rest:=[("internal/strconv.uint64pow10",Rows.laid_internal_strconv_uint64pow10)]) B4f (by kernel_rfl) underlying297 underlying5 (by kernel_rfl) (by kernel_rfl) h2
 have t10:Lib.TabIs prog W "internal/strconv.uint64pow10" .u64 B61:=Lib.tabIs_of_head (rest:=[]) B4g (by kernel_rfl) underlying287 underlying130 (by kernel_rfl) (by kernel_rfl) h3
 have k64:∀ k,k<64->Zp k<B26.length/\B26.getD (Zp k) 0=(k:Int):=by decide +kernel
 have k10:∀ k,k<20->B61.getD k 0=((10^k:Nat):Int):=by decide +kernel
 refine ⟨fun k hk=>?_,fun k hk=>?_⟩
 ·obtain ⟨a,b⟩:=k64 k hk
  have:=Nf (t64.cell B4f (Zp k) a)
  rw [D8,C3i,Nat.zero_add,this,b]
 ·have:=Nf (t10.cell B4g k (by show k<20;exact hk))
  rw [D8,C3i,Nat.zero_add,this,k10 k hk]
def A8p(zs:List Int)(k:IntKind):Obj->Obj
 | .cells _ t frozen=>.cells (zs.map (Value.int k)).toArray t frozen
 | o=>o
def layTabs(a:Array Obj):Array Obj:=((a.modify 4 (A8p C0s .u8)).modify 3 (A8p B26 .u8)).modify 2 (A8p B61 .u64)
end Go.Proofs.YtajkakhfcokljaaGreatDoor
