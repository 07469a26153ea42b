/-
  Texts of this proof, merged by a program of ours.
-/
import Derived.Test.YtajkakhfcokljaaGreatDoorG21
import Derived.Test.YtajkakhfcokljaaGreatDoorG20
import Derived.Test.YtajkakhfcokljaaGreatDoorG09
import Derived.Test.YtajkakhfcokljaaGreatDoorRows
import Derived.Below
import Derived.ChangeSame
import Derived.WideShapes
import Derived.LaidLaws
import Derived.Lib.LaidTab
open Go.Proofs.Tryz
open Bool renaming eq_iff_iff->C6f
open Int renaming natAbs_natCast->C5h,toNat_natCast->C5i,natCast_pow->C5r,natCast_mul->C5s,gcd->C68
open List renaming getElem?_eq_getElem->C5j,exists_cons_of_ne_nil->C5l,getElem?_cons_zero->C5m,takeWhile_append_dropWhile->C5p,length_take->C5q,length_append->C5t,take_of_length_le->C5w,take_append_drop->C5z,length_map->C60,head?_cons->C61,drop_zero->C62,take_succ_eq_append_getElem->C66,getElem_map->C6b
open List.cons renaming injEq->C5n
open Nat renaming pow_le_pow_right->C5k,gcd->C5o,mul_one->C5v,sub_zero->C5x,min_eq_left->C5y,pow_le_pow_left->C63,le_refl->C64,lt_of_lt_of_le->C65,pow_succ->C69,le_trans->C6a,div_le_self->C6e
open Option.some renaming injEq->C5u
open Rat renaming num_eq_zero->C6d
open _root_.Go.Value.int renaming injEq->C6c
open _root_.Go.Value.slice renaming injEq->C67
namespace Go.Proofs.YtajkakhfcokljaaGreatDoor
set_option linter.all false
set_option maxRecDepth 20000
open Go
def Gv(i:Nat):Nat:=10^(19*2^i)
theorem A9e(i:Nat):Gv i=(10^19)^(2^i):=Nat.pow_mul _ _ _
theorem B43(i:Nat):0<Gv i:=Nat.pow_pos (by decide)
theorem A9d:Gv 0=10000000000000000000:=by decide
theorem A0z(i:Nat):Gv (i+1)=Gv i*Gv i:=by
 unfold Gv
 rw [<- Nat.pow_add]
 congr 1
 rw [C69];omega
theorem B86(i:Nat):(Gv i:Int)<b64^(2^i):=by
 have h:(10^19)^(2^i)<(18446744073709551616:Nat)^(2^i):=Nat.pow_lt_pow_left (by decide) (Nat.pos_iff_ne_zero.1 (Nat.pow_pos (by decide)))
 rw [<- A9e] at h
 have h2:((Gv i:Nat):Int)<((18446744073709551616^(2^i):Nat):Int):=Int.ofNat_lt.2 h
 rw [C5r] at h2
 exact h2
theorem B87(i:Nat):(2:Int)^(63*2^i)<=(Gv i:Int):=by
 have h:(2^63)^(2^i)<=(10^19)^(2^i):=C63 (by decide) _
 rw [<- A9e,<- Nat.pow_mul] at h
 have h2:((2^(63*2^i):Nat):Int)<=((Gv i:Nat):Int):=Int.ofNat_le.2 h
 rw [C5r] at h2
 exact h2
theorem C0q{k m:Nat}(h:(2:Int)^k<2^m):k<m:=by
 by_cases hk:k<m
 ·exact hk
 ·have:=D3 (B:=2) (by decide) (show m<=k by omega)
  omega
abbrev slT(s:Option Addr × Nat × Nat):Value:=.slice s.1 s.2.1 s.2.2
def Pws(h:Heap)(PA:Option Addr)(k:Nat):Prop:=∃ ss:List (Option Addr × Nat × Nat),ss.length=k/\SlV h PA (ss.map slT)/\∀ i s,ss[i]? = some s->s.2.1<=s.2.2/\Mw h s.1 s.2.1 (Gv i:Int)
theorem Pws.mono{h h':Heap}(l:h.le h'){PA:Option Addr}{k:Nat}(p:Pws h PA k):Pws h' PA k:=by
 obtain ⟨ss,h1,h2,h3⟩:=p
 exact ⟨ss,h1,h2.mono l,fun i s e=>⟨(h3 i s e).1,(h3 i s e).2.mono l⟩⟩
theorem Pws.take{h:Heap}{PA:Option Addr}{k j:Nat}(p:Pws h PA k)(hj:j<=k):Pws h PA j:=by
 obtain ⟨ss,h1,h2,h3⟩:=p
 refine ⟨ss.take j,by rw [C5q];omega,?_,fun i s e=>?_⟩
 ·have:=SlV.cut (c:=(ss.map slT).length) h2 (Nat.zero_le j) (by rw [C60];omega) (C64 _)
  rw [I4,C62,C5x,<- List.map_take] at this
  exact this
 ·rw [List.getElem?_take] at e
  split at e
  ·exact h3 i s e
  ·cases e
theorem Pws.at{h:Heap}{PA:Option Addr}{k i:Nat}(p:Pws h PA k)(hi:i<k):∃ (a:Addr) (A:Option Addr) (n c:Nat),PA=some a/\h.cell? (a.add i)=some (.slice A n c)/\n<=c/\Mw h A n (Gv i:Int):=by
 obtain ⟨ss,h1,h2,h3⟩:=p
 obtain ⟨a,ha,hc⟩:=h2.at (i:=i) (by rw [C60];omega)
 rw [C6b] at hc
 obtain ⟨h4,h5⟩:=h3 i ss[i] (C5j (by omega))
 exact ⟨a,_,_,_,ha,hc,h4,h5⟩
theorem Mw.tenP_le{h:Heap}{A:Option Addr}{n i:Nat}(m:Mw h A n (Gv i:Int)):n<=2^i:=m.len_le (by decide) (B86 i)
theorem Mw.tenP_ge{h:Heap}{A:Option Addr}{n i:Nat}(m:Mw h A n (Gv i:Int)):2^i<2*n:=by
 have h1:=m.lt (by decide)
 rw [Ju] at h1
 have h2:=C0q (Int.lt_of_le_of_lt (B87 i) h1)
 omega
theorem Ext.weak{g g0 g' h':Heap}{eT e2:TypeId}{A A':Option Addr}{n c n' c':Nat}{l t:List UInt8}(l0:g0.le g)(x:Ext g eT A n c l t A' n' c' e2 g' h'):Ext g0 eT A n c l t A' n' c' e2 g' h':=⟨B0 l0 x.le,x.priv,x.len,x.fit,x.tag⟩
theorem B6f(w n:Nat):w<=(pad w n).length:=by simp [pad];omega
theorem B8d{j:Nat}(hj:j<=30):B5 (19*2^(min j 64))=((19*2^j:Nat):Int):=by
 rw [C5y (by omega)]
 have h1:2^j<=2^30:=C5k (by decide) hj
 have h2:(19*2^j:Int)=((19*2^j:Nat):Int):=by rw [C5s,C5r];rfl
 rw [h2,B7 (by omega) (by have:(2:Nat)^30=1073741824:=by decide
                          omega)]
theorem Zt{l:List UInt8}(hd:∀ c∈l,H1 c):(J6 l:Int)<b64^l.length:=by
 have h1:=Fw hd
 have h2:10^l.length<=(18446744073709551616:Nat)^l.length:=C63 (by decide) _
 have h3:((J6 l:Nat):Int)<((18446744073709551616^l.length:Nat):Int):=Int.ofNat_lt.2 (C65 h1 h2)
 rw [C5r] at h3
 exact h3
theorem Qt:∀ (k:Nat) {h g:Heap} {K:VP} {A XA PA:Option Addr} {n c xn xc pc v W:Nat} {eT:TypeId} {l:List UInt8},Gp g->Priv h g eT 1 A n c (yv l)->Mw g XA xn (v:Int)->xn<=xc->xn<=10000000->Pws g PA k->k<=pc->k<=26->(W=0\/W=19*2^k)->n+(pad W v).length<=1000000000->
 (∀ A' n' c' e3 g' h',Ext g eT A n c l (pad W v) A' n' c' e3 g' h'->K (.slice A' n' c') h')->FCall prog H2 #[.slice A n c,.slice XA xn xc,I (W:Int),.slice PA k pc] h K:=by
 intro k
 induction k with
 | zero=>
  intro h g K A XA PA n c xn xc pc v W eT l gp p M hxc hx hP hpc hk hW hn hK
  have:=B6f W v
  refine Ic _ _ _ _ _ _ _ _ _ _ ?_
  unfold Id
  refine B6 (fun _=>?_) (fun e=>absurd (by decide) e)
  refine Ei gp p M hx (by omega) (by omega) ?_
  intro A' n' c' e2 g' h' x
  exact ⟨_,_,_,rfl,hK _ _ _ e2 g' _ x⟩
 | succ j ih=>
  intro h g K A XA PA n c xn xc pc v W eT l gp p M hxc hx hP hpc hk hW hn hK
  have hge:=B6f W v
  have e1:B5 (((j+1:Nat):Int)-1)=(j:Int):=by rw [B7 (by omega) (by omega)];omega
  refine Ic _ _ _ _ _ _ _ _ _ _ ?_
  unfold Id
  simp only [e1,C5i,C5x,I4,B8d (show j<=30 by omega)]
  refine B6 (fun e=>absurd e (by omega)) (fun _=>B6 (fun _=>?_) (fun _=>?_))
  ·refine Ei gp p M hx (by omega) (by omega) ?_
   intro A' n' c' e2 g' h' x
   exact ⟨_,_,_,rfl,hK _ _ _ e2 g' _ x⟩
  ·obtain ⟨a,PA',pn,pcc,ha,hc,hpc',Mp⟩:=hP.at (i:=j) (by omega)
   refine ⟨a,ha,by omega,by omega,_,_,_,by rw [C5v];exact B8 p.le hc,?_⟩
   have hpn:=Mp.tenP_le
   have h2j:2^j<=2^26:=C5k (by decide) (by omega)
   have h24:(2:Nat)^26=67108864:=by decide
   have hpp:=B43 j
   refine p.call ?_
   refine S6 M Mp hxc hpc' (by omega) (by omega) (by omega) ?_
   intro A1 m1 c1 A2 m2 c2 g1 l1 k1 k2 M1 M2 h1 p1
   refine ⟨_,_,_,_,_,_,rfl,?_⟩
   rw [<- Int.natCast_ediv] at M1
   rw [<- Int.natCast_emod] at M2
   have hv:=Nat.div_add_mod v (Gv j)
   have hlt:=Nat.mod_lt v hpp
   have hqv:=C6e v (Gv j)
   generalize v/Gv j=q at *
   generalize v%Gv j=r at *
   have hz:=M1.len_zero (by decide)
   have hvlt:=M.lt (by decide)
   have hm1:m1<=xn:=M1.len_le (by decide) (by omega)
   have hm2:m2<=xn:=M2.len_le (by decide) (by
    have h0:0<=Gv j*q:=Nat.zero_le _
    generalize Gv j*q=z at *
    omega)
   have hv':v=q*10^(19*2^j)+r:=by rw [<- hv,Nat.mul_comm];rfl
   have hs2:2^(j+1)=2*2^j:=by rw [C69];omega
   refine B6 (fun e=>absurd e (by omega)) (fun _=>?_)
   refine E5 (fun e0=>E5 (fun eW=>?_) (fun eW=>?_)) (fun e0=>?_)
   ·obtain rfl:W=0:=by omega
    obtain rfl:q=0:=by omega
    obtain rfl:v=r:=by omega
    refine ⟨⟨by omega,by omega⟩,?_⟩
    refine ih (W:=0) (gp.mono l1) p1 M2 k2 (by omega) ((hP.mono l1).take (by omega)) (by omega) (by omega) (.inl rfl) hn ?_
    intro A4 n4 c4 e4 g4 h4 x4
    exact ⟨_,_,_,rfl,hK _ _ _ _ _ _ (x4.weak l1)⟩
   all_goals
    have hw:q≠0\/19*2^j<=W:=by omega
    have hsp:=A1m (w:=W) (h:=q) (l:=r) (k:=19*2^j) hlt hw
    rw [<- hv'] at hsp
    have hpl:(pad (19*2^j) r).length=19*2^j:=We hlt
    have hle:(pad W v).length=(pad (W-19*2^j) q).length+19*2^j:=by rw [hsp,C5t,hpl]
    refine ⟨⟨by omega,by omega⟩,?_⟩
    have e3:(if (0:Int)>B5 ((W:Int)-((19*2^j:Nat):Int)) then (0:Int) else B5 ((W:Int)-((19*2^j:Nat):Int)))=((W-19*2^j:Nat):Int):=by
     rw [B7 (by omega) (by omega)]
     split<;>omega
    rw [e3]
    refine ih (gp.mono l1) p1 M1 k1 (by omega) ((hP.mono l1).take (by omega)) (by omega) (by omega) (by omega) (by omega) ?_
    intro A3 n3 c3 e3 g3 h3 x3
    have hn3:=x3.len
    have l3:=B0 l1 x3.le
    refine ⟨_,_,_,rfl,⟨by omega,by omega⟩,?_⟩
    refine ih (gp.mono l3) x3.priv (M2.mono x3.le) k2 (by omega) ((hP.mono l3).take (by omega)) (by omega) (by omega) (.inr rfl) (by omega) ?_
    intro A4 n4 c4 e4 g4 h4 x4
    refine ⟨_,_,_,rfl,hK _ _ _ e4 g4 _ ?_⟩
    rw [hsp]
    exact (x3.trans x4).weak l1
theorem Hc:∀ (k:Nat) {h:Heap} {K:VP} {PA:Option Addr} {pc:Nat} {l:List UInt8},(∀ c∈l,H1 c)->l.length<=100000000->Pws h PA k->k<=pc->k<=30->(∀ A n c h',h.le h'->n<=c->Mw h' A n (J6 l:Int)->K (.slice A n c) h')->FCall prog L7 #[.string (bs l),.slice PA k pc] h K:=by
 intro k
 induction k using Nat.strongRecOn with
 | _ k ih=>
  intro h K PA pc l hd hl hP hpc hk hK
  refine Vj _ _ _ _ ?_
  unfold Uf
  rw [J4]
  have simple:FCall prog M0 #[.string (bs l)] h (fun r hp=>∃ (A:Option Addr) (n c:Nat),r= .slice A n c/\K (.slice A n c) hp):=by
   refine Qs hd hl ?_
   intro A n c h' l1 hc M
   exact ⟨_,_,_,rfl,hK _ _ _ _ l1 hc M⟩
  refine ⟨fun s hp=>hp=h/\∃ j:Nat,s=[I ((j:Int)-1)]/\j<=k,fun s _=>(iAt s 0+1).toNat,⟨rfl,k,by rw [B7 (by omega) (by omega)],C64 _⟩,?_⟩
  rintro last hp ⟨rfl,j,hs,hj⟩
  obtain rfl:last=(j:Int)-1:=by simpa using hs
  refine B6 (fun h0=>?_) (fun h0=>B6 (fun _=>simple) (fun e=>absurd (show (j:Int)-1<0 by omega) e))
  obtain ⟨i,rfl⟩:∃ i,j=i+1:=⟨j-1,by omega⟩
  have e0:((i+1:Nat):Int)-1=(i:Int):=by omega
  have hpi:0<2^i:=Nat.pow_pos (by decide)
  simp only [e0,C5i,C5x,I4,B8d (show i<=30 by omega)]
  refine B6 (fun e=>absurd e (by omega)) (fun _=>B6 (fun h1=>?_) (fun h1=>?_))
  ·refine ⟨⟨trivial,i,by rw [B7 (by omega) (by omega)],by omega⟩,?_⟩
   simp only [iAt,C5m]
   rw [B7 (by omega) (by omega)]
   omega
  refine B6 (fun e=>absurd e (by omega)) (fun _=>B6 (fun _=>simple) (fun h570=>B6 (fun e=>absurd e (by omega)) (fun _=>?_)))
  have e2:B5 ((l.length:Int)-((19*2^i:Nat):Int))=((l.length-19*2^i:Nat):Int):=by rw [B7 (by omega) (by omega)];omega
  simp only [e2,C5i,N4,C62,C5x]
  obtain ⟨a,PA',pn,pcc,ha,hc,hpc',Mp⟩:=hP.at (i:=i) (by omega)
  refine ⟨⟨by omega,by omega⟩,⟨by omega,by omega⟩,a,ha,by omega,by omega,_,_,_,by rw [C5v];exact hc,?_⟩
  have hpn:=Mp.tenP_le
  have h2i:19*2^i<l.length:=by omega
  have hd1:∀ c∈l.take (l.length-19*2^i),H1 c:=fun c hc=>hd c (List.mem_of_mem_take hc)
  have hd2:∀ c∈l.drop (l.length-19*2^i),H1 c:=fun c hc=>hd c (List.mem_of_mem_drop hc)
  have hl1:(l.take (l.length-19*2^i)).length=l.length-19*2^i:=by rw [C5q];omega
  have hl2:(l.drop (l.length-19*2^i)).length=19*2^i:=by rw [List.length_drop];omega
  have hval:J6 l=J6 (l.take (l.length-19*2^i))*Gv i+J6 (l.drop (l.length-19*2^i)):=by
   have:=Fx (l.take (l.length-19*2^i)) (l.drop (l.length-19*2^i))
   rw [C5z,hl2] at this
   exact this
  have hb:=Zt hd
  have hb1:=Zt hd1
  have hb2:=Zt hd2
  rw [hl1] at hb1
  rw [hl2] at hb2
  refine ih i (by omega) hd1 (by omega) (hP.take (by omega)) (by omega) (by omega) ?_
  intro A1 n1 c1 h1 l1 k1 M1
  refine ⟨_,_,_,rfl,l1,?_⟩
  have hn1:=M1.len_le (by decide) hb1
  refine H9 M1 (Mp.mono l1) k1 hpc' (by omega) (by omega) ?_
  intro A2 n2 c2 h2 l2 k2 M2
  refine ⟨_,_,_,rfl,l2,⟨by omega,by omega⟩,⟨by omega,by omega⟩,?_⟩
  rw [<- C5s] at M2
  have hn2:=M2.len_le (by decide) (Int.lt_of_le_of_lt (Int.ofNat_le.2 (by rw [hval];exact Nat.le_add_right _ _)) hb)
  rw [C5w (by rw [hl2];omega)]
  refine ih i (by omega) hd2 (by omega) ((hP.mono (B0 l1 l2)).take (by omega)) (by omega) (by omega) ?_
  intro A3 n3 c3 h3 l3 k3 M3
  refine ⟨_,_,_,rfl,l3,?_⟩
  have hn3:=M3.len_le (by decide) hb2
  refine R7 (M2.mono l3) M3 k2 k3 (by omega) (by omega) ?_
  intro A4 n4 c4 h4 l4 k4 M4
  refine ⟨_,_,_,rfl,l4,hK _ _ _ _ (B0 l1 (B0 l2 (B0 l3 l4))) k4 ?_⟩
  rw [<- Int.natCast_add,<- hval] at M4
  exact M4
section
variable {h g:Heap} {K:VP} {A XA:Option Addr} {n c:Nat} {eT:TypeId} {l:List UInt8}
theorem A13{hs:Heap}{ss:List (Option Addr × Nat × Nat)}{s:Option Addr × Nat × Nat}(h3:∀ i s,ss[i]? = some s->s.2.1<=s.2.2/\Mw hs s.1 s.2.1 (Gv i:Int))(h4:s.2.1<=s.2.2/\Mw hs s.1 s.2.1 (Gv ss.length:Int)):∀ i t,(ss++[s])[i]? = some t->t.2.1<=t.2.2/\Mw hs t.1 t.2.1 (Gv i:Int):=by
 intro i t e
 by_cases hi:i<ss.length
 ·rw [List.getElem?_append_left hi] at e;exact h3 i t e
 ·rw [List.getElem?_append_right (by omega)] at e
  by_cases h0:i=ss.length
  ·subst h0
   simp at e
   subst e;exact h4
  ·rw [List.getElem?_eq_none (by simp;omega)] at e;cases e
theorem Xv{hs:Heap}{b:Nat}{e:TypeId}: ∀ i (t:Option Addr × Nat × Nat),[((some ⟨b,0,none⟩:Option Addr),1,1)][i]? = some t->t.2.1<=t.2.2/\Mw (hs.put b (.cells #[U 10000000000000000000] e)) t.1 t.2.1 (Gv i:Int):=by
 intro i t e0
 rcases i with _|i
 ·simp at e0
  subst e0
  refine ⟨C64 _,[10000000000000000000],rfl,SlI.new _ _ _ _ _,?_,?_,?_⟩
  ·intro x hx;simp at hx;subst hx;decide
  ·unfold Norm;simp
  ·rw [A9d];simp [val]
 ·simp at e0
theorem Si(hd:∀ c∈l,H1 c)(hl:l.length<=100000000)(hK:∀ A n c h',h.le h'->n<=c->Mw h' A n (J6 l:Int)->K (.slice A n c) h'):FCall prog Fi #[.string (bs l)] h K:=by
 refine Vi _ ?_
 unfold Ue
 rw [J4]
 refine B6 (fun h5=>?_) (fun _=>?_)
 ·refine Al P7 rfl ?_
  intro b1 hb1
  refine ⟨_,_,_,rfl,?_⟩
  refine De A5k (Priv.nil _ _ _ none) rfl rfl (by omega) (by omega) ?_
  intro A1 c1 h1 g1 lg1 p1
  refine ⟨fun s hp=>∃ (ss:List (Option Addr × Nat × Nat)) (PA:Option Addr) (k pc:Nat) (g:Heap),s=[.slice PA k pc]/\Priv hp g Ev 1 PA k pc (ss.map slT)/\ss.length=k/\0<k/\h.le g/\(∀ i s,ss[i]? = some s->s.2.1<=s.2.2/\Mw g s.1 s.2.1 (Gv i:Int))/\2^(k-1)<=l.length,fun s _=>match s with|[.slice _ n _]=>l.length-n|_=>0,⟨[(some ⟨b1,0,none⟩,1,1)],A1,1,c1,g1,rfl,p1,rfl,by omega,B0 (Heap.le_put _ hb1) lg1,fun i s e=>⟨(Xv (hs:=h) (b:=b1) (e:=C1) i s e).1,(Xv (hs:=h) (b:=b1) (e:=C1) i s e).2.mono lg1⟩,by simp;omega⟩,?_⟩
  rintro PA k pc hp ⟨ss,PA',k',pc',g,hs,p,hk,hk0,lg,hw,hkl⟩
  simp only [C5n,C67,and_true] at hs
  obtain ⟨rfl,rfl,rfl⟩:=hs
  have hk27:k-1<27:=by
   by_cases hc:k-1<27
   ·exact hc
   ·have:2^27<=2^(k-1):=C5k (by decide) (by omega)
    have:(2:Nat)^27=134217728:=by decide
    omega
  rw [C5i,B8d (show k<=30 by omega)]
  have e1:B5 ((k:Int)-1)=((k-1:Nat):Int):=by rw [B7 (by omega) (by omega)];omega
  have hPg:Pws hp PA k:=⟨ss,hk,p.slV,fun i s e=>⟨(hw i s e).1,(hw i s e).2.mono p.le⟩⟩
  refine B6 (fun e=>absurd e (by omega)) (fun _=>B6 (fun h6=>?_) (fun h6=>?_))
  ·obtain ⟨a,ha,hc⟩:=p.slV.at (i:=k-1) (by rw [C60];omega)
   rw [C6b] at hc
   obtain ⟨h4,M⟩:=hw (k-1) (ss[k-1]'(by omega)) (C5j (by omega))
   generalize ss[k-1]'(by omega)=s at *
   rw [e1,C5i,C5v]
   refine ⟨a,ha,by omega,by omega,_,_,_,hc,?_⟩
   have hlen:=M.tenP_le
   refine p.call ?_
   refine H9 M M h4 h4 (by omega) (by omega) ?_
   intro A2 m2 c2 g2 l2 k2 M2 h2 p2
   refine ⟨_,_,_,rfl,?_⟩
   refine De A5k p2 rfl rfl (by omega) (by omega) ?_
   intro A3 c3 h3 g3 l3 p3
   have hm:2^k=2*2^(k-1):=by
    obtain ⟨i,rfl⟩:∃ i,k=i+1:=⟨k-1,by omega⟩
    rw [C69];simp;omega
   have hkk:k<2^k:=Nat.lt_two_pow_self
   refine ⟨⟨ss++[(A2,m2,c2)],A3,k+1,c3,g3,rfl,?_,by simp;omega,by omega,B0 lg (B0 l2 l3),?_,?_⟩,?_⟩
   ·rw [List.map_append];exact p3
   ·refine A13 (fun i s e=>⟨(hw i s e).1,(hw i s e).2.mono (B0 l2 l3)⟩) ⟨k2,?_⟩
    rw [hk,show Gv k=Gv (k-1)*Gv (k-1) by rw [<- A0z];congr 1;omega,C5s]
    exact M2.mono l3
   ·rw [Nat.add_sub_cancel];omega
   ·show l.length-(k+1)<l.length-k
    omega
  ·refine Hc k hd hl hPg p.2.1 (by omega) ?_
   intro A n c h' l1 hc M
   exact ⟨_,_,_,rfl,hK _ _ _ _ (B0 lg (B0 p.le l1)) hc M⟩
 ·refine Hc 0 hd hl ⟨[],rfl,SlV.nil,by simp⟩ (by omega) (by omega) ?_
  intro A n c h' l1 hc M
  exact ⟨_,_,_,rfl,hK _ _ _ _ l1 hc M⟩
theorem Iq(hd:∀ c∈l,H1 c)(hl:l.length<=100000000)(hK:∀ A n c h',h.le h'->ZI h' false A n c (J6 l:Int)->K (.agg #[.bool false,.slice A n c]) h'):FCall prog Iu #[.string (bs l)] h K:=by
 refine B2d _ ?_
 unfold B7a
 refine Si hd hl ?_
 intro A n c h' l1 hc M
 refine ⟨_,_,_,rfl,hK _ _ _ _ l1 ⟨hc,?_,?_⟩⟩
 ·rw [C5h];exact M
 ·symm;rw [decide_eq_false_iff_not];omega
end
theorem Priv.le_put'{h g:Heap}{e:TypeId}{s:Nat}{A:Option Addr}{n c:Nat}{xs:List Value}(p:Priv h g e s A n c xs){b:Nat}(hb:h b=none)(o:Obj):g.le (g.put b o):=by
 intro k o' hk
 have hne:k≠b:=by
  rintro rfl
  rw [p.le k o' hk] at hb;cases hb
 rw [B9 _ _ hne];exact hk
theorem A8y{n:Int}(h0:9223372036854775808<=n)(h1:n<18446744073709551616):B5 n=n-18446744073709551616:=by
 unfold B5 IntKind.wrap
 simp only [IntKind.signed,IntKind.bits]
 have e:n%18446744073709551616=n:=by omega
 simp only [show (2^64:Int)=18446744073709551616 from rfl,show (2^(64-1):Int)=9223372036854775808 from rfl,e]
 rw [if_pos (by simp;omega)]
section
variable {h g:Heap} {K:VP} {A XA:Option Addr} {n c:Nat} {eT:TypeId} {l:List UInt8}
theorem C1q{v xn:Nat}(hv:(v:Int)<b64^xn):(dd v).length<=20*xn:=by
 refine Q5.2 ?_
 rw [Nat.pow_mul]
 have h1:((v:Nat):Int)<((18446744073709551616^xn:Nat):Int):=by rw [C5r];exact hv
 exact C65 (Int.ofNat_lt.1 h1) (C63 (by decide) _)
theorem Gh{xn xc v:Nat}(gp:Gp g)(p:Priv h g eT 1 A n c (yv l))(M:Mw g XA xn (v:Int))(hxc:xn<=xc)(hx:xn<=10000000)(hn:n<=200000000)
 (hK:∀ A' n' c' e3 g' h',Ext g eT A n c l (N6 v) A' n' c' e3 g' h'->K (.slice A' n' c') h'):FCall prog Y8 #[.slice A n c,.slice XA xn xc] h K:=by
 have h0:=M.len_zero (by decide)
 refine Uk _ _ _ _ _ _ ?_
 unfold Qn
 refine E5 (fun e=>?_) (fun e=>?_)
 ·obtain rfl:v=0:=by omega
  refine Ln (ch:=48) rfl p (by omega) ?_
  intro A' n' c' e2 g' h' x
  exact hK _ _ _ _ _ _ x
 ·have hv0:v≠0:=by omega
  refine E5 (fun e1=>?_) (fun e1=>?_)
  ·obtain ⟨xs,hxl,sx,dx,nx,hxv⟩:=M
   obtain ⟨w,rfl⟩:∃ w,xs=[w]:=by
    rcases xs with _|⟨w,_|⟨w',r⟩⟩
    ·simp at hxl;omega
    ·exact ⟨w,rfl⟩
    ·simp at hxl;omega
   rw [V1] at hxv
   subst hxv
   refine (SlI.mono p.le sx).load hxl (by omega) (by omega) ?_
   have hw:=dx v (by simp)
   refine Gg (gp.mono p.le) p (by have:(v:Int)<18446744073709551616:=hw.2;omega) (by omega) ?_
   intro A' n' c' e2 g' h' x
   exact ⟨_,_,_,rfl,hK _ _ _ _ _ _ x⟩
  ·have hdl:=C1q (M.lt (by decide))
   have hpl:(pad 0 v).length<=200000000:=by rw [A5q];omega
   refine Al P7 rfl ?_
   intro b1 hb1
   refine ⟨_,_,_,rfl,?_⟩
   have p1:=p.put hb1 (.cells #[U 10000000000000000000] C1)
   have l1:=p.le_put' hb1 (.cells #[U 10000000000000000000] C1)
   have w1:=fun i s e=>Xv (hs:=g) (b:=b1) (e:=C1) i s e
   generalize h.put b1 (Obj.cells #[U 10000000000000000000] C1)=h1 at *
   generalize g.put b1 (Obj.cells #[U 10000000000000000000] C1)=g1 at *
   refine Al A5k rfl ?_
   intro b2 hb2
   refine ⟨_,_,_,rfl,?_⟩
   have split:∀ {hp:Heap} {ss:List (Option Addr × Nat × Nat)} {PA:Option Addr} {k pc:Nat} {gp1 gp2:Heap},Priv hp gp1 Ev 1 PA k pc (ss.map slT)->Priv gp1 gp2 eT 1 A n c (yv l)->ss.length=k->g.le gp2->(∀ i s,ss[i]? = some s->s.2.1<=s.2.2/\Mw gp2 s.1 s.2.1 (Gv i:Int))->k<=26->
    FCall prog H2 #[.slice A n c,.slice XA xn xc,I (0:Int),.slice PA k pc] hp (fun r hp9=>∃ (A1:Option Addr) (n1 c1:Nat),r= .slice A1 n1 c1/\K (.slice A1 n1 c1) hp9):=by
    intro hp ss PA k pc gp1 gp2 pP pT hk lg hw hk24
    obtain ⟨g3,pT3,pP3⟩:=pP.swap pT
    have l3:=B0 lg pP3.le
    refine Qt k (W:=0) (gp.mono l3) pT3 (M.mono l3) hxc hx ⟨ss,hk,pP3.slV,fun i s e=>⟨(hw i s e).1,(hw i s e).2.mono pP3.le⟩⟩ pP3.2.1 hk24 (.inl rfl) (by omega) ?_
    intro A' n' c' e2 g' h' x
    refine ⟨_,_,_,rfl,hK _ _ _ e2 g' _ ?_⟩
    rw [A5q,<- Z1 hv0] at x
    exact x.weak l3
   refine ⟨fun s hp=>∃ (ss:List (Option Addr × Nat × Nat)) (PA:Option Addr) (k pc:Nat) (gp1 gp2:Heap),s=[.slice PA k pc]/\Priv hp gp1 Ev 1 PA k pc (ss.map slT)/\Priv gp1 gp2 eT 1 A n c (yv l)/\ss.length=k/\0<k/\g.le gp2/\(∀ i s,ss[i]? = some s->s.2.1<=s.2.2/\Mw gp2 s.1 s.2.1 (Gv i:Int))/\2^(k-1)<=2*xn,fun s _=>match s with|[.slice _ n _]=>xn-n|_=>0,⟨[(some ⟨b1,0,none⟩,1,1)],_,1,1,h1,g1,rfl,⟨by simp,by simp,.inr ⟨b2,[.slice (some ⟨b1,0,none⟩) 1 1],rfl,hb2,rfl,by simp,by simp⟩⟩,p1,rfl,by omega,l1,w1,by simp;omega⟩,?_⟩
   rintro PA k pc hp ⟨ss,PA',k',pc',gp1,gp2,hs,pP,pT,hk,hk0,lg,hw,hkx⟩
   simp only [C5n,C67,and_true] at hs
   obtain ⟨rfl,rfl,rfl⟩:=hs
   have hk24:k<=26:=by
    by_cases hc:k<=26
    ·exact hc
    ·have h1:2^26<=2^(k-1):=C5k (by decide) (by omega)
     have h2:(2:Nat)^26=67108864:=by decide
     omega
   refine B6 (fun h30=>?_) (fun _=>split pP pT hk lg hw hk24)
   have e1:B5 ((k:Int)-1)=((k-1:Nat):Int):=by rw [B7 (by omega) (by omega)];omega
   obtain ⟨a,ha,hc⟩:=pP.slV.at (i:=k-1) (by rw [C60];omega)
   rw [C6b] at hc
   obtain ⟨h4,Mk⟩:=hw (k-1) (ss[k-1]'(by omega)) (C5j (by omega))
   generalize ss[k-1]'(by omega)=s at *
   simp only [e1,C5i,C5v]
   refine ⟨a,ha,by omega,by omega,_,_,_,hc,?_⟩
   have hge:=Mk.tenP_ge
   have hle:=Mk.tenP_le
   have e2:B5 (2*(s.2.1:Int))=2*(s.2.1:Int):=B7 (by omega) (by omega)
   rw [e2]
   refine B6 (fun h5=>?_) (fun _=>split pP pT hk lg hw hk24)
   refine ⟨a,ha,by omega,by omega,_,_,_,hc,?_⟩
   refine pP.call (pT.call ?_)
   refine H9 Mk Mk h4 h4 (by omega) (by omega) ?_
   intro A2 m2 c2 g2 l2 k2 M2 gp1' pT' hp' pP'
   refine ⟨_,_,_,rfl,?_⟩
   refine De A5k pP' rfl rfl (by omega) (by omega) ?_
   intro A3 c3 h3 g3 l3 p3
   obtain ⟨g4,l4,pT4⟩:=pT'.after l3
   have hm:2^k=2*2^(k-1):=by
    obtain ⟨i,rfl⟩:∃ i,k=i+1:=⟨k-1,by omega⟩
    rw [C69];simp;omega
   have hkk:k<2^k:=Nat.lt_two_pow_self
   refine ⟨⟨ss++[(A2,m2,c2)],A3,k+1,c3,g3,g4,rfl,?_,pT4,by simp;omega,by omega,B0 lg (B0 l2 l4),?_,?_⟩,?_⟩
   ·rw [List.map_append];exact p3
   ·refine A13 (fun i s e=>⟨(hw i s e).1,(hw i s e).2.mono (B0 l2 l4)⟩) ⟨k2,?_⟩
    rw [hk,show Gv k=Gv (k-1)*Gv (k-1) by rw [<- A0z];congr 1;omega,C5s]
    exact M2.mono l4
   ·rw [Nat.add_sub_cancel];omega
   ·show xn-(k+1)<xn-k
    omega
theorem B3r{z:Int}{s:Bool}{xn xc m:Nat}(i:ZI h s XA xn xc z)(hz:ZB m z)(hm:m<=100000000):xn<=10000000:=by
 obtain ⟨k,hk⟩:∃ k,k=10000000:=⟨_,rfl⟩
 rw [<- hk]
 refine i.mag.len_le (by decide) ?_
 rw [Ju]
 have h1:(z.natAbs:Int)<2^m:=by
  have:((z.natAbs:Nat):Int)<((2^m:Nat):Int):=Int.ofNat_lt.2 hz
  simpa using this
 have h2:=D3 (B:=2) (by decide) (show m<=64*k by omega)
 exact Int.lt_of_lt_of_le h1 h2
theorem Gr{s:Bool}{xn xc:Nat}{z:Int}(gp:Gp g)(p:Priv h g eT 1 A n c (yv l))(i:ZI g s XA xn xc z){m:Nat}(hz:ZB m z)(hm:m<=100000000)(hn:n<=100000000)
 (hK:∀ A' n' c' e3 g' h',Ext g eT A n c l (Ky z) A' n' c' e3 g' h'->K (.slice A' n' c') h'):FCall prog Hg #[.agg #[.bool s,.slice XA xn xc],.slice A n c] h K:=by
 have hx:=B3r i hz hm
 refine A89 _ _ _ _ _ _ _ ?_
 unfold B2a
 refine Br.of (fun e=>?_) (fun e=>?_)
 ·have hneg:z<0:=by have:=i.sgn;rw [e] at this;simpa using this.symm
  rw [A5i hneg] at hK
  refine Ln (ch:=45) rfl p (by omega) ?_
  intro A1 n1 c1 e1 g1 hp1 x1
  have:=x1.len
  refine Gh (gp.mono x1.le) x1.priv (i.mag.mono x1.le) i.cap hx (by simp at this;omega) ?_
  intro A2 n2 c2 e2 g2 hp2 x2
  exact ⟨_,_,_,rfl,hK _ _ _ _ _ _ (x1.trans x2)⟩
 ·have hneg:¬ z<0:=by have:=i.sgn;rw [e] at this;simpa using this.symm
  rw [Rd hneg] at hK
  refine Gh gp p i.mag i.cap hx (by omega) ?_
  intro A2 n2 c2 e2 g2 hp2 x2
  exact ⟨_,_,_,rfl,hK _ _ _ _ _ _ x2⟩
theorem A0l{s:Bool}{xn xc:Nat}{z:Int}(gp:Gp h)(i:ZI h s XA xn xc z){m:Nat}(hz:ZB m z)(hm:m<=100000000)(hK:K (.string (bs (Ky z))) h):FCall prog Ta #[.agg #[.bool s,.slice XA xn xc]] h K:=by
 refine FCall.pure (A86 _ _ _ _ ?_)
 unfold B24
 refine Gr (l:=[]) (eT:=G1) gp (Priv.nil _ _ _ _) i hz hm (by omega) ?_
 intro A' n' c' e2 g' h' x
 refine ⟨_,_,_,rfl,?_⟩
 have hx:=x.len
 refine La Ge.und Do V3 x.priv.slV (by simpa using hx) ⟨_,rfl,?_⟩
 exact ⟨B0 x.le x.priv.le,hK⟩
theorem A3i{s:Bool}{xn xc:Nat}{z:Int}(i:ZI h s XA xn xc z)(hK1: -9223372036854775808<=z->z<9223372036854775808->K (.tuple #[I z,.bool true]) h)(hK0:¬ (-9223372036854775808<=z/\z<9223372036854775808)->K (.tuple #[I 0,.bool false]) h):FCall prog Yx #[.agg #[.bool s,.slice XA xn xc]] h K:=by
 have hz:=i.zeroIff
 have cx:=Z8 i.sgn
 refine B28 _ _ _ _ ?_
 unfold B78
 refine E5 (fun e=>?_) (fun e=>?_)
 ·obtain rfl:z=0:=by omega
  exact hK1 (by omega) (by omega)
 ·obtain ⟨xs,hxl,sx,dx,nx,hxv⟩:=i.mag
  have g0:=N3 dx 0
  refine sx.load hxl (by omega) (by omega) ?_
  rw [show ((0:Int)).toNat=0 from rfl]
  refine B6 (fun e1=>?_) (fun e1=>?_)
  ·refine hK0 ?_
   have hge:=i.mag.ge (by decide) (by omega)
   have h2:b64^1<=b64^(xn-1):=D3 (by decide) (by omega)
   have h3:b64^1=18446744073709551616:=by decide
   omega
  ·obtain ⟨w,rfl⟩:∃ w,xs=[w]:=by
    rcases xs with _|⟨w,_|⟨w',r⟩⟩
    ·simp at hxl;omega
    ·exact ⟨w,rfl⟩
    ·simp at hxl;omega
   rw [V1] at hxv
   have hw:[w].getD 0 0=w:=rfl
   rw [hw] at g0 ⊢
   rcases cx with ⟨rfl,hx⟩|⟨rfl,hx⟩
   ·refine Br.of (fun _=>?_) (fun e2=>by cases e2)
    refine B6 (fun e3=>?_) (fun e3=>?_)
    ·have:B5 (C0 (0-w))=z:=by rw [E9,A8y (by omega) (by omega)];omega
     rw [this];exact hK1 (by omega) (by omega)
    ·refine Br.of (fun e4=>by cases e4) (fun _=>?_)
     exact hK0 (by omega)
   ·refine Br.of (fun e2=>by cases e2) (fun _=>?_)
    refine Br.of (fun _=>?_) (fun e4=>by cases e4)
    refine B6 (fun e3=>?_) (fun e3=>?_)
    ·have:B5 w=z:=by rw [B7 (by omega) (by omega)];omega
     rw [this];exact hK1 (by omega) (by omega)
    ·exact hK0 (by omega)
end
theorem B0j(a b:Rat):(a*b).num=a.num.tdiv (C5o a.num.natAbs b.den:Nat)*b.num.tdiv (C5o b.num.natAbs a.den:Nat)/\(a*b).den=a.den/(C5o b.num.natAbs a.den)*(b.den/(C5o a.num.natAbs b.den)):=by
 show (Rat.mul a b).num=_/\(Rat.mul a b).den=_
 delta Rat.mul
 simp only [Int.divExact_eq_tdiv,Nat.divExact_eq_div,and_self]
theorem B6y{q:Rat}(h:q.den=1):q=(q.num:Rat):=by
 apply Rat.ext
 ·simp
 ·simpa using h
abbrev dgt(c:UInt8):Bool:=decide (H1 c)
theorem Lb(l:List UInt8):∀ c∈l.takeWhile dgt,H1 c:=by
 induction l with
 | nil=>simp
 | cons d r ih=>
  intro c hc
  by_cases hd:H1 d
  ·simp [hd] at hc
   rcases hc with rfl|hc
   ·exact hd
   ·exact ih c hc
  ·simp [hd] at hc
def B4k(l:List UInt8):Bool:=decide ([45] <+: l)
def Du(l:List UInt8):List UInt8:=if [45] <+: l then l.drop 1 else l
theorem A5p(l:List UInt8):l=(if B4k l then [45] else [])++Du l:=by
 unfold B4k Du
 by_cases h:[45] <+: l
 ·obtain ⟨t,rfl⟩:=h;simp
 ·simp [h]
theorem B05(l:List UInt8):B4k l=(l.head? == some 45):=by
 unfold B4k
 cases l with
 | nil=>simp
 | cons c r=>
  rw [C61,C6f,decide_eq_true_iff,beq_iff_eq,C5u]
  constructor
  ·rintro ⟨t,e⟩;simp at e;exact e.1.symm
  ·rintro rfl;exact ⟨r,rfl⟩
theorem Form.parts{l:List UInt8}{neg:Bool}{a b:List UInt8}(f:Form l neg a b):neg=B4k l/\a=(Du l).takeWhile dgt/\(if b=[] then [] else 47::b)=(Du l).dropWhile dgt:=by
 have hn:neg=B4k l:=by rw [B05];exact f.head
 have e:=A5p l
 rw [<- hn] at e
 have e2:=e.symm.trans f.eq
 rw [List.append_assoc] at e2
 have e3:=List.append_cancel_left e2
 have hr:∀ c,(if b=[] then [] else 47::b:List UInt8).head? = some c->¬ H1 c:=by
  intro c hc
  split at hc
  ·simp at hc
  ·simp at hc;subst hc;decide
 have:=Ez f.da hr
 rw [<- e3] at this
 exact ⟨hn,this.1.symm,this.2.symm⟩
section
variable {h g:Heap} {K:VP} {l:List UInt8}
theorem Jk(hl:l.length<=1000000000)(hK:K (.tuple #[.string (bs (l.takeWhile dgt)),.string (bs (l.dropWhile dgt))]) h):FCall prog Aa #[.string (bs l)] h K:=by
 refine A04 _ ?_
 unfold Wz
 simp only [J4]
 refine ⟨fun L hp=>L=[I (((l.takeWhile dgt).length:Nat):Int)]/\hp=h,?_,?_⟩
 ·refine ⟨fun L hp=>∃ k:Nat,L=[I k]/\hp=h/\k<=l.length/\(∀ c∈l.take k,H1 c),fun L _=>l.length-(iAt L 0).toNat,⟨0,rfl,rfl,by omega,by simp⟩,?_⟩
  rintro n hp ⟨k,hL,rfl,hk,hd⟩
  obtain rfl:=sI1 hL
  have stop:(∀ c,(l.drop k).head? = some c->¬ H1 c)->[I (k:Int)]=[I (((l.takeWhile dgt).length:Nat):Int)]/\hp=hp:=by
   intro hs
   have:=Ez hd hs
   rw [C5z] at this
   refine ⟨?_,rfl⟩
   rw [this.1,C5q,C5y hk]
  refine B6 (fun h1=>?_) (fun h1=>?_)
  ·have hkl:k<l.length:=by omega
   have hget:(bs l)[(k:Int).toNat]? = some l[k]:=by rw [C5i,Nj,C5j hkl]
   have hh:(l.drop k).head? = some l[k]:=by rw [List.head?_drop,C5j hkl]
   refine ⟨l[k],⟨by omega,hget⟩,B6 (fun h2=>?_) (fun h2=>?_)⟩
   ·refine ⟨l[k],⟨by omega,hget⟩,B6 (fun h3=>?_) (fun h3=>?_)⟩
    ·rw [B7 (by omega) (by omega)]
     refine ⟨⟨k+1,rfl,rfl,by omega,?_⟩,by simp only [iAt,C5m];omega⟩
     rw [C66 hkl]
     intro c hc
     rcases List.mem_append.1 hc with h4|h4
     ·exact hd c h4
     ·rw [List.mem_singleton.1 h4];exact ⟨by omega,by omega⟩
    ·exact stop (fun c hc=>by rw [hh] at hc;cases hc;intro hd;exact h3 (by have:=hd.2;omega))
   ·exact stop (fun c hc=>by rw [hh] at hc;cases hc;intro hd;exact h2 (by have:=hd.1;omega))
  ·exact stop (fun c hc=>by rw [List.drop_of_length_le (by omega)] at hc;cases hc)
 ·rintro n hp ⟨hL,rfl⟩
  obtain rfl:n=(((l.takeWhile dgt).length:Nat):Int):=by simpa using hL
  have hle:(l.takeWhile dgt).length<=l.length:=(List.takeWhile_sublist _).length_le
  have e1:l.take (l.takeWhile dgt).length=l.takeWhile dgt:=by
   conv=>lhs;rw [<- C5p (p:=dgt) (l:=l)]
   rw [C5p,List.prefix_iff_eq_take.1 (List.takeWhile_prefix _)]
   rw [C5q,C5y hle]
  have e2:l.drop (l.takeWhile dgt).length=l.dropWhile dgt:=by
   have h5:l.takeWhile dgt++l.drop (l.takeWhile dgt).length=l.takeWhile dgt++l.dropWhile dgt:=by
    rw [C5p]
    conv=>lhs;lhs;rw [<- e1]
    exact C5z _ _
   exact List.append_cancel_left h5
  refine ⟨⟨by omega,by omega⟩,⟨by omega,by omega⟩,?_⟩
  rw [C5i,N4,N4,C62,C5x,e1,e2,C5w (by rw [<- e2,List.length_drop];omega)]
  exact hK
theorem W9(a:List UInt8):((bs a).toList==({ data:=#[] }:ByteArray).toList)=decide (a=[]):=Nk a []
theorem Og(hl:l.length<=1000000000)(hK1:∀ neg a b,Form l neg a b->K (.tuple #[.agg #[.bool neg,.string (bs a),.string (bs b)],.bool true]) h)(hK0:(∀ neg a b,¬ Form l neg a b)->∀ neg a b,K (.tuple #[.agg #[.bool neg,.string (bs a),.string (bs b)],.bool false]) h):FCall prog Mh #[.string (bs l)] h K:=by
 refine B2i _ ?_
 unfold B7f
 refine Vg (q:=[45]) ⟨_,_,rfl,?_⟩
 have hpl:(Du l).length<=l.length:=by unfold Du;split<;>simp
 show FCall prog Aa #[.string (bs (Du l))] h _
 refine Jk (by omega) ⟨_,_,rfl,?_⟩
 show Br _ _ _
 have hspl:Du l=(Du l).takeWhile dgt++(Du l).dropWhile dgt:=List.takeWhile_append_dropWhile.symm
 have hda:∀ c∈(Du l).takeWhile dgt,H1 c:=Lb _
 have hfp:∀ neg a b,Form l neg a b->neg=B4k l/\a=(Du l).takeWhile dgt/\(if b=[] then [] else 47::b)=(Du l).dropWhile dgt:=fun neg a b f=>f.parts
 have hl2:=A5p l
 have hal:((Du l).takeWhile dgt).length<=l.length:=C6a (List.takeWhile_sublist _).length_le hpl
 have hrl:((Du l).dropWhile dgt).length<=l.length:=C6a (List.dropWhile_sublist _).length_le hpl
 have hrh:∀ c,((Du l).dropWhile dgt).head? = some c->¬ H1 c:=fun c hc=>by
  have:=List.head?_dropWhile_not dgt (Du l)
  rw [hc] at this
  simpa using this
 show Br _ _ _
 have hneg:decide ([45] <+: l)=B4k l:=rfl
 rw [hneg]
 generalize B4k l=neg at *
 generalize (Du l).takeWhile dgt=a at *
 generalize (Du l).dropWhile dgt=r at *
 generalize Du l=t at *
 subst hspl
 have e48:((bs a).toList==({ data:=#[48] }:ByteArray).toList)=decide (a=[48]):=Nk a [48]
 rw [e48,W9,W9]
 refine B6 (fun h1=>?_) (fun h1=>?_)
 ·subst h1
  refine Br.not (Br.of (fun hn=>?_) (fun hn=>?_))
  ·subst hn
   refine hK0 ?_ _ _ []
   intro n' a' b' f
   obtain ⟨rfl,rfl,_⟩:=hfp _ _ _ f
   rcases f.ha with h2|h2
   ·exact h2 rfl
   ·cases h2.2.1
  ·subst hn
   by_cases hr:r=[]
   ·rw [decide_eq_true hr]
    subst hr
    refine hK1 false [48] [] ⟨by simpa using hl2,by simpa using hda,by simp,by simp,.inr ⟨rfl,rfl,rfl⟩,by simp,by simp⟩
   ·rw [decide_eq_false hr]
    refine hK0 ?_ _ _ []
    intro n' a' b' f
    obtain ⟨rfl,rfl,h3⟩:=hfp _ _ _ f
    rcases f.ha with h2|h2
    ·exact h2 rfl
    ·rw [h2.2.2] at h3;exact hr (by simpa using h3.symm)
 ·refine ⟨fun L hp=>L=[.bool (decide (a=[]\/a.head? = some 48))]/\hp=h,?_,?_⟩
  ·refine B6 (fun h2=>⟨by simp [h2],rfl⟩) (fun h2=>?_)
   obtain ⟨c,r2,rfl⟩:=C5l h2
   refine ⟨c,⟨by omega,by rw [Nj];rfl⟩,?_,rfl⟩
   congr 2
   rw [C6f,beq_iff_eq,decide_eq_true_iff]
   simp only [reduceCtorEq,false_or,C61,C5u]
   constructor
   ·intro e;apply UInt8.toNat_inj.1;show c.toNat=48;omega
   ·rintro rfl;rfl
  rintro t31 hp ⟨hL,rfl⟩
  obtain rfl:t31=decide (a=[]\/a.head? = some 48):=by simpa using hL
  refine B6 (fun h2=>?_) (fun h2=>?_)
  ·refine hK0 ?_ _ _ []
   intro n' a' b' f
   obtain ⟨rfl,rfl,_⟩:=hfp _ _ _ f
   rcases h2 with h2|h2
   ·exact f.ne h2
   ·rcases f.ha with h3|h3
    ·exact h3 h2
    ·exact h1 h3.1
  ·have hane:a≠[]:=fun e=>h2 (.inl e)
   have hah:a.head? ≠ some 48:=fun e=>h2 (.inr e)
   refine B6 (fun h3=>?_) (fun h3=>?_)
   ·subst h3
    exact hK1 neg a [] ⟨by simpa using hl2,hda,by simp,hane,.inl hah,by simp,by simp⟩
   ·obtain ⟨c,r2,rfl⟩:=C5l h3
    refine ⟨c,⟨by omega,by rw [Nj];rfl⟩,N7 (fun h4=>?_) (fun h4=>?_)⟩
    ·refine hK0 ?_ _ _ []
     intro n' a' b' f
     obtain ⟨rfl,rfl,h5⟩:=hfp _ _ _ f
     by_cases hb:b'=[]
     ·simp [hb] at h5
     ·rw [if_neg hb] at h5
      simp at h5
      exact h4 (by rw [<- h5.1];rfl)
    ·have hc:c=47:=by apply UInt8.toNat_inj.1;show c.toNat=47;omega
     subst hc
     refine ⟨⟨by omega,by rw [J4];simp;omega⟩,?_⟩
     rw [N4,show ((1:Int)).toNat=1 from rfl,J4,C5w (by simp),List.drop_succ_cons,C62]
     refine Jk (by simp at hrl;omega) ⟨_,_,rfl,?_⟩
     have hsp2:r2=r2.takeWhile dgt++r2.dropWhile dgt:=List.takeWhile_append_dropWhile.symm
     have hdb:∀ c∈r2.takeWhile dgt,H1 c:=Lb _
     have hbp:∀ b':List UInt8,(∀ c∈b',H1 c)->b'=r2->r2.takeWhile dgt=b'/\r2.dropWhile dgt=[]:=by
      intro b' hd e
      subst e
      have:=Ez (r:=[]) hd (by simp)
      simpa using this
     generalize r2.takeWhile dgt=b at *
     generalize r2.dropWhile dgt=s at *
     have no:(s≠[]\/b=[]\/b.head? = some 48\/b=[49])->∀ neg' a' b',¬ Form (((if neg=true then [45] else [])++(a++47::r2))) neg' a' b':=by
      rintro hbad n' a' b' f
      rw [<- hl2] at f
      obtain ⟨rfl,rfl,h5⟩:=hfp _ _ _ f
      by_cases hb:b'=[]
      ·simp [hb] at h5
      ·rw [if_neg hb] at h5
       simp at h5
       obtain ⟨e6,e7⟩:=hbp b' f.db h5
       subst e6
       rcases hbad with h6|h6|h6|h6
       ·exact h6 e7
       ·exact hb h6
       ·exact f.hb h6
       ·exact f.b1 h6
     rw [W9,W9]
     have e49:((bs b).toList==({ data:=#[49] }:ByteArray).toList)=decide (b=[49]):=Nk b [49]
     rw [e49]
     refine B6 (fun h6=>?_) (fun h6=>hK0 (by rw [hl2];exact no (.inl h6)) _ _ _)
     subst h6
     rw [List.append_nil] at hsp2
     subst hsp2
     refine Br.not (B6 (fun h7=>hK0 (by rw [hl2];exact no (.inr (.inl h7))) _ _ _) (fun h7=>?_))
     obtain ⟨c,r3,rfl⟩:=C5l h7
     refine ⟨c,⟨by omega,by rw [Nj];rfl⟩,N7 (fun h8=>?_) (fun h8=>?_)⟩
     ·by_cases h9:c::r3=[49]
      ·rw [decide_eq_true h9]
       exact hK0 (by rw [hl2];exact no (.inr (.inr (.inr h9)))) _ _ _
      ·rw [decide_eq_false h9]
       refine hK1 neg a (c::r3) ⟨by simpa using hl2,hda,hdb,hane,.inl hah,?_,h9⟩
       intro e;simp at e;exact h8 (by rw [e];rfl)
     ·have hh:(c::r3).head? = some 48:=by
       simp only [C61,C5u]
       apply UInt8.toNat_inj.1;show c.toNat=48;omega
      exact hK0 (by rw [hl2];exact no (.inr (.inr (.inl hh)))) _ _ _
end
theorem B3w{q:Rat}(h:q.den=1):K8 q=Ky q.num:=by unfold K8;rw [if_pos h,List.append_nil]
theorem A98{q:Rat}(h:q.den≠1):K8 q=Ky q.num++[47]++Ky (q.den:Int):=by
 unfold K8;rw [if_neg h,Rd (i:=(q.den:Int)) (by omega),C5h];simp
section
variable {h g:Heap} {K:VP} {l:List UInt8}
theorem C36{k:Nat}(h:k<=18):10^k<=1000000000000000000:=C6a (C5k (by decide) h) (by decide)
theorem Gf(hd:∀ c∈l,H1 c)(hl:l.length<=18)(hK:K (I (J6 l:Int)) h):FCall prog Y9 #[.string (bs l)] h K:=by
 refine Up _ ?_
 unfold Qo
 simp only [J4]
 refine ⟨fun L hp=>∃ k:Nat,L=[I (J6 (l.take k):Int),I k]/\hp=h/\k<=l.length,fun L _=>l.length-(iAt L 1).toNat,⟨0,rfl,rfl,by omega⟩,?_⟩
 rintro n t7 hp ⟨k,hL,rfl,hk⟩
 simp only [C5n,C6c,and_true,true_and] at hL
 obtain ⟨rfl,rfl⟩:=hL
 refine B6 (fun h1=>?_) (fun h1=>?_)
 ·have hkl:k<l.length:=by omega
  have hdc:=hd l[k] (List.getElem_mem hkl)
  have hlt:=Fw (l:=l.take (k+1)) (fun c hc=>hd c (List.mem_of_mem_take hc))
  rw [C5q,C5y (by omega)] at hlt
  have ht:=C36 (k:=k+1) (by omega)
  have hs:J6 (l.take (k+1))=10*J6 (l.take k)+(l[k].toNat-48):=by rw [C66 hkl,Hs]
  unfold H1 at hdc
  refine ⟨l[k],⟨by omega,by rw [C5i,Nj,C5j hkl]⟩,?_⟩
  have e:B5 (B5 (10*((J6 (l.take k):Nat):Int))+B5 (wu8 (((l[k].toNat:Nat):Int)-48)))=((J6 (l.take (k+1)):Nat):Int):=by
   rw [Vw (by omega) (by omega),B7 (n:=((l[k].toNat:Nat):Int)-48) (by omega) (by omega),B7 (n:=10*((J6 (l.take k):Nat):Int)) (by omega) (by omega),B7 (by omega) (by omega)]
   omega
  rw [e,B7 (n:=(k:Int)+1) (by omega) (by omega)]
  exact ⟨⟨k+1,rfl,rfl,by omega⟩,by simp only [iAt,C5m,List.getElem?_cons_succ];omega⟩
 ·obtain rfl:k=l.length:=by omega
  rw [List.take_length];exact hK
theorem A9c{a b:Nat}(hK:K (I (C5o a b:Int)) h):FCall prog B11 #[I (a:Int),I (b:Int)] h K:=by
 refine B9q _ _ ?_
 unfold C4r
 refine ⟨fun L hp=>∃ x y:Nat,L=[I x,I y]/\hp=h/\C5o x y=C5o a b,fun L _=>(iAt L 1).toNat,⟨a,b,rfl,rfl,rfl⟩,?_⟩
 rintro a1 b1 hp ⟨x,y,hL,rfl,hg⟩
 obtain ⟨rfl,rfl⟩:a1=(x:Int)/\b1=(y:Int):=by simpa using hL
 refine N7 (fun h1=>?_) (fun h1=>?_)
 ·have hy:y≠0:=by omega
  refine B6 (fun e=>absurd e h1) (fun _=>?_)
  have e:Int.tmod (x:Int) (y:Int)=((x%y:Nat):Int):=(Int.ofNat_tmod x y).symm
  rw [e]
  have hlt:=Nat.mod_lt x (Nat.pos_of_ne_zero hy)
  refine ⟨⟨y,x%y,rfl,rfl,?_⟩,by simp only [iAt,C5m,List.getElem?_cons_succ];omega⟩
  rw [<- hg,Nat.gcd_comm x y,Nat.gcd_rec y x,Nat.gcd_comm]
 ·obtain rfl:y=0:=by omega
  rw [Nat.gcd_zero_right] at hg
  rw [hg];exact hK
theorem Vb(hK1:∀ q,l=K8 q->q.num.natAbs<1000000000->q.den<1000000000->K (.tuple #[.agg #[I q.num,I (q.den:Int)],.bool true]) h)(hK0:K (.tuple #[.agg #[I 0,I 0],.bool false]) h):FCall prog Hh #[.string (bs l)] h K:=by
 refine A03 _ ?_
 unfold Wy
 rw [J4]
 refine B6 (fun _=>hK0) (fun h1=>?_)
 refine Og (by omega) ?_ ?_
 ·intro neg a b f
  refine ⟨_,_,_,_,rfl,?_⟩
  simp only [J4]
  refine ⟨fun L hp=>L=[.bool (decide (a.length>9\/b.length>9))]/\hp=h,Br.of (fun e=>by cases e) (fun _=>B6 (fun h2=>⟨?_,rfl⟩) (fun h2=>⟨?_,rfl⟩)),?_⟩
  ·rw [decide_eq_true (show a.length>9\/b.length>9 by omega)]
  ·by_cases hb9:b.length>9
   ·rw [decide_eq_true (show a.length>9\/b.length>9 by omega)]
    exact congrArg (fun x=>[Value.bool x]) (decide_eq_true (show ((b.length:Nat):Int)>9 by omega))
   ·rw [decide_eq_false (show ¬ (a.length>9\/b.length>9) by omega)]
    exact congrArg (fun x=>[Value.bool x]) (decide_eq_false (show ¬ ((b.length:Nat):Int)>9 by omega))
  rintro t29 hp ⟨hL,rfl⟩
  obtain rfl:t29=decide (a.length>9\/b.length>9):=by simpa using hL
  refine B6 (fun _=>hK0) (fun h2=>?_)
  have habs:(Qg neg a).natAbs=J6 a:=by unfold Qg;split<;>simp
  have hva:=Fw f.da
  have hvb:=Fw f.db
  have h9:∀ k,k<=9->10^k<=1000000000:=fun k hk=>C6a (C5k (by decide) hk) (by decide)
  have h9a:=h9 a.length (by omega)
  have h9b:=h9 b.length (by omega)
  refine Gf f.da (by omega) ⟨_,rfl,?_⟩
  refine ⟨fun L hp'=>L=[I 0,I 0,I (J6 a:Int),I (Kn b:Int)]/\hp'=hp/\C5o (J6 a) (Kn b)=1,?_,?_⟩
  ·rw [W9]
   refine Br.not (B6 (fun h3=>?_) (fun h3=>?_))
   ·subst h3;exact ⟨rfl,rfl,by unfold Kn;simp⟩
   ·refine Gf f.db (by omega) ⟨_,rfl,A9c ⟨_,rfl,N7 (fun _=>hK0) (fun h4=>?_)⟩⟩
    have hfd:Kn b=J6 b:=by unfold Kn;rw [if_neg h3]
    rw [hfd]
    exact ⟨rfl,rfl,by omega⟩
  ·rintro t20 t21 x0 x1 hp5 ⟨hL5,rfl,hg⟩
   simp only [C5n,C6c,and_true,true_and] at hL5
   obtain ⟨_,_,rfl,rfl⟩:=hL5
   obtain ⟨q,hq⟩:=f.isNum.2 hg
   have hqf:=f.of_txt hq
   have hfd1:Kn b<1000000000:=by unfold Kn;split<;>omega
   refine ⟨fun L hp'=>L=[I q.num,I (q.den:Int)]/\hp'=hp5,Br.of (fun e=>?_) (fun e=>?_),?_⟩
   ·rw [hqf.1,hqf.2,e,B7 (by omega) (by omega)]
    exact ⟨by unfold Qg;simp,rfl⟩
   ·rw [hqf.1,hqf.2,e]
    exact ⟨by unfold Qg;simp,rfl⟩
   ·rintro y0 y1 hp6 ⟨hL6,rfl⟩
    simp only [C5n,C6c,and_true,true_and] at hL6
    obtain ⟨rfl,rfl⟩:=hL6
    exact hK1 q hq (by rw [hqf.1,habs];omega) (by rw [hqf.2];exact hfd1)
 ·intro hf neg a b
  refine ⟨_,_,_,_,rfl,?_⟩
  refine ⟨fun L hp=>L=[.bool true]/\hp=h,Br.not ⟨rfl,rfl⟩,?_⟩
  rintro t29 hp ⟨hL,rfl⟩
  obtain rfl:t29=true:=by simpa using hL
  exact Br.of (fun _=>hK0) (fun e=>by cases e)
end
structure RQ (h:Heap) (w:QV) (q:Rat):Prop where
 num:ZI h w.s w.A w.n w.c q.num
 den:ZI h w.s2 w.A2 w.n2 w.c2 (if q.den=1 then 0 else (q.den:Int))
theorem ZB.gcd{m:Nat}{x y:Int}(hy:y≠0)(h:ZB m y):ZB m (C68 x y:Int):=by
 refine h.le ?_
 rw [C5h]
 exact Nat.le_of_dvd (by omega) (Int.natAbs_dvd_natAbs.2 (Int.gcd_dvd_right x y))
section
variable {h h':Heap} {K:VP} {A B:Option Addr} {n c n' c':Nat} {s s':Bool} {x y z:Int} {m:Nat} {p q:Rat} {a b w:QV} {l:List UInt8}
theorem RQ.mono(hl:h.le h')(i:RQ h w q):RQ h' w q:=⟨i.num.mono hl,i.den.mono hl⟩
theorem RQ.whole(i:ZI h s A n c z):RQ h ⟨s,A,n,c,false,none,0,0⟩ (z:Rat):=⟨by simpa using i,by simpa using ZI.zero⟩
theorem RQ.zero:RQ h ⟨false,none,0,0,false,none,0,0⟩ 0:=⟨ZI.zero,ZI.zero⟩
theorem Is(i:RQ h w q)(hK:K (.bool (decide (q.den=1))) h):FCall prog G0 #[.agg #[.bool w.s2,.slice w.A2 w.n2 w.c2]] h K:=by
 refine F4 i.den ?_
 have:=q.den_nz
 have e:decide ((if q.den=1 then (0:Int) else (q.den:Int))=0)=decide (q.den=1):=by
  rw [decide_eq_decide];split<;>omega
 rw [e];exact hK
theorem Ce(i:ZI h s A n c z)(j:ZI h s' B n' c' y)(h1:q.num=z)(h2:(q.den:Int)=y)(hK:∀ w,RQ h w q->K w.v h):FCall prog Ci #[.agg #[.bool s,.slice A n c],.agg #[.bool s',.slice B n' c']] h K:=by
 subst h1 h2
 refine A8c _ _ _ _ _ _ _ _ ?_
 unfold B2k
 refine S7 j ⟨_,rfl,B6 (fun e=>?_) (fun e=>?_)⟩
 ·exact hK ⟨s,A,n,c,false,none,0,0⟩ ⟨i,by rw [if_pos (by omega)];exact ZI.zero⟩
 ·exact hK ⟨s,A,n,c,s',B,n',c'⟩ ⟨i,by rw [if_neg (by omega)];exact j⟩
theorem Dt(i:RQ h w q)(hK:∀ s A n c h',h.le h'->ZI h' s A n c (q.den:Int)->K (.agg #[.bool s,.slice A n c]) h'):FCall prog Qb #[w.v] h K:=by
 refine B9x _ _ _ _ _ _ _ _ ?_
 unfold C4w
 refine Is i ⟨_,rfl,B6 (fun e=>?_) (fun e=>?_)⟩
 ·refine Ca (by decide) (by decide) ?_
  intro s A n c h1 l1 i1
  exact ⟨_,_,_,_,rfl,hK _ _ _ _ _ l1 (by rw [e];exact i1)⟩
 ·have:=i.den
  rw [if_neg e] at this
  exact hK _ _ _ _ _ (B4 _) this
theorem Tu(gl:Gtz h)(i:ZI h s A n c x)(j:ZI h s' B n' c' y)(hx:ZB m x)(hy:ZB m y)(hm:m<=6400000000)(hy0:0<y)(hK:∀ s1 A1 n1 c1 s2 A2 n2 c2 h',h.le h'->ZI h' s1 A1 n1 c1 (x.tdiv (C68 x y))->ZI h' s2 A2 n2 c2 (y.tdiv (C68 x y))->K (.tuple #[.agg #[.bool s1,.slice A1 n1 c1],.agg #[.bool s2,.slice A2 n2 c2]]) h'):FCall prog Mi #[.agg #[.bool s,.slice A n c],.agg #[.bool s',.slice B n' c']] h K:=by
 refine A8d _ _ _ _ _ _ _ _ ?_
 unfold B2l
 refine S7 j ⟨_,rfl,B6 (fun e=>?_) (fun e=>?_)⟩
 ·subst e
  have hg:C68 x 1=1:=by simp
  rw [hg] at hK
  exact hK _ _ _ _ _ _ _ _ _ (B4 _) (by simpa using i) (by simpa using j)
 ·refine Dl gl i j hx hy hm ?_
  intro A1 n1 c1 h1 l1 i1
  have hg:=Int.gcd_pos_of_ne_zero_right x (show y≠0 by omega)
  have hgb:ZB m (C68 x y:Int):=ZB.gcd (by omega) hy
  refine ⟨_,_,_,_,rfl,Bz (i.mono l1) i1 hx hgb hm (by omega) ?_⟩
  intro s2 A2 n2 c2 h2 l2 i2
  refine ⟨_,_,_,_,rfl,l2,Bz (j.mono (B0 l1 l2)) (i1.mono l2) hy hgb hm (by omega) ?_⟩
  intro s3 A3 n3 c3 h3 l3 i3
  exact ⟨_,_,_,_,rfl,l3,hK _ _ _ _ _ _ _ _ _ (B0 l1 (B0 l2 l3)) (i2.mono l3) i3⟩
theorem A7f(i:RQ h w q)(hK:∀ w',RQ h w' (-q)->K w'.v h):FCall prog B12 #[w.v] h K:=by
 refine B9u _ _ _ _ _ _ _ _ ?_
 unfold C4t
 refine Cb i.num ?_
 intro s' i'
 exact ⟨_,_,_,_,rfl,B4 _,hK ⟨s',w.A,w.n,w.c,w.s2,w.A2,w.n2,w.c2⟩ ⟨by simpa using i',by simpa using i.den⟩⟩
theorem Sb(i:RQ h w q)(hK:K (I q.num.sign) h):FCall prog Zc #[w.v] h K:=by
 refine B5q _ _ _ _ _ _ _ _ ?_
 unfold C21
 exact Ob i.num ⟨_,rfl,hK⟩
theorem Pv(i:RQ h w q)(hK:K (.bool (decide (q=0))) h):FCall prog Ml #[w.v] h K:=by
 refine A8g _ _ _ _ _ _ _ _ ?_
 unfold B2q
 refine F4 i.num ⟨_,rfl,?_⟩
 have e:decide (q.num=0)=decide (q=0):=by rw [decide_eq_decide];exact C6d
 rw [e];exact hK
end
structure Gl (h:Heap):Prop where
 tz:Gtz h
 p10:Gp h
theorem Gl.mono{h h':Heap}(g:Gl h)(l:h.le h'):Gl h':=⟨g.tz.mono l,g.p10.mono l⟩
section
variable {h h':Heap} {K:VP} {A B:Option Addr} {n c n' c':Nat} {s s':Bool} {x y z:Int} {m:Nat} {p q:Rat} {a b w:QV} {l:List UInt8}
theorem A7g(gl:Gtz h)(i:RQ h a p)(j:RQ h b q)(hp:Sz m p)(hq:Sz m q)(hm:m<=6400000000)(hK:∀ w h',h.le h'->RQ h' w (p*q)->K w.v h'):FCall prog B13 #[a.v,b.v] h K:=by
 have hpd:=p.den_nz
 have hqd:=q.den_nz
 refine B9v _ _ _ _ _ _ _ _ _ _ _ _ _ _ _ _ ?_
 unfold C4u
 refine ⟨fun L hp=>L=[.bool (decide (p.num=0\/q.num=0))]/\hp=h,F4 i.num ⟨_,rfl,B6 (fun e=>?_) (fun e=>?_)⟩,?_⟩
 ·exact ⟨by simp [e],rfl⟩
 ·exact F4 j.num ⟨_,rfl,by simp [e],rfl⟩
 rintro t16 hp2 ⟨hL,rfl⟩
 obtain rfl:t16=decide (p.num=0\/q.num=0):=by simpa using hL
 refine B6 (fun e=>?_) (fun e=>?_)
 ·have:p*q=0:=by
   rw [C6d,C6d] at e
   exact Rat.mul_eq_zero.2 e
  rw [this] at hK
  exact hK ⟨false,none,0,0,false,none,0,0⟩ _ (B4 _) RQ.zero
 ·refine ⟨fun L hp=>L=[.bool (decide (p.den=1/\q.den=1))]/\hp=hp2,Is i ⟨_,rfl,B6 (fun e=>?_) (fun e=>?_)⟩,?_⟩
  ·exact Is j ⟨_,rfl,by simp [e],rfl⟩
  ·exact ⟨by simp [e],rfl⟩
  rintro t25 hp5 ⟨hL,rfl⟩
  obtain rfl:t25=decide (p.den=1/\q.den=1):=by simpa using hL
  refine B6 (fun e=>?_) (fun e=>?_)
  ·refine Z2 i.num j.num hp.num hq.num hm ?_
   intro s1 A1 n1 c1 h1 l1 i1
   refine ⟨_,_,_,_,rfl,hK ⟨s1,A1,n1,c1,false,none,0,0⟩ _ l1 ?_⟩
   have:=RQ.whole i1
   rw [Rat.intCast_mul,<- B6y e.1,<- B6y e.2] at this
   exact this
  ·have hpp:=B0j p q
   refine Dt j ?_
   intro s1 A1 n1 c1 h1 l1 jd
   refine ⟨_,_,_,_,rfl,l1,Tu (gl.mono l1) (i.num.mono l1) jd hp.num hq.den hm (by omega) ?_⟩
   intro s2 A2 n2 c2 s3 A3 n3 c3 h2 l2 i2 i3
   have l12:=B0 l1 l2
   refine ⟨_,_,_,_,_,_,_,_,rfl,l2,Dt (i.mono l12) ?_⟩
   intro s4 A4 n4 c4 h4 l4 idn
   refine ⟨_,_,_,_,rfl,l4,Tu (gl.mono (B0 l12 l4)) (j.num.mono (B0 l12 l4)) idn hq.num hp.den hm (by omega) ?_⟩
   intro s5 A5 n5 c5 s6 A6 n6 c6 h5 l5 i5 i6
   have e1:C68 p.num (q.den:Int)=C5o p.num.natAbs q.den:=rfl
   have e2:C68 q.num (p.den:Int)=C5o q.num.natAbs p.den:=rfl
   rw [e1] at i2 i3
   rw [e2] at i5 i6
   rw [<- Int.ofNat_tdiv] at i3 i6
   refine ⟨_,_,_,_,_,_,_,_,rfl,l5,Z2 (i2.mono (B0 l4 l5)) i5 hp.num.tdiv hq.num.tdiv hm ?_⟩
   intro s7 A7 n7 c7 h7 l7 i7
   have b1:ZB m ((p.den/C5o q.num.natAbs p.den:Nat):Int):=hp.den.le (by rw [C5h,C5h];exact C6e _ _)
   have b2:ZB m ((q.den/C5o p.num.natAbs q.den:Nat):Int):=hq.den.le (by rw [C5h,C5h];exact C6e _ _)
   refine ⟨_,_,_,_,rfl,l7,Z2 (i6.mono l7) (i3.mono (B0 l4 (B0 l5 l7))) b1 b2 hm ?_⟩
   intro s8 A8 n8 c8 h8 l8 i8
   refine ⟨_,_,_,_,rfl,l8,Ce (q:=p*q) (i7.mono l8) i8 hpp.1 (by rw [hpp.2,C5s]) ?_⟩
   intro w iw
   exact ⟨_,_,_,_,_,_,_,_,rfl,B4 _,hK _ _ (B0 l12 (B0 l4 (B0 l5 (B0 l7 l8)))) iw⟩
theorem Yf(i:RQ h w q)(hK:∀ w h',h.le h'->RQ h' w q⁻¹->K w.v h'):FCall prog Ov #[w.v] h K:=by
 have hqd:=q.den_nz
 refine A52 _ _ _ _ _ _ _ _ ?_
 unfold A6s
 refine Ob i.num ⟨_,rfl,E5 (fun e=>?_) (fun e=>?_)⟩
 ·have h0:q.num=0:=Int.sign_eq_zero_iff_zero.1 e
  have:q⁻¹=0:=by rw [Rat.num_eq_zero.1 h0];exact Rat.inv_zero
  rw [this] at hK
  exact hK ⟨false,none,0,0,false,none,0,0⟩ _ (B4 _) RQ.zero
 ·have h0:q.num≠0:=fun e0=>e (by rw [e0];rfl)
  refine E5 (fun e1=>?_) (fun e1=>?_)
  ·have hneg:q.num<0:=Int.sign_neg_iff.1 (by omega)
   refine Dt i ?_
   intro s1 A1 n1 c1 h1 l1 i1
   refine ⟨_,_,_,_,rfl,l1,Cb i1 ?_⟩
   intro s2 i2
   refine ⟨_,_,_,_,rfl,B4 _,Cb (i.num.mono l1) ?_⟩
   intro s3 i3
   refine ⟨_,_,_,_,rfl,B4 _,Ce (q:=q⁻¹) i2 i3 ?_ ?_ ?_⟩
   ·rw [Rat.num_inv,e1];omega
   ·rw [Rat.den_inv,if_neg h0];omega
   ·intro w iw
    exact ⟨_,_,_,_,_,_,_,_,rfl,B4 _,hK _ _ l1 iw⟩
  ·have hpos:0<q.num:=by
    rcases Int.lt_trichotomy q.num 0 with h1|h1|h1
    ·exact absurd (Int.sign_eq_neg_one_of_neg h1) e1
    ·exact absurd h1 h0
    ·exact h1
   refine Dt i ?_
   intro s1 A1 n1 c1 h1 l1 i1
   refine ⟨_,_,_,_,rfl,l1,Ce (q:=q⁻¹) i1 (i.num.mono l1) ?_ ?_ ?_⟩
   ·rw [Rat.num_inv,Int.sign_eq_one_of_pos hpos,Int.one_mul]
   ·rw [Rat.den_inv,if_neg h0];omega
   ·intro w iw
    exact ⟨_,_,_,_,_,_,_,_,rfl,B4 _,hK _ _ l1 iw⟩
theorem Ds(gl:Gtz h)(i:RQ h a p)(j:RQ h b q)(hp:Sz m p)(hq:Sz m q)(hm1:1<=m)(hm:m<=6400000000)(hK:∀ w h',h.le h'->RQ h' w (p/q)->K w.v h'):FCall prog Tf #[a.v,b.v] h K:=by
 refine B9w _ _ _ _ _ _ _ _ _ _ _ _ _ _ _ _ ?_
 unfold C4v
 refine Yf j ?_
 intro w1 h1 l1 j1
 refine ⟨_,_,_,_,_,_,_,_,rfl,l1,A7g (gl.mono l1) (i.mono l1) j1 hp (hq.inv hm1) hm ?_⟩
 intro w2 h2 l2 i2
 rw [<- Rat.div_def] at i2
 exact ⟨_,_,_,_,_,_,_,_,rfl,l2,hK _ _ (B0 l1 l2) i2⟩
theorem Pa{t:List UInt8}{k:Nat}(h:∀ c∈t,H1 c)(hk:t.length<=k):ZB (4*k) (J6 t:Int):=by
 unfold ZB
 rw [C5h]
 exact C65 (Ck h) (C5k (by decide) (by omega))
theorem Form.lens{neg:Bool}{a b:List UInt8}(f:Form l neg a b):a.length<=l.length/\b.length<=l.length:=by
 have:=congrArg List.length f.eq
 simp only [C5t] at this
 by_cases hb:b=[]
 ·rw [if_pos hb] at this;subst hb;simp at this ⊢;omega
 ·rw [if_neg hb] at this;simp at this;omega
theorem A7i(gl:Gtz h)(hl:l.length<=100000000)(hK1:∀ q,l=K8 q->∀ w h',h.le h'->RQ h' w q->K (.tuple #[w.v,.bool true]) h')(hK0:¬ IsNum l->∀ (w:QV) h',h.le h'->RQ h' w 0->K (.tuple #[w.v,.bool false]) h'):FCall prog A4g #[.string (bs l)] h K:=by
 refine B5o _ ?_
 unfold C20
 refine Og (by omega) ?_ ?_
 ·intro neg a b f
  refine ⟨_,_,_,_,rfl,Br.not ?_⟩
  have hlen:=f.lens
  refine Iq f.da (by omega) ?_
  intro A1 n1 c1 h1 l1 i1
  refine ⟨_,_,_,_,rfl,?_⟩
  refine ⟨fun L hp=>∃ s2:Bool,L=[.bool s2,.slice A1 n1 c1,.bool false,.slice none 0 0]/\hp=h1/\ZI h1 s2 A1 n1 c1 (Qg neg a),Br.of (fun e=>?_) (fun e=>?_),?_⟩
  ·refine Cb i1 ?_
   intro s2 i2
   exact ⟨_,_,_,_,rfl,s2,rfl,rfl,by unfold Qg;rw [e];exact i2⟩
  ·exact ⟨false,rfl,rfl,by unfold Qg;rw [e];exact i1⟩
  rintro x0 x1A x1n x1c x2 x3A x3n x3c hp3 ⟨s2,hL,rfl,i2⟩
  simp only [C5n,C67,Value.bool.injEq,and_true] at hL
  obtain ⟨rfl,⟨rfl,rfl,rfl⟩,rfl,rfl,rfl,rfl⟩:=hL
  have habs:(Qg neg a).natAbs=J6 a:=by unfold Qg;split<;>simp
  rw [W9]
  refine B6 (fun hb=>?_) (fun hb=>?_)
  ·subst hb
   obtain ⟨q,hq⟩:=f.isNum.2 (by unfold Kn;simp)
   obtain ⟨h2,h3⟩:=f.of_txt hq
   refine hK1 q hq ⟨x0,x1A,x1n,x1c,false,none,0,0⟩ _ l1 ⟨by rw [h2];exact i2,?_⟩
   rw [h3,show Kn []=1 from rfl,if_pos rfl];exact ZI.zero
  ·refine Iq f.db (by omega) ?_
   intro A4 n4 c4 h4 l4 i4
   have hnb:ZB (4*l.length) (Qg neg a):=(Pa f.da (k:=l.length) (by omega)).le (by rw [habs,C5h];exact C64 _)
   refine ⟨_,_,_,_,rfl,Dl (gl.mono (B0 l1 l4)) (i2.mono l4) i4 hnb (Pa f.db (k:=l.length) (by omega)) (by omega) ?_⟩
   intro A5 n5 c5 h5 l5 i5
   refine ⟨_,_,_,_,rfl,S7 i5 ⟨_,rfl,?_⟩⟩
   have hfd:Kn b=J6 b:=by unfold Kn;rw [if_neg hb]
   have hgg:C68 (Qg neg a) (J6 b:Int)=C5o (J6 a) (Kn b):=by
    rw [hfd];show C5o (Qg neg a).natAbs (J6 b)=_;rw [habs]
   rw [hgg]
   refine Br.not (B6 (fun e1=>?_) (fun e1=>?_))
   ·obtain ⟨q,hq⟩:=f.isNum.2 (by omega)
    obtain ⟨h2,h3⟩:=f.of_txt hq
    have hd1:Kn b≠1:=by
     intro e2
     have h6:=Nh f.db hb (.inl f.hb)
     rw [<- hfd,e2] at h6
     apply f.b1
     rw [<- h6];simp [N6,Be,J9,dch]
    refine hK1 q hq ⟨x0,x1A,x1n,x1c,false,A4,n4,c4⟩ _ (B0 l1 (B0 l4 l5)) ⟨by rw [h2];exact i2.mono (B0 l4 l5),?_⟩
    rw [h3,if_neg hd1,hfd];exact i4.mono l5
   ·refine hK0 ?_ ⟨false,none,0,0,false,none,0,0⟩ _ (B0 l1 (B0 l4 l5)) RQ.zero
    intro hn
    exact e1 (by rw [f.isNum.1 hn];rfl)
 ·intro hf neg a b
  refine ⟨_,_,_,_,rfl,Br.not ?_⟩
  refine hK0 ?_ ⟨false,none,0,0,false,none,0,0⟩ _ (B4 _) RQ.zero
  intro hn
  obtain ⟨neg',a',b',f⟩:=hn.form
  exact hf _ _ _ f
theorem Pu(gp:Gp h)(i:RQ h w q)(hq:Sz m q)(hm:m<=40000000)(hK:K (.string (bs (K8 q))) h):FCall prog Mj #[w.v] h K:=by
 refine FCall.pure (A8e _ _ _ _ _ _ _ _ ?_)
 unfold B2o
 refine Is i ⟨_,rfl,B6 (fun e=>?_) (fun e=>?_)⟩
 ·rw [B3w e] at hK
  refine A3i i.num (fun h1 h2=>?_) (fun h1=>?_)
  ·refine ⟨_,_,rfl,Br.of (fun _=>A51 _ ?_) (fun e=>by cases e)⟩
   unfold A6r
   exact Vd gp h1 h2 ⟨_,rfl,_,rfl,B4 _,hK⟩
  ·refine ⟨_,_,rfl,Br.of (fun e=>by cases e) (fun _=>?_)⟩
   exact A0l gp i.num hq.num (by omega) ⟨_,rfl,B4 _,hK⟩
 ·rw [A98 e] at hK
  have idn:=i.den
  rw [if_neg e] at idn
  refine Gr (l:=[]) (eT:=G1) gp (Priv.nil _ _ _ _) i.num hq.num (by omega) (by omega) ?_
  intro A1 n1 c1 e1 g1 h1 x1
  refine ⟨_,_,_,rfl,?_⟩
  have hl1:(Ky q.num).length<=50000000:=by
   unfold Ky
   have:=Cl hq.num
   split<;>simp<;>omega
  have hx1:=x1.len
  refine Ln (ch:=47) rfl x1.priv (by omega) ?_
  intro A2 n2 c2 e2 g2 h2 x2
  have x12:=x1.trans x2
  have hx2:=x12.len
  rw [C5t,List.length_singleton] at hx2
  refine Gr (gp.mono x12.le) x2.priv (idn.mono x12.le) hq.den (by omega) (by omega) ?_
  intro A3 n3 c3 e3 g3 h3 x3
  refine ⟨_,_,_,rfl,?_⟩
  rw [List.append_assoc] at x3
  have x123:=x12.trans x3
  have hx3:=x123.len
  refine La Ge.und Do V3 x123.priv.slV (by simpa using hx3) ⟨_,rfl,?_⟩
  refine ⟨B0 x123.le x123.priv.le,?_⟩
  simpa using hK
end
structure Tx (m:Nat) (l:List UInt8):Prop where
 len:l.length<=100000000
 sz:Sz m (rv l)
theorem B3y{m:Nat}{z:Int}(h:ZB m z):(Ky z).length<=m+2:=by
 have:=Cl h
 unfold Ky;split
 ·rw [List.length_cons];omega
 ·omega
theorem A5h{m:Nat}{q:Rat}(h:Sz m q):(K8 q).length<=2*m+4:=by
 have h1:=B3y h.num
 have h2:=Cl (n:=q.den) (m:=m) (by have:=h.den;unfold ZB at this;simpa using this)
 unfold K8
 split
 ·simp;omega
 ·simp;omega
theorem A97(q:Rat):∃ c r,K8 q=c::r/\(c=45↔q<0):=by
 have f:=Dp q
 have hne:K8 q≠[]:=by
  intro e
  have:=f.eq
  rw [e] at this
  have h2:=f.ne
  have:=congrArg List.length this
  simp only [C5t,List.length_nil] at this
  exact h2 (List.eq_nil_of_length_eq_zero (by omega))
 obtain ⟨c,r,e⟩:=C5l hne
 refine ⟨c,r,e,?_⟩
 have hh:=f.head
 rw [e,C61,C6f,decide_eq_true_iff,beq_iff_eq,C5u] at hh
 rw [<- hh,Rat.lt_iff];simp
section
variable {h:Heap} {K:VP} {m:Nat} {a b:List UInt8}
theorem Vx(gl:Gl h)(hl:a.length<=100000000)(hK1:IsNum a->K (.bool true) h)(hK0:¬ IsNum a->K (.bool false) h):FCall prog Rg #[.string (bs a)] h K:=by
 refine FCall.pure (B2h _ ?_)
 unfold B7e
 refine Vb ?_ ?_
 ·intro q e _ _
  exact ⟨_,_,_,rfl,Br.of (fun _=>⟨B4 _,hK1 ⟨q,e⟩⟩) (fun e=>by cases e)⟩
 ·refine ⟨_,_,_,rfl,Br.of (fun e=>by cases e) (fun _=>?_)⟩
  refine Og (by omega) ?_ ?_
  ·intro neg x y f
   refine ⟨_,_,_,_,rfl,Br.of (fun e=>by cases e) (fun _=>?_)⟩
   have hlen:=f.lens
   rw [W9]
   refine B6 (fun e=>?_) (fun e=>?_)
   ·subst e
    exact ⟨B4 _,hK1 (f.isNum.2 (by unfold Kn;simp))⟩
   ·refine Iq f.da (by omega) ?_
    intro A1 n1 c1 h1 l1 i1
    refine ⟨_,_,_,_,rfl,l1,Iq f.db (by omega) ?_⟩
    intro A2 n2 c2 h2 l2 i2
    refine ⟨_,_,_,_,rfl,l2,Dl (gl.tz.mono (B0 l1 l2)) (i1.mono l2) i2 (Pa f.da (k:=a.length) (by omega)) (Pa f.db (k:=a.length) (by omega)) (by omega) ?_⟩
    intro A3 n3 c3 h3 l3 i3
    refine ⟨_,_,_,_,rfl,l3,S7 i3 ⟨_,rfl,B4 _,B0 l1 (B0 l2 l3),?_⟩⟩
    rw [Int.gcd_natCast_natCast]
    have hfd:Kn y=J6 y:=by unfold Kn;rw [if_neg e]
    by_cases hg:C5o (J6 x) (J6 y)=1
    ·rw [decide_eq_true (by rw [hg];rfl)]
     exact hK1 (f.isNum.2 (by rw [hfd];exact hg))
    ·rw [decide_eq_false (by omega)]
     exact hK0 (fun hn=>hg (by rw [<- hfd];exact f.isNum.1 hn))
  ·intro hf neg x y
   refine ⟨_,_,_,_,rfl,Br.of (fun _=>⟨B4 _,hK0 ?_⟩) (fun e=>by cases e)⟩
   intro hn
   obtain ⟨neg',a',b',f⟩:=hn.form
   exact hf _ _ _ f
end
def C43(h:Heap)(r:Value)(h':Heap):Prop:=r= .bool true/\h.le h'
theorem A7b{x:List UInt8}{k:Nat}(hl:x.length<=k)(hk:1<=k):Sz (4*k) (rv x):=by
 by_cases hn:IsNum x
 ·obtain ⟨neg,a,b,f⟩:=hn.form
  obtain ⟨h1,h2⟩:=f.rv_num hn
  have hlen:=f.lens
  have habs:(Qg neg a).natAbs=J6 a:=by unfold Qg;split<;>simp
  refine ⟨?_,?_⟩
  ·rw [h1];exact (Pa f.da (k:=k) (by omega)).le (by rw [habs,C5h];exact C64 _)
  ·rw [h2]
   unfold Kn
   split
   ·exact ZB.one (by omega)
   ·exact Pa f.db (by omega)
 ·rw [A9u hn];exact Sz.zero (by omega)
end Go.Proofs.YtajkakhfcokljaaGreatDoor
namespace Go.Proofs.YtajkakhfcokljaaGreatDoor
set_option maxRecDepth 20000
open Go Go.RowKit
def memOf(W:World):Heap:=fun b=>W.heap[b]?
theorem frame_of{P:Program}{f:FuncId}{args:Array Value}{W:World}(x:FCall P f args (memOf W) (C43 (memOf W))):Calls P f args W fun e w'=>e= .returned (.bool true)/\Below W.heap.size W w':=by
 refine (x W (fun b o e=>e)).mono ?_
 rintro e W' ⟨r,h',he,⟨hr,hle⟩,fr⟩
 subst hr
 refine ⟨he,fr.os,fr.tape,fr.output,fr.size,fun k hk=>?_⟩
 have e0:memOf W k=some W.heap[k]:=Array.getElem?_eq_getElem hk
 have:=fr.sim k _ (hle k _ e0)
 rw [this];exact e0.symm
theorem On{W:World}{a:Addr}{v:Value}(e:W.cell? a=some v):(memOf W).cell? a=some v:=by
 unfold World.cell? at e
 unfold Heap.cell? memOf
 exact e
theorem A5z{P:Program}{W:World}{x:String × DataW Unit}{rest:List (String × DataW Unit)}(h:laidMet P (x::rest) W):laidMet P rest W:=by
 obtain ⟨n,d⟩:=x
 obtain ⟨ps,⟨g,t,cs,fuel,p,q,h1,h2,h3,h4,h5,rfl⟩,h6,h7⟩:=h
 exact ⟨q,h5,(List.nodup_append.1 h6).2.1,fun b off hb=>h7 b off (List.mem_append_right _ hb)⟩
def C37:List Int:=[0,1,28,2,29,14,24,3,30,22,20,15,25,17,4,8,31,27,13,23,21,19,16,7,26,12,18,6,11,5,10,9]
def B45:List Int:=[0,1,56,2,57,49,28,3,61,58,42,50,38,29,17,4,62,47,59,36,45,43,51,22,53,39,33,30,24,18,12,5,63,55,48,27,60,41,37,16,46,35,44,21,52,32,23,11,54,26,40,15,34,20,31,10,25,14,19,9,13,8,7,6]
def B88:List Int:=[1,10,100,1000,10000,100000,1000000,10000000,100000000,1000000000,10000000000,100000000000,1000000000000,10000000000000,100000000000000,1000000000000000,10000000000000000,100000000000000000,1000000000000000000,10000000000000000000]
theorem B6n:prog.globalNamed "math/bits.deBruijn64tab" = some 3:=by kernel_rfl
theorem B6o:prog.globalNamed "internal/strconv.uint64pow10" = some 2:=by kernel_rfl
theorem tabs_gl{W:World}(h:laidMet prog [("math/bits.deBruijn32tab",Rows.laid_math_bits_deBruijn32tab),("math/bits.deBruijn64tab",Rows.laid_math_bits_deBruijn64tab),("internal/strconv.uint64pow10",Rows.laid_internal_strconv_uint64pow10)] W):Gl (memOf W):=by
 have h2:=A5z h
 have h3:=A5z h2
 have t64:Lib.TabIs prog W "math/bits.deBruijn64tab" .u8 B45:=Lib.tabIs_of_head (rest:=[("internal/strconv.uint64pow10",Rows.laid_internal_strconv_uint64pow10)]) B6n (by kernel_rfl) underlying297 underlying5 (by kernel_rfl) (by kernel_rfl) h2
 have t10:Lib.TabIs prog W "internal/strconv.uint64pow10" .u64 B88:=Lib.tabIs_of_head (rest:=[]) B6o (by kernel_rfl) underlying287 underlying130 (by kernel_rfl) (by kernel_rfl) h3
 have k64:∀ k,k<64->A0u k<B45.length/\B45.getD (A0u k) 0=(k:Int):=by decide +kernel
 have k10:∀ k,k<20->B88.getD k 0=((10^k:Nat):Int):=by decide +kernel
 refine ⟨fun k hk=>?_,fun k hk=>?_⟩
 ·obtain ⟨a,b⟩:=k64 k hk
  have:=On (t64.cell B6n (A0u k) a)
  rw [D9,C5v,Nat.zero_add,this,b]
 ·have:=On (t10.cell B6o k (by show k<20;exact hk))
  rw [D9,C5v,Nat.zero_add,this,k10 k hk]
def B0t(zs:List Int)(k:IntKind):Obj->Obj
 | .cells _ t frozen=>.cells (zs.map (Value.int k)).toArray t frozen
 | o=>o
def layTabs(a:Array Obj):Array Obj:=((a.modify 4 (B0t C37 .u8)).modify 3 (B0t B45 .u8)).modify 2 (B0t B88 .u64)
end Go.Proofs.YtajkakhfcokljaaGreatDoor
