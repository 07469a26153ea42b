/-
  Texts of this proof, merged by a program of ours.
-/
import Derived.Test.YtajkakhfcokljaaGreatDoorG21
import Derived.Test.YtajkakhfcokljaaGreatDoorG20
import Derived.Test.YtajkakhfcokljaaGreatDoorG09
import Derived.Test.YtajkakhfcokljaaGreatDoorRows
import Derived.Below
import Derived.ChangeSame
import Derived.WideShapes
import Derived.LaidLaws
import Derived.Lib.LaidTab
open Go.Proofs.Tryz
open Bool renaming eq_iff_iff->C6r
open Int renaming natAbs_natCast->C5q,toNat_natCast->C5r,natCast_mul->C5u,gcd->C62,natCast_pow->C63,ofNat_tdiv->C6g,sign_eq_neg_one_of_neg->C6s
open List renaming getElem?_eq_getElem->C5s,exists_cons_of_ne_nil->C5v,getElem?_cons_zero->C5y,takeWhile_append_dropWhile->C60,length_take->C61,length_append->C64,take_of_length_le->C68,take_append_drop->C6c,length_map->C6d,head?_cons->C6e,drop_zero->C6f,take_succ_eq_append_getElem->C6k,getElem_map->C6o
open List.cons renaming injEq->C5z
open Nat renaming pow_le_pow_right->C5t,gcd->C5w,div_le_self->C5x,gcd_dvd_right->C66,mul_one->C67,sub_zero->C6a,min_eq_left->C6b,pow_le_pow_left->C6h,le_refl->C6i,lt_of_lt_of_le->C6j,pow_succ->C6m,le_trans->C6n,div_one->C6q
open Option.some renaming injEq->C65
open Rat renaming num_eq_zero->C69
open _root_.Go.Value.int renaming injEq->C6p
open _root_.Go.Value.slice renaming injEq->C6l
namespace Go.Proofs.YtajkakhfcokljaaGreatDoor
set_option linter.all false
set_option maxRecDepth 20000
open Go
def Hf(i:Nat):Nat:=10^(19*2^i)
theorem A9g(i:Nat):Hf i=(10^19)^(2^i):=Nat.pow_mul _ _ _
theorem B4e(i:Nat):0<Hf i:=Nat.pow_pos (by decide)
theorem A9f:Hf 0=10000000000000000000:=by decide
theorem A1k(i:Nat):Hf (i+1)=Hf i*Hf i:=by
 unfold Hf
 rw [<- Nat.pow_add]
 congr 1
 rw [C6m];omega
theorem B8f(i:Nat):(Hf i:Int)<b64^(2^i):=by
 have h:(10^19)^(2^i)<(18446744073709551616:Nat)^(2^i):=Nat.pow_lt_pow_left (by decide) (Nat.pos_iff_ne_zero.1 (Nat.pow_pos (by decide)))
 rw [<- A9g] at h
 have h2:((Hf i:Nat):Int)<((18446744073709551616^(2^i):Nat):Int):=Int.ofNat_lt.2 h
 rw [C63] at h2
 exact h2
theorem B8g(i:Nat):(2:Int)^(63*2^i)<=(Hf i:Int):=by
 have h:(2^63)^(2^i)<=(10^19)^(2^i):=C6h (by decide) _
 rw [<- A9g,<- Nat.pow_mul] at h
 have h2:((2^(63*2^i):Nat):Int)<=((Hf i:Nat):Int):=Int.ofNat_le.2 h
 rw [C63] at h2
 exact h2
theorem C0v{k m:Nat}(h:(2:Int)^k<2^m):k<m:=by
 by_cases hk:k<m
 ·exact hk
 ·have:=D3 (B:=2) (by decide) (show m<=k by omega)
  omega
abbrev slT(s:Option Addr × Nat × Nat):Value:=.slice s.1 s.2.1 s.2.2
def Pws(h:Heap)(PA:Option Addr)(k:Nat):Prop:=∃ ss:List (Option Addr × Nat × Nat),ss.length=k/\SlV h PA (ss.map slT)/\∀ i s,ss[i]? = some s->s.2.1<=s.2.2/\Mw h s.1 s.2.1 (Hf i:Int)
theorem Pws.mono{h h':Heap}(l:h.le h'){PA:Option Addr}{k:Nat}(p:Pws h PA k):Pws h' PA k:=by
 obtain ⟨ss,h1,h2,h3⟩:=p
 exact ⟨ss,h1,h2.mono l,fun i s e=>⟨(h3 i s e).1,(h3 i s e).2.mono l⟩⟩
theorem Pws.take{h:Heap}{PA:Option Addr}{k j:Nat}(p:Pws h PA k)(hj:j<=k):Pws h PA j:=by
 obtain ⟨ss,h1,h2,h3⟩:=p
 refine ⟨ss.take j,by rw [C61];omega,?_,fun i s e=>?_⟩
 ·have:=SlV.cut (c:=(ss.map slT).length) h2 (Nat.zero_le j) (by rw [C6d];omega) (C6i _)
  rw [I3,C6f,C6a,<- List.map_take] at this
  exact this
 ·rw [List.getElem?_take] at e
  split at e
  ·exact h3 i s e
  ·cases e
theorem Pws.at{h:Heap}{PA:Option Addr}{k i:Nat}(p:Pws h PA k)(hi:i<k):∃ (a:Addr) (A:Option Addr) (n c:Nat),PA=some a/\h.cell? (a.add i)=some (.slice A n c)/\n<=c/\Mw h A n (Hf i:Int):=by
 obtain ⟨ss,h1,h2,h3⟩:=p
 obtain ⟨a,ha,hc⟩:=h2.at (i:=i) (by rw [C6d];omega)
 rw [C6o] at hc
 obtain ⟨h4,h5⟩:=h3 i ss[i] (C5s (by omega))
 exact ⟨a,_,_,_,ha,hc,h4,h5⟩
theorem Mw.tenP_le{h:Heap}{A:Option Addr}{n i:Nat}(m:Mw h A n (Hf i:Int)):n<=2^i:=m.len_le (by decide) (B8f i)
theorem Mw.tenP_ge{h:Heap}{A:Option Addr}{n i:Nat}(m:Mw h A n (Hf i:Int)):2^i<2*n:=by
 have h1:=m.lt (by decide)
 rw [Kj] at h1
 have h2:=C0v (Int.lt_of_le_of_lt (B8g i) h1)
 omega
theorem Ext.weak{g g0 g' h':Heap}{eT e2:TypeId}{A A':Option Addr}{n c n' c':Nat}{l t:List UInt8}(l0:g0.le g)(x:Ext g eT A n c l t A' n' c' e2 g' h'):Ext g0 eT A n c l t A' n' c' e2 g' h':=⟨B0 l0 x.le,x.priv,x.len,x.fit,x.tag⟩
theorem B6n(w n:Nat):w<=(pad w n).length:=by simp [pad];omega
theorem B8n{j:Nat}(hj:j<=30):B5 (19*2^(min j 64))=((19*2^j:Nat):Int):=by
 rw [C6b (by omega)]
 have h1:2^j<=2^30:=C5t (by decide) hj
 have h2:(19*2^j:Int)=((19*2^j:Nat):Int):=by rw [C5u,C63];rfl
 rw [h2,B7 (by omega) (by have:(2:Nat)^30=1073741824:=by decide
                          omega)]
theorem A0a{l:List UInt8}(hd:∀ c∈l,H0 c):(J6 l:Int)<b64^l.length:=by
 have h1:=Ge hd
 have h2:10^l.length<=(18446744073709551616:Nat)^l.length:=C6h (by decide) _
 have h3:((J6 l:Nat):Int)<((18446744073709551616^l.length:Nat):Int):=Int.ofNat_lt.2 (C6j h1 h2)
 rw [C63] at h3
 exact h3
theorem Qx:∀ (k:Nat) {h g:Heap} {K:VP} {A XA PA:Option Addr} {n c xn xc pc v W:Nat} {eT:TypeId} {l:List UInt8},Gp g->Priv h g eT 1 A n c (yv l)->Mw g XA xn (v:Int)->xn<=xc->xn<=10000000->Pws g PA k->k<=pc->k<=26->(W=0\/W=19*2^k)->n+(pad W v).length<=1000000000->
 (∀ A' n' c' e3 g' h',Ext g eT A n c l (pad W v) A' n' c' e3 g' h'->K (.slice A' n' c') h')->FCall prog H1 #[.slice A n c,.slice XA xn xc,I (W:Int),.slice PA k pc] h K:=by
 intro k
 induction k with
 | zero=>
  intro h g K A XA PA n c xn xc pc v W eT l gp p M hxc hx hP hpc hk hW hn hK
  have:=B6n W v
  refine Im _ _ _ _ _ _ _ _ _ _ ?_
  unfold In
  refine B6 (fun _=>?_) (fun e=>absurd (by decide) e)
  refine Es gp p M hx (by omega) (by omega) ?_
  intro A' n' c' e2 g' h' x
  exact ⟨_,_,_,rfl,hK _ _ _ e2 g' _ x⟩
 | succ j ih=>
  intro h g K A XA PA n c xn xc pc v W eT l gp p M hxc hx hP hpc hk hW hn hK
  have hge:=B6n W v
  have e1:B5 (((j+1:Nat):Int)-1)=(j:Int):=by rw [B7 (by omega) (by omega)];omega
  refine Im _ _ _ _ _ _ _ _ _ _ ?_
  unfold In
  simp only [e1,C5r,C6a,I3,B8n (show j<=30 by omega)]
  refine B6 (fun e=>absurd e (by omega)) (fun _=>B6 (fun _=>?_) (fun _=>?_))
  ·refine Es gp p M hx (by omega) (by omega) ?_
   intro A' n' c' e2 g' h' x
   exact ⟨_,_,_,rfl,hK _ _ _ e2 g' _ x⟩
  ·obtain ⟨a,PA',pn,pcc,ha,hc,hpc',Mp⟩:=hP.at (i:=j) (by omega)
   refine ⟨a,ha,by omega,by omega,_,_,_,by rw [C67];exact B9 p.le hc,?_⟩
   have hpn:=Mp.tenP_le
   have h2j:2^j<=2^26:=C5t (by decide) (by omega)
   have h24:(2:Nat)^26=67108864:=by decide
   have hpp:=B4e j
   refine p.call ?_
   refine S7 M Mp hxc hpc' (by omega) (by omega) (by omega) ?_
   intro A1 m1 c1 A2 m2 c2 g1 l1 k1 k2 M1 M2 h1 p1
   refine ⟨_,_,_,_,_,_,rfl,?_⟩
   rw [<- Int.natCast_ediv] at M1
   rw [<- Int.natCast_emod] at M2
   have hv:=Nat.div_add_mod v (Hf j)
   have hlt:=Nat.mod_lt v hpp
   have hqv:=C5x v (Hf j)
   generalize v/Hf j=q at *
   generalize v%Hf j=r at *
   have hz:=M1.len_zero (by decide)
   have hvlt:=M.lt (by decide)
   have hm1:m1<=xn:=M1.len_le (by decide) (by omega)
   have hm2:m2<=xn:=M2.len_le (by decide) (by
    have h0:0<=Hf j*q:=Nat.zero_le _
    generalize Hf j*q=z at *
    omega)
   have hv':v=q*10^(19*2^j)+r:=by rw [<- hv,Nat.mul_comm];rfl
   have hs2:2^(j+1)=2*2^j:=by rw [C6m];omega
   refine B6 (fun e=>absurd e (by omega)) (fun _=>?_)
   refine E5 (fun e0=>E5 (fun eW=>?_) (fun eW=>?_)) (fun e0=>?_)
   ·obtain rfl:W=0:=by omega
    obtain rfl:q=0:=by omega
    obtain rfl:v=r:=by omega
    refine ⟨⟨by omega,by omega⟩,?_⟩
    refine ih (W:=0) (gp.mono l1) p1 M2 k2 (by omega) ((hP.mono l1).take (by omega)) (by omega) (by omega) (.inl rfl) hn ?_
    intro A4 n4 c4 e4 g4 h4 x4
    exact ⟨_,_,_,rfl,hK _ _ _ _ _ _ (x4.weak l1)⟩
   all_goals
    have hw:q≠0\/19*2^j<=W:=by omega
    have hsp:=A1x (w:=W) (h:=q) (l:=r) (k:=19*2^j) hlt hw
    rw [<- hv'] at hsp
    have hpl:(pad (19*2^j) r).length=19*2^j:=Wu hlt
    have hle:(pad W v).length=(pad (W-19*2^j) q).length+19*2^j:=by rw [hsp,C64,hpl]
    refine ⟨⟨by omega,by omega⟩,?_⟩
    have e3:(if (0:Int)>B5 ((W:Int)-((19*2^j:Nat):Int)) then (0:Int) else B5 ((W:Int)-((19*2^j:Nat):Int)))=((W-19*2^j:Nat):Int):=by
     rw [B7 (by omega) (by omega)]
     split<;>omega
    rw [e3]
    refine ih (gp.mono l1) p1 M1 k1 (by omega) ((hP.mono l1).take (by omega)) (by omega) (by omega) (by omega) (by omega) ?_
    intro A3 n3 c3 e3 g3 h3 x3
    have hn3:=x3.len
    have l3:=B0 l1 x3.le
    refine ⟨_,_,_,rfl,⟨by omega,by omega⟩,?_⟩
    refine ih (gp.mono l3) x3.priv (M2.mono x3.le) k2 (by omega) ((hP.mono l3).take (by omega)) (by omega) (by omega) (.inr rfl) (by omega) ?_
    intro A4 n4 c4 e4 g4 h4 x4
    refine ⟨_,_,_,rfl,hK _ _ _ e4 g4 _ ?_⟩
    rw [hsp]
    exact (x3.trans x4).weak l1
theorem Hk:∀ (k:Nat) {h:Heap} {K:VP} {PA:Option Addr} {pc:Nat} {l:List UInt8},(∀ c∈l,H0 c)->l.length<=100000000->Pws h PA k->k<=pc->k<=30->(∀ A n c h',h.le h'->n<=c->Mw h' A n (J6 l:Int)->K (.slice A n c) h')->FCall prog L9 #[.string (bs l),.slice PA k pc] h K:=by
 intro k
 induction k using Nat.strongRecOn with
 | _ k ih=>
  intro h K PA pc l hd hl hP hpc hk hK
  refine Vy _ _ _ _ ?_
  unfold Us
  rw [J3]
  have simple:FCall prog N2 #[.string (bs l)] h (fun r hp=>∃ (A:Option Addr) (n c:Nat),r= .slice A n c/\K (.slice A n c) hp):=by
   refine Qw hd hl ?_
   intro A n c h' l1 hc M
   exact ⟨_,_,_,rfl,hK _ _ _ _ l1 hc M⟩
  refine ⟨fun s hp=>hp=h/\∃ j:Nat,s=[I ((j:Int)-1)]/\j<=k,fun s _=>(iAt s 0+1).toNat,⟨rfl,k,by rw [B7 (by omega) (by omega)],C6i _⟩,?_⟩
  rintro last hp ⟨rfl,j,hs,hj⟩
  obtain rfl:last=(j:Int)-1:=by simpa using hs
  refine B6 (fun h0=>?_) (fun h0=>B6 (fun _=>simple) (fun e=>absurd (show (j:Int)-1<0 by omega) e))
  obtain ⟨i,rfl⟩:∃ i,j=i+1:=⟨j-1,by omega⟩
  have e0:((i+1:Nat):Int)-1=(i:Int):=by omega
  have hpi:0<2^i:=Nat.pow_pos (by decide)
  simp only [e0,C5r,C6a,I3,B8n (show i<=30 by omega)]
  refine B6 (fun e=>absurd e (by omega)) (fun _=>B6 (fun h1=>?_) (fun h1=>?_))
  ·refine ⟨⟨trivial,i,by rw [B7 (by omega) (by omega)],by omega⟩,?_⟩
   simp only [iAt,C5y]
   rw [B7 (by omega) (by omega)]
   omega
  refine B6 (fun e=>absurd e (by omega)) (fun _=>B6 (fun _=>simple) (fun h570=>B6 (fun e=>absurd e (by omega)) (fun _=>?_)))
  have e2:B5 ((l.length:Int)-((19*2^i:Nat):Int))=((l.length-19*2^i:Nat):Int):=by rw [B7 (by omega) (by omega)];omega
  simp only [e2,C5r,N7,C6f,C6a]
  obtain ⟨a,PA',pn,pcc,ha,hc,hpc',Mp⟩:=hP.at (i:=i) (by omega)
  refine ⟨⟨by omega,by omega⟩,⟨by omega,by omega⟩,a,ha,by omega,by omega,_,_,_,by rw [C67];exact hc,?_⟩
  have hpn:=Mp.tenP_le
  have h2i:19*2^i<l.length:=by omega
  have hd1:∀ c∈l.take (l.length-19*2^i),H0 c:=fun c hc=>hd c (List.mem_of_mem_take hc)
  have hd2:∀ c∈l.drop (l.length-19*2^i),H0 c:=fun c hc=>hd c (List.mem_of_mem_drop hc)
  have hl1:(l.take (l.length-19*2^i)).length=l.length-19*2^i:=by rw [C61];omega
  have hl2:(l.drop (l.length-19*2^i)).length=19*2^i:=by rw [List.length_drop];omega
  have hval:J6 l=J6 (l.take (l.length-19*2^i))*Hf i+J6 (l.drop (l.length-19*2^i)):=by
   have:=Gf (l.take (l.length-19*2^i)) (l.drop (l.length-19*2^i))
   rw [C6c,hl2] at this
   exact this
  have hb:=A0a hd
  have hb1:=A0a hd1
  have hb2:=A0a hd2
  rw [hl1] at hb1
  rw [hl2] at hb2
  refine ih i (by omega) hd1 (by omega) (hP.take (by omega)) (by omega) (by omega) ?_
  intro A1 n1 c1 h1 l1 k1 M1
  refine ⟨_,_,_,rfl,l1,?_⟩
  have hn1:=M1.len_le (by decide) hb1
  refine H8 M1 (Mp.mono l1) k1 hpc' (by omega) (by omega) ?_
  intro A2 n2 c2 h2 l2 k2 M2
  refine ⟨_,_,_,rfl,l2,⟨by omega,by omega⟩,⟨by omega,by omega⟩,?_⟩
  rw [<- C5u] at M2
  have hn2:=M2.len_le (by decide) (Int.lt_of_le_of_lt (Int.ofNat_le.2 (by rw [hval];exact Nat.le_add_right _ _)) hb)
  rw [C68 (by rw [hl2];omega)]
  refine ih i (by omega) hd2 (by omega) ((hP.mono (B0 l1 l2)).take (by omega)) (by omega) (by omega) ?_
  intro A3 n3 c3 h3 l3 k3 M3
  refine ⟨_,_,_,rfl,l3,?_⟩
  have hn3:=M3.len_le (by decide) hb2
  refine R8 (M2.mono l3) M3 k2 k3 (by omega) (by omega) ?_
  intro A4 n4 c4 h4 l4 k4 M4
  refine ⟨_,_,_,rfl,l4,hK _ _ _ _ (B0 l1 (B0 l2 (B0 l3 l4))) k4 ?_⟩
  rw [<- Int.natCast_add,<- hval] at M4
  exact M4
section
variable {h g:Heap} {K:VP} {A XA:Option Addr} {n c:Nat} {eT:TypeId} {l:List UInt8}
theorem A1l{hs:Heap}{ss:List (Option Addr × Nat × Nat)}{s:Option Addr × Nat × Nat}(h3:∀ i s,ss[i]? = some s->s.2.1<=s.2.2/\Mw hs s.1 s.2.1 (Hf i:Int))(h4:s.2.1<=s.2.2/\Mw hs s.1 s.2.1 (Hf ss.length:Int)):∀ i t,(ss++[s])[i]? = some t->t.2.1<=t.2.2/\Mw hs t.1 t.2.1 (Hf i:Int):=by
 intro i t e
 by_cases hi:i<ss.length
 ·rw [List.getElem?_append_left hi] at e;exact h3 i t e
 ·rw [List.getElem?_append_right (by omega)] at e
  by_cases h0:i=ss.length
  ·subst h0
   simp at e
   subst e;exact h4
  ·rw [List.getElem?_eq_none (by simp;omega)] at e;cases e
theorem Yj{hs:Heap}{b:Nat}{e:TypeId}: ∀ i (t:Option Addr × Nat × Nat),[((some ⟨b,0,none⟩:Option Addr),1,1)][i]? = some t->t.2.1<=t.2.2/\Mw (hs.put b (.cells #[U 10000000000000000000] e)) t.1 t.2.1 (Hf i:Int):=by
 intro i t e0
 rcases i with _|i
 ·simp at e0
  subst e0
  refine ⟨C6i _,[10000000000000000000],rfl,SlI.new _ _ _ _ _,?_,?_,?_⟩
  ·intro x hx;simp at hx;subst hx;decide
  ·unfold Norm;simp
  ·rw [A9f];simp [val]
 ·simp at e0
theorem Sq(hd:∀ c∈l,H0 c)(hl:l.length<=100000000)(hK:∀ A n c h',h.le h'->n<=c->Mw h' A n (J6 l:Int)->K (.slice A n c) h'):FCall prog Fp #[.string (bs l)] h K:=by
 refine Vx _ ?_
 unfold Ur
 rw [J3]
 refine B6 (fun h5=>?_) (fun _=>?_)
 ·refine An P6 rfl ?_
  intro b1 hb1
  refine ⟨_,_,_,rfl,?_⟩
  refine Dk A5s (Priv.nil _ _ _ none) rfl rfl (by omega) (by omega) ?_
  intro A1 c1 h1 g1 lg1 p1
  refine ⟨fun s hp=>∃ (ss:List (Option Addr × Nat × Nat)) (PA:Option Addr) (k pc:Nat) (g:Heap),s=[.slice PA k pc]/\Priv hp g Fe 1 PA k pc (ss.map slT)/\ss.length=k/\0<k/\h.le g/\(∀ i s,ss[i]? = some s->s.2.1<=s.2.2/\Mw g s.1 s.2.1 (Hf i:Int))/\2^(k-1)<=l.length,fun s _=>match s with|[.slice _ n _]=>l.length-n|_=>0,⟨[(some ⟨b1,0,none⟩,1,1)],A1,1,c1,g1,rfl,p1,rfl,by omega,B0 (Heap.le_put _ hb1) lg1,fun i s e=>⟨(Yj (hs:=h) (b:=b1) (e:=C1) i s e).1,(Yj (hs:=h) (b:=b1) (e:=C1) i s e).2.mono lg1⟩,by simp;omega⟩,?_⟩
  rintro PA k pc hp ⟨ss,PA',k',pc',g,hs,p,hk,hk0,lg,hw,hkl⟩
  simp only [C5z,C6l,and_true] at hs
  obtain ⟨rfl,rfl,rfl⟩:=hs
  have hk27:k-1<27:=by
   by_cases hc:k-1<27
   ·exact hc
   ·have:2^27<=2^(k-1):=C5t (by decide) (by omega)
    have:(2:Nat)^27=134217728:=by decide
    omega
  rw [C5r,B8n (show k<=30 by omega)]
  have e1:B5 ((k:Int)-1)=((k-1:Nat):Int):=by rw [B7 (by omega) (by omega)];omega
  have hPg:Pws hp PA k:=⟨ss,hk,p.slV,fun i s e=>⟨(hw i s e).1,(hw i s e).2.mono p.le⟩⟩
  refine B6 (fun e=>absurd e (by omega)) (fun _=>B6 (fun h6=>?_) (fun h6=>?_))
  ·obtain ⟨a,ha,hc⟩:=p.slV.at (i:=k-1) (by rw [C6d];omega)
   rw [C6o] at hc
   obtain ⟨h4,M⟩:=hw (k-1) (ss[k-1]'(by omega)) (C5s (by omega))
   generalize ss[k-1]'(by omega)=s at *
   rw [e1,C5r,C67]
   refine ⟨a,ha,by omega,by omega,_,_,_,hc,?_⟩
   have hlen:=M.tenP_le
   refine p.call ?_
   refine H8 M M h4 h4 (by omega) (by omega) ?_
   intro A2 m2 c2 g2 l2 k2 M2 h2 p2
   refine ⟨_,_,_,rfl,?_⟩
   refine Dk A5s p2 rfl rfl (by omega) (by omega) ?_
   intro A3 c3 h3 g3 l3 p3
   have hm:2^k=2*2^(k-1):=by
    obtain ⟨i,rfl⟩:∃ i,k=i+1:=⟨k-1,by omega⟩
    rw [C6m];simp;omega
   have hkk:k<2^k:=Nat.lt_two_pow_self
   refine ⟨⟨ss++[(A2,m2,c2)],A3,k+1,c3,g3,rfl,?_,by simp;omega,by omega,B0 lg (B0 l2 l3),?_,?_⟩,?_⟩
   ·rw [List.map_append];exact p3
   ·refine A1l (fun i s e=>⟨(hw i s e).1,(hw i s e).2.mono (B0 l2 l3)⟩) ⟨k2,?_⟩
    rw [hk,show Hf k=Hf (k-1)*Hf (k-1) by rw [<- A1k];congr 1;omega,C5u]
    exact M2.mono l3
   ·rw [Nat.add_sub_cancel];omega
   ·show l.length-(k+1)<l.length-k
    omega
  ·refine Hk k hd hl hPg p.2.1 (by omega) ?_
   intro A n c h' l1 hc M
   exact ⟨_,_,_,rfl,hK _ _ _ _ (B0 lg (B0 p.le l1)) hc M⟩
 ·refine Hk 0 hd hl ⟨[],rfl,SlV.nil,by simp⟩ (by omega) (by omega) ?_
  intro A n c h' l1 hc M
  exact ⟨_,_,_,rfl,hK _ _ _ _ l1 hc M⟩
theorem Jc(hd:∀ c∈l,H0 c)(hl:l.length<=100000000)(hK:∀ A n c h',h.le h'->ZI h' false A n c (J6 l:Int)->K (.agg #[.bool false,.slice A n c]) h'):FCall prog Jf #[.string (bs l)] h K:=by
 refine B2k _ ?_
 unfold B7g
 refine Sq hd hl ?_
 intro A n c h' l1 hc M
 refine ⟨_,_,_,rfl,hK _ _ _ _ l1 ⟨hc,?_,?_⟩⟩
 ·rw [C5q];exact M
 ·symm;rw [decide_eq_false_iff_not];omega
end
theorem Priv.le_put'{h g:Heap}{e:TypeId}{s:Nat}{A:Option Addr}{n c:Nat}{xs:List Value}(p:Priv h g e s A n c xs){b:Nat}(hb:h b=none)(o:Obj):g.le (g.put b o):=by
 intro k o' hk
 have hne:k≠b:=by
  rintro rfl
  rw [p.le k o' hk] at hb;cases hb
 rw [B8 _ _ hne];exact hk
theorem A90{n:Int}(h0:9223372036854775808<=n)(h1:n<18446744073709551616):B5 n=n-18446744073709551616:=by
 unfold B5 IntKind.wrap
 simp only [IntKind.signed,IntKind.bits]
 have e:n%18446744073709551616=n:=by omega
 simp only [show (2^64:Int)=18446744073709551616 from rfl,show (2^(64-1):Int)=9223372036854775808 from rfl,e]
 rw [if_pos (by simp;omega)]
section
variable {h g:Heap} {K:VP} {A XA:Option Addr} {n c:Nat} {eT:TypeId} {l:List UInt8}
theorem C1z{v xn:Nat}(hv:(v:Int)<b64^xn):(dd v).length<=20*xn:=by
 refine Q5.2 ?_
 rw [Nat.pow_mul]
 have h1:((v:Nat):Int)<((18446744073709551616^xn:Nat):Int):=by rw [C63];exact hv
 exact C6j (Int.ofNat_lt.1 h1) (C6h (by decide) _)
theorem Gt{xn xc v:Nat}(gp:Gp g)(p:Priv h g eT 1 A n c (yv l))(M:Mw g XA xn (v:Int))(hxc:xn<=xc)(hx:xn<=10000000)(hn:n<=200000000)
 (hK:∀ A' n' c' e3 g' h',Ext g eT A n c l (N4 v) A' n' c' e3 g' h'->K (.slice A' n' c') h'):FCall prog Z6 #[.slice A n c,.slice XA xn xc] h K:=by
 have h0:=M.len_zero (by decide)
 refine Ux _ _ _ _ _ _ ?_
 unfold Qs
 refine E5 (fun e=>?_) (fun e=>?_)
 ·obtain rfl:v=0:=by omega
  refine Mc (ch:=48) rfl p (by omega) ?_
  intro A' n' c' e2 g' h' x
  exact hK _ _ _ _ _ _ x
 ·have hv0:v≠0:=by omega
  refine E5 (fun e1=>?_) (fun e1=>?_)
  ·obtain ⟨xs,hxl,sx,dx,nx,hxv⟩:=M
   obtain ⟨w,rfl⟩:∃ w,xs=[w]:=by
    rcases xs with _|⟨w,_|⟨w',r⟩⟩
    ·simp at hxl;omega
    ·exact ⟨w,rfl⟩
    ·simp at hxl;omega
   rw [V4] at hxv
   subst hxv
   refine (SlI.mono p.le sx).load hxl (by omega) (by omega) ?_
   have hw:=dx v (by simp)
   refine Gs (gp.mono p.le) p (by have:(v:Int)<18446744073709551616:=hw.2;omega) (by omega) ?_
   intro A' n' c' e2 g' h' x
   exact ⟨_,_,_,rfl,hK _ _ _ _ _ _ x⟩
  ·have hdl:=C1z (M.lt (by decide))
   have hpl:(pad 0 v).length<=200000000:=by rw [A60];omega
   refine An P6 rfl ?_
   intro b1 hb1
   refine ⟨_,_,_,rfl,?_⟩
   have p1:=p.put hb1 (.cells #[U 10000000000000000000] C1)
   have l1:=p.le_put' hb1 (.cells #[U 10000000000000000000] C1)
   have w1:=fun i s e=>Yj (hs:=g) (b:=b1) (e:=C1) i s e
   generalize h.put b1 (Obj.cells #[U 10000000000000000000] C1)=h1 at *
   generalize g.put b1 (Obj.cells #[U 10000000000000000000] C1)=g1 at *
   refine An A5s rfl ?_
   intro b2 hb2
   refine ⟨_,_,_,rfl,?_⟩
   have split:∀ {hp:Heap} {ss:List (Option Addr × Nat × Nat)} {PA:Option Addr} {k pc:Nat} {gp1 gp2:Heap},Priv hp gp1 Fe 1 PA k pc (ss.map slT)->Priv gp1 gp2 eT 1 A n c (yv l)->ss.length=k->g.le gp2->(∀ i s,ss[i]? = some s->s.2.1<=s.2.2/\Mw gp2 s.1 s.2.1 (Hf i:Int))->k<=26->
    FCall prog H1 #[.slice A n c,.slice XA xn xc,I (0:Int),.slice PA k pc] hp (fun r hp9=>∃ (A1:Option Addr) (n1 c1:Nat),r= .slice A1 n1 c1/\K (.slice A1 n1 c1) hp9):=by
    intro hp ss PA k pc gp1 gp2 pP pT hk lg hw hk24
    obtain ⟨g3,pT3,pP3⟩:=pP.swap pT
    have l3:=B0 lg pP3.le
    refine Qx k (W:=0) (gp.mono l3) pT3 (M.mono l3) hxc hx ⟨ss,hk,pP3.slV,fun i s e=>⟨(hw i s e).1,(hw i s e).2.mono pP3.le⟩⟩ pP3.2.1 hk24 (.inl rfl) (by omega) ?_
    intro A' n' c' e2 g' h' x
    refine ⟨_,_,_,rfl,hK _ _ _ e2 g' _ ?_⟩
    rw [A60,<- Z8 hv0] at x
    exact x.weak l3
   refine ⟨fun s hp=>∃ (ss:List (Option Addr × Nat × Nat)) (PA:Option Addr) (k pc:Nat) (gp1 gp2:Heap),s=[.slice PA k pc]/\Priv hp gp1 Fe 1 PA k pc (ss.map slT)/\Priv gp1 gp2 eT 1 A n c (yv l)/\ss.length=k/\0<k/\g.le gp2/\(∀ i s,ss[i]? = some s->s.2.1<=s.2.2/\Mw gp2 s.1 s.2.1 (Hf i:Int))/\2^(k-1)<=2*xn,fun s _=>match s with|[.slice _ n _]=>xn-n|_=>0,⟨[(some ⟨b1,0,none⟩,1,1)],_,1,1,h1,g1,rfl,⟨by simp,by simp,.inr ⟨b2,[.slice (some ⟨b1,0,none⟩) 1 1],rfl,hb2,rfl,by simp,by simp⟩⟩,p1,rfl,by omega,l1,w1,by simp;omega⟩,?_⟩
   rintro PA k pc hp ⟨ss,PA',k',pc',gp1,gp2,hs,pP,pT,hk,hk0,lg,hw,hkx⟩
   simp only [C5z,C6l,and_true] at hs
   obtain ⟨rfl,rfl,rfl⟩:=hs
   have hk24:k<=26:=by
    by_cases hc:k<=26
    ·exact hc
    ·have h1:2^26<=2^(k-1):=C5t (by decide) (by omega)
     have h2:(2:Nat)^26=67108864:=by decide
     omega
   refine B6 (fun h30=>?_) (fun _=>split pP pT hk lg hw hk24)
   have e1:B5 ((k:Int)-1)=((k-1:Nat):Int):=by rw [B7 (by omega) (by omega)];omega
   obtain ⟨a,ha,hc⟩:=pP.slV.at (i:=k-1) (by rw [C6d];omega)
   rw [C6o] at hc
   obtain ⟨h4,Mk⟩:=hw (k-1) (ss[k-1]'(by omega)) (C5s (by omega))
   generalize ss[k-1]'(by omega)=s at *
   simp only [e1,C5r,C67]
   refine ⟨a,ha,by omega,by omega,_,_,_,hc,?_⟩
   have hge:=Mk.tenP_ge
   have hle:=Mk.tenP_le
   have e2:B5 (2*(s.2.1:Int))=2*(s.2.1:Int):=B7 (by omega) (by omega)
   rw [e2]
   refine B6 (fun h5=>?_) (fun _=>split pP pT hk lg hw hk24)
   refine ⟨a,ha,by omega,by omega,_,_,_,hc,?_⟩
   refine pP.call (pT.call ?_)
   refine H8 Mk Mk h4 h4 (by omega) (by omega) ?_
   intro A2 m2 c2 g2 l2 k2 M2 gp1' pT' hp' pP'
   refine ⟨_,_,_,rfl,?_⟩
   refine Dk A5s pP' rfl rfl (by omega) (by omega) ?_
   intro A3 c3 h3 g3 l3 p3
   obtain ⟨g4,l4,pT4⟩:=pT'.after l3
   have hm:2^k=2*2^(k-1):=by
    obtain ⟨i,rfl⟩:∃ i,k=i+1:=⟨k-1,by omega⟩
    rw [C6m];simp;omega
   have hkk:k<2^k:=Nat.lt_two_pow_self
   refine ⟨⟨ss++[(A2,m2,c2)],A3,k+1,c3,g3,g4,rfl,?_,pT4,by simp;omega,by omega,B0 lg (B0 l2 l4),?_,?_⟩,?_⟩
   ·rw [List.map_append];exact p3
   ·refine A1l (fun i s e=>⟨(hw i s e).1,(hw i s e).2.mono (B0 l2 l4)⟩) ⟨k2,?_⟩
    rw [hk,show Hf k=Hf (k-1)*Hf (k-1) by rw [<- A1k];congr 1;omega,C5u]
    exact M2.mono l4
   ·rw [Nat.add_sub_cancel];omega
   ·show xn-(k+1)<xn-k
    omega
theorem B42{z:Int}{s:Bool}{xn xc m:Nat}(i:ZI h s XA xn xc z)(hz:ZB m z)(hm:m<=100000000):xn<=10000000:=by
 obtain ⟨k,hk⟩:∃ k,k=10000000:=⟨_,rfl⟩
 rw [<- hk]
 refine i.mag.len_le (by decide) ?_
 rw [Kj]
 have h1:(z.natAbs:Int)<2^m:=by
  have:((z.natAbs:Nat):Int)<((2^m:Nat):Int):=Int.ofNat_lt.2 hz
  simpa using this
 have h2:=D3 (B:=2) (by decide) (show m<=64*k by omega)
 exact Int.lt_of_lt_of_le h1 h2
theorem Ha{s:Bool}{xn xc:Nat}{z:Int}(gp:Gp g)(p:Priv h g eT 1 A n c (yv l))(i:ZI g s XA xn xc z){m:Nat}(hz:ZB m z)(hm:m<=100000000)(hn:n<=100000000)
 (hK:∀ A' n' c' e3 g' h',Ext g eT A n c l (Kf z) A' n' c' e3 g' h'->K (.slice A' n' c') h'):FCall prog Ho #[.agg #[.bool s,.slice XA xn xc],.slice A n c] h K:=by
 have hx:=B42 i hz hm
 refine A8b _ _ _ _ _ _ _ ?_
 unfold B2h
 refine Br.of (fun e=>?_) (fun e=>?_)
 ·have hneg:z<0:=by have:=i.sgn;rw [e] at this;simpa using this.symm
  rw [A5q hneg] at hK
  refine Mc (ch:=45) rfl p (by omega) ?_
  intro A1 n1 c1 e1 g1 hp1 x1
  have:=x1.len
  refine Gt (gp.mono x1.le) x1.priv (i.mag.mono x1.le) i.cap hx (by simp at this;omega) ?_
  intro A2 n2 c2 e2 g2 hp2 x2
  exact ⟨_,_,_,rfl,hK _ _ _ _ _ _ (x1.trans x2)⟩
 ·have hneg:¬ z<0:=by have:=i.sgn;rw [e] at this;simpa using this.symm
  rw [Rj hneg] at hK
  refine Gt gp p i.mag i.cap hx (by omega) ?_
  intro A2 n2 c2 e2 g2 hp2 x2
  exact ⟨_,_,_,rfl,hK _ _ _ _ _ _ x2⟩
theorem A15{s:Bool}{xn xc:Nat}{z:Int}(gp:Gp h)(i:ZI h s XA xn xc z){m:Nat}(hz:ZB m z)(hm:m<=100000000)(hK:K (.string (bs (Kf z))) h):FCall prog Tl #[.agg #[.bool s,.slice XA xn xc]] h K:=by
 refine FCall.pure (A88 _ _ _ _ ?_)
 unfold B2b
 refine Ha (l:=[]) (eT:=G0) gp (Priv.nil _ _ _ _) i hz hm (by omega) ?_
 intro A' n' c' e2 g' h' x
 refine ⟨_,_,_,rfl,?_⟩
 have hx:=x.len
 refine Lo Gm.und Dv V5 x.priv.slV (by simpa using hx) ⟨_,rfl,?_⟩
 exact ⟨B0 x.le x.priv.le,hK⟩
theorem A3q{s:Bool}{xn xc:Nat}{z:Int}(i:ZI h s XA xn xc z)(hK1: -9223372036854775808<=z->z<9223372036854775808->K (.tuple #[I z,.bool true]) h)(hK0:¬ (-9223372036854775808<=z/\z<9223372036854775808)->K (.tuple #[I 0,.bool false]) h):FCall prog Zm #[.agg #[.bool s,.slice XA xn xc]] h K:=by
 have hz:=i.zeroIff
 have cx:=Ae i.sgn
 refine B2f _ _ _ _ ?_
 unfold B7e
 refine E5 (fun e=>?_) (fun e=>?_)
 ·obtain rfl:z=0:=by omega
  exact hK1 (by omega) (by omega)
 ·obtain ⟨xs,hxl,sx,dx,nx,hxv⟩:=i.mag
  have g0:=N6 dx 0
  refine sx.load hxl (by omega) (by omega) ?_
  rw [show ((0:Int)).toNat=0 from rfl]
  refine B6 (fun e1=>?_) (fun e1=>?_)
  ·refine hK0 ?_
   have hge:=i.mag.ge (by decide) (by omega)
   have h2:b64^1<=b64^(xn-1):=D3 (by decide) (by omega)
   have h3:b64^1=18446744073709551616:=by decide
   omega
  ·obtain ⟨w,rfl⟩:∃ w,xs=[w]:=by
    rcases xs with _|⟨w,_|⟨w',r⟩⟩
    ·simp at hxl;omega
    ·exact ⟨w,rfl⟩
    ·simp at hxl;omega
   rw [V4] at hxv
   have hw:[w].getD 0 0=w:=rfl
   rw [hw] at g0 ⊢
   rcases cx with ⟨rfl,hx⟩|⟨rfl,hx⟩
   ·refine Br.of (fun _=>?_) (fun e2=>by cases e2)
    refine B6 (fun e3=>?_) (fun e3=>?_)
    ·have:B5 (C0 (0-w))=z:=by rw [F2,A90 (by omega) (by omega)];omega
     rw [this];exact hK1 (by omega) (by omega)
    ·refine Br.of (fun e4=>by cases e4) (fun _=>?_)
     exact hK0 (by omega)
   ·refine Br.of (fun e2=>by cases e2) (fun _=>?_)
    refine Br.of (fun _=>?_) (fun e4=>by cases e4)
    refine B6 (fun e3=>?_) (fun e3=>?_)
    ·have:B5 w=z:=by rw [B7 (by omega) (by omega)];omega
     rw [this];exact hK1 (by omega) (by omega)
    ·exact hK0 (by omega)
end
theorem B8j(q:Rat)(f:Int):(q-f).num=q.num-f*q.den/\(q-f).den=q.den:=by
 have hc:C5w (q.num-f*q.den).natAbs q.den=1:=by
  have h1:C62 (q.num-f*q.den) q.den=C62 q.num q.den:=Int.gcd_sub_mul_right_left _ _ _
  have h2:C62 q.num q.den=1:=by
   have:=q.reduced
   unfold Nat.Coprime at this
   unfold C62
   simpa using this
  rw [h2] at h1
  unfold C62 at h1
  simpa using h1
 have e:q-f=⟨q.num-f*q.den,q.den,q.den_nz,hc⟩:=by
  rw [Rat.sub_def',Rat.mk_eq_mkRat];simp
 rw [e];exact ⟨rfl,rfl⟩
theorem B0n(a b:Rat):(a*b).num=a.num.tdiv (C5w a.num.natAbs b.den:Nat)*b.num.tdiv (C5w b.num.natAbs a.den:Nat)/\(a*b).den=a.den/(C5w b.num.natAbs a.den)*(b.den/(C5w a.num.natAbs b.den)):=by
 show (Rat.mul a b).num=_/\(Rat.mul a b).den=_
 delta Rat.mul
 simp only [Int.divExact_eq_tdiv,Nat.divExact_eq_div,and_self]
theorem Xl(a b:Rat)(h:a.den.gcd b.den=1):(a+b).num=a.num*b.den+b.num*a.den/\(a+b).den=a.den*b.den:=by
 show (Rat.add a b).num=_/\(Rat.add a b).den=_
 delta Rat.add
 simp only [h,dif_pos,and_self]
theorem Xk(a b:Rat)(h:a.den.gcd b.den≠1){g r:Nat}{z:Int}(hg:g=a.den.gcd b.den)(hz:z=a.num*(b.den/g:Nat)+b.num*(a.den/g:Nat))(hr:r=z.natAbs.gcd g):(a+b).num=z.tdiv r/\(a+b).den=a.den/g*(b.den/r):=by
 subst hg hz
 have hd:r∣b.den:=by rw [hr];exact Nat.dvd_trans (C66 ..) (C66 ..)
 show (Rat.add a b).num=_/\(Rat.add a b).den=_
 delta Rat.add
 simp only [h,dif_neg,not_false_eq_true]
 rw [Rat.maybeNormalize_eq]
 subst hr
 refine ⟨?_,Nat.mul_div_assoc _ hd⟩
 simp only [Int.divExact_eq_tdiv]
theorem Np(a:Rat)(z:Int):(a+z).num=z*a.den+a.num/\(a+z).den=a.den:=by
 have:=B8j a (-z)
 rw [Rat.intCast_neg] at this
 have e:a - -(z:Rat)=a+z:=by grind
 rw [e] at this
 refine ⟨by rw [this.1,Int.neg_mul];omega,this.2⟩
theorem Xd{q:Rat}(h:q.den=1):q=(q.num:Rat):=by
 apply Rat.ext
 ·simp
 ·simpa using h
abbrev dgt(c:UInt8):Bool:=decide (H0 c)
theorem Lp(l:List UInt8):∀ c∈l.takeWhile dgt,H0 c:=by
 induction l with
 | nil=>simp
 | cons d r ih=>
  intro c hc
  by_cases hd:H0 d
  ·simp [hd] at hc
   rcases hc with rfl|hc
   ·exact hd
   ·exact ih c hc
  ·simp [hd] at hc
def B4x(l:List UInt8):Bool:=decide ([45] <+: l)
def Ea(l:List UInt8):List UInt8:=if [45] <+: l then l.drop 1 else l
theorem A5z(l:List UInt8):l=(if B4x l then [45] else [])++Ea l:=by
 unfold B4x Ea
 by_cases h:[45] <+: l
 ·obtain ⟨t,rfl⟩:=h;simp
 ·simp [h]
theorem B07(l:List UInt8):B4x l=(l.head? == some 45):=by
 unfold B4x
 cases l with
 | nil=>simp
 | cons c r=>
  rw [C6e,C6r,decide_eq_true_iff,beq_iff_eq,C65]
  constructor
  ·rintro ⟨t,e⟩;simp at e;exact e.1.symm
  ·rintro rfl;exact ⟨r,rfl⟩
theorem Form.parts{l:List UInt8}{neg:Bool}{a b:List UInt8}(f:Form l neg a b):neg=B4x l/\a=(Ea l).takeWhile dgt/\(if b=[] then [] else 47::b)=(Ea l).dropWhile dgt:=by
 have hn:neg=B4x l:=by rw [B07];exact f.head
 have e:=A5z l
 rw [<- hn] at e
 have e2:=e.symm.trans f.eq
 rw [List.append_assoc] at e2
 have e3:=List.append_cancel_left e2
 have hr:∀ c,(if b=[] then [] else 47::b:List UInt8).head? = some c->¬ H0 c:=by
  intro c hc
  split at hc
  ·simp at hc
  ·simp at hc;subst hc;decide
 have:=Fh f.da hr
 rw [<- e3] at this
 exact ⟨hn,this.1.symm,this.2.symm⟩
section
variable {h g:Heap} {K:VP} {l:List UInt8}
theorem Jw(hl:l.length<=1000000000)(hK:K (.tuple #[.string (bs (l.takeWhile dgt)),.string (bs (l.dropWhile dgt))]) h):FCall prog Af #[.string (bs l)] h K:=by
 refine A0m _ ?_
 unfold Xp
 simp only [J3]
 refine ⟨fun L hp=>L=[I (((l.takeWhile dgt).length:Nat):Int)]/\hp=h,?_,?_⟩
 ·refine ⟨fun L hp=>∃ k:Nat,L=[I k]/\hp=h/\k<=l.length/\(∀ c∈l.take k,H0 c),fun L _=>l.length-(iAt L 0).toNat,⟨0,rfl,rfl,by omega,by simp⟩,?_⟩
  rintro n hp ⟨k,hL,rfl,hk,hd⟩
  obtain rfl:=sI1 hL
  have stop:(∀ c,(l.drop k).head? = some c->¬ H0 c)->[I (k:Int)]=[I (((l.takeWhile dgt).length:Nat):Int)]/\hp=hp:=by
   intro hs
   have:=Fh hd hs
   rw [C6c] at this
   refine ⟨?_,rfl⟩
   rw [this.1,C61,C6b hk]
  refine B6 (fun h1=>?_) (fun h1=>?_)
  ·have hkl:k<l.length:=by omega
   have hget:(bs l)[(k:Int).toNat]? = some l[k]:=by rw [C5r,Jx,C5s hkl]
   have hh:(l.drop k).head? = some l[k]:=by rw [List.head?_drop,C5s hkl]
   refine ⟨l[k],⟨by omega,hget⟩,B6 (fun h2=>?_) (fun h2=>?_)⟩
   ·refine ⟨l[k],⟨by omega,hget⟩,B6 (fun h3=>?_) (fun h3=>?_)⟩
    ·rw [B7 (by omega) (by omega)]
     refine ⟨⟨k+1,rfl,rfl,by omega,?_⟩,by simp only [iAt,C5y];omega⟩
     rw [C6k hkl]
     intro c hc
     rcases List.mem_append.1 hc with h4|h4
     ·exact hd c h4
     ·rw [List.mem_singleton.1 h4];exact ⟨by omega,by omega⟩
    ·exact stop (fun c hc=>by rw [hh] at hc;cases hc;intro hd;exact h3 (by have:=hd.2;omega))
   ·exact stop (fun c hc=>by rw [hh] at hc;cases hc;intro hd;exact h2 (by have:=hd.1;omega))
  ·exact stop (fun c hc=>by rw [List.drop_of_length_le (by omega)] at hc;cases hc)
 ·rintro n hp ⟨hL,rfl⟩
  obtain rfl:n=(((l.takeWhile dgt).length:Nat):Int):=by simpa using hL
  have hle:(l.takeWhile dgt).length<=l.length:=(List.takeWhile_sublist _).length_le
  have e1:l.take (l.takeWhile dgt).length=l.takeWhile dgt:=by
   conv=>lhs;rw [<- C60 (p:=dgt) (l:=l)]
   rw [C60,List.prefix_iff_eq_take.1 (List.takeWhile_prefix _)]
   rw [C61,C6b hle]
  have e2:l.drop (l.takeWhile dgt).length=l.dropWhile dgt:=by
   have h5:l.takeWhile dgt++l.drop (l.takeWhile dgt).length=l.takeWhile dgt++l.dropWhile dgt:=by
    rw [C60]
    conv=>lhs;lhs;rw [<- e1]
    exact C6c _ _
   exact List.append_cancel_left h5
  refine ⟨⟨by omega,by omega⟩,⟨by omega,by omega⟩,?_⟩
  rw [C5r,N7,N7,C6f,C6a,e1,e2,C68 (by rw [<- e2,List.length_drop];omega)]
  exact hK
theorem Y4(a:List UInt8):((bs a).toList==({ data:=#[] }:ByteArray).toList)=decide (a=[]):=Jy a []
theorem Ol(hl:l.length<=1000000000)(hK1:∀ neg a b,Form l neg a b->K (.tuple #[.agg #[.bool neg,.string (bs a),.string (bs b)],.bool true]) h)(hK0:(∀ neg a b,¬ Form l neg a b)->∀ neg a b,K (.tuple #[.agg #[.bool neg,.string (bs a),.string (bs b)],.bool false]) h):FCall prog Mz #[.string (bs l)] h K:=by
 refine B2o _ ?_
 unfold B7k
 refine Vv (q:=[45]) ⟨_,_,rfl,?_⟩
 have hpl:(Ea l).length<=l.length:=by unfold Ea;split<;>simp
 show FCall prog Af #[.string (bs (Ea l))] h _
 refine Jw (by omega) ⟨_,_,rfl,?_⟩
 show Br _ _ _
 have hspl:Ea l=(Ea l).takeWhile dgt++(Ea l).dropWhile dgt:=List.takeWhile_append_dropWhile.symm
 have hda:∀ c∈(Ea l).takeWhile dgt,H0 c:=Lp _
 have hfp:∀ neg a b,Form l neg a b->neg=B4x l/\a=(Ea l).takeWhile dgt/\(if b=[] then [] else 47::b)=(Ea l).dropWhile dgt:=fun neg a b f=>f.parts
 have hl2:=A5z l
 have hal:((Ea l).takeWhile dgt).length<=l.length:=C6n (List.takeWhile_sublist _).length_le hpl
 have hrl:((Ea l).dropWhile dgt).length<=l.length:=C6n (List.dropWhile_sublist _).length_le hpl
 have hrh:∀ c,((Ea l).dropWhile dgt).head? = some c->¬ H0 c:=fun c hc=>by
  have:=List.head?_dropWhile_not dgt (Ea l)
  rw [hc] at this
  simpa using this
 show Br _ _ _
 have hneg:decide ([45] <+: l)=B4x l:=rfl
 rw [hneg]
 generalize B4x l=neg at *
 generalize (Ea l).takeWhile dgt=a at *
 generalize (Ea l).dropWhile dgt=r at *
 generalize Ea l=t at *
 subst hspl
 have e48:((bs a).toList==({ data:=#[48] }:ByteArray).toList)=decide (a=[48]):=Jy a [48]
 rw [e48,Y4,Y4]
 refine B6 (fun h1=>?_) (fun h1=>?_)
 ·subst h1
  refine Br.not (Br.of (fun hn=>?_) (fun hn=>?_))
  ·subst hn
   refine hK0 ?_ _ _ []
   intro n' a' b' f
   obtain ⟨rfl,rfl,_⟩:=hfp _ _ _ f
   rcases f.ha with h2|h2
   ·exact h2 rfl
   ·cases h2.2.1
  ·subst hn
   by_cases hr:r=[]
   ·rw [decide_eq_true hr]
    subst hr
    refine hK1 false [48] [] ⟨by simpa using hl2,by simpa using hda,by simp,by simp,.inr ⟨rfl,rfl,rfl⟩,by simp,by simp⟩
   ·rw [decide_eq_false hr]
    refine hK0 ?_ _ _ []
    intro n' a' b' f
    obtain ⟨rfl,rfl,h3⟩:=hfp _ _ _ f
    rcases f.ha with h2|h2
    ·exact h2 rfl
    ·rw [h2.2.2] at h3;exact hr (by simpa using h3.symm)
 ·refine ⟨fun L hp=>L=[.bool (decide (a=[]\/a.head? = some 48))]/\hp=h,?_,?_⟩
  ·refine B6 (fun h2=>⟨by simp [h2],rfl⟩) (fun h2=>?_)
   obtain ⟨c,r2,rfl⟩:=C5v h2
   refine ⟨c,⟨by omega,by rw [Jx];rfl⟩,?_,rfl⟩
   congr 2
   rw [C6r,beq_iff_eq,decide_eq_true_iff]
   simp only [reduceCtorEq,false_or,C6e,C65]
   constructor
   ·intro e;apply UInt8.toNat_inj.1;show c.toNat=48;omega
   ·rintro rfl;rfl
  rintro t31 hp ⟨hL,rfl⟩
  obtain rfl:t31=decide (a=[]\/a.head? = some 48):=by simpa using hL
  refine B6 (fun h2=>?_) (fun h2=>?_)
  ·refine hK0 ?_ _ _ []
   intro n' a' b' f
   obtain ⟨rfl,rfl,_⟩:=hfp _ _ _ f
   rcases h2 with h2|h2
   ·exact f.ne h2
   ·rcases f.ha with h3|h3
    ·exact h3 h2
    ·exact h1 h3.1
  ·have hane:a≠[]:=fun e=>h2 (.inl e)
   have hah:a.head? ≠ some 48:=fun e=>h2 (.inr e)
   refine B6 (fun h3=>?_) (fun h3=>?_)
   ·subst h3
    exact hK1 neg a [] ⟨by simpa using hl2,hda,by simp,hane,.inl hah,by simp,by simp⟩
   ·obtain ⟨c,r2,rfl⟩:=C5v h3
    refine ⟨c,⟨by omega,by rw [Jx];rfl⟩,G9 (fun h4=>?_) (fun h4=>?_)⟩
    ·refine hK0 ?_ _ _ []
     intro n' a' b' f
     obtain ⟨rfl,rfl,h5⟩:=hfp _ _ _ f
     by_cases hb:b'=[]
     ·simp [hb] at h5
     ·rw [if_neg hb] at h5
      simp at h5
      exact h4 (by rw [<- h5.1];rfl)
    ·have hc:c=47:=by apply UInt8.toNat_inj.1;show c.toNat=47;omega
     subst hc
     refine ⟨⟨by omega,by rw [J3];simp;omega⟩,?_⟩
     rw [N7,show ((1:Int)).toNat=1 from rfl,J3,C68 (by simp),List.drop_succ_cons,C6f]
     refine Jw (by simp at hrl;omega) ⟨_,_,rfl,?_⟩
     have hsp2:r2=r2.takeWhile dgt++r2.dropWhile dgt:=List.takeWhile_append_dropWhile.symm
     have hdb:∀ c∈r2.takeWhile dgt,H0 c:=Lp _
     have hbp:∀ b':List UInt8,(∀ c∈b',H0 c)->b'=r2->r2.takeWhile dgt=b'/\r2.dropWhile dgt=[]:=by
      intro b' hd e
      subst e
      have:=Fh (r:=[]) hd (by simp)
      simpa using this
     generalize r2.takeWhile dgt=b at *
     generalize r2.dropWhile dgt=s at *
     have no:(s≠[]\/b=[]\/b.head? = some 48\/b=[49])->∀ neg' a' b',¬ Form (((if neg=true then [45] else [])++(a++47::r2))) neg' a' b':=by
      rintro hbad n' a' b' f
      rw [<- hl2] at f
      obtain ⟨rfl,rfl,h5⟩:=hfp _ _ _ f
      by_cases hb:b'=[]
      ·simp [hb] at h5
      ·rw [if_neg hb] at h5
       simp at h5
       obtain ⟨e6,e7⟩:=hbp b' f.db h5
       subst e6
       rcases hbad with h6|h6|h6|h6
       ·exact h6 e7
       ·exact hb h6
       ·exact f.hb h6
       ·exact f.b1 h6
     rw [Y4,Y4]
     have e49:((bs b).toList==({ data:=#[49] }:ByteArray).toList)=decide (b=[49]):=Jy b [49]
     rw [e49]
     refine B6 (fun h6=>?_) (fun h6=>hK0 (by rw [hl2];exact no (.inl h6)) _ _ _)
     subst h6
     rw [List.append_nil] at hsp2
     subst hsp2
     refine Br.not (B6 (fun h7=>hK0 (by rw [hl2];exact no (.inr (.inl h7))) _ _ _) (fun h7=>?_))
     obtain ⟨c,r3,rfl⟩:=C5v h7
     refine ⟨c,⟨by omega,by rw [Jx];rfl⟩,G9 (fun h8=>?_) (fun h8=>?_)⟩
     ·by_cases h9:c::r3=[49]
      ·rw [decide_eq_true h9]
       exact hK0 (by rw [hl2];exact no (.inr (.inr (.inr h9)))) _ _ _
      ·rw [decide_eq_false h9]
       refine hK1 neg a (c::r3) ⟨by simpa using hl2,hda,hdb,hane,.inl hah,?_,h9⟩
       intro e;simp at e;exact h8 (by rw [e];rfl)
     ·have hh:(c::r3).head? = some 48:=by
       simp only [C6e,C65]
       apply UInt8.toNat_inj.1;show c.toNat=48;omega
      exact hK0 (by rw [hl2];exact no (.inr (.inr (.inl hh)))) _ _ _
end
theorem B47{q:Rat}(h:q.den=1):K3 q=Kf q.num:=by unfold K3;rw [if_pos h,List.append_nil]
theorem A9a{q:Rat}(h:q.den≠1):K3 q=Kf q.num++[47]++Kf (q.den:Int):=by
 unfold K3;rw [if_neg h,Rj (i:=(q.den:Int)) (by omega),C5q];simp
section
variable {h g:Heap} {K:VP} {l:List UInt8}
theorem C3f{k:Nat}(h:k<=18):10^k<=1000000000000000000:=C6n (C5t (by decide) h) (by decide)
theorem Gr(hd:∀ c∈l,H0 c)(hl:l.length<=18)(hK:K (I (J6 l:Int)) h):FCall prog Z7 #[.string (bs l)] h K:=by
 refine Vc _ ?_
 unfold Qt
 simp only [J3]
 refine ⟨fun L hp=>∃ k:Nat,L=[I (J6 (l.take k):Int),I k]/\hp=h/\k<=l.length,fun L _=>l.length-(iAt L 1).toNat,⟨0,rfl,rfl,by omega⟩,?_⟩
 rintro n t7 hp ⟨k,hL,rfl,hk⟩
 simp only [C5z,C6p,and_true,true_and] at hL
 obtain ⟨rfl,rfl⟩:=hL
 refine B6 (fun h1=>?_) (fun h1=>?_)
 ·have hkl:k<l.length:=by omega
  have hdc:=hd l[k] (List.getElem_mem hkl)
  have hlt:=Ge (l:=l.take (k+1)) (fun c hc=>hd c (List.mem_of_mem_take hc))
  rw [C61,C6b (by omega)] at hlt
  have ht:=C3f (k:=k+1) (by omega)
  have hs:J6 (l.take (k+1))=10*J6 (l.take k)+(l[k].toNat-48):=by rw [C6k hkl,Ib]
  unfold H0 at hdc
  refine ⟨l[k],⟨by omega,by rw [C5r,Jx,C5s hkl]⟩,?_⟩
  have e:B5 (B5 (10*((J6 (l.take k):Nat):Int))+B5 (wu8 (((l[k].toNat:Nat):Int)-48)))=((J6 (l.take (k+1)):Nat):Int):=by
   rw [Wm (by omega) (by omega),B7 (n:=((l[k].toNat:Nat):Int)-48) (by omega) (by omega),B7 (n:=10*((J6 (l.take k):Nat):Int)) (by omega) (by omega),B7 (by omega) (by omega)]
   omega
  rw [e,B7 (n:=(k:Int)+1) (by omega) (by omega)]
  exact ⟨⟨k+1,rfl,rfl,by omega⟩,by simp only [iAt,C5y,List.getElem?_cons_succ];omega⟩
 ·obtain rfl:k=l.length:=by omega
  rw [List.take_length];exact hK
theorem A9e{a b:Nat}(hK:K (I (C5w a b:Int)) h):FCall prog B18 #[I (a:Int),I (b:Int)] h K:=by
 refine B9y _ _ ?_
 unfold C4z
 refine ⟨fun L hp=>∃ x y:Nat,L=[I x,I y]/\hp=h/\C5w x y=C5w a b,fun L _=>(iAt L 1).toNat,⟨a,b,rfl,rfl,rfl⟩,?_⟩
 rintro a1 b1 hp ⟨x,y,hL,rfl,hg⟩
 obtain ⟨rfl,rfl⟩:a1=(x:Int)/\b1=(y:Int):=by simpa using hL
 refine G9 (fun h1=>?_) (fun h1=>?_)
 ·have hy:y≠0:=by omega
  refine B6 (fun e=>absurd e h1) (fun _=>?_)
  have e:Int.tmod (x:Int) (y:Int)=((x%y:Nat):Int):=(Int.ofNat_tmod x y).symm
  rw [e]
  have hlt:=Nat.mod_lt x (Nat.pos_of_ne_zero hy)
  refine ⟨⟨y,x%y,rfl,rfl,?_⟩,by simp only [iAt,C5y,List.getElem?_cons_succ];omega⟩
  rw [<- hg,Nat.gcd_comm x y,Nat.gcd_rec y x,Nat.gcd_comm]
 ·obtain rfl:y=0:=by omega
  rw [Nat.gcd_zero_right] at hg
  rw [hg];exact hK
theorem Vq(hK1:∀ q,l=K3 q->q.num.natAbs<1000000000->q.den<1000000000->K (.tuple #[.agg #[I q.num,I (q.den:Int)],.bool true]) h)(hK0:K (.tuple #[.agg #[I 0,I 0],.bool false]) h):FCall prog Hp #[.string (bs l)] h K:=by
 refine A0l _ ?_
 unfold Xo
 rw [J3]
 refine B6 (fun _=>hK0) (fun h1=>?_)
 refine Ol (by omega) ?_ ?_
 ·intro neg a b f
  refine ⟨_,_,_,_,rfl,?_⟩
  simp only [J3]
  refine ⟨fun L hp=>L=[.bool (decide (a.length>9\/b.length>9))]/\hp=h,Br.of (fun e=>by cases e) (fun _=>B6 (fun h2=>⟨?_,rfl⟩) (fun h2=>⟨?_,rfl⟩)),?_⟩
  ·rw [decide_eq_true (show a.length>9\/b.length>9 by omega)]
  ·by_cases hb9:b.length>9
   ·rw [decide_eq_true (show a.length>9\/b.length>9 by omega)]
    exact congrArg (fun x=>[Value.bool x]) (decide_eq_true (show ((b.length:Nat):Int)>9 by omega))
   ·rw [decide_eq_false (show ¬ (a.length>9\/b.length>9) by omega)]
    exact congrArg (fun x=>[Value.bool x]) (decide_eq_false (show ¬ ((b.length:Nat):Int)>9 by omega))
  rintro t29 hp ⟨hL,rfl⟩
  obtain rfl:t29=decide (a.length>9\/b.length>9):=by simpa using hL
  refine B6 (fun _=>hK0) (fun h2=>?_)
  have habs:(Ql neg a).natAbs=J6 a:=by unfold Ql;split<;>simp
  have hva:=Ge f.da
  have hvb:=Ge f.db
  have h9:∀ k,k<=9->10^k<=1000000000:=fun k hk=>C6n (C5t (by decide) hk) (by decide)
  have h9a:=h9 a.length (by omega)
  have h9b:=h9 b.length (by omega)
  refine Gr f.da (by omega) ⟨_,rfl,?_⟩
  refine ⟨fun L hp'=>L=[I 0,I 0,I (J6 a:Int),I (Lb b:Int)]/\hp'=hp/\C5w (J6 a) (Lb b)=1,?_,?_⟩
  ·rw [Y4]
   refine Br.not (B6 (fun h3=>?_) (fun h3=>?_))
   ·subst h3;exact ⟨rfl,rfl,by unfold Lb;simp⟩
   ·refine Gr f.db (by omega) ⟨_,rfl,A9e ⟨_,rfl,G9 (fun _=>hK0) (fun h4=>?_)⟩⟩
    have hfd:Lb b=J6 b:=by unfold Lb;rw [if_neg h3]
    rw [hfd]
    exact ⟨rfl,rfl,by omega⟩
  ·rintro t20 t21 x0 x1 hp5 ⟨hL5,rfl,hg⟩
   simp only [C5z,C6p,and_true,true_and] at hL5
   obtain ⟨_,_,rfl,rfl⟩:=hL5
   obtain ⟨q,hq⟩:=f.isNum.2 hg
   have hqf:=f.of_txt hq
   have hfd1:Lb b<1000000000:=by unfold Lb;split<;>omega
   refine ⟨fun L hp'=>L=[I q.num,I (q.den:Int)]/\hp'=hp5,Br.of (fun e=>?_) (fun e=>?_),?_⟩
   ·rw [hqf.1,hqf.2,e,B7 (by omega) (by omega)]
    exact ⟨by unfold Ql;simp,rfl⟩
   ·rw [hqf.1,hqf.2,e]
    exact ⟨by unfold Ql;simp,rfl⟩
   ·rintro y0 y1 hp6 ⟨hL6,rfl⟩
    simp only [C5z,C6p,and_true,true_and] at hL6
    obtain ⟨rfl,rfl⟩:=hL6
    exact hK1 q hq (by rw [hqf.1,habs];omega) (by rw [hqf.2];exact hfd1)
 ·intro hf neg a b
  refine ⟨_,_,_,_,rfl,?_⟩
  refine ⟨fun L hp=>L=[.bool true]/\hp=h,Br.not ⟨rfl,rfl⟩,?_⟩
  rintro t29 hp ⟨hL,rfl⟩
  obtain rfl:t29=true:=by simpa using hL
  exact Br.of (fun _=>hK0) (fun e=>by cases e)
end
structure RQ (h:Heap) (w:QV) (q:Rat):Prop where
 num:ZI h w.s w.A w.n w.c q.num
 den:ZI h w.s2 w.A2 w.n2 w.c2 (if q.den=1 then 0 else (q.den:Int))
theorem ZB.gcd{m:Nat}{x y:Int}(hy:y≠0)(h:ZB m y):ZB m (C62 x y:Int):=by
 refine h.le ?_
 rw [C5q]
 exact Nat.le_of_dvd (by omega) (Int.natAbs_dvd_natAbs.2 (Int.gcd_dvd_right x y))
section
variable {h h':Heap} {K:VP} {A B:Option Addr} {n c n' c':Nat} {s s':Bool} {x y z:Int} {m:Nat} {p q:Rat} {a b w:QV} {l:List UInt8}
theorem RQ.mono(hl:h.le h')(i:RQ h w q):RQ h' w q:=⟨i.num.mono hl,i.den.mono hl⟩
theorem RQ.whole(i:ZI h s A n c z):RQ h ⟨s,A,n,c,false,none,0,0⟩ (z:Rat):=⟨by simpa using i,by simpa using ZI.zero⟩
theorem RQ.zero:RQ h ⟨false,none,0,0,false,none,0,0⟩ 0:=⟨ZI.zero,ZI.zero⟩
theorem T2(i:RQ h w q)(hK:K (.bool (decide (q.den=1))) h):FCall prog E9 #[.agg #[.bool w.s2,.slice w.A2 w.n2 w.c2]] h K:=by
 refine F1 i.den ?_
 have:=q.den_nz
 have e:decide ((if q.den=1 then (0:Int) else (q.den:Int))=0)=decide (q.den=1):=by
  rw [decide_eq_decide];split<;>omega
 rw [e];exact hK
theorem S9(i:ZI h s A n c z)(j:ZI h s' B n' c' y)(h1:q.num=z)(h2:(q.den:Int)=y)(hK:∀ w,RQ h w q->K w.v h):FCall prog U7 #[.agg #[.bool s,.slice A n c],.agg #[.bool s',.slice B n' c']] h K:=by
 subst h1 h2
 refine A8e _ _ _ _ _ _ _ _ ?_
 unfold B2q
 refine N9 j ⟨_,rfl,B6 (fun e=>?_) (fun e=>?_)⟩
 ·exact hK ⟨s,A,n,c,false,none,0,0⟩ ⟨i,by rw [if_pos (by omega)];exact ZI.zero⟩
 ·exact hK ⟨s,A,n,c,s',B,n',c'⟩ ⟨i,by rw [if_neg (by omega)];exact j⟩
theorem Dz(i:RQ h w q)(hK:∀ s A n c h',h.le h'->ZI h' s A n c (q.den:Int)->K (.agg #[.bool s,.slice A n c]) h'):FCall prog Qg #[w.v] h K:=by
 refine C05 _ _ _ _ _ _ _ _ ?_
 unfold C55
 refine T2 i ⟨_,rfl,B6 (fun e=>?_) (fun e=>?_)⟩
 ·refine Dr (by decide) (by decide) ?_
  intro s A n c h1 l1 i1
  exact ⟨_,_,_,_,rfl,hK _ _ _ _ _ l1 (by rw [e];exact i1)⟩
 ·have:=i.den
  rw [if_neg e] at this
  exact hK _ _ _ _ _ (B4 _) this
theorem Ui(gl:Gtz h)(i:ZI h s A n c x)(j:ZI h s' B n' c' y)(hx:ZB m x)(hy:ZB m y)(hm:m<=6400000000)(hy0:0<y)(hK:∀ s1 A1 n1 c1 s2 A2 n2 c2 h',h.le h'->ZI h' s1 A1 n1 c1 (x.tdiv (C62 x y))->ZI h' s2 A2 n2 c2 (y.tdiv (C62 x y))->K (.tuple #[.agg #[.bool s1,.slice A1 n1 c1],.agg #[.bool s2,.slice A2 n2 c2]]) h'):FCall prog Na #[.agg #[.bool s,.slice A n c],.agg #[.bool s',.slice B n' c']] h K:=by
 refine A8f _ _ _ _ _ _ _ _ ?_
 unfold B2r
 refine N9 j ⟨_,rfl,B6 (fun e=>?_) (fun e=>?_)⟩
 ·subst e
  have hg:C62 x 1=1:=by simp
  rw [hg] at hK
  exact hK _ _ _ _ _ _ _ _ _ (B4 _) (by simpa using i) (by simpa using j)
 ·refine Z9 gl i j hx hy hm ?_
  intro A1 n1 c1 h1 l1 i1
  have hg:=Int.gcd_pos_of_ne_zero_right x (show y≠0 by omega)
  have hgb:ZB m (C62 x y:Int):=ZB.gcd (by omega) hy
  refine ⟨_,_,_,_,rfl,P8 (i.mono l1) i1 hx hgb hm (by omega) ?_⟩
  intro s2 A2 n2 c2 h2 l2 i2
  refine ⟨_,_,_,_,rfl,l2,P8 (j.mono (B0 l1 l2)) (i1.mono l2) hy hgb hm (by omega) ?_⟩
  intro s3 A3 n3 c3 h3 l3 i3
  exact ⟨_,_,_,_,rfl,l3,hK _ _ _ _ _ _ _ _ _ (B0 l1 (B0 l2 l3)) (i2.mono l3) i3⟩
theorem A7i(i:RQ h w q)(hK:∀ w',RQ h w' (-q)->K w'.v h):FCall prog B1a #[w.v] h K:=by
 refine C02 _ _ _ _ _ _ _ _ ?_
 unfold C52
 refine Cc i.num ?_
 intro s' i'
 exact ⟨_,_,_,_,rfl,B4 _,hK ⟨s',w.A,w.n,w.c,w.s2,w.A2,w.n2,w.c2⟩ ⟨by simpa using i',by simpa using i.den⟩⟩
theorem Sj(i:RQ h w q)(hK:K (I q.num.sign) h):FCall prog Zp #[w.v] h K:=by
 refine B60 _ _ _ _ _ _ _ _ ?_
 unfold C2b
 exact Oe i.num ⟨_,rfl,hK⟩
theorem Cx(i:RQ h w q)(hK:K (.bool (decide (q=0))) h):FCall prog Eh #[w.v] h K:=by
 refine A8i _ _ _ _ _ _ _ _ ?_
 unfold B2w
 refine F1 i.num ⟨_,rfl,?_⟩
 have e:decide (q.num=0)=decide (q=0):=by rw [decide_eq_decide];exact C69
 rw [e];exact hK
theorem Wr(gl:Gtz h)(i:RQ h a p)(j:RQ h b q)(hp:Sz m p)(hq:Sz m q)(hm:2*m+1<=6400000000)(hK:∀ w h',h.le h'->RQ h' w (p+q)->K w.v h'):FCall prog A6c #[a.v,b.v] h K:=by
 have hpd:=p.den_nz
 have hqd:=q.den_nz
 have M:∀ {z:Int},ZB m z->ZB (2*m+1) z:=fun hz=>hz.mono (by omega)
 refine C06 _ _ _ _ _ _ _ _ _ _ _ _ _ _ _ _ ?_
 unfold C56
 refine ⟨fun L hp=>L=[.bool (decide (p.den=1/\q.den=1))]/\hp=h,T2 i ⟨_,rfl,B6 (fun e=>?_) (fun e=>?_)⟩,?_⟩
 ·exact T2 j ⟨_,rfl,by simp [e],rfl⟩
 ·exact ⟨by simp [e],rfl⟩
 rintro t10 hp2 ⟨hL,rfl⟩
 obtain rfl:t10=decide (p.den=1/\q.den=1):=by simpa using hL
 refine B6 (fun e=>?_) (fun e=>?_)
 ·refine Ds i.num j.num hp.num hq.num (by omega) ?_
  intro s1 A1 n1 c1 h1 l1 i1
  refine ⟨_,_,_,_,rfl,hK ⟨s1,A1,n1,c1,false,none,0,0⟩ _ l1 ?_⟩
  have:=RQ.whole i1
  rw [Rat.intCast_add,<- Xd e.1,<- Xd e.2] at this
  exact this
 ·refine ⟨fun L hp=>L=[.bool (decide (p.den=1))]/\hp=hp2,T2 i ⟨_,rfl,rfl,rfl⟩,?_⟩
  rintro t25 hp5 ⟨hL,rfl⟩
  obtain rfl:t25=decide (p.den=1):=by simpa using hL
  refine B6 (fun e1=>?_) (fun e1=>?_)
  ·have hq1:q.den≠1:=fun e2=>e ⟨e1,e2⟩
   have jd:=j.den
   rw [if_neg hq1] at jd
   refine L5 i.num jd hp.num hq.den (by omega) ?_
   intro s1 A1 n1 c1 h1 l1 i1
   refine ⟨_,_,_,_,rfl,l1,Ds (m:=2*m+1) i1 (j.num.mono l1) ((hp.num.mul hq.den).mono (by omega)) (M hq.num) hm ?_⟩
   intro s2 A2 n2 c2 h2 l2 i2
   have hpp:=Np q p.num
   rw [<- Xd e1,Rat.add_comm] at hpp
   refine ⟨_,_,_,_,rfl,l2,hK ⟨s2,A2,n2,c2,b.s2,b.A2,b.n2,b.c2⟩ _ (B0 l1 l2) ⟨by rw [hpp.1];exact i2,?_⟩⟩
   rw [hpp.2]
   exact j.den.mono (B0 l1 l2)
  ·refine T2 j ⟨_,rfl,B6 (fun e2=>?_) (fun e2=>?_)⟩
   ·have idn:=i.den
    rw [if_neg e1] at idn
    refine L5 j.num idn hq.num hp.den (by omega) ?_
    intro s1 A1 n1 c1 h1 l1 i1
    refine ⟨_,_,_,_,rfl,l1,Ds (m:=2*m+1) i1 (i.num.mono l1) ((hq.num.mul hp.den).mono (by omega)) (M hp.num) hm ?_⟩
    intro s2 A2 n2 c2 h2 l2 i2
    have hpp:=Np p q.num
    rw [<- Xd e2] at hpp
    refine ⟨_,_,_,_,rfl,l2,hK ⟨s2,A2,n2,c2,a.s2,a.A2,a.n2,a.c2⟩ _ (B0 l1 l2) ⟨by rw [hpp.1];exact i2,?_⟩⟩
    rw [hpp.2]
    exact i.den.mono (B0 l1 l2)
   ·have idn:=i.den
    have jdn:=j.den
    rw [if_neg e1] at idn
    rw [if_neg e2] at jdn
    refine Z9 gl idn jdn hp.den hq.den (by omega) ?_
    intro A1 n1 c1 h1 l1 ig
    rw [Int.gcd_natCast_natCast] at ig
    obtain ⟨g,hg⟩:∃ g,g=p.den.gcd q.den:=⟨_,rfl⟩
    rw [<- hg] at ig
    have hg0:0<g:=by rw [hg];exact Nat.gcd_pos_of_pos_left _ (by omega)
    have hgd:g∣q.den:=by rw [hg];exact C66 ..
    have hgz:ZB m (g:Int):=hq.den.le (by simpa using Nat.le_of_dvd (by omega) hgd)
    refine ⟨_,_,_,_,rfl,P8 (jdn.mono l1) ig hq.den hgz (by omega) (by omega) ?_⟩
    intro s2 A2 n2 c2 h2 l2 il
    rw [<- C6g] at il
    refine ⟨_,_,_,_,rfl,l2,P8 (idn.mono (B0 l1 l2)) (ig.mono l2) hp.den hgz (by omega) (by omega) ?_⟩
    intro s3 A3 n3 c3 h3 l3 ir
    rw [<- C6g] at ir
    have hlb:ZB m ((q.den/g:Nat):Int):=hq.den.le (by rw [C5q,C5q];exact C5x _ _)
    have hrb:ZB m ((p.den/g:Nat):Int):=hp.den.le (by rw [C5q,C5q];exact C5x _ _)
    have l13:=B0 l1 (B0 l2 l3)
    refine ⟨_,_,_,_,rfl,l3,L5 (i.num.mono l13) (il.mono l3) hp.num hlb (by omega) ?_⟩
    intro s4 A4 n4 c4 h4 l4 i4
    refine ⟨_,_,_,_,rfl,l4,L5 (j.num.mono (B0 l13 l4)) (ir.mono l4) hq.num hrb (by omega) ?_⟩
    intro s5 A5 n5 c5 h5 l5 i5
    refine ⟨_,_,_,_,rfl,l5,Ds (m:=2*m) (i4.mono l5) i5 ((hp.num.mul hlb).mono (by omega)) ((hq.num.mul hrb).mono (by omega)) (by omega) ?_⟩
    intro s6 A6 n6 c6 h6 l6 iz
    obtain ⟨z,hz⟩:∃ z,z=p.num*((q.den/g:Nat):Int)+q.num*((p.den/g:Nat):Int):=⟨_,rfl⟩
    rw [<- hz] at iz
    have hzb:ZB (2*m+1) z:=by
     rw [hz]
     exact ((hp.num.mul hlb).mono (show m+m<=2*m by omega)).add ((hq.num.mul hrb).mono (show m+m<=2*m by omega))
    have l16:=B0 l13 (B0 l4 (B0 l5 l6))
    refine ⟨_,_,_,_,rfl,l6,F1 iz ⟨_,rfl,B6 (fun hz0=>?_) (fun hz0=>?_)⟩⟩
    ·have:p+q=0:=by
      rw [<- C69]
      by_cases h1':p.den.gcd q.den=1
      ·have:=(Xl p q h1').1
       rw [<- hg] at h1'
       rw [h1',C6q,C6q] at hz
       rw [this,<- hz,hz0]
      ·have:=(Xk p q h1' hg hz rfl).1
       rw [this,hz0];simp
     rw [this] at hK
     exact hK ⟨false,none,0,0,false,none,0,0⟩ _ l16 RQ.zero
    ·refine N9 (ig.mono (B0 l2 (B0 l3 (B0 l4 (B0 l5 l6))))) ⟨_,rfl,B6 (fun hg1=>?_) (fun hg1=>?_)⟩
     ·have hg1':g=1:=by omega
      have hpp:=Xl p q (by rw [<- hg];exact hg1')
      rw [hg1',C6q,C6q] at hz
      refine L5 (idn.mono l16) (jdn.mono l16) hp.den hq.den (by omega) ?_
      intro s7 A7 n7 c7 h7 l7 i7
      refine ⟨_,_,_,_,rfl,l7,S9 (q:=p+q) (iz.mono l7) i7 (by rw [hpp.1,hz]) (by rw [hpp.2,C5u]) ?_⟩
      intro w iw
      exact ⟨_,_,_,_,_,_,_,_,rfl,B4 _,hK _ _ (B0 l16 l7) iw⟩
     ·have hg1':p.den.gcd q.den≠1:=by rw [<- hg];omega
      obtain ⟨r,hr⟩:∃ r,r=z.natAbs.gcd g:=⟨_,rfl⟩
      have hpp:=Xk p q hg1' hg hz hr
      have hr0:0<r:=by rw [hr];exact Nat.gcd_pos_of_pos_right _ hg0
      have hrg:r<=g:=by rw [hr];exact Nat.le_of_dvd hg0 (C66 ..)
      have igg:=ig.mono (B0 l2 (B0 l3 (B0 l4 (B0 l5 l6))))
      refine Z9 (gl.mono l16) iz igg hzb (M hgz) hm ?_
      intro A7 n7 c7 h7 l7 i7
      have e7:C62 z (g:Int)=r:=hr.symm
      rw [e7] at i7
      have hrz:ZB m (r:Int):=hgz.le (by simpa using hrg)
      refine ⟨_,_,_,_,rfl,P8 (iz.mono l7) i7 hzb (M hrz) hm (by omega) ?_⟩
      intro s8 A8 n8 c8 h8 l8 i8
      refine ⟨_,_,_,_,rfl,l8,P8 (jdn.mono (B0 l16 (B0 l7 l8))) (i7.mono l8) hq.den hrz (by omega) (by omega) ?_⟩
      intro s9 A9 n9 c9 h9 l9 i9
      rw [<- C6g] at i9
      have h9b:ZB m ((q.den/r:Nat):Int):=hq.den.le (by rw [C5q,C5q];exact C5x _ _)
      refine ⟨_,_,_,_,rfl,l9,L5 (ir.mono (B0 l4 (B0 l5 (B0 l6 (B0 l7 (B0 l8 l9)))))) i9 hrb h9b (by omega) ?_⟩
      intro s10 A10 n10 c10 h10 l10 i10
      refine ⟨_,_,_,_,rfl,l10,S9 (q:=p+q) (i8.mono (B0 l9 l10)) i10 hpp.1 (by rw [hpp.2,C5u]) ?_⟩
      intro w iw
      exact ⟨_,_,_,_,_,_,_,_,rfl,B4 _,hK _ _ (B0 l16 (B0 l7 (B0 l8 (B0 l9 l10)))) iw⟩
theorem A7g(gl:Gtz h)(i:RQ h a p)(j:RQ h b q)(hp:Sz m p)(hq:Sz m q)(hm:2*m+1<=6400000000)(hK:∀ w h',h.le h'->RQ h' w (p-q)->K w.v h'):FCall prog B19 #[a.v,b.v] h K:=by
 refine C00 _ _ _ _ _ _ _ _ _ _ _ _ _ _ _ _ ?_
 unfold C50
 refine A7i j ?_
 intro w' j'
 refine ⟨_,_,_,_,_,_,_,_,rfl,B4 _,Wr gl i j' hp hq.neg hm ?_⟩
 intro w2 h2 l2 i2
 rw [<- Rat.sub_eq_add_neg] at i2
 exact ⟨_,_,_,_,_,_,_,_,rfl,l2,hK _ _ l2 i2⟩
end
structure Gl (h:Heap):Prop where
 tz:Gtz h
 p10:Gp h
theorem Gl.mono{h h':Heap}(g:Gl h)(l:h.le h'):Gl h':=⟨g.tz.mono l,g.p10.mono l⟩
section
variable {h h':Heap} {K:VP} {A B:Option Addr} {n c n' c':Nat} {s s':Bool} {x y z:Int} {m:Nat} {p q:Rat} {a b w:QV} {l:List UInt8}
theorem Jb(gl:Gtz h)(i:RQ h a p)(j:RQ h b q)(hp:Sz m p)(hq:Sz m q)(hm:m<=6400000000)(hK:∀ w h',h.le h'->RQ h' w (p*q)->K w.v h'):FCall prog Xc #[a.v,b.v] h K:=by
 have hpd:=p.den_nz
 have hqd:=q.den_nz
 refine C03 _ _ _ _ _ _ _ _ _ _ _ _ _ _ _ _ ?_
 unfold C53
 refine ⟨fun L hp=>L=[.bool (decide (p.num=0\/q.num=0))]/\hp=h,F1 i.num ⟨_,rfl,B6 (fun e=>?_) (fun e=>?_)⟩,?_⟩
 ·exact ⟨by simp [e],rfl⟩
 ·exact F1 j.num ⟨_,rfl,by simp [e],rfl⟩
 rintro t16 hp2 ⟨hL,rfl⟩
 obtain rfl:t16=decide (p.num=0\/q.num=0):=by simpa using hL
 refine B6 (fun e=>?_) (fun e=>?_)
 ·have:p*q=0:=by
   rw [C69,C69] at e
   exact Rat.mul_eq_zero.2 e
  rw [this] at hK
  exact hK ⟨false,none,0,0,false,none,0,0⟩ _ (B4 _) RQ.zero
 ·refine ⟨fun L hp=>L=[.bool (decide (p.den=1/\q.den=1))]/\hp=hp2,T2 i ⟨_,rfl,B6 (fun e=>?_) (fun e=>?_)⟩,?_⟩
  ·exact T2 j ⟨_,rfl,by simp [e],rfl⟩
  ·exact ⟨by simp [e],rfl⟩
  rintro t25 hp5 ⟨hL,rfl⟩
  obtain rfl:t25=decide (p.den=1/\q.den=1):=by simpa using hL
  refine B6 (fun e=>?_) (fun e=>?_)
  ·refine L5 i.num j.num hp.num hq.num hm ?_
   intro s1 A1 n1 c1 h1 l1 i1
   refine ⟨_,_,_,_,rfl,hK ⟨s1,A1,n1,c1,false,none,0,0⟩ _ l1 ?_⟩
   have:=RQ.whole i1
   rw [Rat.intCast_mul,<- Xd e.1,<- Xd e.2] at this
   exact this
  ·have hpp:=B0n p q
   refine Dz j ?_
   intro s1 A1 n1 c1 h1 l1 jd
   refine ⟨_,_,_,_,rfl,l1,Ui (gl.mono l1) (i.num.mono l1) jd hp.num hq.den hm (by omega) ?_⟩
   intro s2 A2 n2 c2 s3 A3 n3 c3 h2 l2 i2 i3
   have l12:=B0 l1 l2
   refine ⟨_,_,_,_,_,_,_,_,rfl,l2,Dz (i.mono l12) ?_⟩
   intro s4 A4 n4 c4 h4 l4 idn
   refine ⟨_,_,_,_,rfl,l4,Ui (gl.mono (B0 l12 l4)) (j.num.mono (B0 l12 l4)) idn hq.num hp.den hm (by omega) ?_⟩
   intro s5 A5 n5 c5 s6 A6 n6 c6 h5 l5 i5 i6
   have e1:C62 p.num (q.den:Int)=C5w p.num.natAbs q.den:=rfl
   have e2:C62 q.num (p.den:Int)=C5w q.num.natAbs p.den:=rfl
   rw [e1] at i2 i3
   rw [e2] at i5 i6
   rw [<- C6g] at i3 i6
   refine ⟨_,_,_,_,_,_,_,_,rfl,l5,L5 (i2.mono (B0 l4 l5)) i5 hp.num.tdiv hq.num.tdiv hm ?_⟩
   intro s7 A7 n7 c7 h7 l7 i7
   have b1:ZB m ((p.den/C5w q.num.natAbs p.den:Nat):Int):=hp.den.le (by rw [C5q,C5q];exact C5x _ _)
   have b2:ZB m ((q.den/C5w p.num.natAbs q.den:Nat):Int):=hq.den.le (by rw [C5q,C5q];exact C5x _ _)
   refine ⟨_,_,_,_,rfl,l7,L5 (i6.mono l7) (i3.mono (B0 l4 (B0 l5 l7))) b1 b2 hm ?_⟩
   intro s8 A8 n8 c8 h8 l8 i8
   refine ⟨_,_,_,_,rfl,l8,S9 (q:=p*q) (i7.mono l8) i8 hpp.1 (by rw [hpp.2,C5u]) ?_⟩
   intro w iw
   exact ⟨_,_,_,_,_,_,_,_,rfl,B4 _,hK _ _ (B0 l12 (B0 l4 (B0 l5 (B0 l7 l8)))) iw⟩
theorem Yv(i:RQ h w q)(hK:∀ w h',h.le h'->RQ h' w q⁻¹->K w.v h'):FCall prog Pa #[w.v] h K:=by
 have hqd:=q.den_nz
 refine A5b _ _ _ _ _ _ _ _ ?_
 unfold A6w
 refine Oe i.num ⟨_,rfl,E5 (fun e=>?_) (fun e=>?_)⟩
 ·have h0:q.num=0:=Int.sign_eq_zero_iff_zero.1 e
  have:q⁻¹=0:=by rw [Rat.num_eq_zero.1 h0];exact Rat.inv_zero
  rw [this] at hK
  exact hK ⟨false,none,0,0,false,none,0,0⟩ _ (B4 _) RQ.zero
 ·have h0:q.num≠0:=fun e0=>e (by rw [e0];rfl)
  refine E5 (fun e1=>?_) (fun e1=>?_)
  ·have hneg:q.num<0:=Int.sign_neg_iff.1 (by omega)
   refine Dz i ?_
   intro s1 A1 n1 c1 h1 l1 i1
   refine ⟨_,_,_,_,rfl,l1,Cc i1 ?_⟩
   intro s2 i2
   refine ⟨_,_,_,_,rfl,B4 _,Cc (i.num.mono l1) ?_⟩
   intro s3 i3
   refine ⟨_,_,_,_,rfl,B4 _,S9 (q:=q⁻¹) i2 i3 ?_ ?_ ?_⟩
   ·rw [Rat.num_inv,e1];omega
   ·rw [Rat.den_inv,if_neg h0];omega
   ·intro w iw
    exact ⟨_,_,_,_,_,_,_,_,rfl,B4 _,hK _ _ l1 iw⟩
  ·have hpos:0<q.num:=by
    rcases Int.lt_trichotomy q.num 0 with h1|h1|h1
    ·exact absurd (C6s h1) e1
    ·exact absurd h1 h0
    ·exact h1
   refine Dz i ?_
   intro s1 A1 n1 c1 h1 l1 i1
   refine ⟨_,_,_,_,rfl,l1,S9 (q:=q⁻¹) i1 (i.num.mono l1) ?_ ?_ ?_⟩
   ·rw [Rat.num_inv,Int.sign_eq_one_of_pos hpos,Int.one_mul]
   ·rw [Rat.den_inv,if_neg h0];omega
   ·intro w iw
    exact ⟨_,_,_,_,_,_,_,_,rfl,B4 _,hK _ _ l1 iw⟩
theorem Dy(gl:Gtz h)(i:RQ h a p)(j:RQ h b q)(hp:Sz m p)(hq:Sz m q)(hm1:1<=m)(hm:m<=6400000000)(hK:∀ w h',h.le h'->RQ h' w (p/q)->K w.v h'):FCall prog Ts #[a.v,b.v] h K:=by
 refine C04 _ _ _ _ _ _ _ _ _ _ _ _ _ _ _ _ ?_
 unfold C54
 refine Yv j ?_
 intro w1 h1 l1 j1
 refine ⟨_,_,_,_,_,_,_,_,rfl,l1,Jb (gl.mono l1) (i.mono l1) j1 hp (hq.inv hm1) hm ?_⟩
 intro w2 h2 l2 i2
 rw [<- Rat.div_def] at i2
 exact ⟨_,_,_,_,_,_,_,_,rfl,l2,hK _ _ (B0 l1 l2) i2⟩
theorem Pg{t:List UInt8}{k:Nat}(h:∀ c∈t,H0 c)(hk:t.length<=k):ZB (4*k) (J6 t:Int):=by
 unfold ZB
 rw [C5q]
 exact C6j (Cp h) (C5t (by decide) (by omega))
theorem Form.lens{neg:Bool}{a b:List UInt8}(f:Form l neg a b):a.length<=l.length/\b.length<=l.length:=by
 have:=congrArg List.length f.eq
 simp only [C64] at this
 by_cases hb:b=[]
 ·rw [if_pos hb] at this;subst hb;simp at this ⊢;omega
 ·rw [if_neg hb] at this;simp at this;omega
theorem A7k(gl:Gtz h)(hl:l.length<=100000000)(hK1:∀ q,l=K3 q->∀ w h',h.le h'->RQ h' w q->K (.tuple #[w.v,.bool true]) h')(hK0:¬ IsNum l->∀ (w:QV) h',h.le h'->RQ h' w 0->K (.tuple #[w.v,.bool false]) h'):FCall prog A4o #[.string (bs l)] h K:=by
 refine B5z _ ?_
 unfold C2a
 refine Ol (by omega) ?_ ?_
 ·intro neg a b f
  refine ⟨_,_,_,_,rfl,Br.not ?_⟩
  have hlen:=f.lens
  refine Jc f.da (by omega) ?_
  intro A1 n1 c1 h1 l1 i1
  refine ⟨_,_,_,_,rfl,?_⟩
  refine ⟨fun L hp=>∃ s2:Bool,L=[.bool s2,.slice A1 n1 c1,.bool false,.slice none 0 0]/\hp=h1/\ZI h1 s2 A1 n1 c1 (Ql neg a),Br.of (fun e=>?_) (fun e=>?_),?_⟩
  ·refine Cc i1 ?_
   intro s2 i2
   exact ⟨_,_,_,_,rfl,s2,rfl,rfl,by unfold Ql;rw [e];exact i2⟩
  ·exact ⟨false,rfl,rfl,by unfold Ql;rw [e];exact i1⟩
  rintro x0 x1A x1n x1c x2 x3A x3n x3c hp3 ⟨s2,hL,rfl,i2⟩
  simp only [C5z,C6l,Value.bool.injEq,and_true] at hL
  obtain ⟨rfl,⟨rfl,rfl,rfl⟩,rfl,rfl,rfl,rfl⟩:=hL
  have habs:(Ql neg a).natAbs=J6 a:=by unfold Ql;split<;>simp
  rw [Y4]
  refine B6 (fun hb=>?_) (fun hb=>?_)
  ·subst hb
   obtain ⟨q,hq⟩:=f.isNum.2 (by unfold Lb;simp)
   obtain ⟨h2,h3⟩:=f.of_txt hq
   refine hK1 q hq ⟨x0,x1A,x1n,x1c,false,none,0,0⟩ _ l1 ⟨by rw [h2];exact i2,?_⟩
   rw [h3,show Lb []=1 from rfl,if_pos rfl];exact ZI.zero
  ·refine Jc f.db (by omega) ?_
   intro A4 n4 c4 h4 l4 i4
   have hnb:ZB (4*l.length) (Ql neg a):=(Pg f.da (k:=l.length) (by omega)).le (by rw [habs,C5q];exact C6i _)
   refine ⟨_,_,_,_,rfl,Z9 (gl.mono (B0 l1 l4)) (i2.mono l4) i4 hnb (Pg f.db (k:=l.length) (by omega)) (by omega) ?_⟩
   intro A5 n5 c5 h5 l5 i5
   refine ⟨_,_,_,_,rfl,N9 i5 ⟨_,rfl,?_⟩⟩
   have hfd:Lb b=J6 b:=by unfold Lb;rw [if_neg hb]
   have hgg:C62 (Ql neg a) (J6 b:Int)=C5w (J6 a) (Lb b):=by
    rw [hfd];show C5w (Ql neg a).natAbs (J6 b)=_;rw [habs]
   rw [hgg]
   refine Br.not (B6 (fun e1=>?_) (fun e1=>?_))
   ·obtain ⟨q,hq⟩:=f.isNum.2 (by omega)
    obtain ⟨h2,h3⟩:=f.of_txt hq
    have hd1:Lb b≠1:=by
     intro e2
     have h6:=Nl f.db hb (.inl f.hb)
     rw [<- hfd,e2] at h6
     apply f.b1
     rw [<- h6];simp [N4,Bg,J8,dch]
    refine hK1 q hq ⟨x0,x1A,x1n,x1c,false,A4,n4,c4⟩ _ (B0 l1 (B0 l4 l5)) ⟨by rw [h2];exact i2.mono (B0 l4 l5),?_⟩
    rw [h3,if_neg hd1,hfd];exact i4.mono l5
   ·refine hK0 ?_ ⟨false,none,0,0,false,none,0,0⟩ _ (B0 l1 (B0 l4 l5)) RQ.zero
    intro hn
    exact e1 (by rw [f.isNum.1 hn];rfl)
 ·intro hf neg a b
  refine ⟨_,_,_,_,rfl,Br.not ?_⟩
  refine hK0 ?_ ⟨false,none,0,0,false,none,0,0⟩ _ (B4 _) RQ.zero
  intro hn
  obtain ⟨neg',a',b',f⟩:=hn.form
  exact hf _ _ _ f
theorem A1p(gp:Gp h)(i:RQ h w q)(hq:Sz m q)(hm:m<=40000000)(hK:K (.string (bs (K3 q))) h):FCall prog Tr #[w.v] h K:=by
 refine FCall.pure (A8g _ _ _ _ _ _ _ _ ?_)
 unfold B2u
 refine T2 i ⟨_,rfl,B6 (fun e=>?_) (fun e=>?_)⟩
 ·rw [B47 e] at hK
  refine A3q i.num (fun h1 h2=>?_) (fun h1=>?_)
  ·refine ⟨_,_,rfl,Br.of (fun _=>A5a _ ?_) (fun e=>by cases e)⟩
   unfold A6v
   exact Vt gp h1 h2 ⟨_,rfl,_,rfl,B4 _,hK⟩
  ·refine ⟨_,_,rfl,Br.of (fun e=>by cases e) (fun _=>?_)⟩
   exact A15 gp i.num hq.num (by omega) ⟨_,rfl,B4 _,hK⟩
 ·rw [A9a e] at hK
  have idn:=i.den
  rw [if_neg e] at idn
  refine Ha (l:=[]) (eT:=G0) gp (Priv.nil _ _ _ _) i.num hq.num (by omega) (by omega) ?_
  intro A1 n1 c1 e1 g1 h1 x1
  refine ⟨_,_,_,rfl,?_⟩
  have hl1:(Kf q.num).length<=50000000:=by
   unfold Kf
   have:=Cq hq.num
   split<;>simp<;>omega
  have hx1:=x1.len
  refine Mc (ch:=47) rfl x1.priv (by omega) ?_
  intro A2 n2 c2 e2 g2 h2 x2
  have x12:=x1.trans x2
  have hx2:=x12.len
  rw [C64,List.length_singleton] at hx2
  refine Ha (gp.mono x12.le) x2.priv (idn.mono x12.le) hq.den (by omega) (by omega) ?_
  intro A3 n3 c3 e3 g3 h3 x3
  refine ⟨_,_,_,rfl,?_⟩
  rw [List.append_assoc] at x3
  have x123:=x12.trans x3
  have hx3:=x123.len
  refine Lo Gm.und Dv V5 x123.priv.slV (by simpa using hx3) ⟨_,rfl,?_⟩
  refine ⟨B0 x123.le x123.priv.le,?_⟩
  simpa using hK
end
structure Tx (m:Nat) (l:List UInt8):Prop where
 len:l.length<=100000000
 sz:Sz m (rv l)
theorem B48{m:Nat}{z:Int}(h:ZB m z):(Kf z).length<=m+2:=by
 have:=Cq h
 unfold Kf;split
 ·rw [List.length_cons];omega
 ·omega
theorem Ri{m:Nat}{q:Rat}(h:Sz m q):(K3 q).length<=2*m+4:=by
 have h1:=B48 h.num
 have h2:=Cq (n:=q.den) (m:=m) (by have:=h.den;unfold ZB at this;simpa using this)
 unfold K3
 split
 ·simp;omega
 ·simp;omega
theorem A1f(q:Rat):∃ c r,K3 q=c::r/\(c=45↔q<0):=by
 have f:=He q
 have hne:K3 q≠[]:=by
  intro e
  have:=f.eq
  rw [e] at this
  have h2:=f.ne
  have:=congrArg List.length this
  simp only [C64,List.length_nil] at this
  exact h2 (List.eq_nil_of_length_eq_zero (by omega))
 obtain ⟨c,r,e⟩:=C5v hne
 refine ⟨c,r,e,?_⟩
 have hh:=f.head
 rw [e,C6e,C6r,decide_eq_true_iff,beq_iff_eq,C65] at hh
 rw [<- hh,Rat.lt_iff];simp
theorem C5j:rv [48]=0:=by
 have:[48]=K3 0:=by simp [K3,Kf,N4]
 rw [this,Gn]
theorem C3d:K3 0=[48]:=by simp [K3,Kf,N4]
section
variable {h:Heap} {K:VP} {m:Nat} {a b:List UInt8}
theorem Wn(gl:Gl h)(hl:a.length<=100000000)(hK1:IsNum a->K (.bool true) h)(hK0:¬ IsNum a->K (.bool false) h):FCall prog Rl #[.string (bs a)] h K:=by
 refine FCall.pure (B2n _ ?_)
 unfold B7j
 refine Vq ?_ ?_
 ·intro q e _ _
  exact ⟨_,_,_,rfl,Br.of (fun _=>⟨B4 _,hK1 ⟨q,e⟩⟩) (fun e=>by cases e)⟩
 ·refine ⟨_,_,_,rfl,Br.of (fun e=>by cases e) (fun _=>?_)⟩
  refine Ol (by omega) ?_ ?_
  ·intro neg x y f
   refine ⟨_,_,_,_,rfl,Br.of (fun e=>by cases e) (fun _=>?_)⟩
   have hlen:=f.lens
   rw [Y4]
   refine B6 (fun e=>?_) (fun e=>?_)
   ·subst e
    exact ⟨B4 _,hK1 (f.isNum.2 (by unfold Lb;simp))⟩
   ·refine Jc f.da (by omega) ?_
    intro A1 n1 c1 h1 l1 i1
    refine ⟨_,_,_,_,rfl,l1,Jc f.db (by omega) ?_⟩
    intro A2 n2 c2 h2 l2 i2
    refine ⟨_,_,_,_,rfl,l2,Z9 (gl.tz.mono (B0 l1 l2)) (i1.mono l2) i2 (Pg f.da (k:=a.length) (by omega)) (Pg f.db (k:=a.length) (by omega)) (by omega) ?_⟩
    intro A3 n3 c3 h3 l3 i3
    refine ⟨_,_,_,_,rfl,l3,N9 i3 ⟨_,rfl,B4 _,B0 l1 (B0 l2 l3),?_⟩⟩
    rw [Int.gcd_natCast_natCast]
    have hfd:Lb y=J6 y:=by unfold Lb;rw [if_neg e]
    by_cases hg:C5w (J6 x) (J6 y)=1
    ·rw [decide_eq_true (by rw [hg];rfl)]
     exact hK1 (f.isNum.2 (by rw [hfd];exact hg))
    ·rw [decide_eq_false (by omega)]
     exact hK0 (fun hn=>hg (by rw [<- hfd];exact f.isNum.1 hn))
  ·intro hf neg x y
   refine ⟨_,_,_,_,rfl,Br.of (fun _=>⟨B4 _,hK0 ?_⟩) (fun e=>by cases e)⟩
   intro hn
   obtain ⟨neg',a',b',f⟩:=hn.form
   exact hf _ _ _ f
theorem B8o{q:Rat}(hq:q≠0)(hneg:¬ q<0):q.num.sign=1:=by
 have h1:¬ q.num<0:=fun e=>hneg (by rw [Rat.lt_iff];simpa using e)
 have h2:q.num≠0:=fun e=>hq (Rat.num_eq_zero.1 e)
 exact Int.sign_eq_one_of_pos (by omega)
theorem Oj(gl:Gl h)(hl:a.length<=100000000)(hK:K (I (rv a).num.sign) h):FCall prog Tq #[.string (bs a)] h K:=by
 refine B5y _ ?_
 unfold C29
 have e48:((bs a).toList==({ data:=#[48] }:ByteArray).toList)=decide (a=[48]):=Jy a [48]
 rw [e48]
 refine B6 (fun e=>?_) (fun e=>?_)
 ·subst e;rw [C5j] at hK;exact hK
 ·refine Wn gl hl ?_ ?_
  ·rintro ⟨q,rfl⟩
   rw [Gn] at hK
   have hq0:q≠0:=by rintro rfl;exact e C3d
   obtain ⟨c,r,e1,e2⟩:=A1f q
   refine ⟨_,rfl,Br.not ?_⟩
   refine ⟨c,⟨by omega,by rw [Jx,e1];rfl⟩,E5 (fun h1=>?_) (fun h1=>?_)⟩
   ·have hc:c=45:=by apply UInt8.toNat_inj.1;show c.toNat=45;omega
    have:=(Rat.lt_iff q 0).1 (e2.1 hc)
    rw [C6s (by simpa using this)] at hK
    exact hK
   ·have hc:¬ q<0:=fun h2=>h1 (by rw [e2.2 h2];rfl)
    rw [B8o hq0 hc] at hK
    exact hK
  ·intro hn
   rw [A5u hn] at hK
   exact ⟨_,rfl,Br.not hK⟩
end
def C4c(h:Heap)(r:Value)(h':Heap):Prop:=r= .bool true/\h.le h'
theorem A9w{x:List UInt8}{k:Nat}(hl:x.length<=k)(hk:1<=k):Sz (4*k) (rv x):=by
 by_cases hn:IsNum x
 ·obtain ⟨neg,a,b,f⟩:=hn.form
  obtain ⟨h1,h2⟩:=f.rv_num hn
  have hlen:=f.lens
  have habs:(Ql neg a).natAbs=J6 a:=by unfold Ql;split<;>simp
  refine ⟨?_,?_⟩
  ·rw [h1];exact (Pg f.da (k:=k) (by omega)).le (by rw [habs,C5q];exact C6i _)
  ·rw [h2]
   unfold Lb
   split
   ·exact ZB.one (by omega)
   ·exact Pg f.db (by omega)
 ·rw [A5u hn];exact Sz.zero (by omega)
end Go.Proofs.YtajkakhfcokljaaGreatDoor
namespace Go.Proofs.YtajkakhfcokljaaGreatDoor
set_option maxRecDepth 20000
open Go Go.RowKit
def memOf(W:World):Heap:=fun b=>W.heap[b]?
theorem frame_of{P:Program}{f:FuncId}{args:Array Value}{W:World}(x:FCall P f args (memOf W) (C4c (memOf W))):Calls P f args W fun e w'=>e= .returned (.bool true)/\Below W.heap.size W w':=by
 refine (x W (fun b o e=>e)).mono ?_
 rintro e W' ⟨r,h',he,⟨hr,hle⟩,fr⟩
 subst hr
 refine ⟨he,fr.os,fr.tape,fr.output,fr.size,fun k hk=>?_⟩
 have e0:memOf W k=some W.heap[k]:=Array.getElem?_eq_getElem hk
 have:=fr.sim k _ (hle k _ e0)
 rw [this];exact e0.symm
theorem Ov{W:World}{a:Addr}{v:Value}(e:W.cell? a=some v):(memOf W).cell? a=some v:=by
 unfold World.cell? at e
 unfold Heap.cell? memOf
 exact e
theorem A67{P:Program}{W:World}{x:String × DataW Unit}{rest:List (String × DataW Unit)}(h:laidMet P (x::rest) W):laidMet P rest W:=by
 obtain ⟨n,d⟩:=x
 obtain ⟨ps,⟨g,t,cs,fuel,p,q,h1,h2,h3,h4,h5,rfl⟩,h6,h7⟩:=h
 exact ⟨q,h5,(List.nodup_append.1 h6).2.1,fun b off hb=>h7 b off (List.mem_append_right _ hb)⟩
def C3g:List Int:=[0,1,28,2,29,14,24,3,30,22,20,15,25,17,4,8,31,27,13,23,21,19,16,7,26,12,18,6,11,5,10,9]
def B4g:List Int:=[0,1,56,2,57,49,28,3,61,58,42,50,38,29,17,4,62,47,59,36,45,43,51,22,53,39,33,30,24,18,12,5,63,55,48,27,60,41,37,16,46,35,44,21,52,32,23,11,54,26,40,15,34,20,31,10,25,14,19,9,13,8,7,6]
def B8h:List Int:=[1,10,100,1000,10000,100000,1000000,10000000,100000000,1000000000,10000000000,100000000000,1000000000000,10000000000000,100000000000000,1000000000000000,10000000000000000,100000000000000000,1000000000000000000,10000000000000000000]
theorem B6w:prog.globalNamed "math/bits.deBruijn64tab" = some 3:=by kernel_rfl
theorem B6x:prog.globalNamed "internal/strconv.uint64pow10" = some 2:=by kernel_rfl
theorem tabs_gl{W:World}(h:laidMet prog [("math/bits.deBruijn32tab",Rows.laid_math_bits_deBruijn32tab),("math/bits.deBruijn64tab",Rows.laid_math_bits_deBruijn64tab),("internal/strconv.uint64pow10",Rows.laid_internal_strconv_uint64pow10)] W):Gl (memOf W):=by
 have h2:=A67 h
 have h3:=A67 h2
 have t64:Lib.TabIs prog W "math/bits.deBruijn64tab" .u8 B4g:=Lib.tabIs_of_head (rest:=[("internal/strconv.uint64pow10",Rows.laid_internal_strconv_uint64pow10)]) B6w (by kernel_rfl) underlying297 underlying5 (by kernel_rfl) (by kernel_rfl) h2
 have t10:Lib.TabIs prog W "internal/strconv.uint64pow10" .u64 B8h:=Lib.tabIs_of_head (rest:=[]) B6x (by kernel_rfl) underlying287 underlying130 (by kernel_rfl) (by kernel_rfl) h3
 have k64:∀ k,k<64->A1e k<B4g.length/\B4g.getD (A1e k) 0=(k:Int):=by decide +kernel
 have k10:∀ k,k<20->B8h.getD k 0=((10^k:Nat):Int):=by decide +kernel
 refine ⟨fun k hk=>?_,fun k hk=>?_⟩
 ·obtain ⟨a,b⟩:=k64 k hk
  have:=Ov (t64.cell B6w (A1e k) a)
  rw [D9,C67,Nat.zero_add,this,b]
 ·have:=Ov (t10.cell B6x k (by show k<20;exact hk))
  rw [D9,C67,Nat.zero_add,this,k10 k hk]
def B0x(zs:List Int)(k:IntKind):Obj->Obj
 | .cells _ t frozen=>.cells (zs.map (Value.int k)).toArray t frozen
 | o=>o
def layTabs(a:Array Obj):Array Obj:=((a.modify 4 (B0x C3g .u8)).modify 3 (B0x B4g .u8)).modify 2 (B0x B8h .u64)
end Go.Proofs.YtajkakhfcokljaaGreatDoor
