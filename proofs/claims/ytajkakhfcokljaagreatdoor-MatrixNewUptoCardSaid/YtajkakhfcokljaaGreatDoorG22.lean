/-
  Texts of this proof, merged by a program of ours.
-/
import Derived.Test.YtajkakhfcokljaaGreatDoorG21
import Derived.Test.YtajkakhfcokljaaGreatDoorG20
import Derived.Test.YtajkakhfcokljaaGreatDoorG09
import Derived.Test.YtajkakhfcokljaaGreatDoorRows
import Derived.Below
import Derived.ChangeSame
import Derived.WideShapes
import Derived.LaidLaws
import Derived.Lib.LaidTab
open Go.Proofs.Tryz
set_option linter.all false
open Bool renaming eq_iff_iff->B9q
open Int renaming natAbs_natCast->B8t,toNat_natCast->B8u,natCast_pow->B93,natCast_mul->B94,gcd->B9k
open List renaming getElem?_eq_getElem->B8v,exists_cons_of_ne_nil->B8x,getElem?_cons_zero->B8y,takeWhile_append_dropWhile->B91,length_take->B92,length_append->B95,take_of_length_le->B98,take_append_drop->B9b,length_map->B9c,head?_cons->B9d,drop_zero->B9e,take_succ_eq_append_getElem->B9i,getElem_map->B9n
open List.cons renaming injEq->B8z
open Nat renaming pow_le_pow_right->B8w,gcd->B90,mul_one->B97,sub_zero->B99,min_eq_left->B9a,pow_le_pow_left->B9f,le_refl->B9g,lt_of_lt_of_le->B9h,pow_succ->B9l,le_trans->B9m,div_le_self->B9p
open Option.some renaming injEq->B96
open _root_.Go.Value.int renaming injEq->B9o
open _root_.Go.Value.slice renaming injEq->B9j
namespace Go.Proofs.YtajkakhfcokljaaGreatDoor
set_option maxRecDepth 20000
open Go
def El(i:Nat):Nat:=10^(19*2^i)
theorem A4z(i:Nat):El i=(10^19)^(2^i):=Nat.pow_mul _ _ _
theorem A9e(i:Nat):0<El i:=Nat.pow_pos (by decide)
theorem A4y:El 0=10000000000000000000:=by decide
theorem Wa(i:Nat):El (i+1)=El i*El i:=by
 unfold El
 rw [<- Nat.pow_add]
 congr 1
 rw [B9l];omega
theorem B2x(i:Nat):(El i:Int)<b64^(2^i):=by
 have h:(10^19)^(2^i)<(18446744073709551616:Nat)^(2^i):=Nat.pow_lt_pow_left (by decide) (Nat.pos_iff_ne_zero.1 (Nat.pow_pos (by decide)))
 rw [<- A4z] at h
 have h2:((El i:Nat):Int)<((18446744073709551616^(2^i):Nat):Int):=Int.ofNat_lt.2 h
 rw [B93] at h2
 exact h2
theorem B2y(i:Nat):(2:Int)^(63*2^i)<=(El i:Int):=by
 have h:(2^63)^(2^i)<=(10^19)^(2^i):=B9f (by decide) _
 rw [<- A4z,<- Nat.pow_mul] at h
 have h2:((2^(63*2^i):Nat):Int)<=((El i:Nat):Int):=Int.ofNat_le.2 h
 rw [B93] at h2
 exact h2
theorem B4w{k m:Nat}(h:(2:Int)^k<2^m):k<m:=by
 by_cases hk:k<m
 ·exact hk
 ·have:=C8 (B:=2) (by decide) (show m<=k by omega)
  omega
abbrev slT(s:Option Addr × Nat × Nat):Value:=.slice s.1 s.2.1 s.2.2
def Pws(h:Heap)(PA:Option Addr)(k:Nat):Prop:=∃ ss:List (Option Addr × Nat × Nat),ss.length=k/\SlV h PA (ss.map slT)/\∀ i s,ss[i]? = some s->s.2.1<=s.2.2/\Mw h s.1 s.2.1 (El i:Int)
theorem Pws.mono{h h':Heap}(l:h.le h'){PA:Option Addr}{k:Nat}(p:Pws h PA k):Pws h' PA k:=by
 obtain ⟨ss,h1,h2,h3⟩:=p
 exact ⟨ss,h1,h2.mono l,fun i s e=>⟨(h3 i s e).1,(h3 i s e).2.mono l⟩⟩
theorem Pws.take{h:Heap}{PA:Option Addr}{k j:Nat}(p:Pws h PA k)(hj:j<=k):Pws h PA j:=by
 obtain ⟨ss,h1,h2,h3⟩:=p
 refine ⟨ss.take j,by rw [B92];omega,?_,fun i s e=>?_⟩
 ·have:=SlV.cut (c:=(ss.map slT).length) h2 (Nat.zero_le j) (by rw [B9c];omega) (B9g _)
  rw [F8,B9e,B99,<- List.map_take] at this
  exact this
 ·rw [List.getElem?_take] at e
  split at e
  ·exact h3 i s e
  ·cases e
theorem Pws.at{h:Heap}{PA:Option Addr}{k i:Nat}(p:Pws h PA k)(hi:i<k):∃ (a:Addr) (A:Option Addr) (n c:Nat),PA=some a/\h.cell? (a.add i)=some (.slice A n c)/\n<=c/\Mw h A n (El i:Int):=by
 obtain ⟨ss,h1,h2,h3⟩:=p
 obtain ⟨a,ha,hc⟩:=h2.at (i:=i) (by rw [B9c];omega)
 rw [B9n] at hc
 obtain ⟨h4,h5⟩:=h3 i ss[i] (B8v (by omega))
 exact ⟨a,_,_,_,ha,hc,h4,h5⟩
theorem Mw.tenP_le{h:Heap}{A:Option Addr}{n i:Nat}(m:Mw h A n (El i:Int)):n<=2^i:=m.len_le (by decide) (B2x i)
theorem Mw.tenP_ge{h:Heap}{A:Option Addr}{n i:Nat}(m:Mw h A n (El i:Int)):2^i<2*n:=by
 have h1:=m.lt (by decide)
 rw [Gz] at h1
 have h2:=B4w (Int.lt_of_le_of_lt (B2y i) h1)
 omega
theorem Ext.weak{g g0 g' h':Heap}{eT e2:TypeId}{A A':Option Addr}{n c n' c':Nat}{l t:List UInt8}(l0:g0.le g)(x:Ext g eT A n c l t A' n' c' e2 g' h'):Ext g0 eT A n c l t A' n' c' e2 g' h':=⟨Heap.le_trans l0 x.le,x.priv,x.len,x.fit,x.tag⟩
theorem B1f(w n:Nat):w<=(pad w n).length:=by simp [pad];omega
theorem B35{j:Nat}(hj:j<=30):B3 (19*2^(min j 64))=((19*2^j:Nat):Int):=by
 rw [B9a (by omega)]
 have h1:2^j<=2^30:=B8w (by decide) hj
 have h2:(19*2^j:Int)=((19*2^j:Nat):Int):=by rw [B94,B93];rfl
 rw [h2,B5 (by omega) (by have:(2:Nat)^30=1073741824:=by decide
                          omega)]
theorem Uq{l:List UInt8}(hd:∀ c∈l,F9 c):(I5 l:Int)<b64^l.length:=by
 have h1:=Dn hd
 have h2:10^l.length<=(18446744073709551616:Nat)^l.length:=B9f (by decide) _
 have h3:((I5 l:Nat):Int)<((18446744073709551616^l.length:Nat):Int):=Int.ofNat_lt.2 (B9h h1 h2)
 rw [B93] at h3
 exact h3
theorem Mv:∀ (k:Nat) {h g:Heap} {K:VP} {A XA PA:Option Addr} {n c xn xc pc v W:Nat} {eT:TypeId} {l:List UInt8},Gp g->Priv h g eT 1 A n c (yv l)->Mw g XA xn (v:Int)->xn<=xc->xn<=10000000->Pws g PA k->k<=pc->k<=26->(W=0\/W=19*2^k)->n+(pad W v).length<=1000000000->
 (∀ A' n' c' e3 g' h',Ext g eT A n c l (pad W v) A' n' c' e3 g' h'->K (.slice A' n' c') h')->FCall prog G0 #[.slice A n c,.slice XA xn xc,I (W:Int),.slice PA k pc] h K:=by
 intro k
 induction k with
 | zero=>
  intro h g K A XA PA n c xn xc pc v W eT l gp p M hxc hx hP hpc hk hW hn hK
  have:=B1f W v
  refine Fo _ _ _ _ _ _ _ _ _ _ ?_
  unfold Fp
  refine B4 (fun _=>?_) (fun e=>absurd (by decide) e)
  refine Ck gp p M hx (by omega) (by omega) ?_
  intro A' n' c' e2 g' h' x
  exact ⟨_,_,_,rfl,hK _ _ _ e2 g' _ x⟩
 | succ j ih=>
  intro h g K A XA PA n c xn xc pc v W eT l gp p M hxc hx hP hpc hk hW hn hK
  have hge:=B1f W v
  have e1:B3 (((j+1:Nat):Int)-1)=(j:Int):=by rw [B5 (by omega) (by omega)];omega
  refine Fo _ _ _ _ _ _ _ _ _ _ ?_
  unfold Fp
  simp only [e1,B8u,B99,F8,B35 (show j<=30 by omega)]
  refine B4 (fun e=>absurd e (by omega)) (fun _=>B4 (fun _=>?_) (fun _=>?_))
  ·refine Ck gp p M hx (by omega) (by omega) ?_
   intro A' n' c' e2 g' h' x
   exact ⟨_,_,_,rfl,hK _ _ _ e2 g' _ x⟩
  ·obtain ⟨a,PA',pn,pcc,ha,hc,hpc',Mp⟩:=hP.at (i:=j) (by omega)
   refine ⟨a,ha,by omega,by omega,_,_,_,by rw [B97];exact C5 p.le hc,?_⟩
   have hpn:=Mp.tenP_le
   have h2j:2^j<=2^26:=B8w (by decide) (by omega)
   have h24:(2:Nat)^26=67108864:=by decide
   have hpp:=A9e j
   refine p.call ?_
   refine Q0 M Mp hxc hpc' (by omega) (by omega) (by omega) ?_
   intro A1 m1 c1 A2 m2 c2 g1 l1 k1 k2 M1 M2 h1 p1
   refine ⟨_,_,_,_,_,_,rfl,?_⟩
   rw [<- Int.natCast_ediv] at M1
   rw [<- Int.natCast_emod] at M2
   have hv:=Nat.div_add_mod v (El j)
   have hlt:=Nat.mod_lt v hpp
   have hqv:=B9p v (El j)
   generalize v/El j=q at *
   generalize v%El j=r at *
   have hz:=M1.len_zero (by decide)
   have hvlt:=M.lt (by decide)
   have hm1:m1<=xn:=M1.len_le (by decide) (by omega)
   have hm2:m2<=xn:=M2.len_le (by decide) (by
    have h0:0<=El j*q:=Nat.zero_le _
    generalize El j*q=z at *
    omega)
   have hv':v=q*10^(19*2^j)+r:=by rw [<- hv,Nat.mul_comm];rfl
   have hs2:2^(j+1)=2*2^j:=by rw [B9l];omega
   refine B4 (fun e=>absurd e (by omega)) (fun _=>?_)
   refine D8 (fun e0=>D8 (fun eW=>?_) (fun eW=>?_)) (fun e0=>?_)
   ·obtain rfl:W=0:=by omega
    obtain rfl:q=0:=by omega
    obtain rfl:v=r:=by omega
    refine ⟨⟨by omega,by omega⟩,?_⟩
    refine ih (W:=0) (gp.mono l1) p1 M2 k2 (by omega) ((hP.mono l1).take (by omega)) (by omega) (by omega) (.inl rfl) hn ?_
    intro A4 n4 c4 e4 g4 h4 x4
    exact ⟨_,_,_,rfl,hK _ _ _ _ _ _ (x4.weak l1)⟩
   all_goals
    have hw:q≠0\/19*2^j<=W:=by omega
    have hsp:=Wj (w:=W) (h:=q) (l:=r) (k:=19*2^j) hlt hw
    rw [<- hv'] at hsp
    have hpl:(pad (19*2^j) r).length=19*2^j:=Rq hlt
    have hle:(pad W v).length=(pad (W-19*2^j) q).length+19*2^j:=by rw [hsp,B95,hpl]
    refine ⟨⟨by omega,by omega⟩,?_⟩
    have e3:(if (0:Int)>B3 ((W:Int)-((19*2^j:Nat):Int)) then (0:Int) else B3 ((W:Int)-((19*2^j:Nat):Int)))=((W-19*2^j:Nat):Int):=by
     rw [B5 (by omega) (by omega)]
     split<;>omega
    rw [e3]
    refine ih (gp.mono l1) p1 M1 k1 (by omega) ((hP.mono l1).take (by omega)) (by omega) (by omega) (by omega) (by omega) ?_
    intro A3 n3 c3 e3 g3 h3 x3
    have hn3:=x3.len
    have l3:=Heap.le_trans l1 x3.le
    refine ⟨_,_,_,rfl,⟨by omega,by omega⟩,?_⟩
    refine ih (gp.mono l3) x3.priv (M2.mono x3.le) k2 (by omega) ((hP.mono l3).take (by omega)) (by omega) (by omega) (.inr rfl) (by omega) ?_
    intro A4 n4 c4 e4 g4 h4 x4
    refine ⟨_,_,_,rfl,hK _ _ _ e4 g4 _ ?_⟩
    rw [hsp]
    exact (x3.trans x4).weak l1
theorem Er:∀ (k:Nat) {h:Heap} {K:VP} {PA:Option Addr} {pc:Nat} {l:List UInt8},(∀ c∈l,F9 c)->l.length<=100000000->Pws h PA k->k<=pc->k<=30->(∀ A n c h',h.le h'->n<=c->Mw h' A n (I5 l:Int)->K (.slice A n c) h')->FCall prog K0 #[.string (bs l),.slice PA k pc] h K:=by
 intro k
 induction k using Nat.strongRecOn with
 | _ k ih=>
  intro h K PA pc l hd hl hP hpc hk hK
  refine Qz _ _ _ _ ?_
  unfold Px
  rw [I0]
  have simple:FCall prog K5 #[.string (bs l)] h (fun r hp=>∃ (A:Option Addr) (n c:Nat),r= .slice A n c/\K (.slice A n c) hp):=by
   refine Mo hd hl ?_
   intro A n c h' l1 hc M
   exact ⟨_,_,_,rfl,hK _ _ _ _ l1 hc M⟩
  refine ⟨fun s hp=>hp=h/\∃ j:Nat,s=[I ((j:Int)-1)]/\j<=k,fun s _=>(iAt s 0+1).toNat,⟨rfl,k,by rw [B5 (by omega) (by omega)],B9g _⟩,?_⟩
  rintro last hp ⟨rfl,j,hs,hj⟩
  obtain rfl:last=(j:Int)-1:=by simpa using hs
  refine B4 (fun h0=>?_) (fun h0=>B4 (fun _=>simple) (fun e=>absurd (show (j:Int)-1<0 by omega) e))
  obtain ⟨i,rfl⟩:∃ i,j=i+1:=⟨j-1,by omega⟩
  have e0:((i+1:Nat):Int)-1=(i:Int):=by omega
  have hpi:0<2^i:=Nat.pow_pos (by decide)
  simp only [e0,B8u,B99,F8,B35 (show i<=30 by omega)]
  refine B4 (fun e=>absurd e (by omega)) (fun _=>B4 (fun h1=>?_) (fun h1=>?_))
  ·refine ⟨⟨trivial,i,by rw [B5 (by omega) (by omega)],by omega⟩,?_⟩
   simp only [iAt,B8y]
   rw [B5 (by omega) (by omega)]
   omega
  refine B4 (fun e=>absurd e (by omega)) (fun _=>B4 (fun _=>simple) (fun h570=>B4 (fun e=>absurd e (by omega)) (fun _=>?_)))
  have e2:B3 ((l.length:Int)-((19*2^i:Nat):Int))=((l.length-19*2^i:Nat):Int):=by rw [B5 (by omega) (by omega)];omega
  simp only [e2,B8u,K9,B9e,B99]
  obtain ⟨a,PA',pn,pcc,ha,hc,hpc',Mp⟩:=hP.at (i:=i) (by omega)
  refine ⟨⟨by omega,by omega⟩,⟨by omega,by omega⟩,a,ha,by omega,by omega,_,_,_,by rw [B97];exact hc,?_⟩
  have hpn:=Mp.tenP_le
  have h2i:19*2^i<l.length:=by omega
  have hd1:∀ c∈l.take (l.length-19*2^i),F9 c:=fun c hc=>hd c (List.mem_of_mem_take hc)
  have hd2:∀ c∈l.drop (l.length-19*2^i),F9 c:=fun c hc=>hd c (List.mem_of_mem_drop hc)
  have hl1:(l.take (l.length-19*2^i)).length=l.length-19*2^i:=by rw [B92];omega
  have hl2:(l.drop (l.length-19*2^i)).length=19*2^i:=by rw [List.length_drop];omega
  have hval:I5 l=I5 (l.take (l.length-19*2^i))*El i+I5 (l.drop (l.length-19*2^i)):=by
   have:=Do (l.take (l.length-19*2^i)) (l.drop (l.length-19*2^i))
   rw [B9b,hl2] at this
   exact this
  have hb:=Uq hd
  have hb1:=Uq hd1
  have hb2:=Uq hd2
  rw [hl1] at hb1
  rw [hl2] at hb2
  refine ih i (by omega) hd1 (by omega) (hP.take (by omega)) (by omega) (by omega) ?_
  intro A1 n1 c1 h1 l1 k1 M1
  refine ⟨_,_,_,rfl,l1,?_⟩
  have hn1:=M1.len_le (by decide) hb1
  refine G1 M1 (Mp.mono l1) k1 hpc' (by omega) (by omega) ?_
  intro A2 n2 c2 h2 l2 k2 M2
  refine ⟨_,_,_,rfl,l2,⟨by omega,by omega⟩,⟨by omega,by omega⟩,?_⟩
  rw [<- B94] at M2
  have hn2:=M2.len_le (by decide) (Int.lt_of_le_of_lt (Int.ofNat_le.2 (by rw [hval];exact Nat.le_add_right _ _)) hb)
  rw [B98 (by rw [hl2];omega)]
  refine ih i (by omega) hd2 (by omega) ((hP.mono (Heap.le_trans l1 l2)).take (by omega)) (by omega) (by omega) ?_
  intro A3 n3 c3 h3 l3 k3 M3
  refine ⟨_,_,_,rfl,l3,?_⟩
  have hn3:=M3.len_le (by decide) hb2
  refine R9 (M2.mono l3) M3 k2 k3 (by omega) (by omega) ?_
  intro A4 n4 c4 h4 l4 k4 M4
  refine ⟨_,_,_,rfl,l4,hK _ _ _ _ (Heap.le_trans l1 (Heap.le_trans l2 (Heap.le_trans l3 l4))) k4 ?_⟩
  rw [<- Int.natCast_add,<- hval] at M4
  exact M4
section
variable {h g:Heap} {K:VP} {A XA:Option Addr} {n c:Nat} {eT:TypeId} {l:List UInt8}
theorem Wb{hs:Heap}{ss:List (Option Addr × Nat × Nat)}{s:Option Addr × Nat × Nat}(h3:∀ i s,ss[i]? = some s->s.2.1<=s.2.2/\Mw hs s.1 s.2.1 (El i:Int))(h4:s.2.1<=s.2.2/\Mw hs s.1 s.2.1 (El ss.length:Int)):∀ i t,(ss++[s])[i]? = some t->t.2.1<=t.2.2/\Mw hs t.1 t.2.1 (El i:Int):=by
 intro i t e
 by_cases hi:i<ss.length
 ·rw [List.getElem?_append_left hi] at e;exact h3 i t e
 ·rw [List.getElem?_append_right (by omega)] at e
  by_cases h0:i=ss.length
  ·subst h0
   simp at e
   subst e;exact h4
  ·rw [List.getElem?_eq_none (by simp;omega)] at e;cases e
theorem Tc{hs:Heap}{b:Nat}{e:TypeId}: ∀ i (t:Option Addr × Nat × Nat),[((some ⟨b,0,none⟩:Option Addr),1,1)][i]? = some t->t.2.1<=t.2.2/\Mw (hs.put b (.cells #[U 10000000000000000000] e)) t.1 t.2.1 (El i:Int):=by
 intro i t e0
 rcases i with _|i
 ·simp at e0
  subst e0
  refine ⟨B9g _,[10000000000000000000],rfl,SlI.new _ _ _ _ _,?_,?_,?_⟩
  ·intro x hx;simp at hx;subst hx;decide
  ·unfold Norm;simp
  ·rw [A4y];simp [val]
 ·simp at e0
theorem Oe(hd:∀ c∈l,F9 c)(hl:l.length<=100000000)(hK:∀ A n c h',h.le h'->n<=c->Mw h' A n (I5 l:Int)->K (.slice A n c) h'):FCall prog Da #[.string (bs l)] h K:=by
 refine Qy _ ?_
 unfold Pv
 rw [I0]
 refine B4 (fun h5=>?_) (fun _=>?_)
 ·refine Q9 N5 rfl ?_
  intro b1 hb1
  refine ⟨_,_,_,rfl,?_⟩
  refine Bj A1h (Priv.nil _ _ _ none) rfl rfl (by omega) (by omega) ?_
  intro A1 c1 h1 g1 lg1 p1
  refine ⟨fun s hp=>∃ (ss:List (Option Addr × Nat × Nat)) (PA:Option Addr) (k pc:Nat) (g:Heap),s=[.slice PA k pc]/\Priv hp g Cp 1 PA k pc (ss.map slT)/\ss.length=k/\0<k/\h.le g/\(∀ i s,ss[i]? = some s->s.2.1<=s.2.2/\Mw g s.1 s.2.1 (El i:Int))/\2^(k-1)<=l.length,fun s _=>match s with|[.slice _ n _]=>l.length-n|_=>0,⟨[(some ⟨b1,0,none⟩,1,1)],A1,1,c1,g1,rfl,p1,rfl,by omega,Heap.le_trans (Heap.le_put _ hb1) lg1,fun i s e=>⟨(Tc (hs:=h) (b:=b1) (e:=B8) i s e).1,(Tc (hs:=h) (b:=b1) (e:=B8) i s e).2.mono lg1⟩,by simp;omega⟩,?_⟩
  rintro PA k pc hp ⟨ss,PA',k',pc',g,hs,p,hk,hk0,lg,hw,hkl⟩
  simp only [B8z,B9j,and_true] at hs
  obtain ⟨rfl,rfl,rfl⟩:=hs
  have hk27:k-1<27:=by
   by_cases hc:k-1<27
   ·exact hc
   ·have:2^27<=2^(k-1):=B8w (by decide) (by omega)
    have:(2:Nat)^27=134217728:=by decide
    omega
  rw [B8u,B35 (show k<=30 by omega)]
  have e1:B3 ((k:Int)-1)=((k-1:Nat):Int):=by rw [B5 (by omega) (by omega)];omega
  have hPg:Pws hp PA k:=⟨ss,hk,p.slV,fun i s e=>⟨(hw i s e).1,(hw i s e).2.mono p.le⟩⟩
  refine B4 (fun e=>absurd e (by omega)) (fun _=>B4 (fun h6=>?_) (fun h6=>?_))
  ·obtain ⟨a,ha,hc⟩:=p.slV.at (i:=k-1) (by rw [B9c];omega)
   rw [B9n] at hc
   obtain ⟨h4,M⟩:=hw (k-1) (ss[k-1]'(by omega)) (B8v (by omega))
   generalize ss[k-1]'(by omega)=s at *
   rw [e1,B8u,B97]
   refine ⟨a,ha,by omega,by omega,_,_,_,hc,?_⟩
   have hlen:=M.tenP_le
   refine p.call ?_
   refine G1 M M h4 h4 (by omega) (by omega) ?_
   intro A2 m2 c2 g2 l2 k2 M2 h2 p2
   refine ⟨_,_,_,rfl,?_⟩
   refine Bj A1h p2 rfl rfl (by omega) (by omega) ?_
   intro A3 c3 h3 g3 l3 p3
   have hm:2^k=2*2^(k-1):=by
    obtain ⟨i,rfl⟩:∃ i,k=i+1:=⟨k-1,by omega⟩
    rw [B9l];simp;omega
   have hkk:k<2^k:=Nat.lt_two_pow_self
   refine ⟨⟨ss++[(A2,m2,c2)],A3,k+1,c3,g3,rfl,?_,by simp;omega,by omega,Heap.le_trans lg (Heap.le_trans l2 l3),?_,?_⟩,?_⟩
   ·rw [List.map_append];exact p3
   ·refine Wb (fun i s e=>⟨(hw i s e).1,(hw i s e).2.mono (Heap.le_trans l2 l3)⟩) ⟨k2,?_⟩
    rw [hk,show El k=El (k-1)*El (k-1) by rw [<- Wa];congr 1;omega,B94]
    exact M2.mono l3
   ·rw [Nat.add_sub_cancel];omega
   ·show l.length-(k+1)<l.length-k
    omega
  ·refine Er k hd hl hPg p.2.1 (by omega) ?_
   intro A n c h' l1 hc M
   exact ⟨_,_,_,rfl,hK _ _ _ _ (Heap.le_trans lg (Heap.le_trans p.le l1)) hc M⟩
 ·refine Er 0 hd hl ⟨[],rfl,SlV.nil,by simp⟩ (by omega) (by omega) ?_
  intro A n c h' l1 hc M
  exact ⟨_,_,_,rfl,hK _ _ _ _ l1 hc M⟩
theorem Gb(hd:∀ c∈l,F9 c)(hl:l.length<=100000000)(hK:∀ A n c h',h.le h'->ZI h' false A n c (I5 l:Int)->K (.agg #[.bool false,.slice A n c]) h'):FCall prog Gf #[.string (bs l)] h K:=by
 refine A7r _ ?_
 unfold B26
 refine Oe hd hl ?_
 intro A n c h' l1 hc M
 refine ⟨_,_,_,rfl,hK _ _ _ _ l1 ⟨hc,?_,?_⟩⟩
 ·rw [B8t];exact M
 ·symm;rw [decide_eq_false_iff_not];omega
end
theorem Priv.le_put'{h g:Heap}{e:TypeId}{s:Nat}{A:Option Addr}{n c:Nat}{xs:List Value}(p:Priv h g e s A n c xs){b:Nat}(hb:h b=none)(o:Obj):g.le (g.put b o):=by
 intro k o' hk
 have hne:k≠b:=by
  rintro rfl
  rw [p.le k o' hk] at hb;cases hb
 rw [B6 _ _ hne];exact hk
theorem A4l{n:Int}(h0:9223372036854775808<=n)(h1:n<18446744073709551616):B3 n=n-18446744073709551616:=by
 unfold B3 IntKind.wrap
 simp only [IntKind.signed,IntKind.bits]
 have e:n%18446744073709551616=n:=by omega
 simp only [show (2^64:Int)=18446744073709551616 from rfl,show (2^(64-1):Int)=9223372036854775808 from rfl,e]
 rw [if_pos (by simp;omega)]
section
variable {h g:Heap} {K:VP} {A XA:Option Addr} {n c:Nat} {eT:TypeId} {l:List UInt8}
theorem B5p{v xn:Nat}(hv:(v:Int)<b64^xn):(dd v).length<=20*xn:=by
 refine O0.2 ?_
 rw [Nat.pow_mul]
 have h1:((v:Nat):Int)<((18446744073709551616^xn:Nat):Int):=by rw [B93];exact hv
 exact B9h (Int.ofNat_lt.1 h1) (B9f (by decide) _)
theorem Dw{xn xc v:Nat}(gp:Gp g)(p:Priv h g eT 1 A n c (yv l))(M:Mw g XA xn (v:Int))(hxc:xn<=xc)(hx:xn<=10000000)(hn:n<=200000000)
 (hK:∀ A' n' c' e3 g' h',Ext g eT A n c l (L3 v) A' n' c' e3 g' h'->K (.slice A' n' c') h'):FCall prog T9 #[.slice A n c,.slice XA xn xc] h K:=by
 have h0:=M.len_zero (by decide)
 refine Qc _ _ _ _ _ _ ?_
 unfold Md
 refine D8 (fun e=>?_) (fun e=>?_)
 ·obtain rfl:v=0:=by omega
  refine Ij (ch:=48) rfl p (by omega) ?_
  intro A' n' c' e2 g' h' x
  exact hK _ _ _ _ _ _ x
 ·have hv0:v≠0:=by omega
  refine D8 (fun e1=>?_) (fun e1=>?_)
  ·obtain ⟨xs,hxl,sx,dx,nx,hxv⟩:=M
   obtain ⟨w,rfl⟩:∃ w,xs=[w]:=by
    rcases xs with _|⟨w,_|⟨w',r⟩⟩
    ·simp at hxl;omega
    ·exact ⟨w,rfl⟩
    ·simp at hxl;omega
   rw [S1] at hxv
   subst hxv
   refine (SlI.mono p.le sx).load hxl (by omega) (by omega) ?_
   have hw:=dx v (by simp)
   refine Dv (gp.mono p.le) p (by have:(v:Int)<18446744073709551616:=hw.2;omega) (by omega) ?_
   intro A' n' c' e2 g' h' x
   exact ⟨_,_,_,rfl,hK _ _ _ _ _ _ x⟩
  ·have hdl:=B5p (M.lt (by decide))
   have hpl:(pad 0 v).length<=200000000:=by rw [A1s];omega
   refine Q9 N5 rfl ?_
   intro b1 hb1
   refine ⟨_,_,_,rfl,?_⟩
   have p1:=p.put hb1 (.cells #[U 10000000000000000000] B8)
   have l1:=p.le_put' hb1 (.cells #[U 10000000000000000000] B8)
   have w1:=fun i s e=>Tc (hs:=g) (b:=b1) (e:=B8) i s e
   generalize h.put b1 (Obj.cells #[U 10000000000000000000] B8)=h1 at *
   generalize g.put b1 (Obj.cells #[U 10000000000000000000] B8)=g1 at *
   refine Q9 A1h rfl ?_
   intro b2 hb2
   refine ⟨_,_,_,rfl,?_⟩
   have split:∀ {hp:Heap} {ss:List (Option Addr × Nat × Nat)} {PA:Option Addr} {k pc:Nat} {gp1 gp2:Heap},Priv hp gp1 Cp 1 PA k pc (ss.map slT)->Priv gp1 gp2 eT 1 A n c (yv l)->ss.length=k->g.le gp2->(∀ i s,ss[i]? = some s->s.2.1<=s.2.2/\Mw gp2 s.1 s.2.1 (El i:Int))->k<=26->
    FCall prog G0 #[.slice A n c,.slice XA xn xc,I (0:Int),.slice PA k pc] hp (fun r hp9=>∃ (A1:Option Addr) (n1 c1:Nat),r= .slice A1 n1 c1/\K (.slice A1 n1 c1) hp9):=by
    intro hp ss PA k pc gp1 gp2 pP pT hk lg hw hk24
    obtain ⟨g3,pT3,pP3⟩:=pP.swap pT
    have l3:=Heap.le_trans lg pP3.le
    refine Mv k (W:=0) (gp.mono l3) pT3 (M.mono l3) hxc hx ⟨ss,hk,pP3.slV,fun i s e=>⟨(hw i s e).1,(hw i s e).2.mono pP3.le⟩⟩ pP3.2.1 hk24 (.inl rfl) (by omega) ?_
    intro A' n' c' e2 g' h' x
    refine ⟨_,_,_,rfl,hK _ _ _ e2 g' _ ?_⟩
    rw [A1s,<- U3 hv0] at x
    exact x.weak l3
   refine ⟨fun s hp=>∃ (ss:List (Option Addr × Nat × Nat)) (PA:Option Addr) (k pc:Nat) (gp1 gp2:Heap),s=[.slice PA k pc]/\Priv hp gp1 Cp 1 PA k pc (ss.map slT)/\Priv gp1 gp2 eT 1 A n c (yv l)/\ss.length=k/\0<k/\g.le gp2/\(∀ i s,ss[i]? = some s->s.2.1<=s.2.2/\Mw gp2 s.1 s.2.1 (El i:Int))/\2^(k-1)<=2*xn,fun s _=>match s with|[.slice _ n _]=>xn-n|_=>0,⟨[(some ⟨b1,0,none⟩,1,1)],_,1,1,h1,g1,rfl,⟨by simp,by simp,.inr ⟨b2,[.slice (some ⟨b1,0,none⟩) 1 1],rfl,hb2,rfl,by simp,by simp⟩⟩,p1,rfl,by omega,l1,w1,by simp;omega⟩,?_⟩
   rintro PA k pc hp ⟨ss,PA',k',pc',gp1,gp2,hs,pP,pT,hk,hk0,lg,hw,hkx⟩
   simp only [B8z,B9j,and_true] at hs
   obtain ⟨rfl,rfl,rfl⟩:=hs
   have hk24:k<=26:=by
    by_cases hc:k<=26
    ·exact hc
    ·have h1:2^26<=2^(k-1):=B8w (by decide) (by omega)
     have h2:(2:Nat)^26=67108864:=by decide
     omega
   refine B4 (fun h30=>?_) (fun _=>split pP pT hk lg hw hk24)
   have e1:B3 ((k:Int)-1)=((k-1:Nat):Int):=by rw [B5 (by omega) (by omega)];omega
   obtain ⟨a,ha,hc⟩:=pP.slV.at (i:=k-1) (by rw [B9c];omega)
   rw [B9n] at hc
   obtain ⟨h4,Mk⟩:=hw (k-1) (ss[k-1]'(by omega)) (B8v (by omega))
   generalize ss[k-1]'(by omega)=s at *
   simp only [e1,B8u,B97]
   refine ⟨a,ha,by omega,by omega,_,_,_,hc,?_⟩
   have hge:=Mk.tenP_ge
   have hle:=Mk.tenP_le
   have e2:B3 (2*(s.2.1:Int))=2*(s.2.1:Int):=B5 (by omega) (by omega)
   rw [e2]
   refine B4 (fun h5=>?_) (fun _=>split pP pT hk lg hw hk24)
   refine ⟨a,ha,by omega,by omega,_,_,_,hc,?_⟩
   refine pP.call (pT.call ?_)
   refine G1 Mk Mk h4 h4 (by omega) (by omega) ?_
   intro A2 m2 c2 g2 l2 k2 M2 gp1' pT' hp' pP'
   refine ⟨_,_,_,rfl,?_⟩
   refine Bj A1h pP' rfl rfl (by omega) (by omega) ?_
   intro A3 c3 h3 g3 l3 p3
   obtain ⟨g4,l4,pT4⟩:=pT'.after l3
   have hm:2^k=2*2^(k-1):=by
    obtain ⟨i,rfl⟩:∃ i,k=i+1:=⟨k-1,by omega⟩
    rw [B9l];simp;omega
   have hkk:k<2^k:=Nat.lt_two_pow_self
   refine ⟨⟨ss++[(A2,m2,c2)],A3,k+1,c3,g3,g4,rfl,?_,pT4,by simp;omega,by omega,Heap.le_trans lg (Heap.le_trans l2 l4),?_,?_⟩,?_⟩
   ·rw [List.map_append];exact p3
   ·refine Wb (fun i s e=>⟨(hw i s e).1,(hw i s e).2.mono (Heap.le_trans l2 l4)⟩) ⟨k2,?_⟩
    rw [hk,show El k=El (k-1)*El (k-1) by rw [<- Wa];congr 1;omega,B94]
    exact M2.mono l4
   ·rw [Nat.add_sub_cancel];omega
   ·show xn-(k+1)<xn-k
    omega
theorem A92{z:Int}{s:Bool}{xn xc m:Nat}(i:ZI h s XA xn xc z)(hz:ZB m z)(hm:m<=100000000):xn<=10000000:=by
 obtain ⟨k,hk⟩:∃ k,k=10000000:=⟨_,rfl⟩
 rw [<- hk]
 refine i.mag.len_le (by decide) ?_
 rw [Gz]
 have h1:(z.natAbs:Int)<2^m:=by
  have:((z.natAbs:Nat):Int)<((2^m:Nat):Int):=Int.ofNat_lt.2 hz
  simpa using this
 have h2:=C8 (B:=2) (by decide) (show m<=64*k by omega)
 exact Int.lt_of_lt_of_le h1 h2
theorem Eg{s:Bool}{xn xc:Nat}{z:Int}(gp:Gp g)(p:Priv h g eT 1 A n c (yv l))(i:ZI g s XA xn xc z){m:Nat}(hz:ZB m z)(hm:m<=100000000)(hn:n<=100000000)
 (hK:∀ A' n' c' e3 g' h',Ext g eT A n c l (Kc z) A' n' c' e3 g' h'->K (.slice A' n' c') h'):FCall prog Ev #[.agg #[.bool s,.slice XA xn xc],.slice A n c] h K:=by
 have hx:=A92 i hz hm
 refine A3v _ _ _ _ _ _ _ ?_
 unfold A7o
 refine Br.of (fun e=>?_) (fun e=>?_)
 ·have hneg:z<0:=by have:=i.sgn;rw [e] at this;simpa using this.symm
  rw [A1f hneg] at hK
  refine Ij (ch:=45) rfl p (by omega) ?_
  intro A1 n1 c1 e1 g1 hp1 x1
  have:=x1.len
  refine Dw (gp.mono x1.le) x1.priv (i.mag.mono x1.le) i.cap hx (by simp at this;omega) ?_
  intro A2 n2 c2 e2 g2 hp2 x2
  exact ⟨_,_,_,rfl,hK _ _ _ _ _ _ (x1.trans x2)⟩
 ·have hneg:¬ z<0:=by have:=i.sgn;rw [e] at this;simpa using this.symm
  rw [Ni hneg] at hK
  refine Dw gp p i.mag i.cap hx (by omega) ?_
  intro A2 n2 c2 e2 g2 hp2 x2
  exact ⟨_,_,_,rfl,hK _ _ _ _ _ _ x2⟩
theorem Vn{s:Bool}{xn xc:Nat}{z:Int}(gp:Gp h)(i:ZI h s XA xn xc z){m:Nat}(hz:ZB m z)(hm:m<=100000000)(hK:K (.string (bs (Kc z))) h):FCall prog On #[.agg #[.bool s,.slice XA xn xc]] h K:=by
 refine FCall.pure (A3s _ _ _ _ ?_)
 unfold A7i
 refine Eg (l:=[]) (eT:=F5) gp (Priv.nil _ _ _ _) i hz hm (by omega) ?_
 intro A' n' c' e2 g' h' x
 refine ⟨_,_,_,rfl,?_⟩
 have hx:=x.len
 refine Ib Dt.und Bs S2 x.priv.slV (by simpa using hx) ⟨_,rfl,?_⟩
 exact ⟨Heap.le_trans x.le x.priv.le,hK⟩
theorem Yv{s:Bool}{xn xc:Nat}{z:Int}(i:ZI h s XA xn xc z)(hK1: -9223372036854775808<=z->z<9223372036854775808->K (.tuple #[I z,.bool true]) h)(hK0:¬ (-9223372036854775808<=z/\z<9223372036854775808)->K (.tuple #[I 0,.bool false]) h):FCall prog Tz #[.agg #[.bool s,.slice XA xn xc]] h K:=by
 have hz:=i.zeroIff
 have cx:=U5 i.sgn
 refine A7m _ _ _ _ ?_
 unfold B24
 refine D8 (fun e=>?_) (fun e=>?_)
 ·obtain rfl:z=0:=by omega
  exact hK1 (by omega) (by omega)
 ·obtain ⟨xs,hxl,sx,dx,nx,hxv⟩:=i.mag
  have g0:=K8 dx 0
  refine sx.load hxl (by omega) (by omega) ?_
  rw [show ((0:Int)).toNat=0 from rfl]
  refine B4 (fun e1=>?_) (fun e1=>?_)
  ·refine hK0 ?_
   have hge:=i.mag.ge (by decide) (by omega)
   have h2:b64^1<=b64^(xn-1):=C8 (by decide) (by omega)
   have h3:b64^1=18446744073709551616:=by decide
   omega
  ·obtain ⟨w,rfl⟩:∃ w,xs=[w]:=by
    rcases xs with _|⟨w,_|⟨w',r⟩⟩
    ·simp at hxl;omega
    ·exact ⟨w,rfl⟩
    ·simp at hxl;omega
   rw [S1] at hxv
   have hw:[w].getD 0 0=w:=rfl
   rw [hw] at g0 ⊢
   rcases cx with ⟨rfl,hx⟩|⟨rfl,hx⟩
   ·refine Br.of (fun _=>?_) (fun e2=>by cases e2)
    refine B4 (fun e3=>?_) (fun e3=>?_)
    ·have:B3 (B7 (0-w))=z:=by rw [F4,A4l (by omega) (by omega)];omega
     rw [this];exact hK1 (by omega) (by omega)
    ·refine Br.of (fun e4=>by cases e4) (fun _=>?_)
     exact hK0 (by omega)
   ·refine Br.of (fun e2=>by cases e2) (fun _=>?_)
    refine Br.of (fun _=>?_) (fun e4=>by cases e4)
    refine B4 (fun e3=>?_) (fun e3=>?_)
    ·have:B3 w=z:=by rw [B5 (by omega) (by omega)];omega
     rw [this];exact hK1 (by omega) (by omega)
    ·exact hK0 (by omega)
end
theorem A5v(a b:Rat):(a*b).num=a.num.tdiv (B90 a.num.natAbs b.den:Nat)*b.num.tdiv (B90 b.num.natAbs a.den:Nat)/\(a*b).den=a.den/(B90 b.num.natAbs a.den)*(b.den/(B90 a.num.natAbs b.den)):=by
 show (Rat.mul a b).num=_/\(Rat.mul a b).den=_
 delta Rat.mul
 simp only [Int.divExact_eq_tdiv,Nat.divExact_eq_div,and_self]
theorem B1v{q:Rat}(h:q.den=1):q=(q.num:Rat):=by
 apply Rat.ext
 ·simp
 ·simpa using h
abbrev dgt(c:UInt8):Bool:=decide (F9 c)
theorem Ic(l:List UInt8):∀ c∈l.takeWhile dgt,F9 c:=by
 induction l with
 | nil=>simp
 | cons d r ih=>
  intro c hc
  by_cases hd:F9 d
  ·simp [hd] at hc
   rcases hc with rfl|hc
   ·exact hd
   ·exact ih c hc
  ·simp [hd] at hc
def A9u(l:List UInt8):Bool:=decide ([45] <+: l)
def By(l:List UInt8):List UInt8:=if [45] <+: l then l.drop 1 else l
theorem A1r(l:List UInt8):l=(if A9u l then [45] else [])++By l:=by
 unfold A9u By
 by_cases h:[45] <+: l
 ·obtain ⟨t,rfl⟩:=h;simp
 ·simp [h]
theorem A5g(l:List UInt8):A9u l=(l.head? == some 45):=by
 unfold A9u
 cases l with
 | nil=>simp
 | cons c r=>
  rw [B9d,B9q,decide_eq_true_iff,beq_iff_eq,B96]
  constructor
  ·rintro ⟨t,e⟩;simp at e;exact e.1.symm
  ·rintro rfl;exact ⟨r,rfl⟩
theorem Form.parts{l:List UInt8}{neg:Bool}{a b:List UInt8}(f:Form l neg a b):neg=A9u l/\a=(By l).takeWhile dgt/\(if b=[] then [] else 47::b)=(By l).dropWhile dgt:=by
 have hn:neg=A9u l:=by rw [A5g];exact f.head
 have e:=A1r l
 rw [<- hn] at e
 have e2:=e.symm.trans f.eq
 rw [List.append_assoc] at e2
 have e3:=List.append_cancel_left e2
 have hr:∀ c,(if b=[] then [] else 47::b:List UInt8).head? = some c->¬ F9 c:=by
  intro c hc
  split at hc
  ·simp at hc
  ·simp at hc;subst hc;decide
 have:=Ct f.da hr
 rw [<- e3] at this
 exact ⟨hn,this.1.symm,this.2.symm⟩
section
variable {h g:Heap} {K:VP} {l:List UInt8}
theorem Gt(hl:l.length<=1000000000)(hK:K (.tuple #[.string (bs (l.takeWhile dgt)),.string (bs (l.dropWhile dgt))]) h):FCall prog U7 #[.string (bs l)] h K:=by
 refine Vb _ ?_
 unfold Sh
 simp only [I0]
 refine ⟨fun L hp=>L=[I (((l.takeWhile dgt).length:Nat):Int)]/\hp=h,?_,?_⟩
 ·refine ⟨fun L hp=>∃ k:Nat,L=[I k]/\hp=h/\k<=l.length/\(∀ c∈l.take k,F9 c),fun L _=>l.length-(iAt L 0).toNat,⟨0,rfl,rfl,by omega,by simp⟩,?_⟩
  rintro n hp ⟨k,hL,rfl,hk,hd⟩
  obtain rfl:=sI1 hL
  have stop:(∀ c,(l.drop k).head? = some c->¬ F9 c)->[I (k:Int)]=[I (((l.takeWhile dgt).length:Nat):Int)]/\hp=hp:=by
   intro hs
   have:=Ct hd hs
   rw [B9b] at this
   refine ⟨?_,rfl⟩
   rw [this.1,B92,B9a hk]
  refine B4 (fun h1=>?_) (fun h1=>?_)
  ·have hkl:k<l.length:=by omega
   have hget:(bs l)[(k:Int).toNat]? = some l[k]:=by rw [B8u,Jj,B8v hkl]
   have hh:(l.drop k).head? = some l[k]:=by rw [List.head?_drop,B8v hkl]
   refine ⟨l[k],⟨by omega,hget⟩,B4 (fun h2=>?_) (fun h2=>?_)⟩
   ·refine ⟨l[k],⟨by omega,hget⟩,B4 (fun h3=>?_) (fun h3=>?_)⟩
    ·rw [B5 (by omega) (by omega)]
     refine ⟨⟨k+1,rfl,rfl,by omega,?_⟩,by simp only [iAt,B8y];omega⟩
     rw [B9i hkl]
     intro c hc
     rcases List.mem_append.1 hc with h4|h4
     ·exact hd c h4
     ·rw [List.mem_singleton.1 h4];exact ⟨by omega,by omega⟩
    ·exact stop (fun c hc=>by rw [hh] at hc;cases hc;intro hd;exact h3 (by have:=hd.2;omega))
   ·exact stop (fun c hc=>by rw [hh] at hc;cases hc;intro hd;exact h2 (by have:=hd.1;omega))
  ·exact stop (fun c hc=>by rw [List.drop_of_length_le (by omega)] at hc;cases hc)
 ·rintro n hp ⟨hL,rfl⟩
  obtain rfl:n=(((l.takeWhile dgt).length:Nat):Int):=by simpa using hL
  have hle:(l.takeWhile dgt).length<=l.length:=(List.takeWhile_sublist _).length_le
  have e1:l.take (l.takeWhile dgt).length=l.takeWhile dgt:=by
   conv=>lhs;rw [<- B91 (p:=dgt) (l:=l)]
   rw [B91,List.prefix_iff_eq_take.1 (List.takeWhile_prefix _)]
   rw [B92,B9a hle]
  have e2:l.drop (l.takeWhile dgt).length=l.dropWhile dgt:=by
   have h5:l.takeWhile dgt++l.drop (l.takeWhile dgt).length=l.takeWhile dgt++l.dropWhile dgt:=by
    rw [B91]
    conv=>lhs;lhs;rw [<- e1]
    exact B9b _ _
   exact List.append_cancel_left h5
  refine ⟨⟨by omega,by omega⟩,⟨by omega,by omega⟩,?_⟩
  rw [B8u,K9,K9,B9e,B99,e1,e2,B98 (by rw [<- e2,List.length_drop];omega)]
  exact hK
theorem T3(a:List UInt8):((bs a).toList==({ data:=#[] }:ByteArray).toList)=decide (a=[]):=Lw a []
theorem Kg(hl:l.length<=1000000000)(hK1:∀ neg a b,Form l neg a b->K (.tuple #[.agg #[.bool neg,.string (bs a),.string (bs b)],.bool true]) h)(hK0:(∀ neg a b,¬ Form l neg a b)->∀ neg a b,K (.tuple #[.agg #[.bool neg,.string (bs a),.string (bs b)],.bool false]) h):FCall prog Iz #[.string (bs l)] h K:=by
 refine A7w _ ?_
 unfold B2b
 refine Qv (q:=[45]) ⟨_,_,rfl,?_⟩
 have hpl:(By l).length<=l.length:=by unfold By;split<;>simp
 show FCall prog U7 #[.string (bs (By l))] h _
 refine Gt (by omega) ⟨_,_,rfl,?_⟩
 show Br _ _ _
 have hspl:By l=(By l).takeWhile dgt++(By l).dropWhile dgt:=List.takeWhile_append_dropWhile.symm
 have hda:∀ c∈(By l).takeWhile dgt,F9 c:=Ic _
 have hfp:∀ neg a b,Form l neg a b->neg=A9u l/\a=(By l).takeWhile dgt/\(if b=[] then [] else 47::b)=(By l).dropWhile dgt:=fun neg a b f=>f.parts
 have hl2:=A1r l
 have hal:((By l).takeWhile dgt).length<=l.length:=B9m (List.takeWhile_sublist _).length_le hpl
 have hrl:((By l).dropWhile dgt).length<=l.length:=B9m (List.dropWhile_sublist _).length_le hpl
 have hrh:∀ c,((By l).dropWhile dgt).head? = some c->¬ F9 c:=fun c hc=>by
  have:=List.head?_dropWhile_not dgt (By l)
  rw [hc] at this
  simpa using this
 show Br _ _ _
 have hneg:decide ([45] <+: l)=A9u l:=rfl
 rw [hneg]
 generalize A9u l=neg at *
 generalize (By l).takeWhile dgt=a at *
 generalize (By l).dropWhile dgt=r at *
 generalize By l=t at *
 subst hspl
 have e48:((bs a).toList==({ data:=#[48] }:ByteArray).toList)=decide (a=[48]):=Lw a [48]
 rw [e48,T3,T3]
 refine B4 (fun h1=>?_) (fun h1=>?_)
 ·subst h1
  refine Ax (Br.of (fun hn=>?_) (fun hn=>?_))
  ·subst hn
   refine hK0 ?_ _ _ []
   intro n' a' b' f
   obtain ⟨rfl,rfl,_⟩:=hfp _ _ _ f
   rcases f.ha with h2|h2
   ·exact h2 rfl
   ·cases h2.2.1
  ·subst hn
   by_cases hr:r=[]
   ·rw [decide_eq_true hr]
    subst hr
    refine hK1 false [48] [] ⟨by simpa using hl2,by simpa using hda,by simp,by simp,.inr ⟨rfl,rfl,rfl⟩,by simp,by simp⟩
   ·rw [decide_eq_false hr]
    refine hK0 ?_ _ _ []
    intro n' a' b' f
    obtain ⟨rfl,rfl,h3⟩:=hfp _ _ _ f
    rcases f.ha with h2|h2
    ·exact h2 rfl
    ·rw [h2.2.2] at h3;exact hr (by simpa using h3.symm)
 ·refine ⟨fun L hp=>L=[.bool (decide (a=[]\/a.head? = some 48))]/\hp=h,?_,?_⟩
  ·refine B4 (fun h2=>⟨by simp [h2],rfl⟩) (fun h2=>?_)
   obtain ⟨c,r2,rfl⟩:=B8x h2
   refine ⟨c,⟨by omega,by rw [Jj];rfl⟩,?_,rfl⟩
   congr 2
   rw [B9q,beq_iff_eq,decide_eq_true_iff]
   simp only [reduceCtorEq,false_or,B9d,B96]
   constructor
   ·intro e;apply UInt8.toNat_inj.1;show c.toNat=48;omega
   ·rintro rfl;rfl
  rintro t31 hp ⟨hL,rfl⟩
  obtain rfl:t31=decide (a=[]\/a.head? = some 48):=by simpa using hL
  refine B4 (fun h2=>?_) (fun h2=>?_)
  ·refine hK0 ?_ _ _ []
   intro n' a' b' f
   obtain ⟨rfl,rfl,_⟩:=hfp _ _ _ f
   rcases h2 with h2|h2
   ·exact f.ne h2
   ·rcases f.ha with h3|h3
    ·exact h3 h2
    ·exact h1 h3.1
  ·have hane:a≠[]:=fun e=>h2 (.inl e)
   have hah:a.head? ≠ some 48:=fun e=>h2 (.inr e)
   refine B4 (fun h3=>?_) (fun h3=>?_)
   ·subst h3
    exact hK1 neg a [] ⟨by simpa using hl2,hda,by simp,hane,.inl hah,by simp,by simp⟩
   ·obtain ⟨c,r2,rfl⟩:=B8x h3
    refine ⟨c,⟨by omega,by rw [Jj];rfl⟩,O1 (fun h4=>?_) (fun h4=>?_)⟩
    ·refine hK0 ?_ _ _ []
     intro n' a' b' f
     obtain ⟨rfl,rfl,h5⟩:=hfp _ _ _ f
     by_cases hb:b'=[]
     ·simp [hb] at h5
     ·rw [if_neg hb] at h5
      simp at h5
      exact h4 (by rw [<- h5.1];rfl)
    ·have hc:c=47:=by apply UInt8.toNat_inj.1;show c.toNat=47;omega
     subst hc
     refine ⟨⟨by omega,by rw [I0];simp;omega⟩,?_⟩
     rw [K9,show ((1:Int)).toNat=1 from rfl,I0,B98 (by simp),List.drop_succ_cons,B9e]
     refine Gt (by simp at hrl;omega) ⟨_,_,rfl,?_⟩
     have hsp2:r2=r2.takeWhile dgt++r2.dropWhile dgt:=List.takeWhile_append_dropWhile.symm
     have hdb:∀ c∈r2.takeWhile dgt,F9 c:=Ic _
     have hbp:∀ b':List UInt8,(∀ c∈b',F9 c)->b'=r2->r2.takeWhile dgt=b'/\r2.dropWhile dgt=[]:=by
      intro b' hd e
      subst e
      have:=Ct (r:=[]) hd (by simp)
      simpa using this
     generalize r2.takeWhile dgt=b at *
     generalize r2.dropWhile dgt=s at *
     have no:(s≠[]\/b=[]\/b.head? = some 48\/b=[49])->∀ neg' a' b',¬ Form (((if neg=true then [45] else [])++(a++47::r2))) neg' a' b':=by
      rintro hbad n' a' b' f
      rw [<- hl2] at f
      obtain ⟨rfl,rfl,h5⟩:=hfp _ _ _ f
      by_cases hb:b'=[]
      ·simp [hb] at h5
      ·rw [if_neg hb] at h5
       simp at h5
       obtain ⟨e6,e7⟩:=hbp b' f.db h5
       subst e6
       rcases hbad with h6|h6|h6|h6
       ·exact h6 e7
       ·exact hb h6
       ·exact f.hb h6
       ·exact f.b1 h6
     rw [T3,T3]
     have e49:((bs b).toList==({ data:=#[49] }:ByteArray).toList)=decide (b=[49]):=Lw b [49]
     rw [e49]
     refine B4 (fun h6=>?_) (fun h6=>hK0 (by rw [hl2];exact no (.inl h6)) _ _ _)
     subst h6
     rw [List.append_nil] at hsp2
     subst hsp2
     refine Ax (B4 (fun h7=>hK0 (by rw [hl2];exact no (.inr (.inl h7))) _ _ _) (fun h7=>?_))
     obtain ⟨c,r3,rfl⟩:=B8x h7
     refine ⟨c,⟨by omega,by rw [Jj];rfl⟩,O1 (fun h8=>?_) (fun h8=>?_)⟩
     ·by_cases h9:c::r3=[49]
      ·rw [decide_eq_true h9]
       exact hK0 (by rw [hl2];exact no (.inr (.inr (.inr h9)))) _ _ _
      ·rw [decide_eq_false h9]
       refine hK1 neg a (c::r3) ⟨by simpa using hl2,hda,hdb,hane,.inl hah,?_,h9⟩
       intro e;simp at e;exact h8 (by rw [e];rfl)
     ·have hh:(c::r3).head? = some 48:=by
       simp only [B9d,B96]
       apply UInt8.toNat_inj.1;show c.toNat=48;omega
      exact hK0 (by rw [hl2];exact no (.inr (.inr (.inl hh)))) _ _ _
end
theorem A99{q:Rat}(h:q.den=1):O2 q=Kc q.num:=by unfold O2;rw [if_pos h,List.append_nil]
theorem A4u{q:Rat}(h:q.den≠1):O2 q=Kc q.num++[47]++Kc (q.den:Int):=by
 unfold O2;rw [if_neg h,Ni (i:=(q.den:Int)) (by omega),B8t];simp
section
variable {h g:Heap} {K:VP} {l:List UInt8}
theorem B6y{k:Nat}(h:k<=18):10^k<=1000000000000000000:=B9m (B8w (by decide) h) (by decide)
theorem Du(hd:∀ c∈l,F9 c)(hl:l.length<=18)(hK:K (I (I5 l:Int)) h):FCall prog U1 #[.string (bs l)] h K:=by
 refine Qh _ ?_
 unfold Me
 simp only [I0]
 refine ⟨fun L hp=>∃ k:Nat,L=[I (I5 (l.take k):Int),I k]/\hp=h/\k<=l.length,fun L _=>l.length-(iAt L 1).toNat,⟨0,rfl,rfl,by omega⟩,?_⟩
 rintro n t7 hp ⟨k,hL,rfl,hk⟩
 simp only [B8z,B9o,and_true,true_and] at hL
 obtain ⟨rfl,rfl⟩:=hL
 refine B4 (fun h1=>?_) (fun h1=>?_)
 ·have hkl:k<l.length:=by omega
  have hdc:=hd l[k] (List.getElem_mem hkl)
  have hlt:=Dn (l:=l.take (k+1)) (fun c hc=>hd c (List.mem_of_mem_take hc))
  rw [B92,B9a (by omega)] at hlt
  have ht:=B6y (k:=k+1) (by omega)
  have hs:I5 (l.take (k+1))=10*I5 (l.take k)+(l[k].toNat-48):=by rw [B9i hkl,Fd]
  unfold F9 at hdc
  refine ⟨l[k],⟨by omega,by rw [B8u,Jj,B8v hkl]⟩,?_⟩
  have e:B3 (B3 (10*((I5 (l.take k):Nat):Int))+B3 (wu8 (((l[k].toNat:Nat):Int)-48)))=((I5 (l.take (k+1)):Nat):Int):=by
   rw [Rl (by omega) (by omega),B5 (n:=((l[k].toNat:Nat):Int)-48) (by omega) (by omega),B5 (n:=10*((I5 (l.take k):Nat):Int)) (by omega) (by omega),B5 (by omega) (by omega)]
   omega
  rw [e,B5 (n:=(k:Int)+1) (by omega) (by omega)]
  exact ⟨⟨k+1,rfl,rfl,by omega⟩,by simp only [iAt,B8y,List.getElem?_cons_succ];omega⟩
 ·obtain rfl:k=l.length:=by omega
  rw [List.take_length];exact hK
theorem A4x{a b:Nat}(hK:K (I (B90 a b:Int)) h):FCall prog A6j #[I (a:Int),I (b:Int)] h K:=by
 refine B42 _ _ ?_
 unfold B8e
 refine ⟨fun L hp=>∃ x y:Nat,L=[I x,I y]/\hp=h/\B90 x y=B90 a b,fun L _=>(iAt L 1).toNat,⟨a,b,rfl,rfl,rfl⟩,?_⟩
 rintro a1 b1 hp ⟨x,y,hL,rfl,hg⟩
 obtain ⟨rfl,rfl⟩:a1=(x:Int)/\b1=(y:Int):=by simpa using hL
 refine O1 (fun h1=>?_) (fun h1=>?_)
 ·have hy:y≠0:=by omega
  refine B4 (fun e=>absurd e h1) (fun _=>?_)
  have e:Int.tmod (x:Int) (y:Int)=((x%y:Nat):Int):=(Int.ofNat_tmod x y).symm
  rw [e]
  have hlt:=Nat.mod_lt x (Nat.pos_of_ne_zero hy)
  refine ⟨⟨y,x%y,rfl,rfl,?_⟩,by simp only [iAt,B8y,List.getElem?_cons_succ];omega⟩
  rw [<- hg,Nat.gcd_comm x y,Nat.gcd_rec y x,Nat.gcd_comm]
 ·obtain rfl:y=0:=by omega
  rw [Nat.gcd_zero_right] at hg
  rw [hg];exact hK
theorem Qs(hK1:∀ q,l=O2 q->q.num.natAbs<1000000000->q.den<1000000000->K (.tuple #[.agg #[I q.num,I (q.den:Int)],.bool true]) h)(hK0:K (.tuple #[.agg #[I 0,I 0],.bool false]) h):FCall prog Ew #[.string (bs l)] h K:=by
 refine Va _ ?_
 unfold Sg
 rw [I0]
 refine B4 (fun _=>hK0) (fun h1=>?_)
 refine Kg (by omega) ?_ ?_
 ·intro neg a b f
  refine ⟨_,_,_,_,rfl,?_⟩
  simp only [I0]
  refine ⟨fun L hp=>L=[.bool (decide (a.length>9\/b.length>9))]/\hp=h,Br.of (fun e=>by cases e) (fun _=>B4 (fun h2=>⟨?_,rfl⟩) (fun h2=>⟨?_,rfl⟩)),?_⟩
  ·rw [decide_eq_true (show a.length>9\/b.length>9 by omega)]
  ·by_cases hb9:b.length>9
   ·rw [decide_eq_true (show a.length>9\/b.length>9 by omega)]
    exact congrArg (fun x=>[Value.bool x]) (decide_eq_true (show ((b.length:Nat):Int)>9 by omega))
   ·rw [decide_eq_false (show ¬ (a.length>9\/b.length>9) by omega)]
    exact congrArg (fun x=>[Value.bool x]) (decide_eq_false (show ¬ ((b.length:Nat):Int)>9 by omega))
  rintro t29 hp ⟨hL,rfl⟩
  obtain rfl:t29=decide (a.length>9\/b.length>9):=by simpa using hL
  refine B4 (fun _=>hK0) (fun h2=>?_)
  have habs:(Lv neg a).natAbs=I5 a:=by unfold Lv;split<;>simp
  have hva:=Dn f.da
  have hvb:=Dn f.db
  have h9:∀ k,k<=9->10^k<=1000000000:=fun k hk=>B9m (B8w (by decide) hk) (by decide)
  have h9a:=h9 a.length (by omega)
  have h9b:=h9 b.length (by omega)
  refine Du f.da (by omega) ⟨_,rfl,?_⟩
  refine ⟨fun L hp'=>L=[I 0,I 0,I (I5 a:Int),I (Hs b:Int)]/\hp'=hp/\B90 (I5 a) (Hs b)=1,?_,?_⟩
  ·rw [T3]
   refine Ax (B4 (fun h3=>?_) (fun h3=>?_))
   ·subst h3;exact ⟨rfl,rfl,by unfold Hs;simp⟩
   ·refine Du f.db (by omega) ⟨_,rfl,A4x ⟨_,rfl,O1 (fun _=>hK0) (fun h4=>?_)⟩⟩
    have hfd:Hs b=I5 b:=by unfold Hs;rw [if_neg h3]
    rw [hfd]
    exact ⟨rfl,rfl,by omega⟩
  ·rintro t20 t21 x0 x1 hp5 ⟨hL5,rfl,hg⟩
   simp only [B8z,B9o,and_true,true_and] at hL5
   obtain ⟨_,_,rfl,rfl⟩:=hL5
   obtain ⟨q,hq⟩:=f.isNum.2 hg
   have hqf:=f.of_txt hq
   have hfd1:Hs b<1000000000:=by unfold Hs;split<;>omega
   refine ⟨fun L hp'=>L=[I q.num,I (q.den:Int)]/\hp'=hp5,Br.of (fun e=>?_) (fun e=>?_),?_⟩
   ·rw [hqf.1,hqf.2,e,B5 (by omega) (by omega)]
    exact ⟨by unfold Lv;simp,rfl⟩
   ·rw [hqf.1,hqf.2,e]
    exact ⟨by unfold Lv;simp,rfl⟩
   ·rintro y0 y1 hp6 ⟨hL6,rfl⟩
    simp only [B8z,B9o,and_true,true_and] at hL6
    obtain ⟨rfl,rfl⟩:=hL6
    exact hK1 q hq (by rw [hqf.1,habs];omega) (by rw [hqf.2];exact hfd1)
 ·intro hf neg a b
  refine ⟨_,_,_,_,rfl,?_⟩
  refine ⟨fun L hp=>L=[.bool true]/\hp=h,Ax ⟨rfl,rfl⟩,?_⟩
  rintro t29 hp ⟨hL,rfl⟩
  obtain rfl:t29=true:=by simpa using hL
  exact Br.of (fun _=>hK0) (fun e=>by cases e)
end
structure RQ (h:Heap) (w:QV) (q:Rat):Prop where
 num:ZI h w.s w.A w.n w.c q.num
 den:ZI h w.s2 w.A2 w.n2 w.c2 (if q.den=1 then 0 else (q.den:Int))
theorem ZB.gcd{m:Nat}{x y:Int}(hy:y≠0)(h:ZB m y):ZB m (B9k x y:Int):=by
 refine h.le ?_
 rw [B8t]
 exact Nat.le_of_dvd (by omega) (Int.natAbs_dvd_natAbs.2 (Int.gcd_dvd_right x y))
section
variable {h h':Heap} {K:VP} {A B:Option Addr} {n c n' c':Nat} {s s':Bool} {x y z:Int} {m:Nat} {p q:Rat} {a b w:QV} {l:List UInt8}
theorem RQ.mono(hl:h.le h')(i:RQ h w q):RQ h' w q:=⟨i.num.mono hl,i.den.mono hl⟩
theorem RQ.whole(i:ZI h s A n c z):RQ h ⟨s,A,n,c,false,none,0,0⟩ (z:Rat):=⟨by simpa using i,by simpa using ZI.zero⟩
theorem RQ.zero:RQ h ⟨false,none,0,0,false,none,0,0⟩ 0:=⟨ZI.zero,ZI.zero⟩
theorem Gd(i:RQ h w q)(hK:K (.bool (decide (q.den=1))) h):FCall prog G9 #[.agg #[.bool w.s2,.slice w.A2 w.n2 w.c2]] h K:=by
 refine G2 i.den ?_
 have:=q.den_nz
 have e:decide ((if q.den=1 then (0:Int) else (q.den:Int))=0)=decide (q.den=1):=by
  rw [decide_eq_decide];split<;>omega
 rw [e];exact hK
theorem Ai(i:ZI h s A n c z)(j:ZI h s' B n' c' y)(h1:q.num=z)(h2:(q.den:Int)=y)(hK:∀ w,RQ h w q->K w.v h):FCall prog Am #[.agg #[.bool s,.slice A n c],.agg #[.bool s',.slice B n' c']] h K:=by
 subst h1 h2
 refine A3y _ _ _ _ _ _ _ _ ?_
 unfold A7x
 refine Q1 j ⟨_,rfl,B4 (fun e=>?_) (fun e=>?_)⟩
 ·exact hK ⟨s,A,n,c,false,none,0,0⟩ ⟨i,by rw [if_pos (by omega)];exact ZI.zero⟩
 ·exact hK ⟨s,A,n,c,s',B,n',c'⟩ ⟨i,by rw [if_neg (by omega)];exact j⟩
theorem Ii(i:RQ h w q)(hK:∀ s A n c h',h.le h'->ZI h' s A n c (q.den:Int)->K (.agg #[.bool s,.slice A n c]) h'):FCall prog Rx #[w.v] h K:=by
 refine B47 _ _ _ _ _ _ _ _ ?_
 unfold B8i
 refine Gd i ⟨_,rfl,B4 (fun e=>?_) (fun e=>?_)⟩
 ·refine Ht (by decide) (by decide) ?_
  intro s A n c h1 l1 i1
  exact ⟨_,_,_,_,rfl,hK _ _ _ _ _ l1 (by rw [e];exact i1)⟩
 ·have:=i.den
  rw [if_neg e] at this
  exact hK _ _ _ _ _ (B0 _) this
theorem Pp(gl:Gtz h)(i:ZI h s A n c x)(j:ZI h s' B n' c' y)(hx:ZB m x)(hy:ZB m y)(hm:m<=6400000000)(hy0:0<y)(hK:∀ s1 A1 n1 c1 s2 A2 n2 c2 h',h.le h'->ZI h' s1 A1 n1 c1 (x.tdiv (B9k x y))->ZI h' s2 A2 n2 c2 (y.tdiv (B9k x y))->K (.tuple #[.agg #[.bool s1,.slice A1 n1 c1],.agg #[.bool s2,.slice A2 n2 c2]]) h'):FCall prog Ja #[.agg #[.bool s,.slice A n c],.agg #[.bool s',.slice B n' c']] h K:=by
 refine A3z _ _ _ _ _ _ _ _ ?_
 unfold A7y
 refine Q1 j ⟨_,rfl,B4 (fun e=>?_) (fun e=>?_)⟩
 ·subst e
  have hg:B9k x 1=1:=by simp
  rw [hg] at hK
  exact hK _ _ _ _ _ _ _ _ _ (B0 _) (by simpa using i) (by simpa using j)
 ·refine Ee gl i j hx hy hm ?_
  intro A1 n1 c1 h1 l1 i1
  have hg:=Int.gcd_pos_of_ne_zero_right x (show y≠0 by omega)
  have hgb:ZB m (B9k x y:Int):=ZB.gcd (by omega) hy
  refine ⟨_,_,_,_,rfl,Ab (i.mono l1) i1 hx hgb hm (by omega) ?_⟩
  intro s2 A2 n2 c2 h2 l2 i2
  refine ⟨_,_,_,_,rfl,l2,Ab (j.mono (Heap.le_trans l1 l2)) (i1.mono l2) hy hgb hm (by omega) ?_⟩
  intro s3 A3 n3 c3 h3 l3 i3
  exact ⟨_,_,_,_,rfl,l3,hK _ _ _ _ _ _ _ _ _ (Heap.le_trans l1 (Heap.le_trans l2 l3)) (i2.mono l3) i3⟩
theorem A2y(i:RQ h w q)(hK:∀ w',RQ h w' (-q)->K w'.v h):FCall prog A6k #[w.v] h K:=by
 refine B44 _ _ _ _ _ _ _ _ ?_
 unfold B8f
 refine Ac i.num ?_
 intro s' i'
 exact ⟨_,_,_,_,rfl,B0 _,hK ⟨s',w.A,w.n,w.c,w.s2,w.A2,w.n2,w.c2⟩ ⟨by simpa using i',by simpa using i.den⟩⟩
end
structure Gl (h:Heap):Prop where
 tz:Gtz h
 p10:Gp h
theorem Gl.mono{h h':Heap}(g:Gl h)(l:h.le h'):Gl h':=⟨g.tz.mono l,g.p10.mono l⟩
section
variable {h h':Heap} {K:VP} {A B:Option Addr} {n c n' c':Nat} {s s':Bool} {x y z:Int} {m:Nat} {p q:Rat} {a b w:QV} {l:List UInt8}
theorem A2z(gl:Gtz h)(i:RQ h a p)(j:RQ h b q)(hp:Sz m p)(hq:Sz m q)(hm:m<=6400000000)(hK:∀ w h',h.le h'->RQ h' w (p*q)->K w.v h'):FCall prog A6l #[a.v,b.v] h K:=by
 have hpd:=p.den_nz
 have hqd:=q.den_nz
 refine B45 _ _ _ _ _ _ _ _ _ _ _ _ _ _ _ _ ?_
 unfold B8g
 refine ⟨fun L hp=>L=[.bool (decide (p.num=0\/q.num=0))]/\hp=h,G2 i.num ⟨_,rfl,B4 (fun e=>?_) (fun e=>?_)⟩,?_⟩
 ·exact ⟨by simp [e],rfl⟩
 ·exact G2 j.num ⟨_,rfl,by simp [e],rfl⟩
 rintro t16 hp2 ⟨hL,rfl⟩
 obtain rfl:t16=decide (p.num=0\/q.num=0):=by simpa using hL
 refine B4 (fun e=>?_) (fun e=>?_)
 ·have:p*q=0:=by
   rw [Rat.num_eq_zero,Rat.num_eq_zero] at e
   exact Rat.mul_eq_zero.2 e
  rw [this] at hK
  exact hK ⟨false,none,0,0,false,none,0,0⟩ _ (B0 _) RQ.zero
 ·refine ⟨fun L hp=>L=[.bool (decide (p.den=1/\q.den=1))]/\hp=hp2,Gd i ⟨_,rfl,B4 (fun e=>?_) (fun e=>?_)⟩,?_⟩
  ·exact Gd j ⟨_,rfl,by simp [e],rfl⟩
  ·exact ⟨by simp [e],rfl⟩
  rintro t25 hp5 ⟨hL,rfl⟩
  obtain rfl:t25=decide (p.den=1/\q.den=1):=by simpa using hL
  refine B4 (fun e=>?_) (fun e=>?_)
  ·refine Ed i.num j.num hp.num hq.num hm ?_
   intro s1 A1 n1 c1 h1 l1 i1
   refine ⟨_,_,_,_,rfl,hK ⟨s1,A1,n1,c1,false,none,0,0⟩ _ l1 ?_⟩
   have:=RQ.whole i1
   rw [Rat.intCast_mul,<- B1v e.1,<- B1v e.2] at this
   exact this
  ·have hpp:=A5v p q
   refine Ii j ?_
   intro s1 A1 n1 c1 h1 l1 jd
   refine ⟨_,_,_,_,rfl,l1,Pp (gl.mono l1) (i.num.mono l1) jd hp.num hq.den hm (by omega) ?_⟩
   intro s2 A2 n2 c2 s3 A3 n3 c3 h2 l2 i2 i3
   have l12:=Heap.le_trans l1 l2
   refine ⟨_,_,_,_,_,_,_,_,rfl,l2,Ii (i.mono l12) ?_⟩
   intro s4 A4 n4 c4 h4 l4 idn
   refine ⟨_,_,_,_,rfl,l4,Pp (gl.mono (Heap.le_trans l12 l4)) (j.num.mono (Heap.le_trans l12 l4)) idn hq.num hp.den hm (by omega) ?_⟩
   intro s5 A5 n5 c5 s6 A6 n6 c6 h5 l5 i5 i6
   have e1:B9k p.num (q.den:Int)=B90 p.num.natAbs q.den:=rfl
   have e2:B9k q.num (p.den:Int)=B90 q.num.natAbs p.den:=rfl
   rw [e1] at i2 i3
   rw [e2] at i5 i6
   rw [<- Int.ofNat_tdiv] at i3 i6
   refine ⟨_,_,_,_,_,_,_,_,rfl,l5,Ed (i2.mono (Heap.le_trans l4 l5)) i5 hp.num.tdiv hq.num.tdiv hm ?_⟩
   intro s7 A7 n7 c7 h7 l7 i7
   have b1:ZB m ((p.den/B90 q.num.natAbs p.den:Nat):Int):=hp.den.le (by rw [B8t,B8t];exact B9p _ _)
   have b2:ZB m ((q.den/B90 p.num.natAbs q.den:Nat):Int):=hq.den.le (by rw [B8t,B8t];exact B9p _ _)
   refine ⟨_,_,_,_,rfl,l7,Ed (i6.mono l7) (i3.mono (Heap.le_trans l4 (Heap.le_trans l5 l7))) b1 b2 hm ?_⟩
   intro s8 A8 n8 c8 h8 l8 i8
   refine ⟨_,_,_,_,rfl,l8,Ai (q:=p*q) (i7.mono l8) i8 hpp.1 (by rw [hpp.2,B94]) ?_⟩
   intro w iw
   exact ⟨_,_,_,_,_,_,_,_,rfl,B0 _,hK _ _ (Heap.le_trans l12 (Heap.le_trans l4 (Heap.le_trans l5 (Heap.le_trans l7 l8)))) iw⟩
theorem Tm(i:RQ h w q)(hK:∀ w h',h.le h'->RQ h' w q⁻¹->K w.v h'):FCall prog Kr #[w.v] h K:=by
 have hqd:=q.den_nz
 refine A13 _ _ _ _ _ _ _ _ ?_
 unfold A2l
 refine Rk i.num ⟨_,rfl,D8 (fun e=>?_) (fun e=>?_)⟩
 ·have h0:q.num=0:=Int.sign_eq_zero_iff_zero.1 e
  have:q⁻¹=0:=by rw [Rat.num_eq_zero.1 h0];exact Rat.inv_zero
  rw [this] at hK
  exact hK ⟨false,none,0,0,false,none,0,0⟩ _ (B0 _) RQ.zero
 ·have h0:q.num≠0:=fun e0=>e (by rw [e0];rfl)
  refine D8 (fun e1=>?_) (fun e1=>?_)
  ·have hneg:q.num<0:=Int.sign_neg_iff.1 (by omega)
   refine Ii i ?_
   intro s1 A1 n1 c1 h1 l1 i1
   refine ⟨_,_,_,_,rfl,l1,Ac i1 ?_⟩
   intro s2 i2
   refine ⟨_,_,_,_,rfl,B0 _,Ac (i.num.mono l1) ?_⟩
   intro s3 i3
   refine ⟨_,_,_,_,rfl,B0 _,Ai (q:=q⁻¹) i2 i3 ?_ ?_ ?_⟩
   ·rw [Rat.num_inv,e1];omega
   ·rw [Rat.den_inv,if_neg h0];omega
   ·intro w iw
    exact ⟨_,_,_,_,_,_,_,_,rfl,B0 _,hK _ _ l1 iw⟩
  ·have hpos:0<q.num:=by
    rcases Int.lt_trichotomy q.num 0 with h1|h1|h1
    ·exact absurd (Int.sign_eq_neg_one_of_neg h1) e1
    ·exact absurd h1 h0
    ·exact h1
   refine Ii i ?_
   intro s1 A1 n1 c1 h1 l1 i1
   refine ⟨_,_,_,_,rfl,l1,Ai (q:=q⁻¹) i1 (i.num.mono l1) ?_ ?_ ?_⟩
   ·rw [Rat.num_inv,Int.sign_eq_one_of_pos hpos,Int.one_mul]
   ·rw [Rat.den_inv,if_neg h0];omega
   ·intro w iw
    exact ⟨_,_,_,_,_,_,_,_,rfl,B0 _,hK _ _ l1 iw⟩
theorem A32(gl:Gtz h)(i:RQ h a p)(j:RQ h b q)(hp:Sz m p)(hq:Sz m q)(hm1:1<=m)(hm:m<=6400000000)(hK:∀ w h',h.le h'->RQ h' w (p/q)->K w.v h'):FCall prog A6m #[a.v,b.v] h K:=by
 refine B46 _ _ _ _ _ _ _ _ _ _ _ _ _ _ _ _ ?_
 unfold B8h
 refine Tm j ?_
 intro w1 h1 l1 j1
 refine ⟨_,_,_,_,_,_,_,_,rfl,l1,A2z (gl.mono l1) (i.mono l1) j1 hp (hq.inv hm1) hm ?_⟩
 intro w2 h2 l2 i2
 rw [<- Rat.div_def] at i2
 exact ⟨_,_,_,_,_,_,_,_,rfl,l2,hK _ _ (Heap.le_trans l1 l2) i2⟩
theorem Ku{t:List UInt8}{k:Nat}(h:∀ c∈t,F9 c)(hk:t.length<=k):ZB (4*k) (I5 t:Int):=by
 unfold ZB
 rw [B8t]
 exact B9h (As h) (B8w (by decide) (by omega))
theorem Form.lens{neg:Bool}{a b:List UInt8}(f:Form l neg a b):a.length<=l.length/\b.length<=l.length:=by
 have:=congrArg List.length f.eq
 simp only [B95] at this
 by_cases hb:b=[]
 ·rw [if_pos hb] at this;subst hb;simp at this ⊢;omega
 ·rw [if_neg hb] at this;simp at this;omega
theorem A31(gl:Gtz h)(hl:l.length<=100000000)(hK1:∀ q,l=O2 q->∀ w h',h.le h'->RQ h' w q->K (.tuple #[w.v,.bool true]) h')(hK0:¬ IsNum l->∀ (w:QV) h',h.le h'->RQ h' w 0->K (.tuple #[w.v,.bool false]) h'):FCall prog A08 #[.string (bs l)] h K:=by
 refine B0t _ ?_
 unfold B5z
 refine Kg (by omega) ?_ ?_
 ·intro neg a b f
  refine ⟨_,_,_,_,rfl,Ax ?_⟩
  have hlen:=f.lens
  refine Gb f.da (by omega) ?_
  intro A1 n1 c1 h1 l1 i1
  refine ⟨_,_,_,_,rfl,?_⟩
  refine ⟨fun L hp=>∃ s2:Bool,L=[.bool s2,.slice A1 n1 c1,.bool false,.slice none 0 0]/\hp=h1/\ZI h1 s2 A1 n1 c1 (Lv neg a),Br.of (fun e=>?_) (fun e=>?_),?_⟩
  ·refine Ac i1 ?_
   intro s2 i2
   exact ⟨_,_,_,_,rfl,s2,rfl,rfl,by unfold Lv;rw [e];exact i2⟩
  ·exact ⟨false,rfl,rfl,by unfold Lv;rw [e];exact i1⟩
  rintro x0 x1A x1n x1c x2 x3A x3n x3c hp3 ⟨s2,hL,rfl,i2⟩
  simp only [B8z,B9j,Value.bool.injEq,and_true] at hL
  obtain ⟨rfl,⟨rfl,rfl,rfl⟩,rfl,rfl,rfl,rfl⟩:=hL
  have habs:(Lv neg a).natAbs=I5 a:=by unfold Lv;split<;>simp
  rw [T3]
  refine B4 (fun hb=>?_) (fun hb=>?_)
  ·subst hb
   obtain ⟨q,hq⟩:=f.isNum.2 (by unfold Hs;simp)
   obtain ⟨h2,h3⟩:=f.of_txt hq
   refine hK1 q hq ⟨x0,x1A,x1n,x1c,false,none,0,0⟩ _ l1 ⟨by rw [h2];exact i2,?_⟩
   rw [h3,show Hs []=1 from rfl,if_pos rfl];exact ZI.zero
  ·refine Gb f.db (by omega) ?_
   intro A4 n4 c4 h4 l4 i4
   have hnb:ZB (4*l.length) (Lv neg a):=(Ku f.da (k:=l.length) (by omega)).le (by rw [habs,B8t];exact B9g _)
   refine ⟨_,_,_,_,rfl,Ee (gl.mono (Heap.le_trans l1 l4)) (i2.mono l4) i4 hnb (Ku f.db (k:=l.length) (by omega)) (by omega) ?_⟩
   intro A5 n5 c5 h5 l5 i5
   refine ⟨_,_,_,_,rfl,Q1 i5 ⟨_,rfl,?_⟩⟩
   have hfd:Hs b=I5 b:=by unfold Hs;rw [if_neg hb]
   have hgg:B9k (Lv neg a) (I5 b:Int)=B90 (I5 a) (Hs b):=by
    rw [hfd];show B90 (Lv neg a).natAbs (I5 b)=_;rw [habs]
   rw [hgg]
   refine Ax (B4 (fun e1=>?_) (fun e1=>?_))
   ·obtain ⟨q,hq⟩:=f.isNum.2 (by omega)
    obtain ⟨h2,h3⟩:=f.of_txt hq
    have hd1:Hs b≠1:=by
     intro e2
     have h6:=Jh f.db hb (.inl f.hb)
     rw [<- hfd,e2] at h6
     apply f.b1
     rw [<- h6];simp [L3,X4,I7,dch]
    refine hK1 q hq ⟨x0,x1A,x1n,x1c,false,A4,n4,c4⟩ _ (Heap.le_trans l1 (Heap.le_trans l4 l5)) ⟨by rw [h2];exact i2.mono (Heap.le_trans l4 l5),?_⟩
    rw [h3,if_neg hd1,hfd];exact i4.mono l5
   ·refine hK0 ?_ ⟨false,none,0,0,false,none,0,0⟩ _ (Heap.le_trans l1 (Heap.le_trans l4 l5)) RQ.zero
    intro hn
    exact e1 (by rw [f.isNum.1 hn];rfl)
 ·intro hf neg a b
  refine ⟨_,_,_,_,rfl,Ax ?_⟩
  refine hK0 ?_ ⟨false,none,0,0,false,none,0,0⟩ _ (B0 _) RQ.zero
  intro hn
  obtain ⟨neg',a',b',f⟩:=hn.form
  exact hf _ _ _ f
theorem Ll(gp:Gp h)(i:RQ h w q)(hq:Sz m q)(hm:m<=40000000)(hK:K (.string (bs (O2 q))) h):FCall prog Jb #[w.v] h K:=by
 refine FCall.pure (A40 _ _ _ _ _ _ _ _ ?_)
 unfold A81
 refine Gd i ⟨_,rfl,B4 (fun e=>?_) (fun e=>?_)⟩
 ·rw [A99 e] at hK
  refine Yv i.num (fun h1 h2=>?_) (fun h1=>?_)
  ·refine ⟨_,_,rfl,Br.of (fun _=>A11 _ ?_) (fun e=>by cases e)⟩
   unfold A2j
   exact Qu gp h1 h2 ⟨_,rfl,_,rfl,B0 _,hK⟩
  ·refine ⟨_,_,rfl,Br.of (fun e=>by cases e) (fun _=>?_)⟩
   exact Vn gp i.num hq.num (by omega) ⟨_,rfl,B0 _,hK⟩
 ·rw [A4u e] at hK
  have idn:=i.den
  rw [if_neg e] at idn
  refine Eg (l:=[]) (eT:=F5) gp (Priv.nil _ _ _ _) i.num hq.num (by omega) (by omega) ?_
  intro A1 n1 c1 e1 g1 h1 x1
  refine ⟨_,_,_,rfl,?_⟩
  have hl1:(Kc q.num).length<=50000000:=by
   unfold Kc
   have:=Ho hq.num
   split<;>simp<;>omega
  have hx1:=x1.len
  refine Ij (ch:=47) rfl x1.priv (by omega) ?_
  intro A2 n2 c2 e2 g2 h2 x2
  have x12:=x1.trans x2
  have hx2:=x12.len
  rw [B95,List.length_singleton] at hx2
  refine Eg (gp.mono x12.le) x2.priv (idn.mono x12.le) hq.den (by omega) (by omega) ?_
  intro A3 n3 c3 e3 g3 h3 x3
  refine ⟨_,_,_,rfl,?_⟩
  rw [List.append_assoc] at x3
  have x123:=x12.trans x3
  have hx3:=x123.len
  refine Ib Dt.und Bs S2 x123.priv.slV (by simpa using hx3) ⟨_,rfl,?_⟩
  refine ⟨Heap.le_trans x123.le x123.priv.le,?_⟩
  simpa using hK
end
structure Tx (m:Nat) (l:List UInt8):Prop where
 len:l.length<=100000000
 sz:Sz m (rv l)
theorem A4t(q:Rat):∃ c r,O2 q=c::r/\(c=45↔q<0):=by
 have f:=Ek q
 have hne:O2 q≠[]:=by
  intro e
  have:=f.eq
  rw [e] at this
  have h2:=f.ne
  have:=congrArg List.length this
  simp only [B95,List.length_nil] at this
  exact h2 (List.eq_nil_of_length_eq_zero (by omega))
 obtain ⟨c,r,e⟩:=B8x hne
 refine ⟨c,r,e,?_⟩
 have hh:=f.head
 rw [e,B9d,B9q,decide_eq_true_iff,beq_iff_eq,B96] at hh
 rw [<- hh,Rat.lt_iff];simp
section
variable {h:Heap} {K:VP} {m:Nat} {a b:List UInt8}
theorem A2q(gl:Gl h)(hl:a.length<=100000000)(hK1:IsNum a->K (.bool true) h)(hK0:¬ IsNum a->K (.bool false) h):FCall prog Ud #[.string (bs a)] h K:=by
 refine FCall.pure (A7v _ ?_)
 unfold B2a
 refine Qs ?_ ?_
 ·intro q e _ _
  exact ⟨_,_,_,rfl,Br.of (fun _=>⟨B0 _,hK1 ⟨q,e⟩⟩) (fun e=>by cases e)⟩
 ·refine ⟨_,_,_,rfl,Br.of (fun e=>by cases e) (fun _=>?_)⟩
  refine Kg (by omega) ?_ ?_
  ·intro neg x y f
   refine ⟨_,_,_,_,rfl,Br.of (fun e=>by cases e) (fun _=>?_)⟩
   have hlen:=f.lens
   rw [T3]
   refine B4 (fun e=>?_) (fun e=>?_)
   ·subst e
    exact ⟨B0 _,hK1 (f.isNum.2 (by unfold Hs;simp))⟩
   ·refine Gb f.da (by omega) ?_
    intro A1 n1 c1 h1 l1 i1
    refine ⟨_,_,_,_,rfl,l1,Gb f.db (by omega) ?_⟩
    intro A2 n2 c2 h2 l2 i2
    refine ⟨_,_,_,_,rfl,l2,Ee (gl.tz.mono (Heap.le_trans l1 l2)) (i1.mono l2) i2 (Ku f.da (k:=a.length) (by omega)) (Ku f.db (k:=a.length) (by omega)) (by omega) ?_⟩
    intro A3 n3 c3 h3 l3 i3
    refine ⟨_,_,_,_,rfl,l3,Q1 i3 ⟨_,rfl,B0 _,Heap.le_trans l1 (Heap.le_trans l2 l3),?_⟩⟩
    rw [Int.gcd_natCast_natCast]
    have hfd:Hs y=I5 y:=by unfold Hs;rw [if_neg e]
    by_cases hg:B90 (I5 x) (I5 y)=1
    ·rw [decide_eq_true (by rw [hg];rfl)]
     exact hK1 (f.isNum.2 (by rw [hfd];exact hg))
    ·rw [decide_eq_false (by omega)]
     exact hK0 (fun hn=>hg (by rw [<- hfd];exact f.isNum.1 hn))
  ·intro hf neg x y
   refine ⟨_,_,_,_,rfl,Br.of (fun _=>⟨B0 _,hK0 ?_⟩) (fun e=>by cases e)⟩
   intro hn
   obtain ⟨neg',a',b',f⟩:=hn.form
   exact hf _ _ _ f
end
def B4q(h:Heap)(r:Value)(h':Heap):Prop:=r= .bool true/\h.le h'
theorem B53{x:List UInt8}{k:Nat}(hl:x.length<=k)(hk:1<=k):Sz (4*k) (rv x):=by
 by_cases hn:IsNum x
 ·obtain ⟨neg,a,b,f⟩:=hn.form
  obtain ⟨h1,h2⟩:=f.rv_num hn
  have hlen:=f.lens
  have habs:(Lv neg a).natAbs=I5 a:=by unfold Lv;split<;>simp
  refine ⟨?_,?_⟩
  ·rw [h1];exact (Ku f.da (k:=k) (by omega)).le (by rw [habs,B8t];exact B9g _)
  ·rw [h2]
   unfold Hs
   split
   ·exact ZB.one (by omega)
   ·exact Ku f.db (by omega)
 ·rw [B1e hn];exact Sz.zero (by omega)
end Go.Proofs.YtajkakhfcokljaaGreatDoor
namespace Go.Proofs.YtajkakhfcokljaaGreatDoor
set_option maxRecDepth 20000
open Go Go.RowKit
def memOf(W:World):Heap:=fun b=>W.heap[b]?
theorem frame_of{P:Program}{f:FuncId}{args:Array Value}{W:World}(x:FCall P f args (memOf W) (B4q (memOf W))):Calls P f args W fun e w'=>e= .returned (.bool true)/\Below W.heap.size W w':=by
 refine (x W (fun b o e=>e)).mono ?_
 rintro e W' ⟨r,h',he,⟨hr,hle⟩,fr⟩
 subst hr
 refine ⟨he,fr.os,fr.tape,fr.output,fr.size,fun k hk=>?_⟩
 have e0:memOf W k=some W.heap[k]:=Array.getElem?_eq_getElem hk
 have:=fr.sim k _ (hle k _ e0)
 rw [this];exact e0.symm
theorem Cb{W:World}{a:Addr}{v:Value}(e:W.cell? a=some v):(memOf W).cell? a=some v:=by
 unfold World.cell? at e
 unfold Heap.cell? memOf
 exact e
theorem A1y{P:Program}{W:World}{x:String × DataW Unit}{rest:List (String × DataW Unit)}(h:laidMet P (x::rest) W):laidMet P rest W:=by
 obtain ⟨n,d⟩:=x
 obtain ⟨ps,⟨g,t,cs,fuel,p,q,h1,h2,h3,h4,h5,rfl⟩,h6,h7⟩:=h
 exact ⟨q,h5,(List.nodup_append.1 h6).2.1,fun b off hb=>h7 b off (List.mem_append_right _ hb)⟩
def B6z:List Int:=[0,1,28,2,29,14,24,3,30,22,20,15,25,17,4,8,31,27,13,23,21,19,16,7,26,12,18,6,11,5,10,9]
def A9h:List Int:=[0,1,56,2,57,49,28,3,61,58,42,50,38,29,17,4,62,47,59,36,45,43,51,22,53,39,33,30,24,18,12,5,63,55,48,27,60,41,37,16,46,35,44,21,52,32,23,11,54,26,40,15,34,20,31,10,25,14,19,9,13,8,7,6]
def B31:List Int:=[1,10,100,1000,10000,100000,1000000,10000000,100000000,1000000000,10000000000,100000000000,1000000000000,10000000000000,100000000000000,1000000000000000,10000000000000000,100000000000000000,1000000000000000000,10000000000000000000]
theorem B1m:prog.globalNamed "math/bits.deBruijn64tab" = some 3:=by kernel_rfl
theorem B1n:prog.globalNamed "internal/strconv.uint64pow10" = some 2:=by kernel_rfl
theorem tabs_gl{W:World}(h:laidMet prog [("math/bits.deBruijn32tab",Rows.laid_math_bits_deBruijn32tab),("math/bits.deBruijn64tab",Rows.laid_math_bits_deBruijn64tab),("internal/strconv.uint64pow10",Rows.laid_internal_strconv_uint64pow10)] W):Gl (memOf W):=by
 have h2:=A1y h
 have h3:=A1y h2
 have t64:Lib.TabIs prog W "math/bits.deBruijn64tab" .u8 A9h:=Lib.tabIs_of_head (rest:=[("internal/strconv.uint64pow10",Rows.laid_internal_strconv_uint64pow10)]) B1m (by kernel_rfl) underlying297 underlying5 (by kernel_rfl) (by kernel_rfl) h2
 have t10:Lib.TabIs prog W "internal/strconv.uint64pow10" .u64 B31:=Lib.tabIs_of_head (rest:=[]) B1n (by kernel_rfl) underlying287 underlying130 (by kernel_rfl) (by kernel_rfl) h3
 have k64:∀ k,k<64->Vv k<A9h.length/\A9h.getD (Vv k) 0=(k:Int):=by decide +kernel
 have k10:∀ k,k<20->B31.getD k 0=((10^k:Nat):Int):=by decide +kernel
 refine ⟨fun k hk=>?_,fun k hk=>?_⟩
 ·obtain ⟨a,b⟩:=k64 k hk
  have:=Cb (t64.cell B1m (Vv k) a)
  rw [D7,B97,Nat.zero_add,this,b]
 ·have:=Cb (t10.cell B1n k (by show k<20;exact hk))
  rw [D7,B97,Nat.zero_add,this,k10 k hk]
def A65(zs:List Int)(k:IntKind):Obj->Obj
 | .cells _ t frozen=>.cells (zs.map (Value.int k)).toArray t frozen
 | o=>o
def layTabs(a:Array Obj):Array Obj:=((a.modify 4 (A65 B6z .u8)).modify 3 (A65 A9h .u8)).modify 2 (A65 B31 .u64)
end Go.Proofs.YtajkakhfcokljaaGreatDoor
