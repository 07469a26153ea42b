/-
  Texts of this proof, merged by a program of ours.
-/
import Derived.Test.YthilnfgnpdeofaaGreatDoorG20
import Derived.Test.YthilnfgnpdeofaaGreatDoorG19
import Derived.Test.YthilnfgnpdeofaaGreatDoorG08
import Derived.Test.YthilnfgnpdeofaaGreatDoorRows
import Derived.Below
import Derived.ChangeSame
import Derived.WideShapes
import Derived.LaidLaws
import Derived.Lib.LaidTab
import Derived.Orders
import Derived.Test.YthilnfgnpdeofaaGreatDoorG17
namespace Go.Proofs.YthilnfgnpdeofaaGreatDoor
set_option maxRecDepth 20000
open Go
def Fz(i:Nat):Nat:=10^(19*2^i)
theorem A7h(i:Nat):Fz i=(10^19)^(2^i):=Nat.pow_mul _ _ _
theorem B1j(i:Nat):0<Fz i:=Nat.pow_pos (by decide)
theorem A7g:Fz 0=10000000000000000000:=by decide
theorem Zn(i:Nat):Fz (i+1)=Fz i*Fz i:=by
 unfold Fz
 rw [<- Nat.pow_add]
 congr 1
 rw [Nat.pow_succ];omega
theorem B5f(i:Nat):(Fz i:Int)<b64^(2^i):=by
 have h:(10^19)^(2^i)<(18446744073709551616:Nat)^(2^i):=Nat.pow_lt_pow_left (by decide) (Nat.pos_iff_ne_zero.1 (Nat.pow_pos (by decide)))
 rw [<- A7h] at h
 have h2:((Fz i:Nat):Int)<((18446744073709551616^(2^i):Nat):Int):=Int.ofNat_lt.2 h
 rw [Int.natCast_pow] at h2
 exact h2
theorem B5g(i:Nat):(2:Int)^(63*2^i)<=(Fz i:Int):=by
 have h:(2^63)^(2^i)<=(10^19)^(2^i):=Nat.pow_le_pow_left (by decide) _
 rw [<- A7h,<- Nat.pow_mul] at h
 have h2:((2^(63*2^i):Nat):Int)<=((Fz i:Nat):Int):=Int.ofNat_le.2 h
 rw [Int.natCast_pow] at h2
 exact h2
theorem B7j{k m:Nat}(h:(2:Int)^k<2^m):k<m:=by
 by_cases hk:k<m
 ·exact hk
 ·have:=D0 (B:=2) (by decide) (show m<=k by omega)
  omega
abbrev slT(s:Option Addr × Nat × Nat):Value:=.slice s.1 s.2.1 s.2.2
def Pws(h:Heap)(PA:Option Addr)(k:Nat):Prop:=∃ ss:List (Option Addr × Nat × Nat),ss.length=k/\SlV h PA (ss.map slT)/\∀ i s,ss[i]? = some s->s.2.1<=s.2.2/\Mw h s.1 s.2.1 (Fz i:Int)
theorem Pws.mono{h h':Heap}(l:h.le h'){PA:Option Addr}{k:Nat}(p:Pws h PA k):Pws h' PA k:=by
 obtain ⟨ss,h1,h2,h3⟩:=p
 exact ⟨ss,h1,h2.mono l,fun i s e=>⟨(h3 i s e).1,(h3 i s e).2.mono l⟩⟩
theorem Pws.take{h:Heap}{PA:Option Addr}{k j:Nat}(p:Pws h PA k)(hj:j<=k):Pws h PA j:=by
 obtain ⟨ss,h1,h2,h3⟩:=p
 refine ⟨ss.take j,by rw [List.length_take];omega,?_,fun i s e=>?_⟩
 ·have:=SlV.cut (c:=(ss.map slT).length) h2 (Nat.zero_le j) (by rw [List.length_map];omega) (Nat.le_refl _)
  rw [H9,List.drop_zero,Nat.sub_zero,<- List.map_take] at this
  exact this
 ·rw [List.getElem?_take] at e
  split at e
  ·exact h3 i s e
  ·cases e
theorem Pws.at{h:Heap}{PA:Option Addr}{k i:Nat}(p:Pws h PA k)(hi:i<k):∃ (a:Addr) (A:Option Addr) (n c:Nat),PA=some a/\h.cell? (a.add i)=some (.slice A n c)/\n<=c/\Mw h A n (Fz i:Int):=by
 obtain ⟨ss,h1,h2,h3⟩:=p
 obtain ⟨a,ha,hc⟩:=h2.at (i:=i) (by rw [List.length_map];omega)
 rw [List.getElem_map] at hc
 obtain ⟨h4,h5⟩:=h3 i ss[i] (List.getElem?_eq_getElem (by omega))
 exact ⟨a,_,_,_,ha,hc,h4,h5⟩
theorem Mw.tenP_le{h:Heap}{A:Option Addr}{n i:Nat}(m:Mw h A n (Fz i:Int)):n<=2^i:=m.len_le (by decide) (B5f i)
theorem Mw.tenP_ge{h:Heap}{A:Option Addr}{n i:Nat}(m:Mw h A n (Fz i:Int)):2^i<2*n:=by
 have h1:=m.lt (by decide)
 rw [It] at h1
 have h2:=B7j (Int.lt_of_le_of_lt (B5g i) h1)
 omega
theorem Ext.weak{g g0 g' h':Heap}{eT e2:TypeId}{A A':Option Addr}{n c n' c':Nat}{l t:List UInt8}(l0:g0.le g)(x:Ext g eT A n c l t A' n' c' e2 g' h'):Ext g0 eT A n c l t A' n' c' e2 g' h':=⟨A0 l0 x.le,x.priv,x.len,x.fit,x.tag⟩
theorem B3u(w n:Nat):w<=(pad w n).length:=by simp [pad];omega
theorem B5m{j:Nat}(hj:j<=30):B4 (19*2^(min j 64))=((19*2^j:Nat):Int):=by
 rw [Nat.min_eq_left (by omega)]
 have h1:2^j<=2^30:=Nat.pow_le_pow_right (by decide) hj
 have h2:(19*2^j:Int)=((19*2^j:Nat):Int):=by rw [Int.natCast_mul,Int.natCast_pow];rfl
 rw [h2,B6 (by omega) (by have:(2:Nat)^30=1073741824:=by decide
                          omega)]
theorem Ye{l:List UInt8}(hd:∀ c∈l,G8 c):(K6 l:Int)<b64^l.length:=by
 have h1:=Nv hd
 have h2:10^l.length<=(18446744073709551616:Nat)^l.length:=Nat.pow_le_pow_left (by decide) _
 have h3:((K6 l:Nat):Int)<((18446744073709551616^l.length:Nat):Int):=Int.ofNat_lt.2 (Nat.lt_of_lt_of_le h1 h2)
 rw [Int.natCast_pow] at h3
 exact h3
theorem Pk:∀ (k:Nat) {h g:Heap} {K:Value->Heap->Prop} {A XA PA:Option Addr} {n c xn xc pc v W:Nat} {eT:TypeId} {l:List UInt8},Gp g->Priv h g eT 1 A n c (yv l)->Mw g XA xn (v:Int)->xn<=xc->xn<=10000000->Pws g PA k->k<=pc->k<=26->(W=0\/W=19*2^k)->n+(pad W v).length<=1000000000->
 (∀ A' n' c' e3 g' h',Ext g eT A n c l (pad W v) A' n' c' e3 g' h'->K (.slice A' n' c') h')->FCall Tryz.prog G1 #[.slice A n c,.slice XA xn xc,I (W:Int),.slice PA k pc] h K:=by
 intro k
 induction k with
 | zero=>
  intro h g K A XA PA n c xn xc pc v W eT l gp p M hxc hx hP hpc hk hW hn hK
  have:=B3u W v
  refine Gy _ _ _ _ _ _ _ _ _ _ ?_
  unfold Gz
  refine B7 (fun _=>?_) (fun e=>absurd (by decide) e)
  refine Ds gp p M hx (by omega) (by omega) ?_
  intro A' n' c' e2 g' h' x
  exact ⟨_,_,_,rfl,hK _ _ _ e2 g' _ x⟩
 | succ j ih=>
  intro h g K A XA PA n c xn xc pc v W eT l gp p M hxc hx hP hpc hk hW hn hK
  have hge:=B3u W v
  have e1:B4 (((j+1:Nat):Int)-1)=(j:Int):=by rw [B6 (by omega) (by omega)];omega
  refine Gy _ _ _ _ _ _ _ _ _ _ ?_
  unfold Gz
  simp only [e1,Int.toNat_natCast,Nat.sub_zero,H9,B5m (show j<=30 by omega)]
  refine B7 (fun e=>absurd e (by omega)) (fun _=>B7 (fun _=>?_) (fun _=>?_))
  ·refine Ds gp p M hx (by omega) (by omega) ?_
   intro A' n' c' e2 g' h' x
   exact ⟨_,_,_,rfl,hK _ _ _ e2 g' _ x⟩
  ·obtain ⟨a,PA',pn,pcc,ha,hc,hpc',Mp⟩:=hP.at (i:=j) (by omega)
   refine ⟨a,ha,by omega,by omega,_,_,_,by rw [Nat.mul_one];exact C6 p.le hc,?_⟩
   have hpn:=Mp.tenP_le
   have h2j:2^j<=2^26:=Nat.pow_le_pow_right (by decide) (by omega)
   have h24:(2:Nat)^26=67108864:=by decide
   have hpp:=B1j j
   refine p.call ?_
   refine R3 M Mp hxc hpc' (by omega) (by omega) (by omega) ?_
   intro A1 m1 c1 A2 m2 c2 g1 l1 k1 k2 M1 M2 h1 p1
   refine ⟨_,_,_,_,_,_,rfl,?_⟩
   rw [<- Int.natCast_ediv] at M1
   rw [<- Int.natCast_emod] at M2
   have hv:=Nat.div_add_mod v (Fz j)
   have hlt:=Nat.mod_lt v hpp
   have hqv:=Nat.div_le_self v (Fz j)
   generalize v/Fz j=q at *
   generalize v%Fz j=r at *
   have hz:=M1.len_zero (by decide)
   have hvlt:=M.lt (by decide)
   have hm1:m1<=xn:=M1.len_le (by decide) (by omega)
   have hm2:m2<=xn:=M2.len_le (by decide) (by
    have h0:0<=Fz j*q:=Nat.zero_le _
    generalize Fz j*q=z at *
    omega)
   have hv':v=q*10^(19*2^j)+r:=by rw [<- hv,Nat.mul_comm];rfl
   have hs2:2^(j+1)=2*2^j:=by rw [Nat.pow_succ];omega
   refine B7 (fun e=>absurd e (by omega)) (fun _=>?_)
   refine D9 (fun e0=>D9 (fun eW=>?_) (fun eW=>?_)) (fun e0=>?_)
   ·obtain rfl:W=0:=by omega
    obtain rfl:q=0:=by omega
    obtain rfl:v=r:=by omega
    refine ⟨⟨by omega,by omega⟩,?_⟩
    refine ih (W:=0) (gp.mono l1) p1 M2 k2 (by omega) ((hP.mono l1).take (by omega)) (by omega) (by omega) (.inl rfl) hn ?_
    intro A4 n4 c4 e4 g4 h4 x4
    exact ⟨_,_,_,rfl,hK _ _ _ _ _ _ (x4.weak l1)⟩
   all_goals
    have hw:q≠0\/19*2^j<=W:=by omega
    have hsp:=A05 (w:=W) (h:=q) (l:=r) (k:=19*2^j) hlt hw
    rw [<- hv'] at hsp
    have hpl:(pad (19*2^j) r).length=19*2^j:=Ut hlt
    have hle:(pad W v).length=(pad (W-19*2^j) q).length+19*2^j:=by rw [hsp,List.length_append,hpl]
    refine ⟨⟨by omega,by omega⟩,?_⟩
    have e3:(if (0:Int)>B4 ((W:Int)-((19*2^j:Nat):Int)) then (0:Int) else B4 ((W:Int)-((19*2^j:Nat):Int)))=((W-19*2^j:Nat):Int):=by
     rw [B6 (by omega) (by omega)]
     split<;>omega
    rw [e3]
    refine ih (gp.mono l1) p1 M1 k1 (by omega) ((hP.mono l1).take (by omega)) (by omega) (by omega) (by omega) (by omega) ?_
    intro A3 n3 c3 e3 g3 h3 x3
    have hn3:=x3.len
    have l3:=A0 l1 x3.le
    refine ⟨_,_,_,rfl,⟨by omega,by omega⟩,?_⟩
    refine ih (gp.mono l3) x3.priv (M2.mono x3.le) k2 (by omega) ((hP.mono l3).take (by omega)) (by omega) (by omega) (.inr rfl) (by omega) ?_
    intro A4 n4 c4 e4 g4 h4 x4
    refine ⟨_,_,_,rfl,hK _ _ _ e4 g4 _ ?_⟩
    rw [hsp]
    exact (x3.trans x4).weak l1
theorem Gc:∀ (k:Nat) {h:Heap} {K:Value->Heap->Prop} {PA:Option Addr} {pc:Nat} {l:List UInt8},(∀ c∈l,G8 c)->l.length<=100000000->Pws h PA k->k<=pc->k<=30->(∀ A n c h',h.le h'->n<=c->Mw h' A n (K6 l:Int)->K (.slice A n c) h')->FCall Tryz.prog K4 #[.string (bs l),.slice PA k pc] h K:=by
 intro k
 induction k using Nat.strongRecOn with
 | _ k ih=>
  intro h K PA pc l hd hl hP hpc hk hK
  refine Ub _ _ _ _ ?_
  unfold Su
  rw [J6]
  have simple:FCall Tryz.prog K7 #[.string (bs l)] h (fun r hp=>∃ (A:Option Addr) (n c:Nat),r= .slice A n c/\K (.slice A n c) hp):=by
   refine Pj hd hl ?_
   intro A n c h' l1 hc M
   exact ⟨_,_,_,rfl,hK _ _ _ _ l1 hc M⟩
  refine ⟨fun s hp=>hp=h/\∃ j:Nat,s=[I ((j:Int)-1)]/\j<=k,fun s _=>(iAt s 0+1).toNat,⟨rfl,k,by rw [B6 (by omega) (by omega)],Nat.le_refl _⟩,?_⟩
  rintro last hp ⟨rfl,j,hs,hj⟩
  obtain rfl:last=(j:Int)-1:=by simpa using hs
  refine B7 (fun h0=>?_) (fun h0=>B7 (fun _=>simple) (fun e=>absurd (show (j:Int)-1<0 by omega) e))
  obtain ⟨i,rfl⟩:∃ i,j=i+1:=⟨j-1,by omega⟩
  have e0:((i+1:Nat):Int)-1=(i:Int):=by omega
  have hpi:0<2^i:=Nat.pow_pos (by decide)
  simp only [e0,Int.toNat_natCast,Nat.sub_zero,H9,B5m (show i<=30 by omega)]
  refine B7 (fun e=>absurd e (by omega)) (fun _=>B7 (fun h1=>?_) (fun h1=>?_))
  ·refine ⟨⟨trivial,i,by rw [B6 (by omega) (by omega)],by omega⟩,?_⟩
   simp only [iAt,List.getElem?_cons_zero]
   rw [B6 (by omega) (by omega)]
   omega
  refine B7 (fun e=>absurd e (by omega)) (fun _=>B7 (fun _=>simple) (fun h570=>B7 (fun e=>absurd e (by omega)) (fun _=>?_)))
  have e2:B4 ((l.length:Int)-((19*2^i:Nat):Int))=((l.length-19*2^i:Nat):Int):=by rw [B6 (by omega) (by omega)];omega
  simp only [e2,Int.toNat_natCast,L5,List.drop_zero,Nat.sub_zero]
  obtain ⟨a,PA',pn,pcc,ha,hc,hpc',Mp⟩:=hP.at (i:=i) (by omega)
  refine ⟨⟨by omega,by omega⟩,⟨by omega,by omega⟩,a,ha,by omega,by omega,_,_,_,by rw [Nat.mul_one];exact hc,?_⟩
  have hpn:=Mp.tenP_le
  have h2i:19*2^i<l.length:=by omega
  have hd1:∀ c∈l.take (l.length-19*2^i),G8 c:=fun c hc=>hd c (List.mem_of_mem_take hc)
  have hd2:∀ c∈l.drop (l.length-19*2^i),G8 c:=fun c hc=>hd c (List.mem_of_mem_drop hc)
  have hl1:(l.take (l.length-19*2^i)).length=l.length-19*2^i:=by rw [List.length_take];omega
  have hl2:(l.drop (l.length-19*2^i)).length=19*2^i:=by rw [List.length_drop];omega
  have hval:K6 l=K6 (l.take (l.length-19*2^i))*Fz i+K6 (l.drop (l.length-19*2^i)):=by
   have:=Ev (l.take (l.length-19*2^i)) (l.drop (l.length-19*2^i))
   rw [List.take_append_drop,hl2] at this
   exact this
  have hb:=Ye hd
  have hb1:=Ye hd1
  have hb2:=Ye hd2
  rw [hl1] at hb1
  rw [hl2] at hb2
  refine ih i (by omega) hd1 (by omega) (hP.take (by omega)) (by omega) (by omega) ?_
  intro A1 n1 c1 h1 l1 k1 M1
  refine ⟨_,_,_,rfl,l1,?_⟩
  have hn1:=M1.len_le (by decide) hb1
  refine G2 M1 (Mp.mono l1) k1 hpc' (by omega) (by omega) ?_
  intro A2 n2 c2 h2 l2 k2 M2
  refine ⟨_,_,_,rfl,l2,⟨by omega,by omega⟩,⟨by omega,by omega⟩,?_⟩
  rw [<- Int.natCast_mul] at M2
  have hn2:=M2.len_le (by decide) (Int.lt_of_le_of_lt (Int.ofNat_le.2 (by rw [hval];exact Nat.le_add_right _ _)) hb)
  rw [List.take_of_length_le (by rw [hl2];omega)]
  refine ih i (by omega) hd2 (by omega) ((hP.mono (A0 l1 l2)).take (by omega)) (by omega) (by omega) ?_
  intro A3 n3 c3 h3 l3 k3 M3
  refine ⟨_,_,_,rfl,l3,?_⟩
  have hn3:=M3.len_le (by decide) hb2
  refine T5 (M2.mono l3) M3 k2 k3 (by omega) (by omega) ?_
  intro A4 n4 c4 h4 l4 k4 M4
  refine ⟨_,_,_,rfl,l4,hK _ _ _ _ (A0 l1 (A0 l2 (A0 l3 l4))) k4 ?_⟩
  rw [<- Int.natCast_add,<- hval] at M4
  exact M4
section
variable {h g:Heap} {K:Value->Heap->Prop} {A XA:Option Addr} {n c:Nat} {eT:TypeId} {l:List UInt8}
theorem Zo{hs:Heap}{ss:List (Option Addr × Nat × Nat)}{s:Option Addr × Nat × Nat}(h3:∀ i s,ss[i]? = some s->s.2.1<=s.2.2/\Mw hs s.1 s.2.1 (Fz i:Int))(h4:s.2.1<=s.2.2/\Mw hs s.1 s.2.1 (Fz ss.length:Int)):∀ i t,(ss++[s])[i]? = some t->t.2.1<=t.2.2/\Mw hs t.1 t.2.1 (Fz i:Int):=by
 intro i t e
 by_cases hi:i<ss.length
 ·rw [List.getElem?_append_left hi] at e;exact h3 i t e
 ·rw [List.getElem?_append_right (by omega)] at e
  by_cases h0:i=ss.length
  ·subst h0
   simp at e
   subst e;exact h4
  ·rw [List.getElem?_eq_none (by simp;omega)] at e;cases e
theorem Wg{hs:Heap}{b:Nat}{e:TypeId}: ∀ i (t:Option Addr × Nat × Nat),[((some ⟨b,0,none⟩:Option Addr),1,1)][i]? = some t->t.2.1<=t.2.2/\Mw (hs.put b (.cells #[U 10000000000000000000] e)) t.1 t.2.1 (Fz i:Int):=by
 intro i t e0
 rcases i with _|i
 ·simp at e0
  subst e0
  refine ⟨Nat.le_refl _,[10000000000000000000],rfl,SlI.new _ _ _ _ _,?_,?_,?_⟩
  ·intro x hx;simp at hx;subst hx;decide
  ·unfold Norm;simp
  ·rw [A7g];simp [val]
 ·simp at e0
theorem Ra(hd:∀ c∈l,G8 c)(hl:l.length<=100000000)(hK:∀ A n c h',h.le h'->n<=c->Mw h' A n (K6 l:Int)->K (.slice A n c) h'):FCall Tryz.prog Ek #[.string (bs l)] h K:=by
 refine Ua _ ?_
 unfold St
 rw [J6]
 refine B7 (fun h5=>?_) (fun _=>?_)
 ·refine V1 O1 rfl ?_
  intro b1 hb1
  refine ⟨_,_,_,rfl,?_⟩
  refine Cs A3y (Priv.nil _ _ _ none) rfl rfl (by omega) (by omega) ?_
  intro A1 c1 h1 g1 lg1 p1
  refine ⟨fun s hp=>∃ (ss:List (Option Addr × Nat × Nat)) (PA:Option Addr) (k pc:Nat) (g:Heap),s=[.slice PA k pc]/\Priv hp g Eb 1 PA k pc (ss.map slT)/\ss.length=k/\0<k/\h.le g/\(∀ i s,ss[i]? = some s->s.2.1<=s.2.2/\Mw g s.1 s.2.1 (Fz i:Int))/\2^(k-1)<=l.length,fun s _=>match s with|[.slice _ n _]=>l.length-n|_=>0,⟨[(some ⟨b1,0,none⟩,1,1)],A1,1,c1,g1,rfl,p1,rfl,by omega,A0 (Heap.le_put _ hb1) lg1,fun i s e=>⟨(Wg (hs:=h) (b:=b1) (e:=C2) i s e).1,(Wg (hs:=h) (b:=b1) (e:=C2) i s e).2.mono lg1⟩,by simp;omega⟩,?_⟩
  rintro PA k pc hp ⟨ss,PA',k',pc',g,hs,p,hk,hk0,lg,hw,hkl⟩
  simp only [List.cons.injEq,Value.slice.injEq,and_true] at hs
  obtain ⟨rfl,rfl,rfl⟩:=hs
  have hk27:k-1<27:=by
   by_cases hc:k-1<27
   ·exact hc
   ·have:2^27<=2^(k-1):=Nat.pow_le_pow_right (by decide) (by omega)
    have:(2:Nat)^27=134217728:=by decide
    omega
  rw [Int.toNat_natCast,B5m (show k<=30 by omega)]
  have e1:B4 ((k:Int)-1)=((k-1:Nat):Int):=by rw [B6 (by omega) (by omega)];omega
  have hPg:Pws hp PA k:=⟨ss,hk,p.slV,fun i s e=>⟨(hw i s e).1,(hw i s e).2.mono p.le⟩⟩
  refine B7 (fun e=>absurd e (by omega)) (fun _=>B7 (fun h6=>?_) (fun h6=>?_))
  ·obtain ⟨a,ha,hc⟩:=p.slV.at (i:=k-1) (by rw [List.length_map];omega)
   rw [List.getElem_map] at hc
   obtain ⟨h4,M⟩:=hw (k-1) (ss[k-1]'(by omega)) (List.getElem?_eq_getElem (by omega))
   generalize ss[k-1]'(by omega)=s at *
   rw [e1,Int.toNat_natCast,Nat.mul_one]
   refine ⟨a,ha,by omega,by omega,_,_,_,hc,?_⟩
   have hlen:=M.tenP_le
   refine p.call ?_
   refine G2 M M h4 h4 (by omega) (by omega) ?_
   intro A2 m2 c2 g2 l2 k2 M2 h2 p2
   refine ⟨_,_,_,rfl,?_⟩
   refine Cs A3y p2 rfl rfl (by omega) (by omega) ?_
   intro A3 c3 h3 g3 l3 p3
   have hm:2^k=2*2^(k-1):=by
    obtain ⟨i,rfl⟩:∃ i,k=i+1:=⟨k-1,by omega⟩
    rw [Nat.pow_succ];simp;omega
   have hkk:k<2^k:=Nat.lt_two_pow_self
   refine ⟨⟨ss++[(A2,m2,c2)],A3,k+1,c3,g3,rfl,?_,by simp;omega,by omega,A0 lg (A0 l2 l3),?_,?_⟩,?_⟩
   ·rw [List.map_append];exact p3
   ·refine Zo (fun i s e=>⟨(hw i s e).1,(hw i s e).2.mono (A0 l2 l3)⟩) ⟨k2,?_⟩
    rw [hk,show Fz k=Fz (k-1)*Fz (k-1) by rw [<- Zn];congr 1;omega,Int.natCast_mul]
    exact M2.mono l3
   ·rw [Nat.add_sub_cancel];omega
   ·show l.length-(k+1)<l.length-k
    omega
  ·refine Gc k hd hl hPg p.2.1 (by omega) ?_
   intro A n c h' l1 hc M
   exact ⟨_,_,_,rfl,hK _ _ _ _ (A0 lg (A0 p.le l1)) hc M⟩
 ·refine Gc 0 hd hl ⟨[],rfl,SlV.nil,by simp⟩ (by omega) (by omega) ?_
  intro A n c h' l1 hc M
  exact ⟨_,_,_,rfl,hK _ _ _ _ l1 hc M⟩
theorem Us(hd:∀ c∈l,G8 c)(hl:l.length<=100000000)(hK:∀ A n c h',h.le h'->ZI h' false A n c (K6 l:Int)->K (.agg #[.bool false,.slice A n c]) h'):FCall Tryz.prog Py #[.string (bs l)] h K:=by
 refine A9v _ ?_
 unfold B4p
 refine Ra hd hl ?_
 intro A n c h' l1 hc M
 refine ⟨_,_,_,rfl,hK _ _ _ _ l1 ⟨hc,?_,?_⟩⟩
 ·rw [Int.natAbs_natCast];exact M
 ·symm;rw [decide_eq_false_iff_not];omega
end
theorem Priv.le_put'{h g:Heap}{e:TypeId}{s:Nat}{A:Option Addr}{n c:Nat}{xs:List Value}(p:Priv h g e s A n c xs){b:Nat}(hb:h b=none)(o:Obj):g.le (g.put b o):=by
 intro k o' hk
 have hne:k≠b:=by
  rintro rfl
  rw [p.le k o' hk] at hb;cases hb
 rw [B5 _ _ hne];exact hk
theorem A74{n:Int}(h0:9223372036854775808<=n)(h1:n<18446744073709551616):B4 n=n-18446744073709551616:=by
 unfold B4 IntKind.wrap
 simp only [IntKind.signed,IntKind.bits]
 have e:n%18446744073709551616=n:=by omega
 simp only [show (2^64:Int)=18446744073709551616 from rfl,show (2^(64-1):Int)=9223372036854775808 from rfl,e]
 rw [if_pos (by simp;omega)]
section
variable {h g:Heap} {K:Value->Heap->Prop} {A XA:Option Addr} {n c:Nat} {eT:TypeId} {l:List UInt8}
theorem B8c{v xn:Nat}(hv:(v:Int)<b64^xn):(dd v).length<=20*xn:=by
 refine O8.2 ?_
 rw [Nat.pow_mul]
 have h1:((v:Nat):Int)<((18446744073709551616^xn:Nat):Int):=by rw [Int.natCast_pow];exact hv
 exact Nat.lt_of_lt_of_le (Int.ofNat_lt.1 h1) (Nat.pow_le_pow_left (by decide) _)
theorem Fg{xn xc v:Nat}(gp:Gp g)(p:Priv h g eT 1 A n c (yv l))(M:Mw g XA xn (v:Int))(hxc:xn<=xc)(hx:xn<=10000000)(hn:n<=200000000)
 (hK:∀ A' n' c' e3 g' h',Ext g eT A n c l (L7 v) A' n' c' e3 g' h'->K (.slice A' n' c') h'):FCall Tryz.prog W8 #[.slice A n c,.slice XA xn xc] h K:=by
 have h0:=M.len_zero (by decide)
 refine Tc _ _ _ _ _ _ ?_
 unfold Pe
 refine D9 (fun e=>?_) (fun e=>?_)
 ·obtain rfl:v=0:=by omega
  refine Kl (ch:=48) rfl p (by omega) ?_
  intro A' n' c' e2 g' h' x
  exact hK _ _ _ _ _ _ x
 ·have hv0:v≠0:=by omega
  refine D9 (fun e1=>?_) (fun e1=>?_)
  ·obtain ⟨xs,hxl,sx,dx,nx,hxv⟩:=M
   obtain ⟨w,rfl⟩:∃ w,xs=[w]:=by
    rcases xs with _|⟨w,_|⟨w',r⟩⟩
    ·simp at hxl;omega
    ·exact ⟨w,rfl⟩
    ·simp at hxl;omega
   rw [U3] at hxv
   subst hxv
   refine (SlI.mono p.le sx).load hxl (by omega) (by omega) ?_
   have hw:=dx v (by simp)
   refine Ff (gp.mono p.le) p (by have:(v:Int)<18446744073709551616:=hw.2;omega) (by omega) ?_
   intro A' n' c' e2 g' h' x
   exact ⟨_,_,_,rfl,hK _ _ _ _ _ _ x⟩
  ·have hdl:=B8c (M.lt (by decide))
   have hpl:(pad 0 v).length<=200000000:=by rw [A46];omega
   refine V1 O1 rfl ?_
   intro b1 hb1
   refine ⟨_,_,_,rfl,?_⟩
   have p1:=p.put hb1 (.cells #[U 10000000000000000000] C2)
   have l1:=p.le_put' hb1 (.cells #[U 10000000000000000000] C2)
   have w1:=fun i s e=>Wg (hs:=g) (b:=b1) (e:=C2) i s e
   generalize h.put b1 (Obj.cells #[U 10000000000000000000] C2)=h1 at *
   generalize g.put b1 (Obj.cells #[U 10000000000000000000] C2)=g1 at *
   refine V1 A3y rfl ?_
   intro b2 hb2
   refine ⟨_,_,_,rfl,?_⟩
   have split:∀ {hp:Heap} {ss:List (Option Addr × Nat × Nat)} {PA:Option Addr} {k pc:Nat} {gp1 gp2:Heap},Priv hp gp1 Eb 1 PA k pc (ss.map slT)->Priv gp1 gp2 eT 1 A n c (yv l)->ss.length=k->g.le gp2->(∀ i s,ss[i]? = some s->s.2.1<=s.2.2/\Mw gp2 s.1 s.2.1 (Fz i:Int))->k<=26->
    FCall Tryz.prog G1 #[.slice A n c,.slice XA xn xc,I (0:Int),.slice PA k pc] hp (fun r hp9=>∃ (A1:Option Addr) (n1 c1:Nat),r= .slice A1 n1 c1/\K (.slice A1 n1 c1) hp9):=by
    intro hp ss PA k pc gp1 gp2 pP pT hk lg hw hk24
    obtain ⟨g3,pT3,pP3⟩:=pP.swap pT
    have l3:=A0 lg pP3.le
    refine Pk k (W:=0) (gp.mono l3) pT3 (M.mono l3) hxc hx ⟨ss,hk,pP3.slV,fun i s e=>⟨(hw i s e).1,(hw i s e).2.mono pP3.le⟩⟩ pP3.2.1 hk24 (.inl rfl) (by omega) ?_
    intro A' n' c' e2 g' h' x
    refine ⟨_,_,_,rfl,hK _ _ _ e2 g' _ ?_⟩
    rw [A46,<- W9 hv0] at x
    exact x.weak l3
   refine ⟨fun s hp=>∃ (ss:List (Option Addr × Nat × Nat)) (PA:Option Addr) (k pc:Nat) (gp1 gp2:Heap),s=[.slice PA k pc]/\Priv hp gp1 Eb 1 PA k pc (ss.map slT)/\Priv gp1 gp2 eT 1 A n c (yv l)/\ss.length=k/\0<k/\g.le gp2/\(∀ i s,ss[i]? = some s->s.2.1<=s.2.2/\Mw gp2 s.1 s.2.1 (Fz i:Int))/\2^(k-1)<=2*xn,fun s _=>match s with|[.slice _ n _]=>xn-n|_=>0,⟨[(some ⟨b1,0,none⟩,1,1)],_,1,1,h1,g1,rfl,⟨by simp,by simp,.inr ⟨b2,[.slice (some ⟨b1,0,none⟩) 1 1],rfl,hb2,rfl,by simp,by simp⟩⟩,p1,rfl,by omega,l1,w1,by simp;omega⟩,?_⟩
   rintro PA k pc hp ⟨ss,PA',k',pc',gp1,gp2,hs,pP,pT,hk,hk0,lg,hw,hkx⟩
   simp only [List.cons.injEq,Value.slice.injEq,and_true] at hs
   obtain ⟨rfl,rfl,rfl⟩:=hs
   have hk24:k<=26:=by
    by_cases hc:k<=26
    ·exact hc
    ·have h1:2^26<=2^(k-1):=Nat.pow_le_pow_right (by decide) (by omega)
     have h2:(2:Nat)^26=67108864:=by decide
     omega
   refine B7 (fun h30=>?_) (fun _=>split pP pT hk lg hw hk24)
   have e1:B4 ((k:Int)-1)=((k-1:Nat):Int):=by rw [B6 (by omega) (by omega)];omega
   obtain ⟨a,ha,hc⟩:=pP.slV.at (i:=k-1) (by rw [List.length_map];omega)
   rw [List.getElem_map] at hc
   obtain ⟨h4,Mk⟩:=hw (k-1) (ss[k-1]'(by omega)) (List.getElem?_eq_getElem (by omega))
   generalize ss[k-1]'(by omega)=s at *
   simp only [e1,Int.toNat_natCast,Nat.mul_one]
   refine ⟨a,ha,by omega,by omega,_,_,_,hc,?_⟩
   have hge:=Mk.tenP_ge
   have hle:=Mk.tenP_le
   have e2:B4 (2*(s.2.1:Int))=2*(s.2.1:Int):=B6 (by omega) (by omega)
   rw [e2]
   refine B7 (fun h5=>?_) (fun _=>split pP pT hk lg hw hk24)
   refine ⟨a,ha,by omega,by omega,_,_,_,hc,?_⟩
   refine pP.call (pT.call ?_)
   refine G2 Mk Mk h4 h4 (by omega) (by omega) ?_
   intro A2 m2 c2 g2 l2 k2 M2 gp1' pT' hp' pP'
   refine ⟨_,_,_,rfl,?_⟩
   refine Cs A3y pP' rfl rfl (by omega) (by omega) ?_
   intro A3 c3 h3 g3 l3 p3
   obtain ⟨g4,l4,pT4⟩:=pT'.after l3
   have hm:2^k=2*2^(k-1):=by
    obtain ⟨i,rfl⟩:∃ i,k=i+1:=⟨k-1,by omega⟩
    rw [Nat.pow_succ];simp;omega
   have hkk:k<2^k:=Nat.lt_two_pow_self
   refine ⟨⟨ss++[(A2,m2,c2)],A3,k+1,c3,g3,g4,rfl,?_,pT4,by simp;omega,by omega,A0 lg (A0 l2 l4),?_,?_⟩,?_⟩
   ·rw [List.map_append];exact p3
   ·refine Zo (fun i s e=>⟨(hw i s e).1,(hw i s e).2.mono (A0 l2 l4)⟩) ⟨k2,?_⟩
    rw [hk,show Fz k=Fz (k-1)*Fz (k-1) by rw [<- Zn];congr 1;omega,Int.natCast_mul]
    exact M2.mono l4
   ·rw [Nat.add_sub_cancel];omega
   ·show xn-(k+1)<xn-k
    omega
theorem B16{z:Int}{s:Bool}{xn xc m:Nat}(i:ZI h s XA xn xc z)(hz:ZB m z)(hm:m<=100000000):xn<=10000000:=by
 obtain ⟨k,hk⟩:∃ k,k=10000000:=⟨_,rfl⟩
 rw [<- hk]
 refine i.mag.len_le (by decide) ?_
 rw [It]
 have h1:(z.natAbs:Int)<2^m:=by
  have:((z.natAbs:Nat):Int)<((2^m:Nat):Int):=Int.ofNat_lt.2 hz
  simpa using this
 have h2:=D0 (B:=2) (by decide) (show m<=64*k by omega)
 exact Int.lt_of_lt_of_le h1 h2
theorem Fs{s:Bool}{xn xc:Nat}{z:Int}(gp:Gp g)(p:Priv h g eT 1 A n c (yv l))(i:ZI g s XA xn xc z){m:Nat}(hz:ZB m z)(hm:m<=100000000)(hn:n<=100000000)
 (hK:∀ A' n' c' e3 g' h',Ext g eT A n c l (Jp z) A' n' c' e3 g' h'->K (.slice A' n' c') h'):FCall Tryz.prog Gg #[.agg #[.bool s,.slice XA xn xc],.slice A n c] h K:=by
 have hx:=B16 i hz hm
 refine A6c _ _ _ _ _ _ _ ?_
 unfold A9s
 refine Br.of (fun e=>?_) (fun e=>?_)
 ·have hneg:z<0:=by have:=i.sgn;rw [e] at this;simpa using this.symm
  rw [A3w hneg] at hK
  refine Kl (ch:=45) rfl p (by omega) ?_
  intro A1 n1 c1 e1 g1 hp1 x1
  have:=x1.len
  refine Fg (gp.mono x1.le) x1.priv (i.mag.mono x1.le) i.cap hx (by simp at this;omega) ?_
  intro A2 n2 c2 e2 g2 hp2 x2
  exact ⟨_,_,_,rfl,hK _ _ _ _ _ _ (x1.trans x2)⟩
 ·have hneg:¬ z<0:=by have:=i.sgn;rw [e] at this;simpa using this.symm
  rw [Pu hneg] at hK
  refine Fg gp p i.mag i.cap hx (by omega) ?_
  intro A2 n2 c2 e2 g2 hp2 x2
  exact ⟨_,_,_,rfl,hK _ _ _ _ _ _ x2⟩
theorem Za{s:Bool}{xn xc:Nat}{z:Int}(gp:Gp h)(i:ZI h s XA xn xc z){m:Nat}(hz:ZB m z)(hm:m<=100000000)(hK:K (.string (bs (Jp z))) h):FCall Tryz.prog Rq #[.agg #[.bool s,.slice XA xn xc]] h K:=by
 refine FCall.pure (A69 _ _ _ _ ?_)
 unfold A9m
 refine Fs (l:=[]) (eT:=F5) gp (Priv.nil _ _ _ _) i hz hm (by omega) ?_
 intro A' n' c' e2 g' h' x
 refine ⟨_,_,_,rfl,?_⟩
 have hx:=x.len
 refine Jz Fc.und Dd U4 x.priv.slV (by simpa using hx) ⟨_,rfl,?_⟩
 exact ⟨A0 x.le x.priv.le,hK⟩
theorem A1x{s:Bool}{xn xc:Nat}{z:Int}(i:ZI h s XA xn xc z)(hK1: -9223372036854775808<=z->z<9223372036854775808->K (.tuple #[I z,.bool true]) h)(hK0:¬ (-9223372036854775808<=z/\z<9223372036854775808)->K (.tuple #[I 0,.bool false]) h):FCall Tryz.prog Xf #[.agg #[.bool s,.slice XA xn xc]] h K:=by
 have hz:=i.zeroIff
 have cx:=Y2 i.sgn
 refine A9q _ _ _ _ ?_
 unfold B4n
 refine D9 (fun e=>?_) (fun e=>?_)
 ·obtain rfl:z=0:=by omega
  exact hK1 (by omega) (by omega)
 ·obtain ⟨xs,hxl,sx,dx,nx,hxv⟩:=i.mag
  have g0:=L4 dx 0
  refine sx.load hxl (by omega) (by omega) ?_
  rw [show ((0:Int)).toNat=0 from rfl]
  refine B7 (fun e1=>?_) (fun e1=>?_)
  ·refine hK0 ?_
   have hge:=i.mag.ge (by decide) (by omega)
   have h2:b64^1<=b64^(xn-1):=D0 (by decide) (by omega)
   have h3:b64^1=18446744073709551616:=by decide
   omega
  ·obtain ⟨w,rfl⟩:∃ w,xs=[w]:=by
    rcases xs with _|⟨w,_|⟨w',r⟩⟩
    ·simp at hxl;omega
    ·exact ⟨w,rfl⟩
    ·simp at hxl;omega
   rw [U3] at hxv
   have hw:[w].getD 0 0=w:=rfl
   rw [hw] at g0 ⊢
   rcases cx with ⟨rfl,hx⟩|⟨rfl,hx⟩
   ·refine Br.of (fun _=>?_) (fun e2=>by cases e2)
    refine B7 (fun e3=>?_) (fun e3=>?_)
    ·have:B4 (C0 (0-w))=z:=by rw [E8,A74 (by omega) (by omega)];omega
     rw [this];exact hK1 (by omega) (by omega)
    ·refine Br.of (fun e4=>by cases e4) (fun _=>?_)
     exact hK0 (by omega)
   ·refine Br.of (fun e2=>by cases e2) (fun _=>?_)
    refine Br.of (fun _=>?_) (fun e4=>by cases e4)
    refine B7 (fun e3=>?_) (fun e3=>?_)
    ·have:B4 w=z:=by rw [B6 (by omega) (by omega)];omega
     rw [this];exact hK1 (by omega) (by omega)
    ·exact hK0 (by omega)
end
theorem A8d(a b:Rat):(a*b).num=a.num.tdiv (Nat.gcd a.num.natAbs b.den:Nat)*b.num.tdiv (Nat.gcd b.num.natAbs a.den:Nat)/\(a*b).den=a.den/(Nat.gcd b.num.natAbs a.den)*(b.den/(Nat.gcd a.num.natAbs b.den)):=by
 show (Rat.mul a b).num=_/\(Rat.mul a b).den=_
 delta Rat.mul
 simp only [Int.divExact_eq_tdiv,Nat.divExact_eq_div,and_self]
theorem B4f{q:Rat}(h:q.den=1):q=(q.num:Rat):=by
 apply Rat.ext
 ·simp
 ·simpa using h
abbrev dgt(c:UInt8):Bool:=decide (G8 c)
theorem Ka(l:List UInt8):∀ c∈l.takeWhile dgt,G8 c:=by
 induction l with
 | nil=>simp
 | cons d r ih=>
  intro c hc
  by_cases hd:G8 d
  ·simp [hd] at hc
   rcases hc with rfl|hc
   ·exact hd
   ·exact ih c hc
  ·simp [hd] at hc
def B20(l:List UInt8):Bool:=decide ([45] <+: l)
def Dg(l:List UInt8):List UInt8:=if [45] <+: l then l.drop 1 else l
theorem A45(l:List UInt8):l=(if B20 l then [45] else [])++Dg l:=by
 unfold B20 Dg
 by_cases h:[45] <+: l
 ·obtain ⟨t,rfl⟩:=h;simp
 ·simp [h]
theorem A80(l:List UInt8):B20 l=(l.head? == some 45):=by
 unfold B20
 cases l with
 | nil=>simp
 | cons c r=>
  rw [List.head?_cons,Bool.eq_iff_iff,decide_eq_true_iff,beq_iff_eq,Option.some.injEq]
  constructor
  ·rintro ⟨t,e⟩;simp at e;exact e.1.symm
  ·rintro rfl;exact ⟨r,rfl⟩
theorem Form.parts{l:List UInt8}{neg:Bool}{a b:List UInt8}(f:Form l neg a b):neg=B20 l/\a=(Dg l).takeWhile dgt/\(if b=[] then [] else 47::b)=(Dg l).dropWhile dgt:=by
 have hn:neg=B20 l:=by rw [A80];exact f.head
 have e:=A45 l
 rw [<- hn] at e
 have e2:=e.symm.trans f.eq
 rw [List.append_assoc] at e2
 have e3:=List.append_cancel_left e2
 have hr:∀ c,(if b=[] then [] else 47::b:List UInt8).head? = some c->¬ G8 c:=by
  intro c hc
  split at hc
  ·simp at hc
  ·simp at hc;subst hc;decide
 have:=Ee f.da hr
 rw [<- e3] at this
 exact ⟨hn,this.1.symm,this.2.symm⟩
section
variable {h g:Heap} {K:Value->Heap->Prop} {l:List UInt8}
theorem Ij(hl:l.length<=1000000000)(hK:K (.tuple #[.string (bs (l.takeWhile dgt)),.string (bs (l.dropWhile dgt))]) h):FCall Tryz.prog Y4 #[.string (bs l)] h K:=by
 refine Yo _ ?_
 unfold Vm
 simp only [J6]
 refine ⟨fun L hp=>L=[I (((l.takeWhile dgt).length:Nat):Int)]/\hp=h,?_,?_⟩
 ·refine ⟨fun L hp=>∃ k:Nat,L=[I k]/\hp=h/\k<=l.length/\(∀ c∈l.take k,G8 c),fun L _=>l.length-(iAt L 0).toNat,⟨0,rfl,rfl,by omega,by simp⟩,?_⟩
  rintro n hp ⟨k,hL,rfl,hk,hd⟩
  obtain rfl:n=(k:Int):=by simpa using hL
  have stop:(∀ c,(l.drop k).head? = some c->¬ G8 c)->[I (k:Int)]=[I (((l.takeWhile dgt).length:Nat):Int)]/\hp=hp:=by
   intro hs
   have:=Ee hd hs
   rw [List.take_append_drop] at this
   refine ⟨?_,rfl⟩
   rw [this.1,List.length_take,Nat.min_eq_left hk]
  refine B7 (fun h1=>?_) (fun h1=>?_)
  ·have hkl:k<l.length:=by omega
   have hget:(bs l)[(k:Int).toNat]? = some l[k]:=by rw [Int.toNat_natCast,Oy,List.getElem?_eq_getElem hkl]
   have hh:(l.drop k).head? = some l[k]:=by rw [List.head?_drop,List.getElem?_eq_getElem hkl]
   refine ⟨l[k],⟨by omega,hget⟩,B7 (fun h2=>?_) (fun h2=>?_)⟩
   ·refine ⟨l[k],⟨by omega,hget⟩,B7 (fun h3=>?_) (fun h3=>?_)⟩
    ·rw [B6 (by omega) (by omega)]
     refine ⟨⟨k+1,rfl,rfl,by omega,?_⟩,by simp only [iAt,List.getElem?_cons_zero];omega⟩
     rw [List.take_succ_eq_append_getElem hkl]
     intro c hc
     rcases List.mem_append.1 hc with h4|h4
     ·exact hd c h4
     ·rw [List.mem_singleton.1 h4];exact ⟨by omega,by omega⟩
    ·exact stop (fun c hc=>by rw [hh] at hc;cases hc;intro hd;exact h3 (by have:=hd.2;omega))
   ·exact stop (fun c hc=>by rw [hh] at hc;cases hc;intro hd;exact h2 (by have:=hd.1;omega))
  ·exact stop (fun c hc=>by rw [List.drop_of_length_le (by omega)] at hc;cases hc)
 ·rintro n hp ⟨hL,rfl⟩
  obtain rfl:n=(((l.takeWhile dgt).length:Nat):Int):=by simpa using hL
  have hle:(l.takeWhile dgt).length<=l.length:=(List.takeWhile_sublist _).length_le
  have e1:l.take (l.takeWhile dgt).length=l.takeWhile dgt:=by
   conv=>lhs;rw [<- List.takeWhile_append_dropWhile (p:=dgt) (l:=l)]
   rw [List.takeWhile_append_dropWhile,List.prefix_iff_eq_take.1 (List.takeWhile_prefix _)]
   rw [List.length_take,Nat.min_eq_left hle]
  have e2:l.drop (l.takeWhile dgt).length=l.dropWhile dgt:=by
   have h5:l.takeWhile dgt++l.drop (l.takeWhile dgt).length=l.takeWhile dgt++l.dropWhile dgt:=by
    rw [List.takeWhile_append_dropWhile]
    conv=>lhs;lhs;rw [<- e1]
    exact List.take_append_drop _ _
   exact List.append_cancel_left h5
  refine ⟨⟨by omega,by omega⟩,⟨by omega,by omega⟩,?_⟩
  rw [Int.toNat_natCast,L5,L5,List.drop_zero,Nat.sub_zero,e1,e2,List.take_of_length_le (by rw [<- e2,List.length_drop];omega)]
  exact hK
theorem Dp(a:List UInt8):((bs a).toList==({ data:=#[] }:ByteArray).toList)=decide (a=[]):=Oz a []
theorem A5e(hl:l.length<=1000000000)(hK1:∀ neg a b,Form l neg a b->K (.tuple #[.agg #[.bool neg,.string (bs a),.string (bs b)],.bool true]) h)(hK0:(∀ neg a b,¬ Form l neg a b)->∀ neg a b,K (.tuple #[.agg #[.bool neg,.string (bs a),.string (bs b)],.bool false]) h):FCall Tryz.prog Xj #[.string (bs l)] h K:=by
 refine A9z _ ?_
 unfold B4t
 refine Tw (q:=[45]) ⟨_,_,rfl,?_⟩
 have hpl:(Dg l).length<=l.length:=by unfold Dg;split<;>simp
 show FCall Tryz.prog Y4 #[.string (bs (Dg l))] h _
 refine Ij (by omega) ⟨_,_,rfl,?_⟩
 show Br _ _ _
 have hspl:Dg l=(Dg l).takeWhile dgt++(Dg l).dropWhile dgt:=List.takeWhile_append_dropWhile.symm
 have hda:∀ c∈(Dg l).takeWhile dgt,G8 c:=Ka _
 have hfp:∀ neg a b,Form l neg a b->neg=B20 l/\a=(Dg l).takeWhile dgt/\(if b=[] then [] else 47::b)=(Dg l).dropWhile dgt:=fun neg a b f=>f.parts
 have hl2:=A45 l
 have hal:((Dg l).takeWhile dgt).length<=l.length:=Nat.le_trans (List.takeWhile_sublist _).length_le hpl
 have hrl:((Dg l).dropWhile dgt).length<=l.length:=Nat.le_trans (List.dropWhile_sublist _).length_le hpl
 have hrh:∀ c,((Dg l).dropWhile dgt).head? = some c->¬ G8 c:=fun c hc=>by
  have:=List.head?_dropWhile_not dgt (Dg l)
  rw [hc] at this
  simpa using this
 show Br _ _ _
 have hneg:decide ([45] <+: l)=B20 l:=rfl
 rw [hneg]
 generalize B20 l=neg at *
 generalize (Dg l).takeWhile dgt=a at *
 generalize (Dg l).dropWhile dgt=r at *
 generalize Dg l=t at *
 subst hspl
 have e48:((bs a).toList==({ data:=#[48] }:ByteArray).toList)=decide (a=[48]):=Oz a [48]
 rw [e48,Dp,Dp]
 refine B7 (fun h1=>?_) (fun h1=>?_)
 ·subst h1
  refine Dx (Br.of (fun hn=>?_) (fun hn=>?_))
  ·subst hn
   refine hK0 ?_ _ _ []
   intro n' a' b' f
   obtain ⟨rfl,rfl,_⟩:=hfp _ _ _ f
   rcases f.ha with h2|h2
   ·exact h2 rfl
   ·cases h2.2.1
  ·subst hn
   by_cases hr:r=[]
   ·rw [decide_eq_true hr]
    subst hr
    refine hK1 false [48] [] ⟨by simpa using hl2,by simpa using hda,by simp,by simp,.inr ⟨rfl,rfl,rfl⟩,by simp,by simp⟩
   ·rw [decide_eq_false hr]
    refine hK0 ?_ _ _ []
    intro n' a' b' f
    obtain ⟨rfl,rfl,h3⟩:=hfp _ _ _ f
    rcases f.ha with h2|h2
    ·exact h2 rfl
    ·rw [h2.2.2] at h3;exact hr (by simpa using h3.symm)
 ·refine ⟨fun L hp=>L=[.bool (decide (a=[]\/a.head? = some 48))]/\hp=h,?_,?_⟩
  ·refine B7 (fun h2=>⟨by simp [h2],rfl⟩) (fun h2=>?_)
   obtain ⟨c,r2,rfl⟩:=List.exists_cons_of_ne_nil h2
   refine ⟨c,⟨by omega,by rw [Oy];rfl⟩,?_,rfl⟩
   congr 2
   rw [Bool.eq_iff_iff,beq_iff_eq,decide_eq_true_iff]
   simp only [reduceCtorEq,false_or,List.head?_cons,Option.some.injEq]
   constructor
   ·intro e;apply UInt8.toNat_inj.1;show c.toNat=48;omega
   ·rintro rfl;rfl
  rintro t31 hp ⟨hL,rfl⟩
  obtain rfl:t31=decide (a=[]\/a.head? = some 48):=by simpa using hL
  refine B7 (fun h2=>?_) (fun h2=>?_)
  ·refine hK0 ?_ _ _ []
   intro n' a' b' f
   obtain ⟨rfl,rfl,_⟩:=hfp _ _ _ f
   rcases h2 with h2|h2
   ·exact f.ne h2
   ·rcases f.ha with h3|h3
    ·exact h3 h2
    ·exact h1 h3.1
  ·have hane:a≠[]:=fun e=>h2 (.inl e)
   have hah:a.head? ≠ some 48:=fun e=>h2 (.inr e)
   refine B7 (fun h3=>?_) (fun h3=>?_)
   ·subst h3
    exact hK1 neg a [] ⟨by simpa using hl2,hda,by simp,hane,.inl hah,by simp,by simp⟩
   ·obtain ⟨c,r2,rfl⟩:=List.exists_cons_of_ne_nil h3
    refine ⟨c,⟨by omega,by rw [Oy];rfl⟩,L8 (fun h4=>?_) (fun h4=>?_)⟩
    ·refine hK0 ?_ _ _ []
     intro n' a' b' f
     obtain ⟨rfl,rfl,h5⟩:=hfp _ _ _ f
     by_cases hb:b'=[]
     ·simp [hb] at h5
     ·rw [if_neg hb] at h5
      simp at h5
      exact h4 (by rw [<- h5.1];rfl)
    ·have hc:c=47:=by apply UInt8.toNat_inj.1;show c.toNat=47;omega
     subst hc
     refine ⟨⟨by omega,by rw [J6];simp;omega⟩,?_⟩
     rw [L5,show ((1:Int)).toNat=1 from rfl,J6,List.take_of_length_le (by simp),List.drop_succ_cons,List.drop_zero]
     refine Ij (by simp at hrl;omega) ⟨_,_,rfl,?_⟩
     have hsp2:r2=r2.takeWhile dgt++r2.dropWhile dgt:=List.takeWhile_append_dropWhile.symm
     have hdb:∀ c∈r2.takeWhile dgt,G8 c:=Ka _
     have hbp:∀ b':List UInt8,(∀ c∈b',G8 c)->b'=r2->r2.takeWhile dgt=b'/\r2.dropWhile dgt=[]:=by
      intro b' hd e
      subst e
      have:=Ee (r:=[]) hd (by simp)
      simpa using this
     generalize r2.takeWhile dgt=b at *
     generalize r2.dropWhile dgt=s at *
     have no:(s≠[]\/b=[]\/b.head? = some 48\/b=[49])->∀ neg' a' b',¬ Form (((if neg=true then [45] else [])++(a++47::r2))) neg' a' b':=by
      rintro hbad n' a' b' f
      rw [<- hl2] at f
      obtain ⟨rfl,rfl,h5⟩:=hfp _ _ _ f
      by_cases hb:b'=[]
      ·simp [hb] at h5
      ·rw [if_neg hb] at h5
       simp at h5
       obtain ⟨e6,e7⟩:=hbp b' f.db h5
       subst e6
       rcases hbad with h6|h6|h6|h6
       ·exact h6 e7
       ·exact hb h6
       ·exact f.hb h6
       ·exact f.b1 h6
     rw [Dp,Dp]
     have e49:((bs b).toList==({ data:=#[49] }:ByteArray).toList)=decide (b=[49]):=Oz b [49]
     rw [e49]
     refine B7 (fun h6=>?_) (fun h6=>hK0 (by rw [hl2];exact no (.inl h6)) _ _ _)
     subst h6
     rw [List.append_nil] at hsp2
     subst hsp2
     refine Dx (B7 (fun h7=>hK0 (by rw [hl2];exact no (.inr (.inl h7))) _ _ _) (fun h7=>?_))
     obtain ⟨c,r3,rfl⟩:=List.exists_cons_of_ne_nil h7
     refine ⟨c,⟨by omega,by rw [Oy];rfl⟩,L8 (fun h8=>?_) (fun h8=>?_)⟩
     ·by_cases h9:c::r3=[49]
      ·rw [decide_eq_true h9]
       exact hK0 (by rw [hl2];exact no (.inr (.inr (.inr h9)))) _ _ _
      ·rw [decide_eq_false h9]
       refine hK1 neg a (c::r3) ⟨by simpa using hl2,hda,hdb,hane,.inl hah,?_,h9⟩
       intro e;simp at e;exact h8 (by rw [e];rfl)
     ·have hh:(c::r3).head? = some 48:=by
       simp only [List.head?_cons,Option.some.injEq]
       apply UInt8.toNat_inj.1;show c.toNat=48;omega
      exact hK0 (by rw [hl2];exact no (.inr (.inr (.inl hh)))) _ _ _
end
theorem B1d{q:Rat}(h:q.den=1):N5 q=Jp q.num:=by unfold N5;rw [if_pos h,List.append_nil]
theorem A7d{q:Rat}(h:q.den≠1):N5 q=Jp q.num++[47]++Jp (q.den:Int):=by
 unfold N5;rw [if_neg h,Pu (i:=(q.den:Int)) (by omega),Int.natAbs_natCast];simp
section
variable {h g:Heap} {K:Value->Heap->Prop} {l:List UInt8}
end
structure RQ (h:Heap) (w:QV) (q:Rat):Prop where
 num:ZI h w.s w.A w.n w.c q.num
 den:ZI h w.s2 w.A2 w.n2 w.c2 (if q.den=1 then 0 else (q.den:Int))
theorem ZB.gcd{m:Nat}{x y:Int}(hy:y≠0)(h:ZB m y):ZB m (Int.gcd x y:Int):=by
 refine h.le ?_
 rw [Int.natAbs_natCast]
 exact Nat.le_of_dvd (by omega) (Int.natAbs_dvd_natAbs.2 (Int.gcd_dvd_right x y))
section
variable {h h':Heap} {K:Value->Heap->Prop} {A B:Option Addr} {n c n' c':Nat} {s s':Bool} {x y z:Int} {m:Nat} {p q:Rat} {a b w:QV} {l:List UInt8}
theorem RQ.mono(hl:h.le h')(i:RQ h w q):RQ h' w q:=⟨i.num.mono hl,i.den.mono hl⟩
theorem RQ.whole(i:ZI h s A n c z):RQ h ⟨s,A,n,c,false,none,0,0⟩ (z:Rat):=⟨by simpa using i,by simpa using ZI.zero⟩
theorem RQ.zero:RQ h ⟨false,none,0,0,false,none,0,0⟩ 0:=⟨ZI.zero,ZI.zero⟩
theorem Hp(i:RQ h w q)(hK:K (.bool (decide (q.den=1))) h):FCall Tryz.prog H8 #[.agg #[.bool w.s2,.slice w.A2 w.n2 w.c2]] h K:=by
 refine G9 i.den ?_
 have:=q.den_nz
 have e:decide ((if q.den=1 then (0:Int) else (q.den:Int))=0)=decide (q.den=1):=by
  rw [decide_eq_decide];split<;>omega
 rw [e];exact hK
theorem Bs(i:ZI h s A n c z)(j:ZI h s' B n' c' y)(h1:q.num=z)(h2:(q.den:Int)=y)(hK:∀ w,RQ h w q->K w.v h):FCall Tryz.prog By #[.agg #[.bool s,.slice A n c],.agg #[.bool s',.slice B n' c']] h K:=by
 subst h1 h2
 refine A6f _ _ _ _ _ _ _ _ ?_
 unfold B01
 refine U2 j ⟨_,rfl,B7 (fun e=>?_) (fun e=>?_)⟩
 ·exact hK ⟨s,A,n,c,false,none,0,0⟩ ⟨i,by rw [if_pos (by omega)];exact ZI.zero⟩
 ·exact hK ⟨s,A,n,c,s',B,n',c'⟩ ⟨i,by rw [if_neg (by omega)];exact j⟩
theorem Kk(i:RQ h w q)(hK:∀ s A n c h',h.le h'->ZI h' s A n c (q.den:Int)->K (.agg #[.bool s,.slice A n c]) h'):FCall Tryz.prog Vb #[w.v] h K:=by
 refine B6x _ _ _ _ _ _ _ _ ?_
 unfold C1e
 refine Hp i ⟨_,rfl,B7 (fun e=>?_) (fun e=>?_)⟩
 ·refine Da (by decide) (by decide) ?_
  intro s A n c h1 l1 i1
  exact ⟨_,_,_,_,rfl,hK _ _ _ _ _ l1 (by rw [e];exact i1)⟩
 ·have:=i.den
  rw [if_neg e] at this
  exact hK _ _ _ _ _ (B3 _) this
theorem Sm(gl:Gtz h)(i:ZI h s A n c x)(j:ZI h s' B n' c' y)(hx:ZB m x)(hy:ZB m y)(hm:m<=6400000000)(hy0:0<y)(hK:∀ s1 A1 n1 c1 s2 A2 n2 c2 h',h.le h'->ZI h' s1 A1 n1 c1 (x.tdiv (Int.gcd x y))->ZI h' s2 A2 n2 c2 (y.tdiv (Int.gcd x y))->K (.tuple #[.agg #[.bool s1,.slice A1 n1 c1],.agg #[.bool s2,.slice A2 n2 c2]]) h'):FCall Tryz.prog Lb #[.agg #[.bool s,.slice A n c],.agg #[.bool s',.slice B n' c']] h K:=by
 refine A6g _ _ _ _ _ _ _ _ ?_
 unfold B02
 refine U2 j ⟨_,rfl,B7 (fun e=>?_) (fun e=>?_)⟩
 ·subst e
  have hg:Int.gcd x 1=1:=by simp
  rw [hg] at hK
  exact hK _ _ _ _ _ _ _ _ _ (B3 _) (by simpa using i) (by simpa using j)
 ·refine Jr gl i j hx hy hm ?_
  intro A1 n1 c1 h1 l1 i1
  have hg:=Int.gcd_pos_of_ne_zero_right x (show y≠0 by omega)
  have hgb:ZB m (Int.gcd x y:Int):=ZB.gcd (by omega) hy
  refine ⟨_,_,_,_,rfl,Bi (i.mono l1) i1 hx hgb hm (by omega) ?_⟩
  intro s2 A2 n2 c2 h2 l2 i2
  refine ⟨_,_,_,_,rfl,l2,Bi (j.mono (A0 l1 l2)) (i1.mono l2) hy hgb hm (by omega) ?_⟩
  intro s3 A3 n3 c3 h3 l3 i3
  exact ⟨_,_,_,_,rfl,l3,hK _ _ _ _ _ _ _ _ _ (A0 l1 (A0 l2 l3)) (i2.mono l3) i3⟩
theorem A5j(i:RQ h w q)(hK:∀ w',RQ h w' (-q)->K w'.v h):FCall Tryz.prog A8t #[w.v] h K:=by
 refine B6u _ _ _ _ _ _ _ _ ?_
 unfold C1b
 refine Bj i.num ?_
 intro s' i'
 exact ⟨_,_,_,_,rfl,B3 _,hK ⟨s',w.A,w.n,w.c,w.s2,w.A2,w.n2,w.c2⟩ ⟨by simpa using i',by simpa using i.den⟩⟩
end
structure Gl (h:Heap):Prop where
 tz:Gtz h
 p10:Gp h
theorem Gl.mono{h h':Heap}(g:Gl h)(l:h.le h'):Gl h':=⟨g.tz.mono l,g.p10.mono l⟩
section
variable {h h':Heap} {K:Value->Heap->Prop} {A B:Option Addr} {n c n' c':Nat} {s s':Bool} {x y z:Int} {m:Nat} {p q:Rat} {a b w:QV} {l:List UInt8}
theorem Up(gl:Gtz h)(i:RQ h a p)(j:RQ h b q)(hp:Sz m p)(hq:Sz m q)(hm:m<=6400000000)(hK:∀ w h',h.le h'->RQ h' w (p*q)->K w.v h'):FCall Tryz.prog A4f #[a.v,b.v] h K:=by
 have hpd:=p.den_nz
 have hqd:=q.den_nz
 refine B6v _ _ _ _ _ _ _ _ _ _ _ _ _ _ _ _ ?_
 unfold C1c
 refine ⟨fun L hp=>L=[.bool (decide (p.num=0\/q.num=0))]/\hp=h,G9 i.num ⟨_,rfl,B7 (fun e=>?_) (fun e=>?_)⟩,?_⟩
 ·exact ⟨by simp [e],rfl⟩
 ·exact G9 j.num ⟨_,rfl,by simp [e],rfl⟩
 rintro t16 hp2 ⟨hL,rfl⟩
 obtain rfl:t16=decide (p.num=0\/q.num=0):=by simpa using hL
 refine B7 (fun e=>?_) (fun e=>?_)
 ·have:p*q=0:=by
   rw [Rat.num_eq_zero,Rat.num_eq_zero] at e
   exact Rat.mul_eq_zero.2 e
  rw [this] at hK
  exact hK ⟨false,none,0,0,false,none,0,0⟩ _ (B3 _) RQ.zero
 ·refine ⟨fun L hp=>L=[.bool (decide (p.den=1/\q.den=1))]/\hp=hp2,Hp i ⟨_,rfl,B7 (fun e=>?_) (fun e=>?_)⟩,?_⟩
  ·exact Hp j ⟨_,rfl,by simp [e],rfl⟩
  ·exact ⟨by simp [e],rfl⟩
  rintro t25 hp5 ⟨hL,rfl⟩
  obtain rfl:t25=decide (p.den=1/\q.den=1):=by simpa using hL
  refine B7 (fun e=>?_) (fun e=>?_)
  ·refine Fp i.num j.num hp.num hq.num hm ?_
   intro s1 A1 n1 c1 h1 l1 i1
   refine ⟨_,_,_,_,rfl,hK ⟨s1,A1,n1,c1,false,none,0,0⟩ _ l1 ?_⟩
   have:=RQ.whole i1
   rw [Rat.intCast_mul,<- B4f e.1,<- B4f e.2] at this
   exact this
  ·have hpp:=A8d p q
   refine Kk j ?_
   intro s1 A1 n1 c1 h1 l1 jd
   refine ⟨_,_,_,_,rfl,l1,Sm (gl.mono l1) (i.num.mono l1) jd hp.num hq.den hm (by omega) ?_⟩
   intro s2 A2 n2 c2 s3 A3 n3 c3 h2 l2 i2 i3
   have l12:=A0 l1 l2
   refine ⟨_,_,_,_,_,_,_,_,rfl,l2,Kk (i.mono l12) ?_⟩
   intro s4 A4 n4 c4 h4 l4 idn
   refine ⟨_,_,_,_,rfl,l4,Sm (gl.mono (A0 l12 l4)) (j.num.mono (A0 l12 l4)) idn hq.num hp.den hm (by omega) ?_⟩
   intro s5 A5 n5 c5 s6 A6 n6 c6 h5 l5 i5 i6
   have e1:Int.gcd p.num (q.den:Int)=Nat.gcd p.num.natAbs q.den:=rfl
   have e2:Int.gcd q.num (p.den:Int)=Nat.gcd q.num.natAbs p.den:=rfl
   rw [e1] at i2 i3
   rw [e2] at i5 i6
   rw [<- Int.ofNat_tdiv] at i3 i6
   refine ⟨_,_,_,_,_,_,_,_,rfl,l5,Fp (i2.mono (A0 l4 l5)) i5 hp.num.tdiv hq.num.tdiv hm ?_⟩
   intro s7 A7 n7 c7 h7 l7 i7
   have b1:ZB m ((p.den/Nat.gcd q.num.natAbs p.den:Nat):Int):=hp.den.le (by rw [Int.natAbs_natCast,Int.natAbs_natCast];exact Nat.div_le_self _ _)
   have b2:ZB m ((q.den/Nat.gcd p.num.natAbs q.den:Nat):Int):=hq.den.le (by rw [Int.natAbs_natCast,Int.natAbs_natCast];exact Nat.div_le_self _ _)
   refine ⟨_,_,_,_,rfl,l7,Fp (i6.mono l7) (i3.mono (A0 l4 (A0 l5 l7))) b1 b2 hm ?_⟩
   intro s8 A8 n8 c8 h8 l8 i8
   refine ⟨_,_,_,_,rfl,l8,Bs (q:=p*q) (i7.mono l8) i8 hpp.1 (by rw [hpp.2,Int.natCast_mul]) ?_⟩
   intro w iw
   exact ⟨_,_,_,_,_,_,_,_,rfl,B3 _,hK _ _ (A0 l12 (A0 l4 (A0 l5 (A0 l7 l8)))) iw⟩
theorem Wp(i:RQ h w q)(hK:∀ w h',h.le h'->RQ h' w q⁻¹->K w.v h'):FCall Tryz.prog Nq #[w.v] h K:=by
 have hqd:=q.den_nz
 refine A3j _ _ _ _ _ _ _ _ ?_
 unfold A4z
 refine Ul i.num ⟨_,rfl,D9 (fun e=>?_) (fun e=>?_)⟩
 ·have h0:q.num=0:=Int.sign_eq_zero_iff_zero.1 e
  have:q⁻¹=0:=by rw [Rat.num_eq_zero.1 h0];exact Rat.inv_zero
  rw [this] at hK
  exact hK ⟨false,none,0,0,false,none,0,0⟩ _ (B3 _) RQ.zero
 ·have h0:q.num≠0:=fun e0=>e (by rw [e0];rfl)
  refine D9 (fun e1=>?_) (fun e1=>?_)
  ·have hneg:q.num<0:=Int.sign_neg_iff.1 (by omega)
   refine Kk i ?_
   intro s1 A1 n1 c1 h1 l1 i1
   refine ⟨_,_,_,_,rfl,l1,Bj i1 ?_⟩
   intro s2 i2
   refine ⟨_,_,_,_,rfl,B3 _,Bj (i.num.mono l1) ?_⟩
   intro s3 i3
   refine ⟨_,_,_,_,rfl,B3 _,Bs (q:=q⁻¹) i2 i3 ?_ ?_ ?_⟩
   ·rw [Rat.num_inv,e1];omega
   ·rw [Rat.den_inv,if_neg h0];omega
   ·intro w iw
    exact ⟨_,_,_,_,_,_,_,_,rfl,B3 _,hK _ _ l1 iw⟩
  ·have hpos:0<q.num:=by
    rcases Int.lt_trichotomy q.num 0 with h1|h1|h1
    ·exact absurd (Int.sign_eq_neg_one_of_neg h1) e1
    ·exact absurd h1 h0
    ·exact h1
   refine Kk i ?_
   intro s1 A1 n1 c1 h1 l1 i1
   refine ⟨_,_,_,_,rfl,l1,Bs (q:=q⁻¹) i1 (i.num.mono l1) ?_ ?_ ?_⟩
   ·rw [Rat.num_inv,Int.sign_eq_one_of_pos hpos,Int.one_mul]
   ·rw [Rat.den_inv,if_neg h0];omega
   ·intro w iw
    exact ⟨_,_,_,_,_,_,_,_,rfl,B3 _,hK _ _ l1 iw⟩
theorem My(gl:Gtz h)(i:RQ h a p)(j:RQ h b q)(hp:Sz m p)(hq:Sz m q)(hm1:1<=m)(hm:m<=6400000000)(hK:∀ w h',h.le h'->RQ h' w (p/q)->K w.v h'):FCall Tryz.prog A0o #[a.v,b.v] h K:=by
 refine B6w _ _ _ _ _ _ _ _ _ _ _ _ _ _ _ _ ?_
 unfold C1d
 refine Wp j ?_
 intro w1 h1 l1 j1
 refine ⟨_,_,_,_,_,_,_,_,rfl,l1,Up (gl.mono l1) (i.mono l1) j1 hp (hq.inv hm1) hm ?_⟩
 intro w2 h2 l2 i2
 rw [<- Rat.div_def] at i2
 exact ⟨_,_,_,_,_,_,_,_,rfl,l2,hK _ _ (A0 l1 l2) i2⟩
theorem Yd{t:List UInt8}{k:Nat}(h:∀ c∈t,G8 c)(hk:t.length<=k):ZB (4*k) (K6 t:Int):=by
 unfold ZB
 rw [Int.natAbs_natCast]
 exact Nat.lt_of_lt_of_le (Ca h) (Nat.pow_le_pow_right (by decide) (by omega))
theorem Form.lens{neg:Bool}{a b:List UInt8}(f:Form l neg a b):a.length<=l.length/\b.length<=l.length:=by
 have:=congrArg List.length f.eq
 simp only [List.length_append] at this
 by_cases hb:b=[]
 ·rw [if_pos hb] at this;subst hb;simp at this ⊢;omega
 ·rw [if_neg hb] at this;simp at this;omega
theorem A5l(gl:Gtz h)(hl:l.length<=100000000)(hK1:∀ q,l=N5 q->∀ w h',h.le h'->RQ h' w q->K (.tuple #[w.v,.bool true]) h')(hK0:¬ IsNum l->∀ (w:QV) h',h.le h'->RQ h' w 0->K (.tuple #[w.v,.bool false]) h'):FCall Tryz.prog A2w #[.string (bs l)] h K:=by
 refine B34 _ ?_
 unfold B8m
 refine A5e (by omega) ?_ ?_
 ·intro neg a b f
  refine ⟨_,_,_,_,rfl,Dx ?_⟩
  have hlen:=f.lens
  refine Us f.da (by omega) ?_
  intro A1 n1 c1 h1 l1 i1
  refine ⟨_,_,_,_,rfl,?_⟩
  refine ⟨fun L hp=>∃ s2:Bool,L=[.bool s2,.slice A1 n1 c1,.bool false,.slice none 0 0]/\hp=h1/\ZI h1 s2 A1 n1 c1 (Tp neg a),Br.of (fun e=>?_) (fun e=>?_),?_⟩
  ·refine Bj i1 ?_
   intro s2 i2
   exact ⟨_,_,_,_,rfl,s2,rfl,rfl,by unfold Tp;rw [e];exact i2⟩
  ·exact ⟨false,rfl,rfl,by unfold Tp;rw [e];exact i1⟩
  rintro x0 x1A x1n x1c x2 x3A x3n x3c hp3 ⟨s2,hL,rfl,i2⟩
  simp only [List.cons.injEq,Value.slice.injEq,Value.bool.injEq,and_true] at hL
  obtain ⟨rfl,⟨rfl,rfl,rfl⟩,rfl,rfl,rfl,rfl⟩:=hL
  have habs:(Tp neg a).natAbs=K6 a:=by unfold Tp;split<;>simp
  rw [Dp]
  refine B7 (fun hb=>?_) (fun hb=>?_)
  ·subst hb
   obtain ⟨q,hq⟩:=f.isNum.2 (by unfold Vc;simp)
   obtain ⟨h2,h3⟩:=f.of_txt hq
   refine hK1 q hq ⟨x0,x1A,x1n,x1c,false,none,0,0⟩ _ l1 ⟨by rw [h2];exact i2,?_⟩
   rw [h3,show Vc []=1 from rfl,if_pos rfl];exact ZI.zero
  ·refine Us f.db (by omega) ?_
   intro A4 n4 c4 h4 l4 i4
   have hnb:ZB (4*l.length) (Tp neg a):=(Yd f.da (k:=l.length) (by omega)).le (by rw [habs,Int.natAbs_natCast];exact Nat.le_refl _)
   refine ⟨_,_,_,_,rfl,Jr (gl.mono (A0 l1 l4)) (i2.mono l4) i4 hnb (Yd f.db (k:=l.length) (by omega)) (by omega) ?_⟩
   intro A5 n5 c5 h5 l5 i5
   refine ⟨_,_,_,_,rfl,U2 i5 ⟨_,rfl,?_⟩⟩
   have hfd:Vc b=K6 b:=by unfold Vc;rw [if_neg hb]
   have hgg:Int.gcd (Tp neg a) (K6 b:Int)=Nat.gcd (K6 a) (Vc b):=by
    rw [hfd];show Nat.gcd (Tp neg a).natAbs (K6 b)=_;rw [habs]
   rw [hgg]
   refine Dx (B7 (fun e1=>?_) (fun e1=>?_))
   ·obtain ⟨q,hq⟩:=f.isNum.2 (by omega)
    obtain ⟨h2,h3⟩:=f.of_txt hq
    have hd1:Vc b≠1:=by
     intro e2
     have h6:=Ln f.db hb (.inl f.hb)
     rw [<- hfd,e2] at h6
     apply f.b1
     rw [<- h6];simp [L7,Ai,I9,dch]
    refine hK1 q hq ⟨x0,x1A,x1n,x1c,false,A4,n4,c4⟩ _ (A0 l1 (A0 l4 l5)) ⟨by rw [h2];exact i2.mono (A0 l4 l5),?_⟩
    rw [h3,if_neg hd1,hfd];exact i4.mono l5
   ·refine hK0 ?_ ⟨false,none,0,0,false,none,0,0⟩ _ (A0 l1 (A0 l4 l5)) RQ.zero
    intro hn
    exact e1 (by rw [f.isNum.1 hn];rfl)
 ·intro hf neg a b
  refine ⟨_,_,_,_,rfl,Dx ?_⟩
  refine hK0 ?_ ⟨false,none,0,0,false,none,0,0⟩ _ (B3 _) RQ.zero
  intro hn
  obtain ⟨neg',a',b',f⟩:=hn.form
  exact hf _ _ _ f
theorem On(gp:Gp h)(i:RQ h w q)(hq:Sz m q)(hm:m<=40000000)(hK:K (.string (bs (N5 q))) h):FCall Tryz.prog Lc #[w.v] h K:=by
 refine FCall.pure (A6h _ _ _ _ _ _ _ _ ?_)
 unfold B05
 refine Hp i ⟨_,rfl,B7 (fun e=>?_) (fun e=>?_)⟩
 ·rw [B1d e] at hK
  refine A1x i.num (fun h1 h2=>?_) (fun h1=>?_)
  ·refine ⟨_,_,rfl,Br.of (fun _=>A3h _ ?_) (fun e=>by cases e)⟩
   unfold A4w
   exact Tu gp h1 h2 ⟨_,rfl,_,rfl,B3 _,hK⟩
  ·refine ⟨_,_,rfl,Br.of (fun e=>by cases e) (fun _=>?_)⟩
   exact Za gp i.num hq.num (by omega) ⟨_,rfl,B3 _,hK⟩
 ·rw [A7d e] at hK
  have idn:=i.den
  rw [if_neg e] at idn
  refine Fs (l:=[]) (eT:=F5) gp (Priv.nil _ _ _ _) i.num hq.num (by omega) (by omega) ?_
  intro A1 n1 c1 e1 g1 h1 x1
  refine ⟨_,_,_,rfl,?_⟩
  have hl1:(Jp q.num).length<=50000000:=by
   unfold Jp
   have:=Cb hq.num
   split<;>simp<;>omega
  have hx1:=x1.len
  refine Kl (ch:=47) rfl x1.priv (by omega) ?_
  intro A2 n2 c2 e2 g2 h2 x2
  have x12:=x1.trans x2
  have hx2:=x12.len
  rw [List.length_append,List.length_singleton] at hx2
  refine Fs (gp.mono x12.le) x2.priv (idn.mono x12.le) hq.den (by omega) (by omega) ?_
  intro A3 n3 c3 e3 g3 h3 x3
  refine ⟨_,_,_,rfl,?_⟩
  rw [List.append_assoc] at x3
  have x123:=x12.trans x3
  have hx3:=x123.len
  refine Jz Fc.und Dd U4 x123.priv.slV (by simpa using hx3) ⟨_,rfl,?_⟩
  refine ⟨A0 x123.le x123.priv.le,?_⟩
  simpa using hK
end
structure Tx (m:Nat) (l:List UInt8):Prop where
 len:l.length<=100000000
 sz:Sz m (rv l)
theorem B1e{m:Nat}{z:Int}(h:ZB m z):(Jp z).length<=m+2:=by
 have:=Cb h
 unfold Jp;split
 ·rw [List.length_cons];omega
 ·omega
theorem B1c{m:Nat}{q:Rat}(h:Sz m q):(N5 q).length<=2*m+4:=by
 have h1:=B1e h.num
 have h2:=Cb (n:=q.den) (m:=m) (by have:=h.den;unfold ZB at this;simpa using this)
 unfold N5
 split
 ·simp;omega
 ·simp;omega
theorem Tx.of{m:Nat}{q:Rat}(h:Sz m q)(hm:m<=40000000):Tx m (N5 q):=⟨by have:=B1c h;omega,by rw [Zx];exact h⟩
theorem A7c(q:Rat):∃ c r,N5 q=c::r/\(c=45↔q<0):=by
 have f:=Fy q
 have hne:N5 q≠[]:=by
  intro e
  have:=f.eq
  rw [e] at this
  have h2:=f.ne
  have:=congrArg List.length this
  simp only [List.length_append,List.length_nil] at this
  exact h2 (List.eq_nil_of_length_eq_zero (by omega))
 obtain ⟨c,r,e⟩:=List.exists_cons_of_ne_nil hne
 refine ⟨c,r,e,?_⟩
 have hh:=f.head
 rw [e,List.head?_cons,Bool.eq_iff_iff,decide_eq_true_iff,beq_iff_eq,Option.some.injEq] at hh
 rw [<- hh,Rat.lt_iff];simp
section
variable {h:Heap} {K:Value->Heap->Prop} {m:Nat} {a b:List UInt8}
end
def C0j(h:Heap)(r:Value)(h':Heap):Prop:=r= .bool true/\h.le h'
theorem B5n{x:List UInt8}{k:Nat}(hl:x.length<=k)(hk:1<=k):Sz (4*k) (rv x):=by
 by_cases hn:IsNum x
 ·obtain ⟨neg,a,b,f⟩:=hn.form
  obtain ⟨h1,h2⟩:=f.rv_num hn
  have hlen:=f.lens
  have habs:(Tp neg a).natAbs=K6 a:=by unfold Tp;split<;>simp
  refine ⟨?_,?_⟩
  ·rw [h1];exact (Yd f.da (k:=k) (by omega)).le (by rw [habs,Int.natAbs_natCast];exact Nat.le_refl _)
  ·rw [h2]
   unfold Vc
   split
   ·exact ZB.one (by omega)
   ·exact Yd f.db (by omega)
 ·rw [B3t hn];exact Sz.zero (by omega)
end Go.Proofs.YthilnfgnpdeofaaGreatDoor
namespace Go.Proofs.YthilnfgnpdeofaaGreatDoor
set_option maxRecDepth 20000
open Go Go.RowKit
def memOf(W:World):Heap:=fun b=>W.heap[b]?
theorem frame_of{P:Program}{f:FuncId}{args:Array Value}{W:World}(x:FCall P f args (memOf W) (C0j (memOf W))):Calls P f args W fun e w'=>e= .returned (.bool true)/\Below W.heap.size W w':=by
 refine (x W (fun b o e=>e)).mono ?_
 rintro e W' ⟨r,h',he,⟨hr,hle⟩,fr⟩
 subst hr
 refine ⟨he,fr.os,fr.tape,fr.output,fr.size,fun k hk=>?_⟩
 have e0:memOf W k=some W.heap[k]:=Array.getElem?_eq_getElem hk
 have:=fr.sim k _ (hle k _ e0)
 rw [this];exact e0.symm
theorem Ng{W:World}{a:Addr}{v:Value}(e:W.cell? a=some v):(memOf W).cell? a=some v:=by
 unfold World.cell? at e
 unfold Heap.cell? memOf
 exact e
theorem A4c{P:Program}{W:World}{x:String × DataW Unit}{rest:List (String × DataW Unit)}(h:laidMet P (x::rest) W):laidMet P rest W:=by
 obtain ⟨n,d⟩:=x
 obtain ⟨ps,⟨g,t,cs,fuel,p,q,h1,h2,h3,h4,h5,rfl⟩,h6,h7⟩:=h
 exact ⟨q,h5,(List.nodup_append.1 h6).2.1,fun b off hb=>h7 b off (List.mem_append_right _ hb)⟩
def C01:List Int:=[0,1,28,2,29,14,24,3,30,22,20,15,25,17,4,8,31,27,13,23,21,19,16,7,26,12,18,6,11,5,10,9]
def B1m:List Int:=[0,1,56,2,57,49,28,3,61,58,42,50,38,29,17,4,62,47,59,36,45,43,51,22,53,39,33,30,24,18,12,5,63,55,48,27,60,41,37,16,46,35,44,21,52,32,23,11,54,26,40,15,34,20,31,10,25,14,19,9,13,8,7,6]
def B5j:List Int:=[1,10,100,1000,10000,100000,1000000,10000000,100000000,1000000000,10000000000,100000000000,1000000000000,10000000000000,100000000000000,1000000000000000,10000000000000000,100000000000000000,1000000000000000000,10000000000000000000]
theorem B41:Tryz.prog.globalNamed "math/bits.deBruijn64tab" = some 3:=by kernel_rfl
theorem B42:Tryz.prog.globalNamed "internal/strconv.uint64pow10" = some 2:=by kernel_rfl
theorem tabs_gl{W:World}(h:laidMet Tryz.prog [("math/bits.deBruijn32tab",Rows.laid_math_bits_deBruijn32tab),("math/bits.deBruijn64tab",Rows.laid_math_bits_deBruijn64tab),("internal/strconv.uint64pow10",Rows.laid_internal_strconv_uint64pow10)] W):Gl (memOf W):=by
 have h2:=A4c h
 have h3:=A4c h2
 have t64:Lib.TabIs Tryz.prog W "math/bits.deBruijn64tab" .u8 B1m:=Lib.tabIs_of_head (rest:=[("internal/strconv.uint64pow10",Rows.laid_internal_strconv_uint64pow10)]) B41 (by kernel_rfl) Tryz.underlying273 Tryz.underlying5 (by kernel_rfl) (by kernel_rfl) h2
 have t10:Lib.TabIs Tryz.prog W "internal/strconv.uint64pow10" .u64 B5j:=Lib.tabIs_of_head (rest:=[]) B42 (by kernel_rfl) Tryz.underlying264 Tryz.underlying157 (by kernel_rfl) (by kernel_rfl) h3
 have k64:∀ k,k<64->Zi k<B1m.length/\B1m.getD (Zi k) 0=(k:Int):=by decide +kernel
 have k10:∀ k,k<20->B5j.getD k 0=((10^k:Nat):Int):=by decide +kernel
 refine ⟨fun k hk=>?_,fun k hk=>?_⟩
 ·obtain ⟨a,b⟩:=k64 k hk
  have:=Ng (t64.cell B41 (Zi k) a)
  rw [D8,Nat.mul_one,Nat.zero_add,this,b]
 ·have:=Ng (t10.cell B42 k (by show k<20;exact hk))
  rw [D8,Nat.mul_one,Nat.zero_add,this,k10 k hk]
def A8j(zs:List Int)(k:IntKind):Obj->Obj
 | .cells _ t frozen=>.cells (zs.map (Value.int k)).toArray t frozen
 | o=>o
def layTabs(a:Array Obj):Array Obj:=((a.modify 4 (A8j C01 .u8)).modify 3 (A8j B1m .u8)).modify 2 (A8j B5j .u64)
end Go.Proofs.YthilnfgnpdeofaaGreatDoor
namespace Go.Proofs.YthilnfgnpdeofaaGreatDoor
set_option maxRecDepth 20000
def sm:Nat->(Nat->Rat)->Rat
 | 0,_=>0
 | n+1,f=>sm n f+f n
theorem J7{n:Nat}{f g:Nat->Rat}(h:∀ i,i<n->f i=g i):sm n f=sm n g:=by
 induction n with
 | zero=>rfl
 | succ n ih=>rw [sm,sm,ih (fun i hi=>h i (by omega)),h n (by omega)]
theorem Wk{n:Nat}{f:Nat->Rat}(h:∀ i,i<n->f i=0):sm n f=0:=by
 induction n with
 | zero=>rfl
 | succ n ih=>rw [sm,ih (fun i hi=>h i (by omega)),h n (by omega)];exact Rat.add_zero 0
theorem A40(n:Nat)(f g:Nat->Rat):sm n (fun i=>f i+g i)=sm n f+sm n g:=by
 induction n with
 | zero=>simp only [sm];exact (Rat.add_zero 0).symm
 | succ n ih=>simp only [sm];rw [ih];grind
theorem A3z(n:Nat)(a:Rat)(f:Nat->Rat):sm n (fun i=>a*f i)=a*sm n f:=by
 induction n with
 | zero=>simp only [sm];grind
 | succ n ih=>simp only [sm];rw [ih];grind
theorem A7q(n:Nat)(f:Nat->Rat):sm n (fun i=> - f i)= - sm n f:=by
 induction n with
 | zero=>simp only [sm];grind
 | succ n ih=>simp only [sm];rw [ih];grind
theorem B5l(n m:Nat)(f:Nat->Nat->Rat):sm n (fun i=>sm m (f i))=sm m (fun j=>sm n (fun i=>f i j)):=by
 induction n with
 | zero=>rw [sm];exact (Wk fun _ _=>rfl).symm
 | succ n ih=>simp only [sm];rw [ih,<- A40]
theorem B3s{n k:Nat}(hk:k<n){f:Nat->Rat}(h:∀ i,i<n->i≠k->f i=0):sm n f=f k:=by
 induction n with
 | zero=>omega
 | succ n ih=>
  rw [sm]
  by_cases e:k=n
  ·subst e;rw [Wk fun i hi=>h i (by omega) (by omega)];exact Rat.zero_add _
  ·rw [ih (by omega) fun i hi hne=>h i (by omega) hne,h n (by omega) (by omega)];exact Rat.add_zero _
def rhx(l i:Nat):Nat:=if i<l then i else i+1
theorem B7p(l i:Nat):rhx l i≠l:=by unfold rhx;split<;>omega
theorem A43{l i k:Nat}(hi:i<k):rhx l i<k+1:=by unfold rhx;split<;>omega
theorem B7l{k a:Nat}(ha:a<=k)(t:Nat->Rat):sm k (fun i=>t (rhx a i))=sm (k+1) (fun b=>if b=a then 0 else t b):=by
 induction k generalizing a with
 | zero=>
  show (0:Rat)=0+(if 0=a then 0 else t 0)
  rw [if_pos (by omega)];exact (Rat.add_zero 0).symm
 | succ k ih=>
  show sm k (fun i=>t (rhx a i))+t (rhx a k)=sm (k+1) (fun b=>if b=a then 0 else t b)+(if k+1=a then 0 else t (k+1))
  by_cases e:a=k+1
  ·rw [if_pos e.symm,Rat.add_zero]
   show sm k (fun i=>t (rhx a i))+t (rhx a k)=sm k (fun b=>if b=a then 0 else t b)+(if k=a then 0 else t k)
   rw [if_neg (by omega)]
   congr 1
   ·exact J7 fun i hi=>by rw [rhx,if_pos (by omega),if_neg (by omega)]
   ·rw [rhx,if_pos (by omega)]
  ·rw [ih (by omega),if_neg (fun x=>e x.symm)]
   congr 1
   rw [rhx,if_neg (by omega)]
def sg(n:Nat):Rat:=if n%2=0 then 1 else -1
def dt:Nat->(Nat->Nat->Rat)->Rat
 | 0,_=>1
 | k+1,X=>sm (k+1) fun l=>sg (k+l)*X k l*dt k (fun c r=>X c (rhx l r))
theorem T2{k:Nat}: ∀ {X Y:Nat->Nat->Rat},(∀ c r,c<k->r<k->X c r=Y c r)->dt k X=dt k Y:=by
 induction k with
 | zero=>intros;rfl
 | succ k ih=>
  intro X Y h
  rw [dt,dt]
  refine J7 fun l hl=>?_
  rw [h k l (by omega) hl,ih fun c r hc hr=>h c (rhx l r) (by omega) (A43 hr)]
def rc(X:Nat->Nat->Rat)(m:Nat)(y:Nat->Rat):Nat->Nat->Rat:=fun c r=>if c=m then y r else X c r
theorem Eg(X:Nat->Nat->Rat)(m:Nat)(y:Nat->Rat)(l:Nat):(fun c r=>rc X m y c (rhx l r))=rc (fun c r=>X c (rhx l r)) m (fun r=>y (rhx l r)):=by
 funext c r;unfold rc;split<;>rfl
theorem A0t{k:Nat}: ∀ (X:Nat->Nat->Rat) {m:Nat} (_:m<k) (y z:Nat->Rat),dt k (rc X m fun r=>y r+z r)=dt k (rc X m y)+dt k (rc X m z):=by
 induction k with
 | zero=>intros;omega
 | succ k ih=>
  intro X m hm y z
  rw [dt,dt,dt,<- A40]
  refine J7 fun l hl=>?_
  by_cases e:m=k
  ·subst e
   have:∀ u:Nat->Rat,dt m (fun c r=>rc X m u c (rhx l r))=dt m (fun c r=>X c (rhx l r)):=fun u=>T2 fun c r hc _=>by rw [rc,if_neg (by omega)]
   rw [this,this,this]
   simp only [rc,if_true]
   grind
  ·rw [Eg,Eg,Eg,ih _ (by omega)]
   simp only [rc,if_neg (fun x:k=m=>e x.symm)]
   grind
theorem A94{k:Nat}: ∀ (X:Nat->Nat->Rat) {m:Nat} (_:m<k) (a:Rat) (y:Nat->Rat),dt k (rc X m fun r=>a*y r)=a*dt k (rc X m y):=by
 induction k with
 | zero=>intros;omega
 | succ k ih=>
  intro X m hm a y
  rw [dt,dt,<- A3z]
  refine J7 fun l hl=>?_
  by_cases e:m=k
  ·subst e
   have:∀ u:Nat->Rat,dt m (fun c r=>rc X m u c (rhx l r))=dt m (fun c r=>X c (rhx l r)):=fun u=>T2 fun c r hc _=>by rw [rc,if_neg (by omega)]
   rw [this,this]
   simp only [rc,if_true]
   grind
  ·rw [Eg,Eg,ih _ (by omega)]
   simp only [rc,if_neg (fun x:k=m=>e x.symm)]
   grind
theorem B6d{k:Nat}(X:Nat->Nat->Rat){m:Nat}(hm:m<k):dt k (rc X m fun _=>0)=0:=by
 have:=A94 X hm 0 (fun _=>0)
 rw [Rat.zero_mul] at this
 simpa only [Rat.zero_mul] using this
theorem B4i{k:Nat}(X:Nat->Nat->Rat){m:Nat}(hm:m<k)(a:Nat->Rat)(Y:Nat->Nat->Rat):∀ n,dt k (rc X m fun r=>sm n fun t=>a t*Y t r)=sm n fun t=>a t*dt k (rc X m (Y t)):=by
 intro n
 induction n with
 | zero=>exact B6d X hm
 | succ n ih=>
  simp only [sm]
  rw [A0t X hm,ih,A94 X hm]
theorem A2k(X:Nat->Nat->Rat)(m:Nat):rc X m (X m)=X:=by
 funext c r;unfold rc;split
 ·rename_i e;rw [e]
 ·rfl
theorem A4l{k:Nat}(X:Nat->Nat->Rat)(h:∀ r,r<k+2->X k r=X (k+1) r):dt (k+2) X=0:=by
 let mn:Nat->Nat->Rat:=fun a b=>dt k (fun c r=>X c (if a<b then rhx a (rhx (b-1) r) else rhx b (rhx (a-1) r)))
 let G:Nat->Nat->Rat:=fun a b=>if a=b then 0 else if b<a then sg (a+b)*X (k+1) a*X (k+1) b*mn a b else-(sg (a+b)*X (k+1) a*X (k+1) b*mn a b)
 have hmn:∀ a b,mn a b=mn b a:=by
  intro a b
  show dt k _=dt k _
  refine T2 fun c r _ _=>?_
  by_cases h1:a<b
  ·rw [if_pos h1,if_neg (by omega)]
  ·by_cases h2:b<a
   ·rw [if_neg h1,if_pos h2]
   ·have:a=b:=by omega
    subst this;rfl
 have hG:∀ a b,G b a= - G a b:=by
  intro a b
  show (if b=a then 0 else if a<b then _ else _)= - (if a=b then 0 else if b<a then _ else _)
  by_cases e:a=b
  ·rw [if_pos e,if_pos e.symm];grind
  ·rw [if_neg e,if_neg (fun x=>e x.symm)]
   have hc:=hmn a b
   by_cases h1:a<b
   ·rw [if_pos h1,if_neg (by omega),Nat.add_comm b a];grind
   ·rw [if_neg h1,if_pos (by omega),Nat.add_comm b a];grind
 have main:dt (k+2) X=sm (k+2) fun a=>sm (k+2) fun b=>G a b*sg (k+1+k):=by
  rw [dt]
  refine J7 fun a ha=>?_
  have e1:(fun b=>G a b*sg (k+1+k))=(fun b=>if b=a then 0 else (fun b=>G a b*sg (k+1+k)) b):=by
   funext b
   by_cases e:b=a
   ·subst e;rw [if_pos rfl];show (if b=b then 0 else _)*_=_;rw [if_pos rfl];grind
   ·rw [if_neg e]
  rw [e1,<- B7l (by omega) (fun b=>G a b*sg (k+1+k)),dt,<- A3z]
  refine J7 fun i hi=>?_
  have hxe:X k (rhx a i)=X (k+1) (rhx a i):=h _ (A43 hi)
  have hmin:dt k (fun c r=>X c (rhx a (rhx i r)))=mn a (rhx a i):=by
   show _=dt k _
   refine T2 fun c r _ _=>?_
   by_cases h1:i<a
   ·have e2:rhx a i=i:=by rw [rhx,if_pos h1]
    rw [e2,if_neg (by omega)]
    congr 1
    simp only [rhx]
    repeat' split
    all_goals omega
   ·have e2:rhx a i=i+1:=by rw [rhx,if_neg h1]
    rw [e2,if_pos (by omega),Nat.add_sub_cancel]
  rw [hxe,hmin]
  show _=(if a=rhx a i then 0 else if rhx a i<a then _ else _)*_
  rw [if_neg (fun e=>B7p a i e.symm)]
  have hs:∀ x y:Nat,x%2=y%2->sg x=sg y:=fun x y e=>by unfold sg;rw [e]
  by_cases h1:i<a
  ·have e2:rhx a i=i:=by rw [rhx,if_pos h1]
   rw [e2,if_pos h1]
   have e3:sg (k+1+a)*sg (k+i)=sg (a+i)*sg (k+1+k):=by
    unfold sg
    repeat' split
    all_goals first|omega|grind
   grind
  ·have e2:rhx a i=i+1:=by rw [rhx,if_neg h1]
   rw [e2,if_neg (by omega)]
   have e3:sg (k+1+a)*sg (k+i)= - sg (a+(i+1))*sg (k+1+k):=by
    unfold sg
    repeat' split
    all_goals first|omega|grind
   grind
 have h2:dt (k+2) X= - dt (k+2) X:=by
  have:dt (k+2) X=sm (k+2) fun a=>sm (k+2) fun b=>G b a*sg (k+1+k):=by
   rw [main];exact B5l _ _ _
  refine this.trans ?_
  rw [main,<- A7q]
  refine J7 fun a _=>?_
  rw [<- A7q]
  exact J7 fun b _=>by rw [hG];grind
 grind
theorem B6f:∀ {k:Nat} (X:Nat->Nat->Rat) {p q:Nat} (_:p<q) (_:q<k) (_:∀ r,r<k->X p r=X q r),dt k X=0:=by
 intro k
 induction k with
 | zero=>intros;omega
 | succ k ih=>
  intro X p q hpq hq h
  by_cases e:q=k
  ·subst e
   by_cases e2:p+1=q
   ·subst e2
    exact A4l X h
   ·
    obtain ⟨k',rfl⟩:∃ k',q=k'+1:=⟨q-1,by omega⟩
    have hp:p<k':=by omega
    have swap:∀ (Z:Nat->Nat->Rat),dt (k'+1) (rc (rc Z p (Z k')) k' (Z p))= - dt (k'+1) Z:=by
     intro Z
     have z0:∀ y:Nat->Rat,dt (k'+1) (rc (rc Z p y) k' y)=0:=fun y=>ih _ hp (by omega) fun r _=>by
      unfold rc;rw [if_neg (by omega),if_pos rfl,if_pos rfl]
     have comm:∀ y z:Nat->Rat,rc (rc Z p y) k' z=rc (rc Z k' z) p y:=by
      intro y z;funext c r;unfold rc
      by_cases h1:c=k'
      ·by_cases h2:c=p
       ·omega
       ·rw [if_pos h1,if_neg h2,if_pos h1]
      ·by_cases h2:c=p
       ·rw [if_neg h1,if_pos h2,if_pos h2]
       ·rw [if_neg h1,if_neg h2,if_neg h2,if_neg h1]
     have s1:=z0 (fun r=>Z p r+Z k' r)
     rw [A0t _ (by omega)] at s1
     rw [comm _ (Z p),comm _ (Z k'),A0t _ (by omega),A0t _ (by omega)] at s1
     rw [<- comm,<- comm,<- comm,<- comm] at s1
     rw [z0 (Z p),z0 (Z k')] at s1
     have e3:rc (rc Z p (Z p)) k' (Z k')=Z:=by rw [A2k,A2k]
     rw [e3] at s1
     grind
    have hX:dt (k'+1+1) X= - dt (k'+1+1) (rc (rc X p (X k')) k' (X p)):=by
     rw [dt,dt,<- A7q]
     refine J7 fun l _=>?_
     have e4:rc (rc X p (X k')) k' (X p) (k'+1) l=X (k'+1) l:=by unfold rc;rw [if_neg (by omega),if_neg (by omega)]
     have e5:(fun c r=>rc (rc X p (X k')) k' (X p) c (rhx l r))=rc (rc (fun c r=>X c (rhx l r)) p (fun r=>X k' (rhx l r))) k' (fun r=>X p (rhx l r)):=by
      rw [Eg,Eg]
     have:=swap (fun c r=>X c (rhx l r))
     rw [e4,e5,this]
     grind
    rw [hX,A4l _ fun r hr=>?_]
    ·grind
    ·have e6:rc (rc X p (X k')) k' (X p) k' r=X p r:=by unfold rc;rw [if_pos rfl]
     have e7:rc (rc X p (X k')) k' (X p) (k'+1) r=X (k'+1) r:=by unfold rc;rw [if_neg (by omega),if_neg (by omega)]
     rw [e6,e7];exact h r hr
  ·rw [dt]
   refine Wk fun l _=>?_
   rw [ih _ hpq (by omega) fun r hr=>h (rhx l r) (A43 hr)]
   grind
theorem B6e{k:Nat}(X:Nat->Nat->Rat)(h:∀ r,r<k->X k r=0):dt (k+1) X=X k k*dt k X:=by
 rw [dt,B3s (k:=k) (by omega) fun i hi hne=>by rw [h i (by omega)];grind]
 have:dt k (fun c r=>X c (rhx k r))=dt k X:=T2 fun c r _ hr=>by rw [rhx,if_pos hr]
 have hs:sg (k+k)=1:=by unfold sg;rw [if_pos (by omega)]
 rw [this,hs,Rat.one_mul]
def Wh(q:Rat):Prop:=∃ z:Int,q=(z:Rat)
theorem Wh.add{p q:Rat}(hp:Wh p)(hq:Wh q):Wh (p+q):=by
 obtain ⟨a,rfl⟩:=hp;obtain ⟨b,rfl⟩:=hq
 exact ⟨a+b,by rw [Rat.intCast_add]⟩
theorem Wh.mul{p q:Rat}(hp:Wh p)(hq:Wh q):Wh (p*q):=by
 obtain ⟨a,rfl⟩:=hp;obtain ⟨b,rfl⟩:=hq
 exact ⟨a*b,by rw [Rat.intCast_mul]⟩
theorem Wh.sg(n:Nat):Wh (sg n):=by
 unfold Go.Proofs.YthilnfgnpdeofaaGreatDoor.sg
 split
 ·exact ⟨1,rfl⟩
 ·exact ⟨-1,by decide +kernel⟩
theorem Wh.sm{n:Nat}{f:Nat->Rat}(h:∀ i,i<n->Wh (f i)):Wh (sm n f):=by
 induction n with
 | zero=>exact ⟨0,rfl⟩
 | succ n ih=>exact (ih fun i hi=>h i (by omega)).add (h n (by omega))
theorem B89{k:Nat}: ∀ {X:Nat->Nat->Rat},(∀ c r,c<k->r<k->Wh (X c r))->Wh (dt k X):=by
 induction k with
 | zero=>intro X _;exact ⟨1,rfl⟩
 | succ k ih=>
  intro X h
  rw [dt]
  refine Wh.sm fun l hl=>?_
  exact ((Wh.sg _).mul (h k l (by omega) hl)).mul (ih fun c r hc hr=>h c _ (by omega) (A43 hr))
structure Elim (n w:Nat) (B R:Nat->Nat->Rat) (cs:Nat->Nat) (k:Nat):Prop where
 kn:k<=n
 cw:∀ m,m<k->cs m<w
 piv:∀ l m,l<k->m<k->R l (cs m)=if l=m then 1 else 0
 low:∀ i m,i<n->k<=i->m<k->R i (cs m)=0
 top:∀ l j,l<k->j<w->B l j=sm k fun m=>B l (cs m)*R m j
 bot:∀ i j,i<n->k<=i->j<w->B i j=R i j+sm k fun m=>B i (cs m)*R m j
def dp(B:Nat->Nat->Rat)(cs:Nat->Nat)(k:Nat):Rat:=dt k fun c r=>B r (cs c)
section
variable {n w:Nat} {B R:Nat->Nat->Rat} {cs:Nat->Nat} {k:Nat}
theorem Elim.below(E:Elim n w B R cs k){i j:Nat}(hi:i<n)(hk:k<=i)(hj:j<w):dp B cs k*R i j=dt (k+1) fun c r=>B (if r<k then r else i) (if c<k then cs c else j):=by
 have e0:(fun c r=>B (if r<k then r else i) (if c<k then cs c else j))=rc (fun c r=>B (if r<k then r else i) (cs c)) k (fun r=>B (if r<k then r else i) j)\/True:=.inr trivial
 clear e0
 let X:Nat->Nat->Rat:=fun c r=>B (if r<k then r else i) (cs c)
 have h1:dt (k+1) (fun c r=>B (if r<k then r else i) (if c<k then cs c else j))=dt (k+1) (rc X k fun r=>(sm k fun t=>R t j*X t r)+(if r<k then 0 else R i j)):=by
  refine T2 fun c r hc hr=>?_
  unfold rc
  by_cases h:c=k
  ·subst h
   rw [if_neg (Nat.lt_irrefl c),if_pos rfl]
   show _=(sm c fun t=>R t j*X t r)+(if r<c then 0 else R i j)
   by_cases h2:r<c
   ·rw [if_pos h2,if_pos h2,Rat.add_zero,E.top r j h2 hj]
    refine J7 fun m _=>?_
    show _=_*B (if r<c then r else i) (cs m)
    rw [if_pos h2,Rat.mul_comm]
   ·rw [if_neg h2,if_neg h2,E.bot i j hi hk hj,Rat.add_comm]
    congr 1
    refine J7 fun m _=>?_
    show _=_*B (if r<c then r else i) (cs m)
    rw [if_neg h2,Rat.mul_comm]
  ·rw [if_neg h,if_pos (show c<k by omega)]
 rw [h1,A0t _ (by omega),B4i X (by omega) (fun t=>R t j) X]
 rw [Wk fun t ht=>by
  rw [B6f (rc X k (X t)) (p:=t) (q:=k) ht (by omega) fun r _=>by unfold rc;rw [if_neg (by omega),if_pos rfl]]
  exact Rat.mul_zero _]
 rw [B6e _ fun r hr=>by unfold rc;rw [if_pos rfl];show (if r<k then 0 else R i j)=0;rw [if_pos hr]]
 have e2:dt k (rc X k fun r=>if r<k then 0 else R i j)=dp B cs k:=by
  refine T2 fun c r hc hr=>?_
  unfold rc
  rw [if_neg (by omega)]
  show B (if r<k then r else i) (cs c)=_
  rw [if_pos hr]
 rw [e2]
 unfold rc
 rw [if_pos rfl]
 show _=0+(if k<k then 0 else R i j)*_
 rw [if_neg (Nat.lt_irrefl k)]
 grind
theorem Elim.above(E:Elim n w B R cs k){i j:Nat}(hi:i<k)(hj:j<w):dp B cs k*R i j=dt k (rc (fun c r=>B r (cs c)) i fun r=>B r j):=by
 let X:Nat->Nat->Rat:=fun c r=>B r (cs c)
 have h1:dt k (rc X i fun r=>B r j)=dt k (rc X i fun r=>sm k fun t=>R t j*X t r):=by
  refine T2 fun c r hc hr=>?_
  unfold rc
  split
  ·show B r j=sm k fun t=>R t j*X t r
   rw [E.top r j hr hj]
   exact J7 fun m _=>Rat.mul_comm _ _
  ·rfl
 show _=dt k (rc X i fun r=>B r j)
 rw [h1,B4i X hi (fun t=>R t j) X,B3s (k:=i) hi fun t ht hne=>?_]
 ·rw [A2k,Rat.mul_comm];rfl
 ·rcases Nat.lt_or_ge t i with h|h
  ·rw [B6f (rc X i (X t)) (p:=t) (q:=i) h hi fun r _=>by unfold rc;rw [if_neg (by omega),if_pos rfl]]
   exact Rat.mul_zero _
  ·rw [B6f (rc X i (X t)) (p:=i) (q:=t) (by omega) ht fun r _=>by unfold rc;rw [if_pos rfl,if_neg (by omega)]]
   exact Rat.mul_zero _
theorem Elim.whole(E:Elim n w B R cs k)(hB:∀ i j,i<n->j<w->Wh (B i j)){i j:Nat}(hi:i<n)(hj:j<w):Wh (dp B cs k*R i j):=by
 by_cases h:i<k
 ·rw [E.above h hj]
  refine B89 fun c r hc hr=>?_
  have:=E.kn
  unfold rc
  split
  ·exact hB r j (by omega) hj
  ·exact hB r _ (by omega) (E.cw c hc)
 ·rw [E.below hi (by omega) hj]
  refine B89 fun c r hc hr=>?_
  refine hB _ _ ?_ ?_
  ·split<;>omega
  ·split
   ·exact E.cw c (by assumption)
   ·exact hj
theorem Elim.next(E:Elim n w B R cs k){j:Nat}(hk:k<n)(hj:j<w)(hc:cs k=j):dp B cs (k+1)=dp B cs k*R k j:=by
 rw [E.below hk (Nat.le_refl _) hj]
 refine T2 fun c r hc' hr=>?_
 have e1:(if r<k then r else k)=r:=by split<;>omega
 have e2:(if c<k then cs c else j)=cs c:=by
  split
  ·rfl
  ·have:c=k:=by omega
   rw [this,hc]
 rw [e1,e2]
def Dl(R:Nat->Nat->Rat)(k j:Nat):Nat->Nat->Rat:=fun a b=>if a=k then R k b/R k j else R a b-R a j*(R k b/R k j)
theorem Elim.step(E:Elim n w B R cs k){j:Nat}(hk:k<n)(hj:j<w)(hc:cs k=j)(hne:R k j≠0):Elim n w B (Dl R k j) cs (k+1):=by
 have piv0:∀ m,m<k->R k (cs m)=0:=fun m hm=>E.low k m hk (Nat.le_refl _) hm
 have hkk:R k j/R k j=1:=by grind
 refine ⟨by omega,fun m hm=>?_,fun l m hl hm=>?_,fun i m hi hki hm=>?_,fun l b hl hb=>?_,fun i b hi hki hb=>?_⟩
 ·by_cases e:m=k
  ·rw [e,hc];exact hj
  ·exact E.cw m (by omega)
 ·unfold Dl
  by_cases em:m=k
  ·subst em
   rw [hc]
   by_cases el:l=m
   ·rw [if_pos el,if_pos el];exact hkk
   ·rw [if_neg el,if_neg el,hkk];grind
  ·have hm':m<k:=by omega
   rw [piv0 m hm']
   by_cases el:l=k
   ·subst el
    rw [if_pos rfl,if_neg (by omega)];grind
   ·rw [if_neg el,E.piv l m (by omega) hm']
    grind
 ·unfold Dl
  rw [if_neg (by omega)]
  by_cases em:m=k
  ·subst em
   rw [hc,hkk];grind
  ·have hm':m<k:=by omega
   rw [piv0 m hm',E.low i m hi (by omega) hm']
   grind
 ·rw [sm]
  have e1:(Dl R k j) k b=R k b/R k j:=by unfold Dl;rw [if_pos rfl]
  have e2:sm k (fun m=>B l (cs m)*Dl R k j m b)=sm k (fun m=>B l (cs m)*R m b)-sm k (fun m=>B l (cs m)*R m j)*(R k b/R k j):=by
   have:(fun m=>B l (cs m)*Dl R k j m b)=fun m=>if m=k then B l (cs k)*(R k b/R k j) else B l (cs m)*R m b+(-(R k b/R k j))*(B l (cs m)*R m j):=by
    funext m
    unfold Dl
    by_cases e:m=k
    ·rw [if_pos e,if_pos e,e]
    ·rw [if_neg e,if_neg e];grind
   rw [this,J7 (g:=fun m=>B l (cs m)*R m b+(-(R k b/R k j))*(B l (cs m)*R m j)) fun m hm=>by rw [if_neg (by omega)]]
   rw [A40,A3z];grind
  rw [e1,e2,hc]
  by_cases el:l=k
  ·subst el
   have t1:=E.bot l b hk (Nat.le_refl _) hb
   have t2:=E.bot l j hk (Nat.le_refl _) hj
   grind
  ·have t1:=E.top l b (by omega) hb
   have t2:=E.top l j (by omega) hj
   grind
 ·rw [sm]
  have e1:(Dl R k j) k b=R k b/R k j:=by unfold Dl;rw [if_pos rfl]
  have e2:sm k (fun m=>B i (cs m)*Dl R k j m b)=sm k (fun m=>B i (cs m)*R m b)-sm k (fun m=>B i (cs m)*R m j)*(R k b/R k j):=by
   have:(fun m=>B i (cs m)*Dl R k j m b)=fun m=>if m=k then B i (cs k)*(R k b/R k j) else B i (cs m)*R m b+(-(R k b/R k j))*(B i (cs m)*R m j):=by
    funext m
    unfold Dl
    by_cases e:m=k
    ·rw [if_pos e,if_pos e,e]
    ·rw [if_neg e,if_neg e];grind
   rw [this,J7 (g:=fun m=>B i (cs m)*R m b+(-(R k b/R k j))*(B i (cs m)*R m j)) fun m hm=>by rw [if_neg (by omega)]]
   rw [A40,A3z];grind
  have e3:Dl R k j i b=R i b-R i j*(R k b/R k j):=by unfold Dl;rw [if_neg (by omega)]
  have t1:=E.bot i b hi (by omega) hb
  have t2:=E.bot i j hi (by omega) hj
  rw [e1,e2,e3,hc]
  grind
def xch(k l:Nat)(i:Nat):Nat:=if i=k then l else if i=l then k else i
theorem Elim.swap(E:Elim n w B R cs k){l:Nat}(hk:k<=l)(hl:l<n):Elim n w (fun i=>B (xch k l i)) (fun i=>R (xch k l i)) cs k:=by
 have hx:∀ i,i<k->xch k l i=i:=fun i hi=>by unfold xch;rw [if_neg (by omega),if_neg (by omega)]
 have hy:∀ i,i<n->k<=i->xch k l i<n/\k<=xch k l i:=fun i h1 h2=>by unfold xch;split<;>(try split)<;>omega
 refine ⟨E.kn,E.cw,fun a m ha hm=>?_,fun i m hi hki hm=>?_,fun a j ha hj=>?_,fun i j hi hki hj=>?_⟩
 ·show R (xch k l a) _=_
  rw [hx a ha];exact E.piv a m ha hm
 ·have:=hy i hi hki
  exact E.low _ m this.1 this.2 hm
 ·show B (xch k l a) j=sm k fun m=>B (xch k l a) (cs m)*R (xch k l m) j
  rw [hx a ha,E.top a j ha hj]
  exact J7 fun m hm=>by rw [hx m hm]
 ·have:=hy i hi hki
  show B (xch k l i) j=R (xch k l i) j+sm k fun m=>B (xch k l i) (cs m)*R (xch k l m) j
  rw [E.bot _ j this.1 this.2 hj]
  congr 1
  exact J7 fun m hm=>by rw [hx m hm]
theorem B6g(B:Nat->Nat->Rat)(cs:Nat->Nat){k l:Nat}(hk:k<=l):dp (fun i=>B (xch k l i)) cs k=dp B cs k:=by
 refine T2 fun c r _ hr=>?_
 show B (xch k l r) _=_
 unfold xch;rw [if_neg (by omega),if_neg (by omega)]
theorem Elim.start:Elim n w B B cs 0:=by
 refine ⟨Nat.zero_le _,fun m hm=>by omega,fun l m hl=>by omega,fun i m _ _ hm=>by omega,fun l j hl=>by omega,fun i j _ _ _=>by rw [sm,Rat.add_zero]⟩
theorem Elim.cs_congr{cs':Nat->Nat}(E:Elim n w B R cs k)(h:∀ m,m<k->cs m=cs' m):Elim n w B R cs' k:=by
 refine ⟨E.kn,fun m hm=>by rw [<- h m hm];exact E.cw m hm,fun l m hl hm=>by rw [<- h m hm];exact E.piv l m hl hm,fun i m h1 h2 hm=>by rw [<- h m hm];exact E.low i m h1 h2 hm,fun l j hl hj=>?_,fun i j h1 h2 hj=>?_⟩
 ·rw [E.top l j hl hj];exact J7 fun m hm=>by rw [h m hm]
 ·rw [E.bot i j h1 h2 hj];congr 1;exact J7 fun m hm=>by rw [h m hm]
theorem B2k{cs':Nat->Nat}(h:∀ m,m<k->cs m=cs' m):dp B cs k=dp B cs' k:=T2 fun c r hc _=>by rw [h c hc]
end
end Go.Proofs.YthilnfgnpdeofaaGreatDoor
namespace Go.Proofs.YthilnfgnpdeofaaGreatDoor
set_option maxRecDepth 20000
def fnd(p:Nat->Bool):Nat->Nat->Nat
 | 0,i=>i
 | f+1,i=>bif p i then i else fnd p f (i+1)
theorem Ux(p:Nat->Bool):∀ f i,i<=fnd p f i/\fnd p f i<=i+f:=by
 intro f
 induction f with
 | zero=>intro i;simp [fnd]
 | succ f ih=>
  intro i
  unfold fnd
  cases p i with
  | true=>simp
  | false=>have:=ih (i+1);simp only [cond_false];omega
theorem Rm(p:Nat->Bool):∀ f i,fnd p f i<i+f->p (fnd p f i)=true:=by
 intro f
 induction f with
 | zero=>intro i h;simp [fnd] at h
 | succ f ih=>
  intro i h
  unfold fnd at h ⊢
  cases hp:p i with
  | true=>simp only [hp,cond_true]
  | false=>simp only [hp,cond_false] at h ⊢;exact ih (i+1) (by omega)
theorem Px(p:Nat->Bool):∀ f i j,i<=j->j<fnd p f i->p j=false:=by
 intro f
 induction f with
 | zero=>intro i j h1 h2;simp [fnd] at h2;omega
 | succ f ih=>
  intro i j h1 h2
  unfold fnd at h2
  cases hp:p i with
  | true=>simp only [hp,cond_true] at h2;omega
  | false=>
   simp only [hp,cond_false] at h2
   by_cases e:j=i
   ·rw [e];exact hp
   ·exact ih (i+1) j (by omega) h2
theorem Kx{p q:Nat->Bool}: ∀ f i,(∀ j,i<=j->j<i+f->p j=q j)->fnd p f i=fnd q f i:=by
 intro f
 induction f with
 | zero=>intros;rfl
 | succ f ih=>
  intro i h
  unfold fnd
  rw [h i (by omega) (by omega),ih (i+1) fun j h1 h2=>h j (by omega) (by omega)]
theorem B43(p:Nat->Bool){f i k:Nat}(h1:i<=k)(h2:k<=i+f)(h3:∀ j,i<=j->j<k->p j=false)(h4:k<i+f->p k=true):fnd p f i=k:=by
 have a:=Ux p f i
 rcases Nat.lt_trichotomy (fnd p f i) k with h|h|h
 ·have:=Rm p f i (by omega);rw [h3 _ a.1 h] at this;cases this
 ·exact h
 ·have:=Px p f i k h1 h;rw [h4 (by omega)] at this;cases this
structure ES where
 R:Nat->Nat->Rat
 cs:List Nat
 det:Rat
def elimE(R:Nat->Nat->Rat)(k j:Nat):Nat->Nat->Rat:=fun a b=>if a=k then R k b/R k j else if R a j=0\/b<j then R a b else R a b-R a j*(R k b/R k j)
def Dy(n c:Nat)(s:ES):Nat:=fnd (fun i=>decide (s.R i c≠0)) (n-s.cs.length) s.cs.length
def Fo(n c:Nat)(s:ES):ES:=
 if s.cs.length<n then
  if Dy n c s<n then
   { R:=elimE (fun i=>s.R (xch s.cs.length (Dy n c s) i)) s.cs.length c
     cs:=s.cs++[c]
     det:=(if Dy n c s=s.cs.length then s.det else-s.det)*s.R (Dy n c s) c }
  else { s with det:=0 }
 else s
def A2b(n:Nat)(s:ES):Nat->ES
 | 0=>s
 | c+1=>Fo n c (A2b n s c)
structure PS where
 M:Nat->Nat->Int
 S:Nat->Rat
 cs:List Nat
 last:Int
 sgn:Int
def clr(M:Nat->Nat->Int)(r c:Nat)(d:Int):Nat->Nat->Int:=fun a b=>if a=r then M r b else (M r c*M a b-M a c*M r b).tdiv d
def Ms(n c:Nat)(s:PS):Nat:=fnd (fun i=>decide (s.M i c≠0)) (n-s.cs.length) s.cs.length
def Ed(n c:Nat)(s:PS):PS:=
 if Ms n c s<n then
  { M:=clr (fun i=>s.M (xch s.cs.length (Ms n c s) i)) s.cs.length c s.last
    S:=fun i=>s.S (xch s.cs.length (Ms n c s) i)
    cs:=s.cs++[c]
    last:=s.M (Ms n c s) c
    sgn:=if Ms n c s=s.cs.length then s.sgn else-s.sgn }
 else s
def Ce(n:Nat)(s:PS):Nat->PS
 | 0=>s
 | c+1=>Ed n c (Ce n s c)
def pr:Nat->(Nat->Rat)->Rat
 | 0,_=>1
 | n+1,f=>pr n f*f n
theorem B1z{n:Nat}{f g:Nat->Rat}(h:∀ i,i<n->f i=g i):pr n f=pr n g:=by
 induction n with
 | zero=>rfl
 | succ n ih=>rw [pr,pr,ih (fun i hi=>h i (by omega)),h n (by omega)]
theorem C03{n:Nat}{f:Nat->Rat}(h:∀ i,i<n->f i≠0):pr n f≠0:=by
 induction n with
 | zero=>rw [pr];decide +kernel
 | succ n ih=>
  rw [pr]
  have h1:=ih fun i hi=>h i (by omega)
  have h2:=h n (by omega)
  intro e
  rcases Rat.mul_eq_zero.1 e with e|e
  ·exact h1 e
  ·exact h2 e
theorem He(k l:Nat):xch k l k=l:=by unfold xch;rw [if_pos rfl]
theorem Fu{k l i n:Nat}(hk:k<n)(hl:l<n)(hi:i<n):xch k l i<n:=by unfold xch;split<;>(try split)<;>omega
theorem A3s{k l i:Nat}(hkl:k<=l)(hi:k<=i):k<=xch k l i:=by unfold xch;split<;>(try split)<;>omega
theorem Qi{k l i:Nat}(hkl:k<=l)(hi:i<k):xch k l i=i:=by unfold xch;rw [if_neg (by omega),if_neg (by omega)]
theorem A25{x d z:Int}(hd:d≠0)(h:x=d*z):x.tdiv d=z:=by
 rw [h,Int.mul_tdiv_cancel_left _ hd]
structure ERel (n w c:Nat) (A:Nat->Nat->Rat) (s:ES) (t:PS):Prop where
 cs:s.cs=t.cs
 elim:∃ B,(∀ i j,i<n->j<w->Wh (B i j))/\Elim n w B (fun i j=>if i<s.cs.length then s.R i j else t.S i*s.R i j) (fun m=>s.cs.getD m 0) s.cs.length/\(t.last:Rat)=dp B (fun m=>s.cs.getD m 0) s.cs.length
 last:t.last≠0
 val:∀ i j,i<n->j<w->(t.M i j:Rat)=t.last*(if i<s.cs.length then s.R i j else t.S i*s.R i j)
 scale:∀ i,i<n->t.S i≠0
 zero:∀ i j,i<n->s.cs.length<=i->j<c->s.R i j=0
 asc:s.cs.length<=c
 det:s.cs.length=c->s.det*pr s.cs.length t.S=t.sgn*t.last
 miss:s.cs.length<c->s.cs.length<n->s.det=0
 sgn:t.sgn=1\/t.sgn= -1
theorem P7{z:Int}(h:z≠0):(z:Rat)≠0:=by
 intro e
 exact h (by exact_mod_cast e)
theorem ERel.start{n w:Nat}{A:Nat->Nat->Rat}{M:Nat->Nat->Int}{S:Nat->Rat}(h:∀ i j,i<n->j<w->(M i j:Rat)=S i*A i j)(hS:∀ i,i<n->S i≠0):ERel n w 0 A ⟨A,[],1⟩ ⟨M,S,[],1,1⟩:=by
 have e:∀ (x:Rat),((1:Int):Rat)*x=x:=fun x=>by
  have:((1:Int):Rat)=1:=rfl
  rw [this,Rat.one_mul]
 refine ⟨rfl,⟨fun i j=>S i*A i j,fun i j hi hj=>⟨M i j,(h i j hi hj).symm⟩,?_,rfl⟩,(by decide:(1:Int)≠0),fun i j hi hj=>?_,hS,fun i j _ _ hj=>by omega,Nat.le_refl _,fun _=>?_,fun h=>by simp at h,.inl rfl⟩
 ·have:(fun i j=>if i<([]:List Nat).length then A i j else S i*A i j)=fun i j=>S i*A i j:=by
   funext i j;rw [if_neg (by simp)]
  show Elim n w _ (fun i j=>if i<([]:List Nat).length then A i j else S i*A i j) _ 0
  rw [this]
  exact Elim.start
 ·show (M i j:Rat)=((1:Int):Rat)*(if i<([]:List Nat).length then A i j else S i*A i j)
  rw [e,if_neg (by simp),h i j hi hj]
 ·show (1:Rat)*pr 0 S=((1:Int):Rat)*((1:Int):Rat)
  rw [e]
  exact Rat.one_mul _
theorem A8l(l:List Nat)(c:Nat):∀ m,m<l.length->(l++[c]).getD m 0=l.getD m 0:=by
 intro m hm
 rw [List.getD_eq_getElem?_getD,List.getD_eq_getElem?_getD,List.getElem?_append_left hm]
theorem A8m(l:List Nat)(c:Nat):(l++[c]).getD l.length 0=c:=by
 rw [List.getD_eq_getElem?_getD,List.getElem?_append_right (Nat.le_refl _)];simp
theorem ERel.row{n w c:Nat}{A:Nat->Nat->Rat}{s:ES}{t:PS}(h:ERel n w c A s t)(hc:c<w):Ms n c t=Dy n c s:=by
 unfold Ms Dy
 rw [<- h.cs]
 refine Kx _ _ fun j h1 h2=>?_
 have hv:=h.val j c (by omega) hc
 rw [if_neg (by omega)] at hv
 have h3:=P7 h.last
 have h4:=h.scale j (by omega)
 refine decide_eq_decide.2 (not_congr ⟨fun e=>?_,fun e=>?_⟩)
 ·rw [e] at hv
  have h0:((0:Int):Rat)=0:=rfl
  rw [h0] at hv
  rcases Rat.mul_eq_zero.1 hv.symm with e1|e1
  ·exact absurd e1 h3
  ·rcases Rat.mul_eq_zero.1 e1 with e2|e2
   ·exact absurd e2 h4
   ·exact e2
 ·rw [e,Rat.mul_zero,Rat.mul_zero] at hv
  exact_mod_cast hv
theorem ERel.step{n w c:Nat}{A:Nat->Nat->Rat}{s:ES}{t:PS}(h:ERel n w c A s t)(hc:c<w):ERel n w (c+1) A (Fo n c s) (Ed n c t):=by
 have hrow:=h.row hc
 have hlen:=Ux (fun i=>decide (s.R i c≠0)) (n-s.cs.length) s.cs.length
 have hmiss:=Px (fun i=>decide (s.R i c≠0)) (n-s.cs.length) s.cs.length
 have hhit:=Rm (fun i=>decide (s.R i c≠0)) (n-s.cs.length) s.cs.length
 have hR:fnd (fun i=>decide (s.R i c≠0)) (n-s.cs.length) s.cs.length=Dy n c s:=rfl
 rw [hR] at hlen hmiss hhit
 obtain ⟨B,hB,E,hD⟩:=h.elim
 unfold Fo Ed
 rw [hrow]
 by_cases hk:Dy n c s<n
 ·have hkn:s.cs.length<n:=by omega
  rw [if_pos hkn,if_pos hk,if_pos hk,<- h.cs]
  generalize hr:Dy n c s=r at *
  generalize hl:s.cs.length=k at *
  have hne:s.R r c≠0:=by
   have:=hhit (by omega)
   simpa using this
  have E1:=E.swap (l:=r) hlen.1 hk
  have hcs1:∀ m,m<k->s.cs.getD m 0=(s.cs++[c]).getD m 0:=fun m hm=>(A8l s.cs c m (by omega)).symm
  have E2:=E1.cs_congr hcs1
  have hlast:(s.cs++[c]).getD k 0=c:=by rw [<- hl];exact A8m _ _
  have hlen':(s.cs++[c]).length=k+1:=by rw [List.length_append,hl];rfl
  have xk:xch k r k=r:=He k r
  have hp0:(if xch k r k<k then s.R (xch k r k) c else t.S (xch k r k)*s.R (xch k r k) c)=t.S r*s.R r c:=by rw [xk,if_neg (by omega)]
  have hSr:=h.scale r hk
  have hpne:t.S r*s.R r c≠0:=by
   intro e
   rcases Rat.mul_eq_zero.1 e with e|e
   ·exact hSr e
   ·exact hne e
  have E3:=E2.step (j:=c) hkn hc hlast (by show (if xch k r k<k then _ else _)≠0;rw [hp0];exact hpne)
  have hDn:=E2.next (j:=c) hkn hc hlast
  have hD1:dp (fun i=>B (xch k r i)) (fun m=>(s.cs++[c]).getD m 0) k=(t.last:Rat):=by
   rw [hD,<- B2k hcs1,B6g B _ hlen.1]
  rw [hD1] at hDn
  have hpv:(if xch k r k<k then s.R (xch k r k) c else t.S (xch k r k)*s.R (xch k r k) c)=t.S r*s.R r c:=hp0
  have hnl:(t.M r c:Rat)=t.last*(t.S r*s.R r c):=by
   have:=h.val r c hk hc
   rw [if_neg (by omega)] at this;exact this
  have hDn':dp (fun i=>B (xch k r i)) (fun m=>(s.cs++[c]).getD m 0) (k+1)=(t.M r c:Rat):=by
   rw [hDn,hnl]
   show (t.last:Rat)*(if xch k r k<k then s.R (xch k r k) c else t.S (xch k r k)*s.R (xch k r k) c)=_
   rw [hpv]
  have hlne:=P7 h.last
  have hMne:t.M r c≠0:=by
   intro e
   rw [e] at hnl
   have h0:((0:Int):Rat)=0:=rfl
   rw [h0] at hnl
   rcases Rat.mul_eq_zero.1 hnl.symm with e1|e1
   ·exact hlne e1
   ·exact hpne e1
  have hz:∀ b,b<c->s.R r b=0:=fun b hb=>h.zero r b hk (by omega) hb
  have hQ:∀ i j,(if i<k+1 then elimE (fun i=>s.R (xch k r i)) k c i j else t.S (xch k r i)*elimE (fun i=>s.R (xch k r i)) k c i j)=Dl (fun i j=>if xch k r i<k then s.R (xch k r i) j else t.S (xch k r i)*s.R (xch k r i) j) k c i j:=by
   intro i j
   unfold elimE Dl
   by_cases e:i=k
   ·subst e
    simp only [if_true,xk,if_neg (show ¬ r<i by omega),if_pos (show i<i+1 by omega)]
    grind
   ·have hb:s.R r j=0\/¬ j<c:=by
     by_cases hj:j<c
     ·exact .inl (hz j hj)
     ·exact .inr hj
    simp only [if_neg e,xk,if_neg (show ¬ r<k by omega)]
    by_cases hi:i<k
    ·rw [if_pos (show i<k+1 by omega),Qi hlen.1 hi,if_pos hi,if_pos hi]
     split
     ·rename_i h1
      rcases h1 with h1|h1
      ·rw [h1];grind
      ·rw [hz j h1];grind
     ·grind
    ·have hx:¬ xch k r i<k:=by have:=A3s (i:=i) hlen.1 (by omega);omega
     rw [if_neg (show ¬ i<k+1 by omega),if_neg hx,if_neg hx]
     split
     ·rename_i h1
      rcases h1 with h1|h1
      ·rw [h1];grind
      ·rw [hz j h1];grind
     ·grind
  have hQf:(fun i j=>if i<k+1 then elimE (fun i=>s.R (xch k r i)) k c i j else t.S (xch k r i)*elimE (fun i=>s.R (xch k r i)) k c i j)=Dl (fun i j=>if xch k r i<k then s.R (xch k r i) j else t.S (xch k r i)*s.R (xch k r i) j) k c:=by
   funext i j;exact hQ i j
  have hxn:∀ i,i<n->xch k r i<n:=fun i hi=>Fu hkn hk hi
  refine ⟨rfl,⟨fun i=>B (xch k r i),fun i j hi hj=>hB _ j (hxn i hi) hj,?_,?_⟩,hMne,fun i j hi hj=>?_,fun i hi=>h.scale _ (hxn i hi),fun i j hi hki hj=>?_,?_,fun he=>?_,fun he _=>?_,?_⟩
  ·show Elim n w _ (fun i j=>if i<(s.cs++[c]).length then elimE (fun i=>s.R (xch k r i)) k c i j else t.S (xch k r i)*elimE (fun i=>s.R (xch k r i)) k c i j) _ (s.cs++[c]).length
   rw [hlen',hQf]
   exact E3
  ·show (t.M r c:Rat)=dp _ _ (s.cs++[c]).length
   rw [hlen',hDn']
  ·show (clr (fun i=>t.M (xch k r i)) k c t.last i j:Rat)=(t.M r c:Rat)*(if i<(s.cs++[c]).length then elimE (fun i=>s.R (xch k r i)) k c i j else t.S (xch k r i)*elimE (fun i=>s.R (xch k r i)) k c i j)
   rw [hlen',hQ i j]
   unfold clr
   by_cases e:i=k
   ·subst e
    rw [if_pos rfl]
    show (t.M (xch i r i) j:Rat)=_
    rw [xk]
    unfold Dl
    simp only [if_true,xk,if_neg (show ¬ r<i by omega)]
    have:=h.val r j hk hj
    rw [if_neg (by omega)] at this
    rw [this,hnl]
    grind
   ·rw [if_neg e]
    show (((t.M (xch k r k) c*t.M (xch k r i) j-t.M (xch k r i) c*t.M (xch k r k) j).tdiv t.last:Int):Rat)=_
    rw [xk]
    have hw:=E3.whole (fun i j hi hj=>hB _ j (hxn i hi) hj) hi hj
    rw [hDn'] at hw
    obtain ⟨z,hz'⟩:=hw
    have v1:=h.val (xch k r i) j (hxn i hi) hj
    have v2:=h.val (xch k r i) c (hxn i hi) hc
    have v3:=h.val r j hk hj
    rw [hl] at v1 v2 v3
    rw [if_neg (show ¬ r<k by omega)] at v3
    have hx:t.M r c*t.M (xch k r i) j-t.M (xch k r i) c*t.M r j=t.last*z:=by
     have:((t.M r c*t.M (xch k r i) j-t.M (xch k r i) c*t.M r j:Int):Rat)=((t.last*z:Int):Rat):=by
      rw [Rat.intCast_sub,Rat.intCast_mul,Rat.intCast_mul,Rat.intCast_mul,<- hz',v1,v2,v3,hnl]
      unfold Dl
      simp only [if_neg e,xk,if_neg (show ¬ r<k by omega)]
      generalize (if xch k r i<k then s.R (xch k r i) j else t.S (xch k r i)*s.R (xch k r i) j)=u1
      generalize (if xch k r i<k then s.R (xch k r i) c else t.S (xch k r i)*s.R (xch k r i) c)=u2
      have h1:t.S r*s.R r j/(t.S r*s.R r c)*(t.S r*s.R r c)=t.S r*s.R r j:=by
       rw [Rat.div_mul_cancel hpne]
      grind
     exact_mod_cast this
    rw [A25 h.last hx,<- hz']
  ·show elimE (fun i=>s.R (xch k r i)) k c i j=0
   have hki':k+1<=i:=by
    have:(s.cs++[c]).length<=i:=hki
    omega
   have hge:=A3s (i:=i) hlen.1 (show k<=i by omega)
   unfold elimE
   rw [if_neg (by omega)]
   simp only [xk]
   by_cases e:j=c
   ·subst e
    split
    ·rename_i h1
     rcases h1 with h1|h1
     ·exact h1
     ·omega
    ·grind
   ·rw [if_pos (.inr (by omega))]
    exact h.zero _ j (hxn i hi) (by omega) (by omega)
  ·show (s.cs++[c]).length<=c+1
   have:=h.asc
   omega
  ·show (if r=k then s.det else -s.det)*s.R r c*pr (s.cs++[c]).length (fun i=>t.S (xch k r i))=((if r=k then t.sgn else -t.sgn:Int):Rat)*(t.M r c:Rat)
   have hkc:k=c:=by
    have:(s.cs++[c]).length=c+1:=he
    omega
   have hd:=h.det (by omega)
   rw [hl] at hd
   rw [hlen',pr,xk,B1z (g:=t.S) fun i hi=>by rw [Qi hlen.1 hi],hnl]
   by_cases e:r=k
   ·rw [if_pos e,if_pos e];grind
   ·rw [if_neg e,if_neg e,Rat.intCast_neg];grind
  ·show (if r=k then s.det else -s.det)*s.R r c=0
   have:(s.cs++[c]).length<c+1:=he
   have hd:=h.miss (by omega) (by omega)
   rw [hd]
   split<;>grind
  ·show (if r=k then t.sgn else -t.sgn)=1\/(if r=k then t.sgn else -t.sgn)= -1
   have:=h.sgn
   split<;>omega
 ·rw [if_neg hk,if_neg hk]
  have hall:∀ i,i<n->s.cs.length<=i->s.R i c=0:=by
   intro i hi hki
   have:=hmiss i hki (by omega)
   simpa using this
  have hzero:∀ i j,i<n->s.cs.length<=i->j<c+1->s.R i j=0:=by
   intro i j hi hki hj
   by_cases e:j=c
   ·rw [e];exact hall i hi hki
   ·exact h.zero i j hi hki (by omega)
  by_cases hkn:s.cs.length<n
  ·rw [if_pos hkn]
   exact ⟨h.cs,⟨B,hB,E,hD⟩,h.last,h.val,h.scale,hzero,Nat.le_succ_of_le h.asc,fun he=>by have:=h.asc;have:s.cs.length=c+1:=he;omega,fun _ _=>rfl,h.sgn⟩
  ·rw [if_neg hkn]
   exact ⟨h.cs,⟨B,hB,E,hD⟩,h.last,h.val,h.scale,hzero,Nat.le_succ_of_le h.asc,fun he=>by have:=h.asc;omega,fun _ hx=>absurd hx hkn,h.sgn⟩
theorem ERel.run{n w:Nat}{A:Nat->Nat->Rat}{s:ES}{t:PS}(h:ERel n w 0 A s t):∀ c,c<=w->ERel n w c A (A2b n s c) (Ce n t c):=by
 intro c
 induction c with
 | zero=>exact fun _=>h
 | succ c ih=>exact fun hc=>(ih (by omega)).step (by omega)
end Go.Proofs.YthilnfgnpdeofaaGreatDoor
namespace Go.Proofs.YthilnfgnpdeofaaGreatDoor
set_option maxRecDepth 20000
theorem Sz.elimE{n w k j m:Nat}{R:Nat->Nat->Rat}(hR:∀ a b,a<n->b<w->Sz m (R a b))(hk:k<n)(hj:j<w)(hm:1<=m){a b:Nat}(ha:a<n)(hb:b<w):Sz (7*m) (elimE R k j a b):=by
 have hq:Sz (m+m) (R k b/R k j):=(hR k b hk hb).div (hR k j hk hj) hm
 unfold Go.Proofs.YthilnfgnpdeofaaGreatDoor.elimE
 split
 ·exact hq.mono (by omega)
 ·split
  ·exact (hR a b ha hb).mono (by omega)
  ·exact ((hR a b ha hb).sub ((hR a j ha hj).mul hq)).mono (by omega)
theorem B5q(n c:Nat)(s:ES)(h:s.cs.length<=n):s.cs.length<=Dy n c s/\Dy n c s<=n:=by
 have:=Ux (fun i=>decide (s.R i c≠0)) (n-s.cs.length) s.cs.length
 unfold Dy
 omega
structure SzE (n w m:Nat) (s:ES):Prop where
 R:∀ a b,a<n->b<w->Sz (7^s.cs.length*m) (s.R a b)
 det:Sz (7^s.cs.length*m) s.det
 len:s.cs.length<=n
theorem Hn(k m:Nat)(hm:1<=m):1<=7^k*m:=by
 have:0<7^k:=Nat.pow_pos (by decide)
 exact Nat.mul_pos this hm
theorem SzE.step{n w m c:Nat}{s:ES}(h:SzE n w m s)(hm:1<=m)(hc:c<w):SzE n w m (Fo n c s):=by
 have hr:=B5q n c s h.len
 have h1:=Hn s.cs.length m hm
 unfold Fo
 by_cases hk:s.cs.length<n
 ·rw [if_pos hk]
  by_cases hx:Dy n c s<n
  ·rw [if_pos hx]
   have e:(s.cs++[c]).length=s.cs.length+1:=by simp
   have e7:7^(s.cs.length+1)*m=7*(7^s.cs.length*m):=by rw [Nat.pow_succ,Nat.mul_comm (7^s.cs.length) 7,Nat.mul_assoc]
   refine ⟨fun a b ha hb=>?_,?_,?_⟩
   ·show Sz (7^(s.cs++[c]).length*m) _
    rw [e,e7]
    exact Sz.elimE (n:=n) (w:=w) (fun a b ha hb=>h.R _ b (Fu hk hx ha) hb) hk hc h1 ha hb
   ·show Sz (7^(s.cs++[c]).length*m) ((if Dy n c s=s.cs.length then s.det else -s.det)*s.R (Dy n c s) c)
    rw [e,e7]
    have:Sz (7^s.cs.length*m) (if Dy n c s=s.cs.length then s.det else -s.det):=by
     split
     ·exact h.det
     ·exact h.det.neg
    exact (this.mul (h.R _ c hx hc)).mono (by omega)
   ·show (s.cs++[c]).length<=n
    omega
  ·rw [if_neg hx]
   exact ⟨h.R,Sz.zero h1,h.len⟩
 ·rw [if_neg hk];exact h
theorem SzE.run{n w m:Nat}{s:ES}(h:SzE n w m s)(hm:1<=m):∀ c,c<=w->SzE n w m (A2b n s c):=by
 intro c
 induction c with
 | zero=>exact fun _=>h
 | succ c ih=>exact fun hc=>(ih (by omega)).step hm (by omega)
theorem B30{m:Nat}{x d:Int}(h:ZB m x):ZB m (x.tdiv d):=by
 refine h.le ?_
 rw [Int.natAbs_tdiv]
 exact Nat.div_le_self _ _
theorem ZB.clr{n w k j m:Nat}{M:Nat->Nat->Int}{d:Int}(hM:∀ a b,a<n->b<w->ZB m (M a b))(hk:k<n)(hj:j<w){a b:Nat}(ha:a<n)(hb:b<w):ZB (2*m+1) (clr M k j d a b):=by
 unfold Go.Proofs.YthilnfgnpdeofaaGreatDoor.clr
 split
 ·exact (hM k b hk hb).mono (by omega)
 ·refine B30 ?_
  have h1:=(hM k j hk hj).mul (hM a b ha hb)
  have h2:=(hM a j ha hj).mul (hM k b hk hb)
  exact (h1.sub h2).mono (by omega)
theorem A2e(n c:Nat)(s:PS)(h:s.cs.length<=n):s.cs.length<=Ms n c s/\Ms n c s<=n:=by
 have:=Ux (fun i=>decide (s.M i c≠0)) (n-s.cs.length) s.cs.length
 unfold Ms
 omega
structure ZbP (n w m l:Nat) (s:PS):Prop where
 M:∀ a b,a<n->b<w->ZB (3^s.cs.length*m) (s.M a b)
 last:ZB (3^s.cs.length*m) s.last
 S:∀ a,a<n->Sz l (s.S a)
 len:s.cs.length<=n
theorem Ws(k m:Nat)(hm:1<=m):1<=3^k*m:=by
 have:0<3^k:=Nat.pow_pos (by decide)
 exact Nat.mul_pos this hm
theorem ZbP.step{n w m l c:Nat}{s:PS}(h:ZbP n w m l s)(hm:1<=m)(hc:c<w):ZbP n w m l (Ed n c s):=by
 have hr:=A2e n c s h.len
 have h1:=Ws s.cs.length m hm
 unfold Ed
 by_cases hx:Ms n c s<n
 ·rw [if_pos hx]
  have hk:s.cs.length<n:=by omega
  have e:(s.cs++[c]).length=s.cs.length+1:=by simp
  have e3:3^(s.cs.length+1)*m=3*(3^s.cs.length*m):=by rw [Nat.pow_succ,Nat.mul_comm (3^s.cs.length) 3,Nat.mul_assoc]
  refine ⟨fun a b ha hb=>?_,?_,fun a ha=>h.S _ (Fu hk hx ha),?_⟩
  ·show ZB (3^(s.cs++[c]).length*m) _
   rw [e,e3]
   exact (ZB.clr (n:=n) (w:=w) (fun a b ha hb=>h.M _ b (Fu hk hx ha) hb) hk hc ha hb).mono (by omega)
  ·show ZB (3^(s.cs++[c]).length*m) (s.M (Ms n c s) c)
   rw [e,e3]
   exact (h.M _ c hx hc).mono (by omega)
  ·show (s.cs++[c]).length<=n
   omega
 ·rw [if_neg hx];exact h
theorem ZbP.run{n w m l:Nat}{s:PS}(h:ZbP n w m l s)(hm:1<=m):∀ c,c<=w->ZbP n w m l (Ce n s c):=by
 intro c
 induction c with
 | zero=>exact fun _=>h
 | succ c ih=>exact fun hc=>(ih (by omega)).step hm (by omega)
structure Asc (l:List Nat) (c:Nat):Prop where
 lt:∀ x∈l,x<c
 asc:l.Pairwise (· < ·)
end Go.Proofs.YthilnfgnpdeofaaGreatDoor
namespace Go.Proofs.YthilnfgnpdeofaaGreatDoor
set_option maxRecDepth 20000
def ZrE(n c:Nat)(s:ES):Prop:=∀ i j,i<n->s.cs.length<=i->j<c->s.R i j=0
theorem A5i(n c:Nat)(s:ES)(h:s.cs.length<=n):s.cs.length<=Dy n c s/\Dy n c s<=n/\(Dy n c s<n->s.R (Dy n c s) c≠0)/\(∀ i,s.cs.length<=i->i<Dy n c s->s.R i c=0):=by
 have hlen:=Ux (fun i=>decide (s.R i c≠0)) (n-s.cs.length) s.cs.length
 have hmiss:=Px (fun i=>decide (s.R i c≠0)) (n-s.cs.length) s.cs.length
 have hhit:=Rm (fun i=>decide (s.R i c≠0)) (n-s.cs.length) s.cs.length
 have hR:fnd (fun i=>decide (s.R i c≠0)) (n-s.cs.length) s.cs.length=Dy n c s:=rfl
 rw [hR] at hlen hmiss hhit
 refine ⟨hlen.1,by omega,fun hx=>?_,fun i h1 h2=>?_⟩
 ·have:=hhit (by omega);simpa using this
 ·have:=hmiss i h1 h2;simpa using this
structure EqA (n w c:Nat) (A:Nat->Nat->Rat) (s:ES):Prop where
 len:s.cs.length<=n
 zero:ZrE n c s
 lt:∀ x∈s.cs,x<c
 elim:∃ B,Elim n w B s.R (fun m=>s.cs.getD m 0) s.cs.length/\(∀ i,i<n->∃ i',i'<n/\∀ j,B i' j=A i j)/\(∀ i,i<n->∃ i',i'<n/\∀ j,B i j=A i' j)
 comb:∃ T:Nat->Nat->Rat,∀ i j,i<n->j<w->s.R i j=sm n fun l=>T i l*A l j
theorem A72{k l i:Nat}:xch k l (xch k l i)=i:=by unfold xch;repeat' split
                                                 all_goals omega
end Go.Proofs.YthilnfgnpdeofaaGreatDoor
namespace Go.Proofs.YthilnfgnpdeofaaGreatDoor
set_option maxRecDepth 20000
structure LUS where
 R:Nat->Nat->Rat
 L:Nat->Nat->Rat
 p:Nat->Nat
def O2(n c:Nat)(s:LUS):Nat:=fnd (fun i=>decide (s.R i c≠0)) (n-c) c
def If(R:Nat->Nat->Rat)(c:Nat):Nat->Nat->Rat:=fun i j=>if i<=c\/j<c then R i j else R i j-R i c/R c c*R c j
def Kd(R L:Nat->Nat->Rat)(c:Nat):Nat->Nat->Rat:=fun i j=>if j=c then (if i=c then 1 else if c<i then R i c/R c c else 0) else L i j
def B1q(n c:Nat)(s:LUS):LUS:=
 { R:=If (fun i=>s.R (xch c (O2 n c s) i)) c
   L:=Kd (fun i=>s.R (xch c (O2 n c s) i)) (fun i=>s.L (xch c (O2 n c s) i)) c
   p:=fun i=>s.p (xch c (O2 n c s) i) }
def Bo(n:Nat)(M:Nat->Nat->Rat):Nat->LUS
 | 0=>⟨M,fun _ _=>0,fun i=>i⟩
 | c+1=>B1q n c (Bo n M c)
def B9v(n:Nat)(M:Nat->Nat->Rat):Prop:=∀ c,c<n->O2 n c (Bo n M c)<n
theorem Mv{n c:Nat}(s:LUS)(h:c<=n):c<=O2 n c s/\O2 n c s<=n/\(O2 n c s<n->s.R (O2 n c s) c≠0)/\(∀ i,c<=i->i<O2 n c s->s.R i c=0):=by
 have hlen:=Ux (fun i=>decide (s.R i c≠0)) (n-c) c
 have hmiss:=Px (fun i=>decide (s.R i c≠0)) (n-c) c
 have hhit:=Rm (fun i=>decide (s.R i c≠0)) (n-c) c
 have hR:fnd (fun i=>decide (s.R i c≠0)) (n-c) c=O2 n c s:=rfl
 rw [hR] at hlen hmiss hhit
 refine ⟨hlen.1,by omega,fun hx=>?_,fun i h1 h2=>?_⟩
 ·have:=hhit (by omega);simpa using this
 ·have:=hmiss i h1 h2;simpa using this
structure LuI (n c m:Nat) (M:Nat->Nat->Rat) (s:LUS):Prop where
 zero:∀ i j,i<n->c<=i->j<c->s.R i j=0
 lz:∀ i j,c<=j->s.L i j=0
 szR:∀ i j,i<n->j<n->Sz (7^c*m) (s.R i j)
 szL:∀ i j,i<n->j<n->Sz (7^c*m) (s.L i j)
 len:(A2b n ⟨M,[],1⟩ c).cs.length=c
 sync:∀ i j,i<n->c<=i->(A2b n ⟨M,[],1⟩ c).R i j=s.R i j
theorem LuI.start{n m:Nat}{M:Nat->Nat->Rat}(hs:∀ i j,i<n->j<n->Sz m (M i j))(hm:1<=m):LuI n 0 m M (Bo n M 0):=by
 refine ⟨fun i j _ _ hj=>by omega,fun _ _ _=>rfl,fun i j hi hj=>by rw [Nat.pow_zero,Nat.one_mul];exact hs i j hi hj,fun _ _ _ _=>Sz.zero (by rw [Nat.pow_zero,Nat.one_mul];exact hm),rfl,fun _ _ _ _=>rfl⟩
theorem LuI.row{n c m:Nat}{M:Nat->Nat->Rat}{s:LUS}(h:LuI n c m M s):Dy n c (A2b n ⟨M,[],1⟩ c)=O2 n c s:=by
 unfold Dy O2
 rw [h.len]
 exact Kx _ _ fun j h1 h2=>by rw [h.sync j c (by omega) h1]
theorem LuI.step{n c m:Nat}{M:Nat->Nat->Rat}{s:LUS}(h:LuI n c m M s)(hm:1<=m)(hc:c<n)(hr:O2 n c s<n):LuI n (c+1) m M (B1q n c s):=by
 obtain ⟨f1,f2,f3,f4⟩:=Mv s (show c<=n by omega)
 have hrow:=h.row
 have hne:=f3 hr
 have xk:=He c (O2 n c s)
 have hxn:∀ i,i<n->xch c (O2 n c s) i<n:=fun i hi=>Fu hc hr hi
 have hxg:∀ i,c<=i->c<=xch c (O2 n c s) i:=fun i hi=>A3s f1 hi
 have h1:=Hn c m hm
 have e7:7^(c+1)*m=7*(7^c*m):=by rw [Nat.pow_succ,Nat.mul_comm (7^c) 7,Nat.mul_assoc]
 have hE:A2b n ⟨M,[],1⟩ (c+1)=Fo n c (A2b n ⟨M,[],1⟩ c):=rfl
 have hlen:=h.len
 have hsync:=h.sync
 generalize A2b n ⟨M,[],1⟩ c=e at hE hlen hsync hrow
 have hE2:Fo n c e={ R:=elimE (fun i=>e.R (xch c (O2 n c s) i)) c c,cs:=e.cs++[c],det:=(if Dy n c e=e.cs.length then e.det else-e.det)*e.R (Dy n c e) c }:=by
  unfold Fo
  rw [hlen,if_pos hc,hrow,if_pos hr]
 rw [hE2] at hE
 have szR1:∀ i j,i<n->j<n->Sz (7^c*m) (s.R (xch c (O2 n c s) i) j):=fun i j hi hj=>h.szR _ j (hxn i hi) hj
 refine ⟨fun i j hi hci hj=>?_,fun i j hj=>?_,fun i j hi hj=>?_,fun i j hi hj=>?_,?_,fun i j hi hci=>?_⟩
 ·show If (fun i=>s.R (xch c (O2 n c s) i)) c i j=0
  unfold If
  by_cases e1:j<c
  ·rw [if_pos (.inr e1)]
   exact h.zero _ j (hxn i hi) (hxg i (by omega)) e1
  ·rw [if_neg (by omega)]
   have:j=c:=by omega
   subst this
   simp only [xk]
   grind
 ·show Kd (fun i=>s.R (xch c (O2 n c s) i)) (fun i=>s.L (xch c (O2 n c s) i)) c i j=0
  unfold Kd
  rw [if_neg (by omega)]
  exact h.lz _ j (by omega)
 ·show Sz (7^(c+1)*m) (If (fun i=>s.R (xch c (O2 n c s) i)) c i j)
  unfold If
  rw [e7]
  split
  ·exact (szR1 i j hi hj).mono (by omega)
  ·exact ((szR1 i j hi hj).sub (((szR1 i c hi hc).div (szR1 c c hc hc) h1).mul (szR1 c j hc hj))).mono (by omega)
 ·show Sz (7^(c+1)*m) (Kd (fun i=>s.R (xch c (O2 n c s) i)) (fun i=>s.L (xch c (O2 n c s) i)) c i j)
  unfold Kd
  rw [e7]
  split
  ·split
   ·exact ⟨ZB.one (by omega),ZB.one (by omega)⟩
   ·split
    ·exact ((szR1 i c hi hc).div (szR1 c c hc hc) h1).mono (by omega)
    ·exact Sz.zero (by omega)
  ·exact (h.szL _ j (hxn i hi) hj).mono (by omega)
 ·rw [hE]
  show (e.cs++[c]).length=c+1
  rw [List.length_append,hlen];rfl
 ·rw [hE]
  show elimE (fun i=>e.R (xch c (O2 n c s) i)) c c i j=If (fun i=>s.R (xch c (O2 n c s) i)) c i j
  unfold elimE If
  have s1:=hsync (xch c (O2 n c s) i)
  have s2:=hsync (xch c (O2 n c s) c)
  rw [if_neg (show ¬ i=c by omega)]
  simp only [s1 _ (hxn i hi) (hxg i (by omega)),s2 _ (hxn c hc) (hxg c (by omega))]
  by_cases e1:j<c
  ·rw [if_pos (.inr e1),if_pos (.inr e1)]
  ·rw [if_neg (show ¬ (i<=c\/j<c) by omega)]
   split
   ·rename_i h2
    rcases h2 with h2|h2
    ·rw [h2];grind
    ·omega
   ·grind
theorem LuI.run{n m:Nat}{M:Nat->Nat->Rat}(hs:∀ i j,i<n->j<n->Sz m (M i j))(hm:1<=m):∀ c,c<=n->(∀ c',c'<c->O2 n c' (Bo n M c')<n)->LuI n c m M (Bo n M c):=by
 intro c
 induction c with
 | zero=>intro _ _;exact LuI.start hs hm
 | succ c ih=>exact fun hc hr=>(ih (by omega) fun c' h=>hr c' (by omega)).step hm (by omega) (hr c (by omega))
end Go.Proofs.YthilnfgnpdeofaaGreatDoor
