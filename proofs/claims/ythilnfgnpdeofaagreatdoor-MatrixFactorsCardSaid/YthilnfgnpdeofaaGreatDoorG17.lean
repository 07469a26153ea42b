/-
  Texts of this proof, merged by a program of ours.
-/
import Derived.Test.YthilnfgnpdeofaaGreatDoorG15
import Derived.Test.YthilnfgnpdeofaaGreatDoorG16
import Derived.Test.YthilnfgnpdeofaaGreatDoorG10
namespace Go.Proofs.YthilnfgnpdeofaaGreatDoor
set_option maxRecDepth 20000
open Go
section
variable {h g:Heap} {K:Value->Heap->Prop} {A B:Option Addr} {ac bc:Nat}
theorem Fz{B:Int}(hB:0<B){xs:List Int}(d:Dig B xs){m:Nat}(hl:xs.length=m+1):val B xs<(xs.getD m 0+1)*B^m/\xs.getD m 0*B^m<=val B xs:=by
 have h1:=I6 B xs m
 rw [show m+1=xs.length by omega,List.take_length] at h1
 have h2:=O0 hB (d.take m)
 have h3:=C5 hB (d.take m)
 rw [List.length_take,Nat.min_eq_left (by omega)] at h2
 have e1:(xs.getD m 0+1)*B^m=B^m*xs.getD m 0+B^m:=by grind
 have e2:xs.getD m 0*B^m=B^m*xs.getD m 0:=Int.mul_comm _ _
 omega
theorem A43{xs:List Int}{m:Nat}(hl:xs.length=m+1)(hn:Norm xs):xs.getD m 0≠0:=by
 intro e0
 have e:=Io (xs:=xs) (i:=m) (by omega)
 rw [<- hl,List.take_length,e0] at e
 apply hn
 rw [e];simp
end
theorem SlI.unique{k:IntKind}{h:Heap}{A:Option Addr}{xs ys:List Int}(s:SlI k h A xs)(t:SlI k h A ys)(hl:xs.length=ys.length):xs=ys:=by
 apply List.ext_getElem hl
 intro i h1 h2
 obtain ⟨a,ha,hc⟩:=SlV.at s (i:=i) (by simpa using h1)
 obtain ⟨b,hb,hd⟩:=SlV.at t (i:=i) (by simpa using h2)
 rw [ha] at hb
 cases hb
 rw [hc] at hd
 simpa using hd
theorem Mag.unique{k:IntKind}{B:Int}{h:Heap}{A:Option Addr}{len:Nat}{m n:Int}(a:Mag k B h A len m)(b:Mag k B h A len n):m=n:=by
 obtain ⟨xs,h1,h2,h3,h4,rfl⟩:=a
 obtain ⟨ys,g1,g2,g3,g4,rfl⟩:=b
 rw [h2.unique g2 (by omega)]
def A1o(h:Heap)(A:Option Addr)(len:Nat):List Int:=(List.range len).map fun i=>
 match A with
 | some a=>(match h.cell? (a.add i) with|some (.int _ n)=>n|_=>0)
 | none=>0
def B1k(B:Int)(h:Heap)(A:Option Addr)(len:Nat):Nat:=(val B (A1o h A len)).toNat
theorem A60{k:IntKind}{h:Heap}{A:Option Addr}{xs:List Int}(s:SlI k h A xs):A1o h A xs.length=xs:=by
 apply List.ext_getElem
 ·simp [A1o]
 ·intro i h1 h2
  obtain ⟨a,ha,hc⟩:=SlV.at s (i:=i) (by simpa using h2)
  subst ha
  simp [A1o,hc]
theorem Eo{k:IntKind}{B:Int}{h:Heap}{A:Option Addr}{len:Nat}{n:Int}(m:Mag k B h A len n):B1k B h A len=n.toNat:=by
 obtain ⟨xs,rfl,s,_,_,rfl⟩:=m
 unfold B1k
 rw [A60 s]
def ZB(m:Nat)(z:Int):Prop:=z.natAbs<2^m
theorem ZB.mono{m n:Nat}{z:Int}(h:ZB m z)(hm:m<=n):ZB n z:=Nat.lt_of_lt_of_le h (Nat.pow_le_pow_right (by decide) hm)
theorem ZB.neg{m:Nat}{z:Int}(h:ZB m z):ZB m (-z):=by unfold ZB at *;rwa [Int.natAbs_neg]
theorem ZB.add{m:Nat}{x y:Int}(hx:ZB m x)(hy:ZB m y):ZB (m+1) (x+y):=by
 unfold ZB at *;rw [Nat.pow_succ]
 have:=Int.natAbs_add_le x y;omega
theorem ZB.sub{m:Nat}{x y:Int}(hx:ZB m x)(hy:ZB m y):ZB (m+1) (x-y):=by
 rw [Int.sub_eq_add_neg];exact hx.add hy.neg
theorem ZB.mul{m n:Nat}{x y:Int}(hx:ZB m x)(hy:ZB n y):ZB (m+n) (x*y):=by
 unfold ZB at *;rw [Int.natAbs_mul,Nat.pow_add]
 have h1:x.natAbs*y.natAbs<=x.natAbs*2^n:=Nat.mul_le_mul_left _ (Nat.le_of_lt hy)
 have h2:x.natAbs*2^n<2^m*2^n:=Nat.mul_lt_mul_of_pos_right hx (Nat.pow_pos (by decide))
 omega
theorem ZB.le{m:Nat}{x y:Int}(hx:ZB m x)(h:y.natAbs<=x.natAbs):ZB m y:=Nat.lt_of_le_of_lt h hx
theorem ZB.one{m:Nat}(h:1<=m):ZB m 1:=ZB.mono (m:=1) (by unfold ZB;decide) h
theorem ZB.zero{m:Nat}:ZB m 0:=Nat.pow_pos (by decide)
theorem ZB.i64{z:Int}(h0: -9223372036854775808<=z)(h1:z<=9223372036854775807):ZB 64 z:=by unfold ZB;omega
theorem B1o{k:IntKind}{j:Nat}(hj:0<j){h:Heap}{A:Option Addr}{n m:Nat}{x:Int}(M:Mag k ((2:Int)^j) h A n x)(hx:x<2^m):n<=m/j+1:=by
 refine M.len_le ?_ ?_
 ·have:=D0 (B:=2) (by decide) hj;omega
 ·have e:((2:Int)^j)^(m/j+1)=2^(j*(m/j+1)):=by rw [Int.pow_mul]
  rw [e]
  have:m<=j*(m/j+1):=by
   have h1:=Nat.div_add_mod m j
   have h2:=Nat.mod_lt m hj
   rw [Nat.mul_add];omega
  have:=D0 (B:=2) (by decide) this
  omega
structure NI (h:Heap) (s:Bool) (A:Option Addr) (n c:Nat) (z:Int):Prop where
 mag:Mg h A n (z.natAbs:Int)
 sg:s=decide (z<0)
 cap:n<=c
section
variable {h h':Heap} {K:Value->Heap->Prop} {A B:Option Addr} {n c n' c':Nat} {s s':Bool} {x y z:Int} {m:Nat}
theorem NI.mono(hl:h.le h')(i:NI h s A n c z):NI h' s A n c z:=⟨i.mag.mono hl,i.sg,i.cap⟩
theorem NI.len(i:NI h s A n c z)(hz:ZB m z)(hm:m<=1000000000):n<=100000000:=by
 have:=B1o (j:=32) (by decide) i.mag (m:=m) (by unfold ZB at hz;have:((z.natAbs:Nat):Int)<((2^m:Nat):Int):=by omega
                                                simpa using this)
 omega
theorem NI.nil:NI h false A 0 0 0:=⟨Mag.zero,rfl,Nat.le_refl _⟩
end
def P6(n:Nat):Nat:=if n=0 then 0 else Nat.log2 n+1
theorem A64:P6 0=0:=rfl
theorem Fh{n:Nat}(h:n≠0):2^(P6 n-1)<=n/\n<2^P6 n:=by
 unfold P6
 rw [if_neg h,Nat.add_sub_cancel]
 exact ⟨Nat.log2_self_le h,Nat.lt_log2_self⟩
theorem A0h{n k:Nat}(h1:2^k<=n)(h2:n<2^(k+1)):P6 n=k+1:=by
 have h0:n≠0:=by have:=Nat.pow_pos (n:=k) (show 0<2 by decide);omega
 unfold P6
 rw [if_neg h0]
 have a:=(Nat.le_log2 h0).2 h1
 have b:=(Nat.log2_lt h0).2 h2
 omega
theorem A30{l t j:Nat}(hl:l<2^j)(ht:t≠0):P6 (l+2^j*t)=j+P6 t:=by
 obtain ⟨a,b⟩:=Fh ht
 have hb:P6 t=P6 t-1+1:=by unfold P6;rw [if_neg ht];omega
 have hp:0<2^j:=Nat.pow_pos (by decide)
 rw [hb,<- Nat.add_assoc]
 apply A0h
 ·rw [Nat.pow_add]
  have:=Nat.mul_le_mul_left (2^j) a
  omega
 ·rw [Nat.add_assoc,<- hb,Nat.pow_add]
  have:=Nat.mul_le_mul_left (2^j) (show t+1<=2^P6 t by omega)
  rw [Nat.mul_add] at this;omega
theorem Hz{n k:Nat}(h:n<2^k):P6 n<=k:=by
 by_cases h0:n=0
 ·subst h0;rw [A64];omega
 ·unfold P6;rw [if_neg h0];have:=(Nat.log2_lt h0).2 h;omega
section
variable {h h':Heap} {K:Value->Heap->Prop} {A B:Option Addr} {n c n' c':Nat} {s s':Bool} {x y z:Int} {m:Nat}
end
structure QV where
 s:Bool
 A:Option Addr
 n:Nat
 c:Nat
 s2:Bool
 A2:Option Addr
 n2:Nat
 c2:Nat
abbrev QV.v(w:QV):Value:=.agg #[.bool w.s,.slice w.A w.n w.c,.bool w.s2,.slice w.A2 w.n2 w.c2]
structure NQ (h:Heap) (w:QV) (q:Rat):Prop where
 num:NI h w.s w.A w.n w.c q.num
 den:NI h w.s2 w.A2 w.n2 w.c2 (if q.den=1 then 0 else (q.den:Int))
structure Sz (m:Nat) (q:Rat):Prop where
 num:ZB m q.num
 den:ZB m q.den
theorem Sz.mono{m n:Nat}{q:Rat}(h:Sz m q)(hm:m<=n):Sz n q:=⟨h.num.mono hm,h.den.mono hm⟩
theorem Sz.neg{m:Nat}{q:Rat}(h:Sz m q):Sz m (-q):=⟨by rw [Rat.neg_num];exact h.num.neg,by rw [Rat.neg_den];exact h.den⟩
theorem A5s{a b:Int}(hb:b≠0):(Rat.divInt a b).num.natAbs<=a.natAbs/\(Rat.divInt a b).den<=b.natAbs:=by
 have hg:0<Int.gcd b a:=Int.gcd_pos_of_ne_zero_left a hb
 rw [Rat.num_divInt,Rat.den_divInt,if_neg hb]
 constructor
 ·have hd:(Int.gcd b a:Int)∣b.sign*a:=Int.dvd_mul_of_dvd_right (Int.gcd_dvd_right b a)
  rw [Int.natAbs_ediv_of_dvd hd,Int.natAbs_mul,Int.natAbs_natCast]
  have:b.sign.natAbs=1:=by
   rw [Int.natAbs_sign];simp [hb]
  rw [this,Nat.one_mul]
  exact Nat.div_le_self _ _
 ·exact Nat.div_le_self _ _
theorem S2{m:Nat}{a b:Int}(hb:b≠0)(h1:ZB m a)(h2:ZB m b):Sz m (Rat.divInt a b):=by
 have:=A5s (a:=a) hb
 exact ⟨h1.le this.1,h2.le (by simpa using this.2)⟩
theorem A34(p q:Rat):p+q=Rat.divInt (p.num*q.den+q.num*p.den) (p.den*q.den):=by
 rw [Rat.add_def',<- Int.natCast_mul,Rat.divInt_ofNat]
theorem A2m(p q:Rat):p*q=Rat.divInt (p.num*q.num) (p.den*q.den):=by
 rw [Rat.mul_def',<- Int.natCast_mul,Rat.divInt_ofNat]
theorem A2v(z:Int):Rat.divInt z 1=(z:Rat):=by
 show Rat.divInt z ((1:Nat):Int)=_
 rw [Rat.divInt_ofNat]
 apply Rat.ext
 ·rw [Rat.num_mkRat];simp
 ·rw [Rat.den_mkRat];simp
theorem den_ne(q:Rat):(q.den:Int)≠0:=by have:=q.den_nz;omega
theorem Sz.add{m n:Nat}{p q:Rat}(hp:Sz m p)(hq:Sz n q):Sz (m+n+1) (p+q):=by
 rw [A34]
 refine S2 (Int.mul_ne_zero (den_ne p) (den_ne q)) ?_ ((hp.den.mul hq.den).mono (by omega))
 exact (hp.num.mul hq.den).add ((hq.num.mul hp.den).mono (by omega))
theorem Sz.sub{m n:Nat}{p q:Rat}(hp:Sz m p)(hq:Sz n q):Sz (m+n+1) (p-q):=by
 rw [Rat.sub_eq_add_neg];exact hp.add hq.neg
theorem Sz.mul{m n:Nat}{p q:Rat}(hp:Sz m p)(hq:Sz n q):Sz (m+n) (p*q):=by
 rw [A2m]
 exact S2 (Int.mul_ne_zero (den_ne p) (den_ne q)) (hp.num.mul hq.num) (hp.den.mul hq.den)
theorem Sz.zero{m:Nat}(hm:1<=m):Sz m 0:=⟨ZB.zero,ZB.one hm⟩
theorem Sz.inv{m:Nat}{q:Rat}(h:Sz m q)(hm:1<=m):Sz m q⁻¹:=by
 constructor
 ·rw [Rat.num_inv]
  refine h.den.le ?_
  rw [Int.natAbs_mul]
  by_cases h0:q.num=0
  ·rw [h0];simp
  ·rw [Int.natAbs_sign];simp [h0]
 ·rw [Rat.den_inv]
  split
  ·exact ZB.one hm
  ·have:=h.num
   unfold ZB at *
   simpa using this
theorem Sz.div{m n:Nat}{p q:Rat}(hp:Sz m p)(hq:Sz n q)(hn:1<=n):Sz (m+n) (p/q):=by
 rw [Rat.div_def];exact hp.mul (hq.inv hn)
theorem Sz.int{m:Nat}{z:Int}(h:ZB m z)(hm:1<=m):Sz m (z:Rat):=⟨by simpa using h,by simpa using ZB.one hm⟩
section
variable {h h':Heap} {K:Value->Heap->Prop} {A B:Option Addr} {n c n' c':Nat} {s s':Bool} {x y z:Int} {m:Nat} {p q:Rat} {a b w:QV}
theorem NQ.mono(hl:h.le h')(i:NQ h w q):NQ h' w q:=⟨i.num.mono hl,i.den.mono hl⟩
theorem NQ.whole(i:NI h s A n c z){B:Option Addr}:NQ h ⟨s,A,n,c,false,B,0,0⟩ (z:Rat):=⟨by simpa using i,by simpa using NI.nil⟩
theorem NQ.zero:NQ h ⟨false,none,0,0,false,none,0,0⟩ 0:=⟨NI.nil,NI.nil⟩
end
def dch(d:Nat):UInt8:=UInt8.ofNat (48+d)
theorem Fe{d:Nat}(h:d<10):(dch d).toNat=48+d:=by
 unfold dch;rw [UInt8.toNat_ofNat'];omega
def I5(c:UInt8):Prop:=48<=c.toNat/\c.toNat<=57
instance (c:UInt8):Decidable (I5 c):=by unfold I5;infer_instance
theorem B29{d:Nat}(h:d<10):I5 (dch d):=by unfold I5;rw [Fe h];omega
theorem B07{c:UInt8}(h:I5 c):dch (c.toNat-48)=c:=by
 unfold I5 at h
 apply UInt8.toNat_inj.1
 rw [Fe (by omega)];omega
def dd(n:Nat):List UInt8:=if _h:n=0 then [] else dd (n/10)++[dch (n%10)]
theorem K6:dd 0=[]:=by unfold dd;simp
theorem Am{n:Nat}(h:n≠0):dd n=dd (n/10)++[dch (n%10)]:=by rw [dd];simp [h]
def N8(l:List UInt8):Nat:=l.foldl (fun a c=>10*a+(c.toNat-48)) 0
theorem Jr(l:List UInt8)(c:UInt8):N8 (l++[c])=10*N8 l+(c.toNat-48):=by simp [N8]
theorem B21(l:List UInt8):∀ a,l.foldl (fun a c=>10*a+(c.toNat-48)) a=a*10^l.length+N8 l:=by
 induction l with
 | nil=>intro a;simp [N8]
 | cons c l ih=>
  intro a
  unfold N8
  rw [List.foldl_cons,List.foldl_cons,ih,ih,List.length_cons,Nat.pow_succ]
  grind
theorem Hw(a b:List UInt8):N8 (a++b)=N8 a*10^b.length+N8 b:=by
 unfold N8;rw [List.foldl_append,B21 b];rfl
theorem A5o(c:UInt8)(l:List UInt8):N8 (c::l)=(c.toNat-48)*10^l.length+N8 l:=by
 rw [<- List.singleton_append,Hw];simp [N8]
theorem Hv{l:List UInt8}(h:∀ c∈l,I5 c):N8 l<10^l.length:=by
 induction l with
 | nil=>simp [N8]
 | cons c l ih=>
  have h1:=ih fun x hx=>h x (by simp [hx])
  have h2:=h c (by simp)
  unfold I5 at h2
  rw [A5o,List.length_cons,Nat.pow_succ]
  have:(c.toNat-48)*10^l.length<=9*10^l.length:=Nat.mul_le_mul_right _ (by omega)
  omega
theorem B22(n:Nat):N8 (dd n)=n:=by
 induction n using Nat.strongRecOn with
 | _ n ih=>
  by_cases h:n=0
  ·subst h;rw [K6];rfl
  ·rw [Am h,Jr,ih _ (by omega),Fe (by omega)];omega
theorem B4d(n:Nat):∀ c∈dd n,I5 c:=by
 induction n using Nat.strongRecOn with
 | _ n ih=>
  by_cases h:n=0
  ·subst h;rw [K6];simp
  ·rw [Am h]
   intro c hc
   rcases List.mem_append.1 hc with h1|h1
   ·exact ih _ (by omega) c h1
   ·rw [List.mem_singleton.1 h1];exact B29 (by omega)
theorem B28{n:Nat}(h:n≠0):dd n≠[]:=by rw [Am h];simp
theorem A5w(n:Nat)(h:n≠0):(dd n).head? ≠ some 48:=by
 induction n using Nat.strongRecOn with
 | _ n ih=>
  rw [Am h]
  by_cases h1:n/10=0
  ·rw [h1,K6]
   simp only [List.nil_append,List.head?_cons,ne_eq,Option.some.injEq]
   intro e
   have:=Fe (d:=n%10) (by omega)
   rw [e] at this
   simp at this
   omega
  ·have:=ih _ (by omega) h1
   obtain ⟨c,r,e⟩:=List.exists_cons_of_ne_nil (B28 h1)
   rw [e] at this ⊢
   simpa using this
theorem A5x{l:List UInt8}(h:∀ c∈l,I5 c)(h0:l.head? ≠ some 48):dd (N8 l)=l:=by
 obtain ⟨n,hn⟩:∃ n,l.length=n:=⟨_,rfl⟩
 induction n generalizing l with
 | zero=>rw [List.eq_nil_of_length_eq_zero hn];exact K6
 | succ n ih=>
  obtain ⟨m,c,rfl⟩:∃ m c,l=m++[c]:=by
   refine ⟨l.dropLast,l.getLast (by rintro rfl;simp at hn),?_⟩
   rw [List.dropLast_concat_getLast]
  have hc:=h c (by simp)
  have hc':=hc
  unfold I5 at hc'
  rw [Jr]
  cases m with
  | nil=>
   simp at h0
   have hne:c.toNat-48≠0:=by
    intro e
    apply h0
    apply UInt8.toNat_inj.1
    show c.toNat=48
    omega
   rw [Am (by simp [N8];omega)]
   simp only [N8,List.foldl_nil,List.nil_append]
   rw [show (10*0+(c.toNat-48))/10=0 by omega,K6,show (10*0+(c.toNat-48))%10=c.toNat-48 by omega,B07 hc];rfl
  | cons d m=>
   have ih':=ih (l:=d::m) (fun x hx=>h x (by simp at hx ⊢;rcases hx with h|h<;>simp [h])) (by simpa using h0) (by simpa using hn)
   have hpos:N8 (d::m)≠0:=by
    intro e
    rw [e,K6] at ih'
    cases ih'
   rw [Am (by omega),show (10*N8 (d::m)+(c.toNat-48))/10=N8 (d::m) by omega,ih',show (10*N8 (d::m)+(c.toNat-48))%10=c.toNat-48 by omega,B07 hc]
theorem P8{n k:Nat}:(dd n).length<=k↔n<10^k:=by
 induction k generalizing n with
 | zero=>
  constructor
  ·intro h
   have:dd n=[]:=List.eq_nil_of_length_eq_zero (by omega)
   by_cases h0:n=0
   ·subst h0;decide
   ·exact absurd this (B28 h0)
  ·intro h
   have:n=0:=by simp at h;exact h
   subst this;rw [K6];simp
 | succ k ih=>
  by_cases h0:n=0
  ·subst h0;rw [K6];simp [Nat.pow_pos]
  ·rw [Am h0,List.length_append,List.length_singleton,Nat.add_le_add_iff_right,ih,Nat.pow_succ]
   omega
def pad(w n:Nat):List UInt8:=List.replicate (w-(dd n).length) 48++dd n
theorem A19(n:Nat):pad 0 n=dd n:=by simp [pad]
theorem Sc{w n:Nat}(h:n<10^w):(pad w n).length=w:=by
 have:=P8.2 h
 simp [pad];omega
theorem Nn(w n:Nat):pad (w+1) n=pad w (n/10)++[dch (n%10)]:=by
 unfold pad
 by_cases h:n=0
 ·subst h
  rw [K6]
  simp only [List.length_nil,Nat.sub_zero,List.append_nil,Nat.zero_mod]
  rw [List.replicate_succ'];rfl
 ·rw [Am h,List.length_append,List.length_singleton,Nat.add_sub_add_right,List.append_assoc]
theorem B4c{h l k:Nat}(h0:h≠0)(hl:l<10^k):dd (h*10^k+l)=dd h++pad k l:=by
 induction k generalizing l with
 | zero=>
  have:l=0:=by simpa using hl
  subst this;simp [pad,K6]
 | succ k ih=>
  have hp:0<10^k:=Nat.pow_pos (by decide)
  have hne:h*10^(k+1)+l≠0:=by
   have:0<h*10^(k+1):=Nat.mul_pos (by omega) (Nat.pow_pos (by decide))
   omega
  have e1:(h*10^(k+1)+l)/10=h*10^k+l/10:=by
   rw [Nat.pow_succ,<- Nat.mul_assoc];omega
  have e2:(h*10^(k+1)+l)%10=l%10:=by
   rw [Nat.pow_succ,<- Nat.mul_assoc];omega
  rw [Am hne,e1,e2,ih (by rw [Nat.pow_succ] at hl;omega),Nn,List.append_assoc]
theorem Wl{w h l k:Nat}(hl:l<10^k)(hw:h≠0\/k<=w):pad w (h*10^k+l)=pad (w-k) h++pad k l:=by
 by_cases h0:h=0
 ·subst h0
  have hk:k<=w:=by
   rcases hw with h|h
   ·exact absurd rfl h
   ·exact h
  have:=P8.2 hl
  unfold pad
  rw [K6]
  simp only [Nat.zero_mul,Nat.zero_add,List.length_nil,Nat.sub_zero,List.append_nil,<- List.append_assoc,List.replicate_append_replicate]
  congr 2;omega
 ·have e:=B4c h0 hl
  have hlen:=Sc hl
  unfold pad at hlen
  unfold pad at e ⊢
  rw [e,List.length_append,hlen,<- List.append_assoc]
  congr 3;omega
def N7(n:Nat):List UInt8:=if n=0 then [48] else dd n
theorem Z5{n:Nat}(h:n≠0):N7 n=dd n:=by simp [N7,h]
theorem Js(n:Nat):N8 (N7 n)=n:=by
 unfold N7;split
 ·rename_i h;subst h;rfl
 ·exact B22 n
theorem A1n(n:Nat):∀ c∈N7 n,I5 c:=by
 unfold N7;split
 ·intro c hc;rw [List.mem_singleton.1 hc];decide
 ·exact B4d n
theorem A0a(n:Nat):N7 n≠[]:=by
 unfold N7;split
 ·simp
 ·rename_i h;exact B28 h
theorem A8v{a b:Nat}(h:N7 a=N7 b):a=b:=by rw [<- Js a,h,Js]
theorem Jt{l:List UInt8}(h:∀ c∈l,I5 c)(hn:l≠[])(h0:l.head? ≠ some 48\/l=[48]):N7 (N8 l)=l:=by
 rcases h0 with h0|h0
 ·have:=A5x h h0
  rw [Z5,this]
  intro e
  rw [e,K6] at this
  exact hn this.symm
 ·subst h0;rfl
theorem Oa{n k:Nat}(hk:0<k):(N7 n).length<=k↔n<10^k:=by
 by_cases h:n=0
 ·subst h;have:0<10^k:=Nat.pow_pos (by decide);simp [N7];omega
 ·rw [Z5 h];exact P8
def Oh(z:Int):List UInt8:=if z<0 then 45::N7 z.natAbs else N7 z.natAbs
def N2(q:Rat):List UInt8:=Oh q.num++(if q.den=1 then [] else 47::N7 q.den)
structure Form (s:List UInt8) (neg:Bool) (a b:List UInt8):Prop where
 eq:s=(if neg then [45] else [])++a++(if b=[] then [] else 47::b)
 da:∀ c∈a,I5 c
 db:∀ c∈b,I5 c
 ne:a≠[]
 ha:a.head? ≠ some 48\/(a=[48]/\neg=false/\b=[])
 hb:b.head? ≠ some 48
 b1:b≠[49]
theorem A8j{c:UInt8}(h:I5 c):c≠45/\c≠47:=by
 unfold I5 at h
 constructor<;>(rintro rfl;revert h;decide)
theorem Cr{a r:List UInt8}(h:∀ c∈a,I5 c)(hr:∀ c,r.head? = some c->¬ I5 c):(a++r).takeWhile (fun c=>decide (I5 c))=a/\(a++r).dropWhile (fun c=>decide (I5 c))=r:=by
 induction a with
 | nil=>
  cases r with
  | nil=>simp
  | cons c r=>
   have:=hr c rfl
   simp [this]
 | cons c a ih=>
  have hc:=h c (by simp)
  have:=ih fun x hx=>h x (by simp [hx])
  simp [hc,this]
theorem Form.head{s:List UInt8}{neg:Bool}{a b:List UInt8}(f:Form s neg a b):neg=(s.head? == some 45):=by
 obtain ⟨c,r,e⟩:=List.exists_cons_of_ne_nil f.ne
 have hc:=(A8j (f.da c (by simp [e]))).1
 rw [f.eq,e]
 cases neg<;>simp [hc]
theorem Form.unique{s:List UInt8}{neg neg':Bool}{a b a' b':List UInt8}(f:Form s neg a b)(g:Form s neg' a' b'):neg=neg'/\a=a'/\b=b':=by
 have hn:neg=neg':=by rw [f.head,g.head]
 subst hn
 have e:=f.eq.symm.trans g.eq
 rw [List.append_assoc,List.append_assoc] at e
 have e2:=List.append_cancel_left e
 have hr:∀ b:List UInt8,∀ c,(if b=[] then [] else 47::b:List UInt8).head? = some c->¬ I5 c:=by
  intro b c hc
  split at hc
  ·simp at hc
  ·simp at hc;subst hc;decide
 have h1:=Cr f.da (hr b)
 have h2:=Cr g.da (hr b')
 rw [e2] at h1
 have ea:a=a':=h1.1.symm.trans h2.1
 have eb:=h1.2.symm.trans h2.2
 refine ⟨rfl,ea,?_⟩
 by_cases hb:b=[]<;>by_cases hb':b'=[]<;>simp [hb,hb'] at eb ⊢
 exact eb
theorem Pr{q:Rat}(h:q.num=0):q.den=1:=by
 have:=q.reduced
 rw [h] at this
 simpa using this
theorem Eh(q:Rat):Form (N2 q) (decide (q.num<0)) (N7 q.num.natAbs) (if q.den=1 then [] else N7 q.den):=by
 constructor
 ·unfold N2 Oh
  by_cases h1:q.num<0<;>by_cases h2:q.den=1<;>simp [h1,h2,A0a]
 ·exact A1n _
 ·split
  ·simp
  ·exact A1n _
 ·exact A0a _
 ·by_cases h:q.num=0
  ·right
   rw [Pr h,h];simp [N7]
  ·left
   rw [Z5 (by omega)];exact A5w _ (by omega)
 ·split
  ·simp
  ·rw [Z5 q.den_nz];exact A5w _ q.den_nz
 ·split
  ·simp
  ·rename_i h
   intro e
   have e1:N7 q.den=N7 1:=by rw [e];simp [N7,Am,K6,dch]
   exact h (A8v e1)
def Me(neg:Bool)(a:List UInt8):Int:=if neg then -(N8 a:Int) else N8 a
def Ie(b:List UInt8):Nat:=if b=[] then 1 else N8 b
theorem Pp{b:List UInt8}(h:∀ c∈b,I5 c)(hn:b≠[])(h0:b.head? ≠ some 48):N8 b≠0:=by
 intro e
 have:=A5x h h0
 rw [e,K6] at this
 exact hn this.symm
theorem Form.den_ne{s:List UInt8}{neg:Bool}{a b:List UInt8}(f:Form s neg a b):Ie b≠0:=by
 unfold Ie;split
 ·decide
 ·rename_i h;exact Pp f.db h f.hb
theorem Form.txt{s:List UInt8}{neg:Bool}{a b:List UInt8}(f:Form s neg a b){q:Rat}(h1:q.num=Me neg a)(h2:q.den=Ie b):s=N2 q:=by
 have ea:N7 (N8 a)=a:=Jt f.da f.ne (f.ha.imp id fun h=>h.1)
 have habs:(Me neg a).natAbs=N8 a:=by unfold Me;split<;>simp
 have hneg:(Me neg a<0)↔neg=true:=by
  unfold Me
  cases neg
  ·simp
  ·simp only [if_true]
   constructor
   ·intro _;trivial
   ·intro _
    have:N8 a≠0:=by
     rcases f.ha with h|h
     ·exact Pp f.da f.ne h
     ·exact absurd h.2.1 (by simp)
    omega
 have hd:(Ie b=1)↔b=[]:=by
  unfold Ie
  split
  ·rename_i h;simp [h]
  ·rename_i h
   constructor
   ·intro e
    exfalso
    have h3:=Jt f.db h (Or.inl f.hb)
    rw [e] at h3
    apply f.b1
    rw [<- h3];simp [N7,Am,K6,dch]
   ·intro e;exact absurd e h
 rw [f.eq]
 unfold N2 Oh
 rw [h1,h2,habs,ea]
 by_cases hb:b=[]
 ·rw [if_pos hb,if_pos (hd.2 hb)]
  cases neg
  ·rw [if_neg (fun e=>Bool.noConfusion (hneg.1 e))];simp
  ·rw [if_pos (hneg.2 rfl)];simp
 ·rw [if_neg hb,if_neg (fun e=>hb (hd.1 e))]
  have eb:N7 (Ie b)=b:=by
   unfold Ie;rw [if_neg hb];exact Jt f.db hb (Or.inl f.hb)
  rw [eb]
  cases neg
  ·rw [if_neg (fun e=>Bool.noConfusion (hneg.1 e))];simp
  ·rw [if_pos (hneg.2 rfl)];simp
theorem Form.of_txt{s:List UInt8}{neg:Bool}{a b:List UInt8}(f:Form s neg a b){q:Rat}(e:s=N2 q):q.num=Me neg a/\q.den=Ie b:=by
 subst e
 obtain ⟨e1,e2,e3⟩:=f.unique (Eh q)
 subst e1 e2 e3
 constructor
 ·unfold Me
  rw [Js]
  by_cases h:q.num<0
  ·simp [h];omega
  ·simp [h];omega
 ·unfold Ie
  by_cases h:q.den=1
  ·simp [h]
  ·simp [h,A0a,Js]
theorem A7o{p q:Rat}(e:N2 p=N2 q):p=q:=by
 have f:=Eh p
 have h1:=f.of_txt rfl
 have h2:=f.of_txt e
 exact Rat.ext (h1.1.trans h2.1.symm) (h1.2.trans h2.2.symm)
def IsNum(s:List UInt8):Prop:=∃ q,s=N2 q
theorem Form.isNum{s:List UInt8}{neg:Bool}{a b:List UInt8}(f:Form s neg a b):IsNum s↔Nat.gcd (N8 a) (Ie b)=1:=by
 have habs:(Me neg a).natAbs=N8 a:=by unfold Me;split<;>simp
 constructor
 ·rintro ⟨q,e⟩
  have:=f.of_txt e
  have hr:=q.reduced
  rw [this.1,this.2,habs] at hr
  exact hr
 ·intro h
  exact ⟨⟨Me neg a,Ie b,f.den_ne,by rw [habs];exact h⟩,f.txt rfl rfl⟩
theorem IsNum.form{s:List UInt8}(h:IsNum s):∃ neg a b,Form s neg a b:=by
 obtain ⟨q,rfl⟩:=h
 exact ⟨_,_,_,Eh q⟩
def A87(s:List UInt8):Rat:=
 let neg:=s.head? == some 45
 let t:=if neg then s.drop 1 else s
 mkRat (Me neg (t.takeWhile fun c=>decide (I5 c))) (Ie ((t.dropWhile fun c=>decide (I5 c)).drop 1))
def rv(s:List UInt8):Rat:=if N2 (A87 s)=s then A87 s else 0
theorem It(q:Rat):rv (N2 q)=q:=by
 have f:=Eh q
 have hn:=f.head
 have hr:∀ b:List UInt8,∀ c,(if b=[] then [] else 47::b:List UInt8).head? = some c->¬ I5 c:=by
  intro b c hc
  split at hc
  ·simp at hc
  ·simp at hc;subst hc;decide
 have e:A87 (N2 q)=q:=by
  unfold A87
  simp only [<- hn]
  generalize hb:(if q.den=1 then [] else N7 q.den)=b at f
  have ht:(if decide (q.num<0)=true then (N2 q).drop 1 else N2 q)=N7 q.num.natAbs++(if b=[] then [] else 47::b):=by
   rw [f.eq]
   by_cases h0:q.num<0<;>simp [h0]
  rw [ht,(Cr f.da (hr b)).1,(Cr f.da (hr b)).2]
  have h1:=f.of_txt rfl
  have h2:(if b=[] then [] else 47::b:List UInt8).drop 1=b:=by
   by_cases h0:b=[]<;>simp [h0]
  rw [h2,<- h1.1,<- h1.2,Rat.mkRat_self]
 unfold rv
 rw [e,if_pos rfl]
theorem A9l{s:List UInt8}(h:¬ IsNum s):rv s=0:=by
 unfold rv
 rw [if_neg (fun e=>h ⟨_,e.symm⟩)]
theorem B39{s:List UInt8}(h:IsNum s):N2 (rv s)=s:=by
 obtain ⟨q,rfl⟩:=h
 rw [It]
theorem Form.rv_num{s:List UInt8}{neg:Bool}{a b:List UInt8}(f:Form s neg a b)(h:IsNum s):(rv s).num=Me neg a/\(rv s).den=Ie b:=by
 obtain ⟨q,rfl⟩:=h
 rw [It];exact f.of_txt rfl
end Go.Proofs.YthilnfgnpdeofaaGreatDoor
