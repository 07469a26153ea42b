/-
  Texts of this proof, merged by a program of ours.
-/
import Derived.Test.YtajkakhfcokljaaGreatDoorG16
import Derived.Test.YtajkakhfcokljaaGreatDoorG17
import Derived.Test.YtajkakhfcokljaaGreatDoorG11
set_option linter.all false
open Int renaming natAbs_mul->B8q
open List renaming append_assoc->B8g,length_append->B8l,eq_nil_of_length_eq_zero->B8n,exists_cons_of_ne_nil->B8p
open Nat renaming pow_pos->B8h,pow_succ->B8i,mul_le_mul_left->B8k,strongRecOn->B8o
open Rat renaming divInt->B8j,divInt_ofNat->B8m
namespace Go.Proofs.YtajkakhfcokljaaGreatDoor
set_option maxRecDepth 20000
open Go
section
variable {h g:Heap} {K:VP} {A B:Option Addr} {ac bc:Nat}
theorem Fm{B:Int}(hB:0<B){xs:List Int}(d:Dig B xs){m:Nat}(hl:xs.length=m+1):val B xs<(xs.getD m 0+1)*B^m/\xs.getD m 0*B^m<=val B xs:=by
 have h1:=I5 B xs m
 rw [show m+1=xs.length by omega,List.take_length] at h1
 have h2:=M0 hB (d.take m)
 have h3:=C5 hB (d.take m)
 rw [List.length_take,Nat.min_eq_left (by omega)] at h2
 have e1:(xs.getD m 0+1)*B^m=B^m*xs.getD m 0+B^m:=by grind
 have e2:xs.getD m 0*B^m=B^m*xs.getD m 0:=Int.mul_comm _ _
 omega
theorem A4f{xs:List Int}{m:Nat}(hl:xs.length=m+1)(hn:Norm xs):xs.getD m 0≠0:=by
 intro e0
 have e:=Hy (xs:=xs) (i:=m) (by omega)
 rw [<- hl,List.take_length,e0] at e
 apply hn
 rw [e];simp
end
def A1z(h:Heap)(A:Option Addr)(len:Nat):List Int:=(List.range len).map fun i=>
 match A with
 | some a=>(match h.cell? (a.add i) with|some (.int _ n)=>n|_=>0)
 | none=>0
def B2e(B:Int)(h:Heap)(A:Option Addr)(len:Nat):Nat:=(val B (A1z h A len)).toNat
theorem A6p{k:IntKind}{h:Heap}{A:Option Addr}{xs:List Int}(s:SlI k h A xs):A1z h A xs.length=xs:=by
 apply List.ext_getElem
 ·simp [A1z]
 ·intro i h1 h2
  obtain ⟨a,ha,hc⟩:=SlV.at s (i:=i) (by simpa using h2)
  subst ha
  simp [A1z,hc]
theorem Ed{k:IntKind}{B:Int}{h:Heap}{A:Option Addr}{len:Nat}{n:Int}(m:Mag k B h A len n):B2e B h A len=n.toNat:=by
 obtain ⟨xs,rfl,s,_,_,rfl⟩:=m
 unfold B2e
 rw [A6p s]
def ZB(m:Nat)(z:Int):Prop:=z.natAbs<2^m
theorem ZB.mono{m n:Nat}{z:Int}(h:ZB m z)(hm:m<=n):ZB n z:=Nat.lt_of_lt_of_le h (Nat.pow_le_pow_right (by decide) hm)
theorem ZB.neg{m:Nat}{z:Int}(h:ZB m z):ZB m (-z):=by unfold ZB at *;rwa [Int.natAbs_neg]
theorem ZB.add{m:Nat}{x y:Int}(hx:ZB m x)(hy:ZB m y):ZB (m+1) (x+y):=by
 unfold ZB at *;rw [B8i]
 have:=Int.natAbs_add_le x y;omega
theorem ZB.sub{m:Nat}{x y:Int}(hx:ZB m x)(hy:ZB m y):ZB (m+1) (x-y):=by
 rw [Int.sub_eq_add_neg];exact hx.add hy.neg
theorem ZB.mul{m n:Nat}{x y:Int}(hx:ZB m x)(hy:ZB n y):ZB (m+n) (x*y):=by
 unfold ZB at *;rw [B8q,Nat.pow_add]
 have h1:x.natAbs*y.natAbs<=x.natAbs*2^n:=B8k _ (Nat.le_of_lt hy)
 have h2:x.natAbs*2^n<2^m*2^n:=Nat.mul_lt_mul_of_pos_right hx (B8h (by decide))
 omega
theorem ZB.le{m:Nat}{x y:Int}(hx:ZB m x)(h:y.natAbs<=x.natAbs):ZB m y:=Nat.lt_of_le_of_lt h hx
theorem ZB.one{m:Nat}(h:1<=m):ZB m 1:=ZB.mono (m:=1) (by unfold ZB;decide) h
theorem ZB.zero{m:Nat}:ZB m 0:=B8h (by decide)
structure NI (h:Heap) (s:Bool) (A:Option Addr) (n c:Nat) (z:Int):Prop where
 mag:Mg h A n (z.natAbs:Int)
 sg:s=decide (z<0)
 cap:n<=c
section
variable {h h':Heap} {K:VP} {A B:Option Addr} {n c n' c':Nat} {s s':Bool} {x y z:Int} {m:Nat}
end
def O7(n:Nat):Nat:=if n=0 then 0 else Nat.log2 n+1
theorem A6t:O7 0=0:=rfl
theorem Eu{n:Nat}(h:n≠0):2^(O7 n-1)<=n/\n<2^O7 n:=by
 unfold O7
 rw [if_neg h,Nat.add_sub_cancel]
 exact ⟨Nat.log2_self_le h,Nat.lt_log2_self⟩
theorem A0r{n k:Nat}(h1:2^k<=n)(h2:n<2^(k+1)):O7 n=k+1:=by
 have h0:n≠0:=by have:=B8h (n:=k) (show 0<2 by decide);omega
 unfold O7
 rw [if_neg h0]
 have a:=(Nat.le_log2 h0).2 h1
 have b:=(Nat.log2_lt h0).2 h2
 omega
theorem A38{l t j:Nat}(hl:l<2^j)(ht:t≠0):O7 (l+2^j*t)=j+O7 t:=by
 obtain ⟨a,b⟩:=Eu ht
 have hb:O7 t=O7 t-1+1:=by unfold O7;rw [if_neg ht];omega
 have hp:0<2^j:=B8h (by decide)
 rw [hb,<- Nat.add_assoc]
 apply A0r
 ·rw [Nat.pow_add]
  have:=B8k (2^j) a
  omega
 ·rw [Nat.add_assoc,<- hb,Nat.pow_add]
  have:=B8k (2^j) (show t+1<=2^O7 t by omega)
  rw [Nat.mul_add] at this;omega
theorem Hj{n k:Nat}(h:n<2^k):O7 n<=k:=by
 by_cases h0:n=0
 ·subst h0;rw [A6t];omega
 ·unfold O7;rw [if_neg h0];have:=(Nat.log2_lt h0).2 h;omega
section
variable {h h':Heap} {K:VP} {A B:Option Addr} {n c n' c':Nat} {s s':Bool} {x y z:Int} {m:Nat}
end
structure QV where
 s:Bool
 A:Option Addr
 n:Nat
 c:Nat
 s2:Bool
 A2:Option Addr
 n2:Nat
 c2:Nat
abbrev QV.v(w:QV):Value:=.agg #[.bool w.s,.slice w.A w.n w.c,.bool w.s2,.slice w.A2 w.n2 w.c2]
structure NQ (h:Heap) (w:QV) (q:Rat):Prop where
 num:NI h w.s w.A w.n w.c q.num
 den:NI h w.s2 w.A2 w.n2 w.c2 (if q.den=1 then 0 else (q.den:Int))
structure Sz (m:Nat) (q:Rat):Prop where
 num:ZB m q.num
 den:ZB m q.den
theorem Sz.mono{m n:Nat}{q:Rat}(h:Sz m q)(hm:m<=n):Sz n q:=⟨h.num.mono hm,h.den.mono hm⟩
theorem Sz.neg{m:Nat}{q:Rat}(h:Sz m q):Sz m (-q):=⟨by rw [Rat.neg_num];exact h.num.neg,by rw [Rat.neg_den];exact h.den⟩
theorem Xu{a b:Int}(hb:b≠0):(B8j a b).num.natAbs<=a.natAbs/\(B8j a b).den<=b.natAbs:=by
 have hg:0<Int.gcd b a:=Int.gcd_pos_of_ne_zero_left a hb
 rw [Rat.num_divInt,Rat.den_divInt,if_neg hb]
 constructor
 ·have hd:(Int.gcd b a:Int)∣b.sign*a:=Int.dvd_mul_of_dvd_right (Int.gcd_dvd_right b a)
  rw [Int.natAbs_ediv_of_dvd hd,B8q,Int.natAbs_natCast]
  have:b.sign.natAbs=1:=by
   rw [Int.natAbs_sign];simp [hb]
  rw [this,Nat.one_mul]
  exact Nat.div_le_self _ _
 ·exact Nat.div_le_self _ _
theorem Jn{m:Nat}{a b:Int}(hb:b≠0)(h1:ZB m a)(h2:ZB m b):Sz m (B8j a b):=by
 have:=Xu (a:=a) hb
 exact ⟨h1.le this.1,h2.le (by simpa using this.2)⟩
theorem A3d(p q:Rat):p+q=B8j (p.num*q.den+q.num*p.den) (p.den*q.den):=by
 rw [Rat.add_def',<- Int.natCast_mul,B8m]
theorem Sa(p q:Rat):p*q=B8j (p.num*q.num) (p.den*q.den):=by
 rw [Rat.mul_def',<- Int.natCast_mul,B8m]
theorem A32(z:Int):B8j z 1=(z:Rat):=by
 show B8j z ((1:Nat):Int)=_
 rw [B8m]
 apply Rat.ext
 ·rw [Rat.num_mkRat];simp
 ·rw [Rat.den_mkRat];simp
theorem den_ne(q:Rat):(q.den:Int)≠0:=by have:=q.den_nz;omega
theorem Sz.add{m n:Nat}{p q:Rat}(hp:Sz m p)(hq:Sz n q):Sz (m+n+1) (p+q):=by
 rw [A3d]
 refine Jn (Int.mul_ne_zero (den_ne p) (den_ne q)) ?_ ((hp.den.mul hq.den).mono (by omega))
 exact (hp.num.mul hq.den).add ((hq.num.mul hp.den).mono (by omega))
theorem Sz.mul{m n:Nat}{p q:Rat}(hp:Sz m p)(hq:Sz n q):Sz (m+n) (p*q):=by
 rw [Sa]
 exact Jn (Int.mul_ne_zero (den_ne p) (den_ne q)) (hp.num.mul hq.num) (hp.den.mul hq.den)
theorem Sz.zero{m:Nat}(hm:1<=m):Sz m 0:=⟨ZB.zero,ZB.one hm⟩
theorem Sz.inv{m:Nat}{q:Rat}(h:Sz m q)(hm:1<=m):Sz m q⁻¹:=by
 constructor
 ·rw [Rat.num_inv]
  refine h.den.le ?_
  rw [B8q]
  by_cases h0:q.num=0
  ·rw [h0];simp
  ·rw [Int.natAbs_sign];simp [h0]
 ·rw [Rat.den_inv]
  split
  ·exact ZB.one hm
  ·have:=h.num
   unfold ZB at *
   simpa using this
theorem Sz.div{m n:Nat}{p q:Rat}(hp:Sz m p)(hq:Sz n q)(hn:1<=n):Sz (m+n) (p/q):=by
 rw [Rat.div_def];exact hp.mul (hq.inv hn)
theorem Sz.int{m:Nat}{z:Int}(h:ZB m z)(hm:1<=m):Sz m (z:Rat):=⟨by simpa using h,by simpa using ZB.one hm⟩
section
variable {h h':Heap} {K:VP} {A B:Option Addr} {n c n' c':Nat} {s s':Bool} {x y z:Int} {m:Nat} {p q:Rat} {a b w:QV}
end
def dch(d:Nat):UInt8:=UInt8.ofNat (48+d)
theorem Er{d:Nat}(h:d<10):(dch d).toNat=48+d:=by
 unfold dch;rw [UInt8.toNat_ofNat'];omega
def I0(c:UInt8):Prop:=48<=c.toNat/\c.toNat<=57
instance (c:UInt8):Decidable (I0 c):=by unfold I0;infer_instance
theorem B2y{d:Nat}(h:d<10):I0 (dch d):=by unfold I0;rw [Er h];omega
theorem B0z{c:UInt8}(h:I0 c):dch (c.toNat-48)=c:=by
 unfold I0 at h
 apply UInt8.toNat_inj.1
 rw [Er (by omega)];omega
def dd(n:Nat):List UInt8:=if _h:n=0 then [] else dd (n/10)++[dch (n%10)]
theorem K0:dd 0=[]:=by unfold dd;simp
theorem Z6{n:Nat}(h:n≠0):dd n=dd (n/10)++[dch (n%10)]:=by rw [dd];simp [h]
def L8(l:List UInt8):Nat:=l.foldl (fun a c=>10*a+(c.toNat-48)) 0
theorem Iw(l:List UInt8)(c:UInt8):L8 (l++[c])=10*L8 l+(c.toNat-48):=by simp [L8]
theorem B2s(l:List UInt8):∀ a,l.foldl (fun a c=>10*a+(c.toNat-48)) a=a*10^l.length+L8 l:=by
 induction l with
 | nil=>intro a;simp [L8]
 | cons c l ih=>
  intro a
  unfold L8
  rw [List.foldl_cons,List.foldl_cons,ih,ih,List.length_cons,B8i]
  grind
theorem Hg(a b:List UInt8):L8 (a++b)=L8 a*10^b.length+L8 b:=by
 unfold L8;rw [List.foldl_append,B2s b];rfl
theorem A67(c:UInt8)(l:List UInt8):L8 (c::l)=(c.toNat-48)*10^l.length+L8 l:=by
 rw [<- List.singleton_append,Hg];simp [L8]
theorem Hf{l:List UInt8}(h:∀ c∈l,I0 c):L8 l<10^l.length:=by
 induction l with
 | nil=>simp [L8]
 | cons c l ih=>
  have h1:=ih fun x hx=>h x (by simp [hx])
  have h2:=h c (by simp)
  unfold I0 at h2
  rw [A67,List.length_cons,B8i]
  have:(c.toNat-48)*10^l.length<=9*10^l.length:=Nat.mul_le_mul_right _ (by omega)
  omega
theorem B2t(n:Nat):L8 (dd n)=n:=by
 induction n using B8o with
 | _ n ih=>
  by_cases h:n=0
  ·subst h;rw [K0];rfl
  ·rw [Z6 h,Iw,ih _ (by omega),Er (by omega)];omega
theorem B53(n:Nat):∀ c∈dd n,I0 c:=by
 induction n using B8o with
 | _ n ih=>
  by_cases h:n=0
  ·subst h;rw [K0];simp
  ·rw [Z6 h]
   intro c hc
   rcases List.mem_append.1 hc with h1|h1
   ·exact ih _ (by omega) c h1
   ·rw [List.mem_singleton.1 h1];exact B2y (by omega)
theorem B2x{n:Nat}(h:n≠0):dd n≠[]:=by rw [Z6 h];simp
theorem A6j(n:Nat)(h:n≠0):(dd n).head? ≠ some 48:=by
 induction n using B8o with
 | _ n ih=>
  rw [Z6 h]
  by_cases h1:n/10=0
  ·rw [h1,K0]
   simp only [List.nil_append,List.head?_cons,ne_eq,Option.some.injEq]
   intro e
   have:=Er (d:=n%10) (by omega)
   rw [e] at this
   simp at this
   omega
  ·have:=ih _ (by omega) h1
   obtain ⟨c,r,e⟩:=B8p (B2x h1)
   rw [e] at this ⊢
   simpa using this
theorem A6k{l:List UInt8}(h:∀ c∈l,I0 c)(h0:l.head? ≠ some 48):dd (L8 l)=l:=by
 obtain ⟨n,hn⟩:∃ n,l.length=n:=⟨_,rfl⟩
 induction n generalizing l with
 | zero=>rw [B8n hn];exact K0
 | succ n ih=>
  obtain ⟨m,c,rfl⟩:∃ m c,l=m++[c]:=by
   refine ⟨l.dropLast,l.getLast (by rintro rfl;simp at hn),?_⟩
   rw [List.dropLast_concat_getLast]
  have hc:=h c (by simp)
  have hc':=hc
  unfold I0 at hc'
  rw [Iw]
  cases m with
  | nil=>
   simp at h0
   have hne:c.toNat-48≠0:=by
    intro e
    apply h0
    apply UInt8.toNat_inj.1
    show c.toNat=48
    omega
   rw [Z6 (by simp [L8];omega)]
   simp only [L8,List.foldl_nil,List.nil_append]
   rw [show (10*0+(c.toNat-48))/10=0 by omega,K0,show (10*0+(c.toNat-48))%10=c.toNat-48 by omega,B0z hc];rfl
  | cons d m=>
   have ih':=ih (l:=d::m) (fun x hx=>h x (by simp at hx ⊢;rcases hx with h|h<;>simp [h])) (by simpa using h0) (by simpa using hn)
   have hpos:L8 (d::m)≠0:=by
    intro e
    rw [e,K0] at ih'
    cases ih'
   rw [Z6 (by omega),show (10*L8 (d::m)+(c.toNat-48))/10=L8 (d::m) by omega,ih',show (10*L8 (d::m)+(c.toNat-48))%10=c.toNat-48 by omega,B0z hc]
theorem P0{n k:Nat}:(dd n).length<=k↔n<10^k:=by
 induction k generalizing n with
 | zero=>
  constructor
  ·intro h
   have:dd n=[]:=B8n (by omega)
   by_cases h0:n=0
   ·subst h0;decide
   ·exact absurd this (B2x h0)
  ·intro h
   have:n=0:=by simp at h;exact h
   subst this;rw [K0];simp
 | succ k ih=>
  by_cases h0:n=0
  ·subst h0;rw [K0];simp [B8h]
  ·rw [Z6 h0,B8l,List.length_singleton,Nat.add_le_add_iff_right,ih,B8i]
   omega
def pad(w n:Nat):List UInt8:=List.replicate (w-(dd n).length) 48++dd n
theorem A1l(n:Nat):pad 0 n=dd n:=by simp [pad]
theorem Rw{w n:Nat}(h:n<10^w):(pad w n).length=w:=by
 have:=P0.2 h
 simp [pad];omega
theorem Na(w n:Nat):pad (w+1) n=pad w (n/10)++[dch (n%10)]:=by
 unfold pad
 by_cases h:n=0
 ·subst h
  rw [K0]
  simp only [List.length_nil,Nat.sub_zero,List.append_nil,Nat.zero_mod]
  rw [List.replicate_succ'];rfl
 ·rw [Z6 h,B8l,List.length_singleton,Nat.add_sub_add_right,B8g]
theorem B52{h l k:Nat}(h0:h≠0)(hl:l<10^k):dd (h*10^k+l)=dd h++pad k l:=by
 induction k generalizing l with
 | zero=>
  have:l=0:=by simpa using hl
  subst this;simp [pad,K0]
 | succ k ih=>
  have hp:0<10^k:=B8h (by decide)
  have hne:h*10^(k+1)+l≠0:=by
   have:0<h*10^(k+1):=Nat.mul_pos (by omega) (B8h (by decide))
   omega
  have e1:(h*10^(k+1)+l)/10=h*10^k+l/10:=by
   rw [B8i,<- Nat.mul_assoc];omega
  have e2:(h*10^(k+1)+l)%10=l%10:=by
   rw [B8i,<- Nat.mul_assoc];omega
  rw [Z6 hne,e1,e2,ih (by rw [B8i] at hl;omega),Na,B8g]
theorem Xc{w h l k:Nat}(hl:l<10^k)(hw:h≠0\/k<=w):pad w (h*10^k+l)=pad (w-k) h++pad k l:=by
 by_cases h0:h=0
 ·subst h0
  have hk:k<=w:=by
   rcases hw with h|h
   ·exact absurd rfl h
   ·exact h
  have:=P0.2 hl
  unfold pad
  rw [K0]
  simp only [Nat.zero_mul,Nat.zero_add,List.length_nil,Nat.sub_zero,List.append_nil,<- B8g,List.replicate_append_replicate]
  congr 2;omega
 ·have e:=B52 h0 hl
  have hlen:=Rw hl
  unfold pad at hlen
  unfold pad at e ⊢
  rw [e,B8l,hlen,<- B8g]
  congr 3;omega
def L6(n:Nat):List UInt8:=if n=0 then [48] else dd n
theorem X8{n:Nat}(h:n≠0):L6 n=dd n:=by simp [L6,h]
theorem Ix(n:Nat):L8 (L6 n)=n:=by
 unfold L6;split
 ·rename_i h;subst h;rfl
 ·exact B2t n
theorem A1y(n:Nat):∀ c∈L6 n,I0 c:=by
 unfold L6;split
 ·intro c hc;rw [List.mem_singleton.1 hc];decide
 ·exact B53 n
theorem A0k(n:Nat):L6 n≠[]:=by
 unfold L6;split
 ·simp
 ·rename_i h;exact B2x h
theorem A9h{a b:Nat}(h:L6 a=L6 b):a=b:=by rw [<- Ix a,h,Ix]
theorem Iz{l:List UInt8}(h:∀ c∈l,I0 c)(hn:l≠[])(h0:l.head? ≠ some 48\/l=[48]):L6 (L8 l)=l:=by
 rcases h0 with h0|h0
 ·have:=A6k h h0
  rw [X8,this]
  intro e
  rw [e,K0] at this
  exact hn this.symm
 ·subst h0;rfl
theorem Iy{n k:Nat}(hk:0<k):(L6 n).length<=k↔n<10^k:=by
 by_cases h:n=0
 ·subst h;have:0<10^k:=B8h (by decide);simp [L6];omega
 ·rw [X8 h];exact P0
def Kz(z:Int):List UInt8:=if z<0 then 45::L6 z.natAbs else L6 z.natAbs
def N8(q:Rat):List UInt8:=Kz q.num++(if q.den=1 then [] else 47::L6 q.den)
structure Form (s:List UInt8) (neg:Bool) (a b:List UInt8):Prop where
 eq:s=(if neg then [45] else [])++a++(if b=[] then [] else 47::b)
 da:∀ c∈a,I0 c
 db:∀ c∈b,I0 c
 ne:a≠[]
 ha:a.head? ≠ some 48\/(a=[48]/\neg=false/\b=[])
 hb:b.head? ≠ some 48
 b1:b≠[49]
theorem A95{c:UInt8}(h:I0 c):c≠45/\c≠47:=by
 unfold I0 at h
 constructor<;>(rintro rfl;revert h;decide)
theorem Ck{a r:List UInt8}(h:∀ c∈a,I0 c)(hr:∀ c,r.head? = some c->¬ I0 c):(a++r).takeWhile (fun c=>decide (I0 c))=a/\(a++r).dropWhile (fun c=>decide (I0 c))=r:=by
 induction a with
 | nil=>
  cases r with
  | nil=>simp
  | cons c r=>
   have:=hr c rfl
   simp [this]
 | cons c a ih=>
  have hc:=h c (by simp)
  have:=ih fun x hx=>h x (by simp [hx])
  simp [hc,this]
theorem Form.head{s:List UInt8}{neg:Bool}{a b:List UInt8}(f:Form s neg a b):neg=(s.head? == some 45):=by
 obtain ⟨c,r,e⟩:=B8p f.ne
 have hc:=(A95 (f.da c (by simp [e]))).1
 rw [f.eq,e]
 cases neg<;>simp [hc]
theorem Form.unique{s:List UInt8}{neg neg':Bool}{a b a' b':List UInt8}(f:Form s neg a b)(g:Form s neg' a' b'):neg=neg'/\a=a'/\b=b':=by
 have hn:neg=neg':=by rw [f.head,g.head]
 subst hn
 have e:=f.eq.symm.trans g.eq
 rw [B8g,B8g] at e
 have e2:=List.append_cancel_left e
 have hr:∀ b:List UInt8,∀ c,(if b=[] then [] else 47::b:List UInt8).head? = some c->¬ I0 c:=by
  intro b c hc
  split at hc
  ·simp at hc
  ·simp at hc;subst hc;decide
 have h1:=Ck f.da (hr b)
 have h2:=Ck g.da (hr b')
 rw [e2] at h1
 have ea:a=a':=h1.1.symm.trans h2.1
 have eb:=h1.2.symm.trans h2.2
 refine ⟨rfl,ea,?_⟩
 by_cases hb:b=[]<;>by_cases hb':b'=[]<;>simp [hb,hb'] at eb ⊢
 exact eb
theorem Ph{q:Rat}(h:q.num=0):q.den=1:=by
 have:=q.reduced
 rw [h] at this
 simpa using this
theorem Dt(q:Rat):Form (N8 q) (decide (q.num<0)) (L6 q.num.natAbs) (if q.den=1 then [] else L6 q.den):=by
 constructor
 ·unfold N8 Kz
  by_cases h1:q.num<0<;>by_cases h2:q.den=1<;>simp [h1,h2,A0k]
 ·exact A1y _
 ·split
  ·simp
  ·exact A1y _
 ·exact A0k _
 ·by_cases h:q.num=0
  ·right
   rw [Ph h,h];simp [L6]
  ·left
   rw [X8 (by omega)];exact A6j _ (by omega)
 ·split
  ·simp
  ·rw [X8 q.den_nz];exact A6j _ q.den_nz
 ·split
  ·simp
  ·rename_i h
   intro e
   have e1:L6 q.den=L6 1:=by rw [e];simp [L6,Z6,K0,dch]
   exact h (A9h e1)
def Lm(neg:Bool)(a:List UInt8):Int:=if neg then -(L8 a:Int) else L8 a
def Hn(b:List UInt8):Nat:=if b=[] then 1 else L8 b
theorem Pd{b:List UInt8}(h:∀ c∈b,I0 c)(hn:b≠[])(h0:b.head? ≠ some 48):L8 b≠0:=by
 intro e
 have:=A6k h h0
 rw [e,K0] at this
 exact hn this.symm
theorem Form.den_ne{s:List UInt8}{neg:Bool}{a b:List UInt8}(f:Form s neg a b):Hn b≠0:=by
 unfold Hn;split
 ·decide
 ·rename_i h;exact Pd f.db h f.hb
theorem Form.txt{s:List UInt8}{neg:Bool}{a b:List UInt8}(f:Form s neg a b){q:Rat}(h1:q.num=Lm neg a)(h2:q.den=Hn b):s=N8 q:=by
 have ea:L6 (L8 a)=a:=Iz f.da f.ne (f.ha.imp id fun h=>h.1)
 have habs:(Lm neg a).natAbs=L8 a:=by unfold Lm;split<;>simp
 have hneg:(Lm neg a<0)↔neg=true:=by
  unfold Lm
  cases neg
  ·simp
  ·simp only [if_true]
   constructor
   ·intro _;trivial
   ·intro _
    have:L8 a≠0:=by
     rcases f.ha with h|h
     ·exact Pd f.da f.ne h
     ·exact absurd h.2.1 (by simp)
    omega
 have hd:(Hn b=1)↔b=[]:=by
  unfold Hn
  split
  ·rename_i h;simp [h]
  ·rename_i h
   constructor
   ·intro e
    exfalso
    have h3:=Iz f.db h (Or.inl f.hb)
    rw [e] at h3
    apply f.b1
    rw [<- h3];simp [L6,Z6,K0,dch]
   ·intro e;exact absurd e h
 rw [f.eq]
 unfold N8 Kz
 rw [h1,h2,habs,ea]
 by_cases hb:b=[]
 ·rw [if_pos hb,if_pos (hd.2 hb)]
  cases neg
  ·rw [if_neg (fun e=>Bool.noConfusion (hneg.1 e))];simp
  ·rw [if_pos (hneg.2 rfl)];simp
 ·rw [if_neg hb,if_neg (fun e=>hb (hd.1 e))]
  have eb:L6 (Hn b)=b:=by
   unfold Hn;rw [if_neg hb];exact Iz f.db hb (Or.inl f.hb)
  rw [eb]
  cases neg
  ·rw [if_neg (fun e=>Bool.noConfusion (hneg.1 e))];simp
  ·rw [if_pos (hneg.2 rfl)];simp
theorem Form.of_txt{s:List UInt8}{neg:Bool}{a b:List UInt8}(f:Form s neg a b){q:Rat}(e:s=N8 q):q.num=Lm neg a/\q.den=Hn b:=by
 subst e
 obtain ⟨e1,e2,e3⟩:=f.unique (Dt q)
 subst e1 e2 e3
 constructor
 ·unfold Lm
  rw [Ix]
  by_cases h:q.num<0
  ·simp [h];omega
  ·simp [h];omega
 ·unfold Hn
  by_cases h:q.den=1
  ·simp [h]
  ·simp [h,A0k,Ix]
theorem A8f{p q:Rat}(e:N8 p=N8 q):p=q:=by
 have f:=Dt p
 have h1:=f.of_txt rfl
 have h2:=f.of_txt e
 exact Rat.ext (h1.1.trans h2.1.symm) (h1.2.trans h2.2.symm)
def IsNum(s:List UInt8):Prop:=∃ q,s=N8 q
theorem Form.isNum{s:List UInt8}{neg:Bool}{a b:List UInt8}(f:Form s neg a b):IsNum s↔Nat.gcd (L8 a) (Hn b)=1:=by
 have habs:(Lm neg a).natAbs=L8 a:=by unfold Lm;split<;>simp
 constructor
 ·rintro ⟨q,e⟩
  have:=f.of_txt e
  have hr:=q.reduced
  rw [this.1,this.2,habs] at hr
  exact hr
 ·intro h
  exact ⟨⟨Lm neg a,Hn b,f.den_ne,by rw [habs];exact h⟩,f.txt rfl rfl⟩
theorem IsNum.form{s:List UInt8}(h:IsNum s):∃ neg a b,Form s neg a b:=by
 obtain ⟨q,rfl⟩:=h
 exact ⟨_,_,_,Dt q⟩
def A8x(s:List UInt8):Rat:=
 let neg:=s.head? == some 45
 let t:=if neg then s.drop 1 else s
 mkRat (Lm neg (t.takeWhile fun c=>decide (I0 c))) (Hn ((t.dropWhile fun c=>decide (I0 c)).drop 1))
def rv(s:List UInt8):Rat:=if N8 (A8x s)=s then A8x s else 0
theorem Af(q:Rat):rv (N8 q)=q:=by
 have f:=Dt q
 have hn:=f.head
 have hr:∀ b:List UInt8,∀ c,(if b=[] then [] else 47::b:List UInt8).head? = some c->¬ I0 c:=by
  intro b c hc
  split at hc
  ·simp at hc
  ·simp at hc;subst hc;decide
 have e:A8x (N8 q)=q:=by
  unfold A8x
  simp only [<- hn]
  generalize hb:(if q.den=1 then [] else L6 q.den)=b at f
  have ht:(if decide (q.num<0)=true then (N8 q).drop 1 else N8 q)=L6 q.num.natAbs++(if b=[] then [] else 47::b):=by
   rw [f.eq]
   by_cases h0:q.num<0<;>simp [h0]
  rw [ht,(Ck f.da (hr b)).1,(Ck f.da (hr b)).2]
  have h1:=f.of_txt rfl
  have h2:(if b=[] then [] else 47::b:List UInt8).drop 1=b:=by
   by_cases h0:b=[]<;>simp [h0]
  rw [h2,<- h1.1,<- h1.2,Rat.mkRat_self]
 unfold rv
 rw [e,if_pos rfl]
theorem A4t{s:List UInt8}(h:¬ IsNum s):rv s=0:=by
 unfold rv
 rw [if_neg (fun e=>h ⟨_,e.symm⟩)]
theorem Form.rv_num{s:List UInt8}{neg:Bool}{a b:List UInt8}(f:Form s neg a b)(h:IsNum s):(rv s).num=Lm neg a/\(rv s).den=Hn b:=by
 obtain ⟨q,rfl⟩:=h
 rw [Af];exact f.of_txt rfl
end Go.Proofs.YtajkakhfcokljaaGreatDoor
