/- A part. -/
import Derived.Test.YtbgkfnjmcjfokaaGreatDoorG14
import Derived.Test.YtbgkfnjmcjfokaaGreatDoorG15
set_option linter.all false
open List renaming append_assoc->aH,length_append->aJ,eq_nil_of_length_eq_zero->aL,exists_cons_of_ne_nil->aO
open Nat renaming pow_succ->aE,pow_pos->aF,mul_le_mul_left->aI,strongRecOn->aN
open Rat renaming divInt->aC,divInt_ofNat->aK
open _root_.Go renaming Addr->aP
namespace Go.Proofs.YtbgkfnjmcjfokaaGreatDoor
set_option maxRecDepth 20000
open Go
section
variable {h g:Heap} {K:VP} {A B:Option aP} {ac bc:Nat}
def Il{B:Int}(hB:0<B){xs:List Int}(d:Dig B xs){m:Nat}(hl:xs.length=m+1):val B xs<(xs.getD m 0+1)*B^m/\xs.getD m 0*B^m<=val B xs:=by
 have a:=L0 B xs m
 have b:=R9 hB (d.take m)
 have c:=C5 hB (d.take m)
 grind
def A7u{xs:List Int}{m:Nat}(hl:xs.length=m+1)(hn:Norm xs):xs.getD m 0≠0:=by
 intro a
 apply hn
 grind
end
def SlI.unique{k:IntKind}{h:Heap}{A:Option aP}{xs ys:List Int}(s:SlI k h A xs)(t:SlI k h A ys)(hl:xs.length=ys.length):xs=ys:=by
 apply List.ext_getElem hl
 intro i g e
 obtain ⟨a,d,l⟩:=SlV.at s (i:=i) gz0
 obtain ⟨b,j,c⟩:=SlV.at t (i:=i) gz0
 grind
def A5e(h:Heap)(A:Option aP)(len:Nat):List Int:=(List.range len).map fun i=>
 match A with
 | some a=>(match h.cell? (a.add i) with|some (.int _ n)=>n|_=>0)
 | none=>0
def B80(B:Int)(h:Heap)(A:Option aP)(len:Nat):Nat:=(val B (A5e h A len)).toNat
def B16{k:IntKind}{h:Heap}{A:Option aP}{xs:List Int}(s:SlI k h A xs):A5e h A xs.length=xs:=by
 apply List.ext_getElem
 ·simp [A5e]
 ·intro i d e
  obtain ⟨a,b,c⟩:=SlV.at s (i:=i) gz0
  subst b
  simp [A5e,c]
def Hj{k:IntKind}{B:Int}{h:Heap}{A:Option aP}{len:Nat}{n:Int}(m:Mag k B h A len n):B80 B h A len=n.toNat:=by
 obtain ⟨xs,rfl,s,_,_,rfl⟩:=m
 unfold B80
 rw [B16 s]
def ZB(m:Nat)(z:Int):Prop:=z.natAbs<2^m
def ZB.mono{m n:Nat}{z:Int}(h:ZB m z)(hm:m<=n):ZB n z:=Nat.lt_of_lt_of_le h (Nat.pow_le_pow_right dc hm)
def ZB.neg{m:Nat}{z:Int}(h:ZB m z):ZB m (-z):=by unfold ZB at *;omega
def ZB.add{m:Nat}{x y:Int}(hx:ZB m x)(hy:ZB m y):ZB (m+1) (x+y):=by
 unfold ZB at *;omega
def ZB.sub{m:Nat}{x y:Int}(hx:ZB m x)(hy:ZB m y):ZB (m+1) (x-y):=by
 exact hx.add hy.neg
def ZB.mul{m n:Nat}{x y:Int}(hx:ZB m x)(hy:ZB n y):ZB (m+n) (x*y):=by
 unfold ZB at *;rw [Int.natAbs_mul,Nat.pow_add]
 have a:x.natAbs*y.natAbs<=x.natAbs*2^n:=aI _ (Nat.le_of_lt hy)
 have b:x.natAbs*2^n<2^m*2^n:=Nat.mul_lt_mul_of_pos_right hx (aF dc)
 omega
def ZB.le{m:Nat}{x y:Int}(hx:ZB m x)(h:y.natAbs<=x.natAbs):ZB m y:=Nat.lt_of_le_of_lt h hx
def ZB.one{m:Nat}(h:1<=m):ZB m 1:=ZB.mono (m:=1) (by unfold ZB;decide) h
def ZB.zero{m:Nat}:ZB m 0:=aF dc
structure NI (h:Heap) (s:Bool) (A:Option aP) (n c:Nat) (z:Int):Prop where
 mag:Mg h A n (z.natAbs:Int)
 sg:s=decide (z<0)
 cap:n<=c
section
variable {h h':Heap} {K:VP} {A B:Option aP} {n c n' c':Nat} {s s':Bool} {x y z:Int} {m:Nat}
end
def V6(n:Nat):Nat:=if n=0 then 0 else Nat.log2 n+1
def B1a:V6 0=0:=rfl
def Ed{n:Nat}(h:n≠0):2^(V6 n-1)<=n/\n<2^V6 n:=by
 unfold V6
 rw [iN h,Nat.add_sub_cancel]
 exact ⟨Nat.log2_self_le h,Nat.lt_log2_self⟩
def A40{n k:Nat}(h1:2^k<=n)(h2:n<2^(k+1)):V6 n=k+1:=by
 have c:n≠0:=o
 unfold V6
 rw [iN c]
 have a:=(Nat.le_log2 c).2 h1
 have b:=(Nat.log2_lt c).2 h2
 omega
def A6w{l t j:Nat}(hl:l<2^j)(ht:t≠0):V6 (l+2^j*t)=j+V6 t:=by
 obtain ⟨a,b⟩:=Ed ht
 have c:V6 t=V6 t-1+1:=gz0
 rw [c,<- Nat.add_assoc]
 apply A40
 ·rw [Nat.pow_add]
  have:=aI (2^j) a
  omega
 ·have:=aI (2^j) (show t+1<=2^V6 t from o)
  grind
def Hx{n k:Nat}(h:n<2^k):V6 n<=k:=by
 by_cases a:n=0
 ·subst a;rw [B1a];omega
 ·unfold V6;rw [iN a];have:=(Nat.log2_lt a).2 h;omega
section
variable {h h':Heap} {K:VP} {A B:Option aP} {n c n' c':Nat} {s s':Bool} {x y z:Int} {m:Nat}
end
structure QV where
 s:Bool
 A:Option aP
 n:Nat
 c:Nat
 s2:Bool
 A2:Option aP
 n2:Nat
 c2:Nat
abbrev QV.v(w:QV):Value:=.agg #[.bool w.s,.slice w.A w.n w.c,.bool w.s2,.slice w.A2 w.n2 w.c2]
structure NQ (h:Heap) (w:QV) (q:Rat):Prop where
 num:NI h w.s w.A w.n w.c q.num
 den:NI h w.s2 w.A2 w.n2 w.c2 (if q.den=1 then 0 else (q.den:Int))
structure Sz (m:Nat) (q:Rat):Prop where
 num:ZB m q.num
 den:ZB m q.den
def Sz.mono{m n:Nat}{q:Rat}(h:Sz m q)(hm:m<=n):Sz n q:=⟨h.num.mono hm,h.den.mono hm⟩
def Sz.neg{m:Nat}{q:Rat}(h:Sz m q):Sz m (-q):=⟨by exact h.num.neg,by exact h.den⟩
def Tg{a b:Int}(hb:b≠0):(aC a b).num.natAbs<=a.natAbs/\(aC a b).den<=b.natAbs:=by
 rw [Rat.num_divInt,Rat.den_divInt,iN hb]
 constructor
 ·have c:(Int.gcd b a:Int)∣b.sign*a:=Int.dvd_mul_of_dvd_right (Int.gcd_dvd_right b a)
  rw [Int.natAbs_ediv_of_dvd c,Int.natAbs_mul,Int.natAbs_natCast]
  have:b.sign.natAbs=1:=by
   grind
  rw [this,Nat.one_mul]
  exact Nat.div_le_self _ _
 ·exact Nat.div_le_self _ _
def At{m:Nat}{a b:Int}(hb:b≠0)(h1:ZB m a)(h2:ZB m b):Sz m (aC a b):=by
 have:=Tg (a:=a) hb
 exact ⟨h1.le this.1,h2.le o⟩
def Pe(p q:Rat):p+q=aC (p.num*q.den+q.num*p.den) (p.den*q.den):=by
 rw [Rat.add_def',<- Int.natCast_mul,aK]
def Og(p q:Rat):p*q=aC (p.num*q.num) (p.den*q.den):=by
 rw [Rat.mul_def',<- Int.natCast_mul,aK]
def A6o(z:Int):aC z 1=(z:Rat):=by
 show aC z ((1:Nat):Int)=_
 rw [aK]
 apply Rat.ext
 ·rw [Rat.num_mkRat];simp
 ·rw [Rat.den_mkRat];simp
def den_ne(q:Rat):(q.den:Int)≠0:=by have:=q.den_nz;omega
def A6n(p q:Rat):p/q=aC (p.num*q.den) (p.den*q.num):=by
 rw [Rat.div_def,<- Rat.num_divInt_den p,<- Rat.num_divInt_den q,Rat.inv_divInt,Rat.divInt_mul_divInt]
 simp_all
def Sz.add{m n:Nat}{p q:Rat}(hp:Sz m p)(hq:Sz n q):Sz (m+n+1) (p+q):=by
 rw [Pe]
 refine At (Int.mul_ne_zero (den_ne p) (den_ne q)) ?_ ((hp.den.mul hq.den).mono o)
 exact (hp.num.mul hq.den).add ((hq.num.mul hp.den).mono o)
def Sz.sub{m n:Nat}{p q:Rat}(hp:Sz m p)(hq:Sz n q):Sz (m+n+1) (p-q):=by
 rw [Rat.sub_eq_add_neg];exact hp.add hq.neg
def Sz.mul{m n:Nat}{p q:Rat}(hp:Sz m p)(hq:Sz n q):Sz (m+n) (p*q):=by
 rw [Og]
 exact At (Int.mul_ne_zero (den_ne p) (den_ne q)) (hp.num.mul hq.num) (hp.den.mul hq.den)
def Sz.zero{m:Nat}(hm:1<=m):Sz m 0:=⟨ZB.zero,ZB.one hm⟩
def Sz.inv{m:Nat}{q:Rat}(h:Sz m q)(hm:1<=m):Sz m q⁻¹:=by
 constructor
 ·rw [Rat.num_inv]
  refine h.den.le ?_
  grind
 ·rw [Rat.den_inv]
  split
  ·exact ZB.one hm
  ·have:=h.num
   assumption
def Sz.div{m n:Nat}{p q:Rat}(hp:Sz m p)(hq:Sz n q)(hn:1<=n):Sz (m+n) (p/q):=by
 exact hp.mul (hq.inv hn)
def Sz.int{m:Nat}{z:Int}(h:ZB m z)(hm:1<=m):Sz m (z:Rat):=⟨by assumption,by simpa using ZB.one hm⟩
section
variable {h h':Heap} {K:VP} {A B:Option aP} {n c n' c':Nat} {s s':Bool} {x y z:Int} {m:Nat} {p q:Rat} {a b w:QV}
end
def dch(d:Nat):UInt8:=UInt8.ofNat (48+d)
def Hr{d:Nat}(h:d<10):(dch d).toNat=48+d:=by
 unfold dch;rw [UInt8.toNat_ofNat'];omega
def L9(c:UInt8):Prop:=48<=c.toNat/\c.toNat<=57
instance (c:UInt8):Decidable (L9 c):=by unfold L9;infer_instance
def B8r{d:Nat}(h:d<10):L9 (dch d):=by unfold L9;rw [Hr h];omega
def B68{c:UInt8}(h:L9 c):dch (c.toNat-48)=c:=by
 unfold L9 at h
 apply UInt8.toNat_inj.1
 rw [Hr o];omega
def dd(n:Nat):List UInt8:=if _h:n=0 then [] else dd (n/10)++[dch (n%10)]
def N9:dd 0=[]:=by unfold dd;simp
def As{n:Nat}(h:n≠0):dd n=dd (n/10)++[dch (n%10)]:=by rw [dd];simp [h]
def S6(l:List UInt8):Nat:=l.foldl (fun a c=>10*a+(c.toNat-48)) 0
def Mo(l:List UInt8)(c:UInt8):S6 (l++[c])=10*S6 l+(c.toNat-48):=by simp [S6]
def B8k(l:List UInt8):∀ a,l.foldl (fun a c=>10*a+(c.toNat-48)) a=a*10^l.length+S6 l:=by
 induction l with
 | nil=>intro a;simp [S6]
 | cons c l ih=>
  intro a
  unfold S6
  rw [List.foldl_cons,List.foldl_cons,ih,ih,List.length_cons,aE]
  grind
def Kh(a b:List UInt8):S6 (a++b)=S6 a*10^b.length+S6 b:=by
 unfold S6;rw [List.foldl_append,B8k b];rfl
def B0n(c:UInt8)(l:List UInt8):S6 (c::l)=(c.toNat-48)*10^l.length+S6 l:=by
 rw [<- List.singleton_append,Kh];simp [S6]
def Kg{l:List UInt8}(h:∀ c∈l,L9 c):S6 l<10^l.length:=by
 induction l with
 | nil=>simp [S6]
 | cons c l ih=>
  have d:=ih fun x b=>h x (by simp [b])
  have a:=h c (by simp)
  unfold L9 at a
  rw [B0n,List.length_cons,aE]
  have:(c.toNat-48)*10^l.length<=9*10^l.length:=Nat.mul_le_mul_right _ o
  omega
def B8l(n:Nat):S6 (dd n)=n:=by
 induction n using aN with
 | _ n ih=>
  by_cases h:n=0
  ·subst h;rw [N9];rfl
  ·rw [As h,Mo,ih _ o,Hr o];omega
def C2h(n:Nat):∀ c∈dd n,L9 c:=by
 induction n using aN with
 | _ n ih=>
  by_cases h:n=0
  ·subst h;rw [N9];simp
  ·rw [As h]
   intro c b
   rcases List.mem_append.1 b with a|a
   ·exact ih _ o c a
   ·rw [List.mem_singleton.1 a];exact B8r o
def B8q{n:Nat}(h:n≠0):dd n≠[]:=by rw [As h];simp
def B0y(n:Nat)(h:n≠0):(dd n).head? ≠ some 48:=by
 induction n using aN with
 | _ n ih=>
  rw [As h]
  by_cases a:n/10=0
  ·rw [a,N9]
   simp only [List.nil_append,List.head?_cons,ne_eq,Option.some.injEq]
   intro e
   have:=Hr (d:=n%10) o
   rw [e] at this
   simp at this
   omega
  ·have:=ih _ o a
   obtain ⟨c,r,e⟩:=aO (B8q a)
   rw [e] at this ⊢
   simpa using this
def B0z{l:List UInt8}(h:∀ c∈l,L9 c)(h0:l.head? ≠ some 48):dd (S6 l)=l:=by
 obtain ⟨n,i⟩:∃ n,l.length=n:=⟨_,rfl⟩
 induction n generalizing l with
 | zero=>rw [aL i];exact N9
 | succ n ih=>
  obtain ⟨m,c,rfl⟩:∃ m c,l=m++[c]:=by
   refine ⟨l.dropLast,l.getLast (by rintro rfl;simp at i),?_⟩
   rw [List.dropLast_concat_getLast]
  have g:=h c (by simp)
  have b:=g
  unfold L9 at b
  rw [Mo]
  cases m with
  | nil=>
   simp at h0
   have p:c.toNat-48≠0:=by
    intro e
    apply h0
    apply UInt8.toNat_inj.1
    show c.toNat=48
    omega
   rw [As (by simp [S6];omega)]
   simp only [S6,List.foldl_nil,List.nil_append]
   rw [show (10*0+(c.toNat-48))/10=0 from o,N9,show (10*0+(c.toNat-48))%10=c.toNat-48 from o,B68 g];rfl
  | cons d m=>
   have a:=ih (l:=d::m) (fun x k=>h x (by simp at k ⊢;rcases k with h|h<;>simp [h])) (by simpa using h0) (by simpa using i)
   have j:S6 (d::m)≠0:=by
    intro e
    rw [e,N9] at a
    cases a
   rw [As o,show (10*S6 (d::m)+(c.toNat-48))/10=S6 (d::m) from o,a,show (10*S6 (d::m)+(c.toNat-48))%10=c.toNat-48 from o,B68 g]
def U9{n k:Nat}:(dd n).length<=k↔n<10^k:=by
 induction k generalizing n with
 | zero=>
  constructor
  ·intro h
   have:dd n=[]:=aL o
   by_cases a:n=0
   ·subst a;decide
   ·exact absurd this (B8q a)
  ·intro h
   have:n=0:=by simp at h;exact h
   subst this;rw [N9];simp
 | succ k ih=>
  by_cases a:n=0
  ·subst a;rw [N9];simp [aF]
  ·rw [As a,aJ,List.length_singleton,Nat.add_le_add_iff_right,ih,aE]
   omega
def pad(w n:Nat):List UInt8:=List.replicate (w-(dd n).length) 48++dd n
def A4y(n:Nat):pad 0 n=dd n:=by simp [pad]
def Vo{w n:Nat}(h:n<10^w):(pad w n).length=w:=by
 have:=U9.2 h
 simp [pad];omega
def Rf(w n:Nat):pad (w+1) n=pad w (n/10)++[dch (n%10)]:=by
 unfold pad
 by_cases h:n=0
 ·subst h
  rw [N9]
  simp only [List.length_nil,Nat.sub_zero,List.append_nil,Nat.zero_mod]
  rw [List.replicate_succ'];rfl
 ·rw [As h,aJ,List.length_singleton,Nat.add_sub_add_right,aH]
def C2g{h l k:Nat}(h0:h≠0)(hl:l<10^k):dd (h*10^k+l)=dd h++pad k l:=by
 induction k generalizing l with
 | zero=>
  have:l=0:=by simpa using hl
  subst this;simp [pad,N9]
 | succ k ih=>
  have d:0<10^k:=aF dc
  have a:h*10^(k+1)+l≠0:=by
   have:0<h*10^(k+1):=Nat.mul_pos o (aF dc)
   omega
  have c:(h*10^(k+1)+l)/10=h*10^k+l/10:=by
   rw [aE,<- Nat.mul_assoc];omega
  have b:(h*10^(k+1)+l)%10=l%10:=by
   rw [aE,<- Nat.mul_assoc];omega
  rw [As a,c,b,ih (by rw [aE] at hl;omega),Rf,aH]
def A0v{w h l k:Nat}(hl:l<10^k)(hw:h≠0\/k<=w):pad w (h*10^k+l)=pad (w-k) h++pad k l:=by
 by_cases b:h=0
 ·subst b
  have c:k<=w:=by
   rcases hw with h|h
   ·exact absurd rfl h
   ·exact h
  have:=U9.2 hl
  unfold pad
  rw [N9]
  simp only [Nat.zero_mul,Nat.zero_add,List.length_nil,Nat.sub_zero,List.append_nil,<- aH,List.replicate_append_replicate]
  congr 2;omega
 ·have e:=C2g b hl
  have a:=Vo hl
  unfold pad at a
  unfold pad at e ⊢
  rw [e,aJ,a,<- aH]
  congr 3;omega
def P5(n:Nat):List UInt8:=if n=0 then [48] else dd n
def Cr{n:Nat}(h:n≠0):P5 n=dd n:=by simp [P5,h]
def Mq(n:Nat):S6 (P5 n)=n:=by
 unfold P5;split
 ·rename_i h;subst h;rfl
 ·exact B8l n
def A5b(n:Nat):∀ c∈P5 n,L9 c:=by
 unfold P5;split
 ·intro c a;rw [List.mem_singleton.1 a];decide
 ·exact C2h n
def Hq(n:Nat):P5 n≠[]:=by
 unfold P5;split
 ·simp
 ·rename_i h;exact B8q h
def B49{a b:Nat}(h:P5 a=P5 b):a=b:=by rw [<- Mq a,h,Mq]
def Ms{l:List UInt8}(h:∀ c∈l,L9 c)(hn:l≠[])(h0:l.head? ≠ some 48\/l=[48]):P5 (S6 l)=l:=by
 rcases h0 with h0|h0
 ·have:=B0z h h0
  rw [Cr,this]
  intro e
  rw [e,N9] at this
  exact hn this.symm
 ·subst h0;rfl
def V5{n k:Nat}(hk:0<k):(P5 n).length<=k↔n<10^k:=by
 by_cases h:n=0
 ·subst h;have:0<10^k:=aF dc;simp [P5];omega
 ·rw [Cr h];exact U9
def Dn(z:Int):List UInt8:=if z<0 then 45::P5 z.natAbs else P5 z.natAbs
def C0(q:Rat):List UInt8:=Dn q.num++(if q.den=1 then [] else 47::P5 q.den)
structure Form (s:List UInt8) (neg:Bool) (a b:List UInt8):Prop where
 eq:s=(if neg then [45] else [])++a++(if b=[] then [] else 47::b)
 da:∀ c∈a,L9 c
 db:∀ c∈b,L9 c
 ne:a≠[]
 ha:a.head? ≠ some 48\/(a=[48]/\neg=false/\b=[])
 hb:b.head? ≠ some 48
 b1:b≠[49]
def B3s{c:UInt8}(h:L9 c):c≠45/\c≠47:=by
 unfold L9 at h
 constructor<;>(rintro rfl;grind)
def Et{a r:List UInt8}(h:∀ c∈a,L9 c)(hr:∀ c,r.head? = some c->¬ L9 c):(a++r).takeWhile (fun c=>decide (L9 c))=a/\(a++r).dropWhile (fun c=>decide (L9 c))=r:=by
 induction a with
 | nil=>
  cases r with
  | nil=>simp
  | cons c r=>
   simp_all
 | cons c a ih=>
  simp_all
def Form.head{s:List UInt8}{neg:Bool}{a b:List UInt8}(f:Form s neg a b):neg=(s.head? == some 45):=by
 obtain ⟨c,r,e⟩:=aO f.ne
 have d:=(B3s (f.da c (by simp [e]))).1
 rw [f.eq,e]
 grind
def Form.unique{s:List UInt8}{neg neg':Bool}{a b a' b':List UInt8}(f:Form s neg a b)(g:Form s neg' a' b'):neg=neg'/\a=a'/\b=b':=by
 have l:neg=neg':=by rw [f.head,g.head]
 have e:=f.eq.symm.trans g.eq
 have i:∀ b:List UInt8,∀ c,(if b=[] then [] else 47::b:List UInt8).head? = some c->¬ L9 c:=by
  intro b c d
  split at d
  ·grind
  ·simp at d;subst d;decide
 have k:=Et f.da (i b)
 have j:=Et g.da (i b')
 grind
def Th{q:Rat}(h:q.num=0):q.den=1:=by
 simp_all
def Gs(q:Rat):Form (C0 q) (decide (q.num<0)) (P5 q.num.natAbs) (if q.den=1 then [] else P5 q.den):=by
 constructor
 ·unfold C0 Dn
  by_cases a:q.num<0<;>by_cases b:q.den=1<;>simp [a,b,Hq]
 ·exact A5b _
 ·split
  ·simp
  ·exact A5b _
 ·exact Hq _
 ·by_cases h:q.num=0
  ·right
   rw [Th h,h];simp [P5]
  ·left
   rw [Cr o];exact B0y _ o
 ·split
  ·simp
  ·rw [Cr q.den_nz];exact B0y _ q.den_nz
 ·split
  ·simp
  ·rename_i h
   intro e
   have c:P5 q.den=P5 1:=by rw [e];simp [P5,As,N9,dch]
   exact h (B49 c)
def Qo(neg:Bool)(a:List UInt8):Int:=if neg then -(S6 a:Int) else S6 a
def Kn(b:List UInt8):Nat:=if b=[] then 1 else S6 b
def Tc{b:List UInt8}(h:∀ c∈b,L9 c)(hn:b≠[])(h0:b.head? ≠ some 48):S6 b≠0:=by
 intro e
 have:=B0z h h0
 rw [e,N9] at this
 grind
def Form.den_ne{s:List UInt8}{neg:Bool}{a b:List UInt8}(f:Form s neg a b):Kn b≠0:=by
 unfold Kn;split
 ·decide
 ·rename_i h;exact Tc f.db h f.hb
def Form.txt{s:List UInt8}{neg:Bool}{a b:List UInt8}(f:Form s neg a b){q:Rat}(h1:q.num=Qo neg a)(h2:q.den=Kn b):s=C0 q:=by
 have k:P5 (S6 a)=a:=Ms f.da f.ne (f.ha.imp id fun h=>h.1)
 have d:(Qo neg a).natAbs=S6 a:=by unfold Qo;omega
 have c:(Qo neg a<0)↔neg=true:=by
  unfold Qo
  cases neg
  ·simp
  ·simp only [if_true]
   constructor
   ·grind
   ·intro _
    have:S6 a≠0:=by
     rcases f.ha with h|h
     ·exact Tc f.da f.ne h
     grind
    omega
 have j:(Kn b=1)↔b=[]:=by
  unfold Kn
  split
  ·grind
  ·rename_i h
   constructor
   ·intro e
    exfalso
    have g:=Ms f.db h (Or.inl f.hb)
    rw [e] at g
    apply f.b1
    rw [<- g];simp [P5,As,N9,dch]
   grind
 rw [f.eq]
 unfold C0 Dn
 by_cases i:b=[]
 ·grind
 ·have l:P5 (Kn b)=b:=by
   unfold Kn;rw [iN i];exact Ms f.db i (Or.inl f.hb)
  grind
def Form.of_txt{s:List UInt8}{neg:Bool}{a b:List UInt8}(f:Form s neg a b){q:Rat}(e:s=C0 q):q.num=Qo neg a/\q.den=Kn b:=by
 subst e
 obtain ⟨g,d,c⟩:=f.unique (Gs q)
 subst g d c
 constructor
 ·unfold Qo
  rw [Mq]
  grind
 ·unfold Kn
  by_cases h:q.den=1
  ·simp [h]
  ·simp [h,Hq,Mq]
def E8{p q:Rat}(e:C0 p=C0 q):p=q:=by
 have f:=Gs p
 have a:=f.of_txt rfl
 have b:=f.of_txt e
 exact Rat.ext (a.1.trans b.1.symm) (a.2.trans b.2.symm)
def IsNum(s:List UInt8):Prop:=∃ q,s=C0 q
def Form.isNum{s:List UInt8}{neg:Bool}{a b:List UInt8}(f:Form s neg a b):IsNum s↔Nat.gcd (S6 a) (Kn b)=1:=by
 have c:(Qo neg a).natAbs=S6 a:=by unfold Qo;omega
 constructor
 ·rintro ⟨q,e⟩
  have:=f.of_txt e
  have d:=q.reduced
  grind
 ·intro h
  exact ⟨⟨Qo neg a,Kn b,f.den_ne,gz0⟩,f.txt rfl rfl⟩
def IsNum.form{s:List UInt8}(h:IsNum s):∃ neg a b,Form s neg a b:=by
 obtain ⟨q,rfl⟩:=h
 exact ⟨_,_,_,Gs q⟩
def B2w(s:List UInt8):Rat:=
 let neg:=s.head? == some 45
 let t:=if neg then s.drop 1 else s
 mkRat (Qo neg (t.takeWhile fun c=>decide (L9 c))) (Kn ((t.dropWhile fun c=>decide (L9 c)).drop 1))
def rv(s:List UInt8):Rat:=if C0 (B2w s)=s then B2w s else 0
def C2(q:Rat):rv (C0 q)=q:=by
 have f:=Gs q
 have k:=f.head
 have d:∀ b:List UInt8,∀ c,(if b=[] then [] else 47::b:List UInt8).head? = some c->¬ L9 c:=by
  intro b c a
  split at a
  ·grind
  ·simp at a;subst a;decide
 have e:B2w (C0 q)=q:=by
  unfold B2w
  simp only [<- k]
  generalize hb:(if q.den=1 then [] else P5 q.den)=b at f
  have j:(if decide (q.num<0)=true then (C0 q).drop 1 else C0 q)=P5 q.num.natAbs++(if b=[] then [] else 47::b):=by
   rw [f.eq]
   grind
  rw [j,(Et f.da (d b)).1,(Et f.da (d b)).2]
  have g:=f.of_txt rfl
  have i:(if b=[] then [] else 47::b:List UInt8).drop 1=b:=by
   grind
  rw [i,<- g.1,<- g.2,Rat.mkRat_self]
 unfold rv
 grind
def A4n{s:List UInt8}(h:¬ IsNum s):rv s=0:=by
 unfold rv
 rw [iN (fun e=>h ⟨_,e.symm⟩)]
def Form.rv_num{s:List UInt8}{neg:Bool}{a b:List UInt8}(f:Form s neg a b)(h:IsNum s):(rv s).num=Qo neg a/\(rv s).den=Kn b:=by
 obtain ⟨q,rfl⟩:=h
 rw [C2];exact f.of_txt rfl
