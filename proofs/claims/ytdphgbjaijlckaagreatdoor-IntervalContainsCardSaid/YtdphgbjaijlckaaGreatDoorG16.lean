/- A part. -/
import Derived.Test.YtdphgbjaijlckaaGreatDoorG14
import Derived.Test.YtdphgbjaijlckaaGreatDoorG15
set_option linter.all false
open List renaming append_assoc->aE,length_append->aH,eq_nil_of_length_eq_zero->aI,exists_cons_of_ne_nil->aK
open Nat renaming pow_succ->aC,pow_pos->aD,mul_le_mul_left->aG,strongRecOn->aJ
open Rat renaming divInt->aF
open _root_.Go renaming Addr->aL
namespace Go.Proofs.YtdphgbjaijlckaaGreatDoor
set_option maxRecDepth 20000
open Go
section
variable {h g:Heap} {K:VP} {A B:Option aL} {ac bc:Nat}
def Ak{B:Int}(hB:0<B){xs:List Int}(d:Dig B xs){m:Nat}(hl:xs.length=m+1):val B xs<(xs.getD m 0+1)*B^m/\xs.getD m 0*B^m<=val B xs:=by
 have a:=F5 B xs m
 have b:=H7 hB (d.take m)
 have c:=C3 hB (d.take m)
 grind
def Rh{xs:List Int}{m:Nat}(hl:xs.length=m+1)(hn:Norm xs):xs.getD m 0≠0:=by
 intro a
 apply hn
 grind
end
def SlI.unique{k:IntKind}{h:Heap}{A:Option aL}{xs ys:List Int}(s:SlI k h A xs)(t:SlI k h A ys)(hl:xs.length=ys.length):xs=ys:=by
 apply List.ext_getElem hl
 intro i g e
 obtain ⟨a,d,l⟩:=SlV.at s (i:=i) gz0
 obtain ⟨b,j,c⟩:=SlV.at t (i:=i) gz0
 grind
def Pd(h:Heap)(A:Option aL)(len:Nat):List Int:=(List.range len).map fun i=>
 match A with
 | some a=>(match h.cell? (a.add i) with|some (.int _ n)=>n|_=>0)
 | none=>0
def Zf(B:Int)(h:Heap)(A:Option aL)(len:Nat):Nat:=(val B (Pd h A len)).toNat
def Tw{k:IntKind}{h:Heap}{A:Option aL}{xs:List Int}(s:SlI k h A xs):Pd h A xs.length=xs:=by
 apply List.ext_getElem
 ·simp [Pd]
 ·intro i d e
  obtain ⟨a,b,c⟩:=SlV.at s (i:=i) gz0
  subst b
  simp [Pd,c]
def Z3{k:IntKind}{B:Int}{h:Heap}{A:Option aL}{len:Nat}{n:Int}(m:Mag k B h A len n):Zf B h A len=n.toNat:=by
 obtain ⟨a,rfl,s,_,_,rfl⟩:=m
 unfold Zf
 rw [Tw s]
def ZB(m:Nat)(z:Int):Prop:=z.natAbs<2^m
def ZB.mono{m n:Nat}{z:Int}(h:ZB m z)(hm:m<=n):ZB n z:=Nat.lt_of_lt_of_le h (Nat.pow_le_pow_right dc hm)
def ZB.neg{m:Nat}{z:Int}(h:ZB m z):ZB m (-z):=by unfold ZB at *;omega
def ZB.add{m:Nat}{x y:Int}(hx:ZB m x)(hy:ZB m y):ZB (m+1) (x+y):=by
 unfold ZB at *;omega
def ZB.mul{m n:Nat}{x y:Int}(hx:ZB m x)(hy:ZB n y):ZB (m+n) (x*y):=by
 unfold ZB at *;rw [Int.natAbs_mul,Nat.pow_add]
 have a:x.natAbs*y.natAbs<=x.natAbs*2^n:=aG _ (Nat.le_of_lt hy)
 have b:x.natAbs*2^n<2^m*2^n:=Nat.mul_lt_mul_of_pos_right hx (aD dc)
 omega
def ZB.le{m:Nat}{x y:Int}(hx:ZB m x)(h:y.natAbs<=x.natAbs):ZB m y:=Nat.lt_of_le_of_lt h hx
def ZB.one{m:Nat}(h:1<=m):ZB m 1:=ZB.mono (m:=1) (by unfold ZB;decide) h
def ZB.zero{m:Nat}:ZB m 0:=aD dc
structure NI (h:Heap) (s:Bool) (A:Option aL) (n c:Nat) (z:Int):Prop where
 mag:Mg h A n (z.natAbs:Int)
 sg:s=decide (z<0)
 cap:n<=c
section
variable {h h':Heap} {K:VP} {A B:Option aL} {n c n' c':Nat} {s s':Bool} {x y z:Int} {m:Nat}
end
def K3(n:Nat):Nat:=if n=0 then 0 else Nat.log2 n+1
def Ub:K3 0=0:=rfl
def S2{n:Nat}(h:n≠0):2^(K3 n-1)<=n/\n<2^K3 n:=by
 unfold K3
 rw [iN h,Nat.add_sub_cancel]
 exact ⟨Nat.log2_self_le h,Nat.lt_log2_self⟩
def Nz{n k:Nat}(h1:2^k<=n)(h2:n<2^(k+1)):K3 n=k+1:=by
 have c:n≠0:=o
 unfold K3
 rw [iN c]
 have a:=(Nat.le_log2 c).2 h1
 have b:=(Nat.log2_lt c).2 h2
 omega
def Qm{l t j:Nat}(hl:l<2^j)(ht:t≠0):K3 (l+2^j*t)=j+K3 t:=by
 obtain ⟨a,b⟩:=S2 ht
 have c:K3 t=K3 t-1+1:=gz0
 rw [c,<- Nat.add_assoc]
 apply Nz
 ·rw [Nat.pow_add]
  have:=aG (2^j) a
  omega
 ·have:=aG (2^j) (show t+1<=2^K3 t from o)
  grind
def Aa{n k:Nat}(h:n<2^k):K3 n<=k:=by
 by_cases a:n=0
 ·subst a;rw [Ub];omega
 ·unfold K3;rw [iN a];have:=(Nat.log2_lt a).2 h;omega
section
variable {h h':Heap} {K:VP} {A B:Option aL} {n c n' c':Nat} {s s':Bool} {x y z:Int} {m:Nat}
end
structure QV where
 s:Bool
 A:Option aL
 n:Nat
 c:Nat
 s2:Bool
 A2:Option aL
 n2:Nat
 c2:Nat
abbrev QV.v(w:QV):Value:=.agg #[.bool w.s,.slice w.A w.n w.c,.bool w.s2,.slice w.A2 w.n2 w.c2]
structure NQ (h:Heap) (w:QV) (q:Rat):Prop where
 num:NI h w.s w.A w.n w.c q.num
 den:NI h w.s2 w.A2 w.n2 w.c2 (if q.den=1 then 0 else (q.den:Int))
structure Sz (m:Nat) (q:Rat):Prop where
 num:ZB m q.num
 den:ZB m q.den
def Sz.mono{m n:Nat}{q:Rat}(h:Sz m q)(hm:m<=n):Sz n q:=⟨h.num.mono hm,h.den.mono hm⟩
def Sz.neg{m:Nat}{q:Rat}(h:Sz m q):Sz m (-q):=⟨by exact h.num.neg,by exact h.den⟩
def Lh{a b:Int}(hb:b≠0):(aF a b).num.natAbs<=a.natAbs/\(aF a b).den<=b.natAbs:=by
 rw [Rat.num_divInt,Rat.den_divInt,iN hb]
 constructor
 ·have c:(Int.gcd b a:Int)∣b.sign*a:=Int.dvd_mul_of_dvd_right (Int.gcd_dvd_right b a)
  rw [Int.natAbs_ediv_of_dvd c,Int.natAbs_mul,Int.natAbs_natCast]
  have:b.sign.natAbs=1:=by
   grind
  rw [this,Nat.one_mul]
  exact Nat.div_le_self _ _
 ·exact Nat.div_le_self _ _
def Lw{m:Nat}{a b:Int}(hb:b≠0)(h1:ZB m a)(h2:ZB m b):Sz m (aF a b):=by
 have:=Lh (a:=a) hb
 exact ⟨h1.le this.1,h2.le o⟩
def Ef(p q:Rat):p+q=aF (p.num*q.den+q.num*p.den) (p.den*q.den):=by
 rw [Rat.add_def',<- Int.natCast_mul,Rat.divInt_ofNat]
def Hz(p q:Rat):p*q=aF (p.num*q.num) (p.den*q.den):=by
 rw [Rat.mul_def',<- Int.natCast_mul,Rat.divInt_ofNat]
def den_ne(q:Rat):(q.den:Int)≠0:=by have:=q.den_nz;omega
def Qi(p q:Rat):p/q=aF (p.num*q.den) (p.den*q.num):=by
 rw [Rat.div_def,<- Rat.num_divInt_den p,<- Rat.num_divInt_den q,Rat.inv_divInt,Rat.divInt_mul_divInt]
 simp_all
def Sz.add{m n:Nat}{p q:Rat}(hp:Sz m p)(hq:Sz n q):Sz (m+n+1) (p+q):=by
 rw [Ef]
 refine Lw (Int.mul_ne_zero (den_ne p) (den_ne q)) ?_ ((hp.den.mul hq.den).mono o)
 exact (hp.num.mul hq.den).add ((hq.num.mul hp.den).mono o)
def Sz.sub{m n:Nat}{p q:Rat}(hp:Sz m p)(hq:Sz n q):Sz (m+n+1) (p-q):=by
 rw [Rat.sub_eq_add_neg];exact hp.add hq.neg
def Sz.mul{m n:Nat}{p q:Rat}(hp:Sz m p)(hq:Sz n q):Sz (m+n) (p*q):=by
 rw [Hz]
 exact Lw (Int.mul_ne_zero (den_ne p) (den_ne q)) (hp.num.mul hq.num) (hp.den.mul hq.den)
def Sz.zero{m:Nat}(hm:1<=m):Sz m 0:=⟨ZB.zero,ZB.one hm⟩
def Sz.inv{m:Nat}{q:Rat}(h:Sz m q)(hm:1<=m):Sz m q⁻¹:=by
 constructor
 ·rw [Rat.num_inv]
  refine h.den.le ?_
  grind
 ·rw [Rat.den_inv]
  split
  ·exact ZB.one hm
  ·have:=h.num
   assumption
def Sz.div{m n:Nat}{p q:Rat}(hp:Sz m p)(hq:Sz n q)(hn:1<=n):Sz (m+n) (p/q):=by
 exact hp.mul (hq.inv hn)
def Sz.int{m:Nat}{z:Int}(h:ZB m z)(hm:1<=m):Sz m (z:Rat):=⟨by assumption,by simpa using ZB.one hm⟩
section
variable {h h':Heap} {K:VP} {A B:Option aL} {n c n' c':Nat} {s s':Bool} {x y z:Int} {m:Nat} {p q:Rat} {a b w:QV}
end
def dch(d:Nat):UInt8:=UInt8.ofNat (48+d)
def Z6{d:Nat}(h:d<10):(dch d).toNat=48+d:=by
 unfold dch;rw [UInt8.toNat_ofNat'];omega
def F8(c:UInt8):Prop:=48<=c.toNat/\c.toNat<=57
instance (c:UInt8):Decidable (F8 c):=by unfold F8;infer_instance
def Zu{d:Nat}(h:d<10):F8 (dch d):=by unfold F8;rw [Z6 h];omega
def Xp{c:UInt8}(h:F8 c):dch (c.toNat-48)=c:=by
 unfold F8 at h
 apply UInt8.toNat_inj.1
 rw [Z6 o];omega
def dd(n:Nat):List UInt8:=if _h:n=0 then [] else dd (n/10)++[dch (n%10)]
def E7:dd 0=[]:=by unfold dd;simp
def K6{n:Nat}(h:n≠0):dd n=dd (n/10)++[dch (n%10)]:=by rw [dd];simp [h]
def I0(l:List UInt8):Nat:=l.foldl (fun a c=>10*a+(c.toNat-48)) 0
def Cx(l:List UInt8)(c:UInt8):I0 (l++[c])=10*I0 l+(c.toNat-48):=by simp [I0]
def Zr(l:List UInt8):∀ a,l.foldl (fun a c=>10*a+(c.toNat-48)) a=a*10^l.length+I0 l:=by
 induction l with
 | nil=>intro a;simp [I0]
 | cons c l ih=>
  intro a
  unfold I0
  rw [List.foldl_cons,List.foldl_cons,ih,ih,List.length_cons,aC]
  grind
def Bn(a b:List UInt8):I0 (a++b)=I0 a*10^b.length+I0 b:=by
 unfold I0;rw [List.foldl_append,Zr b];rfl
def Tl(c:UInt8)(l:List UInt8):I0 (c::l)=(c.toNat-48)*10^l.length+I0 l:=by
 rw [<- List.singleton_append,Bn];simp [I0]
def Bm{l:List UInt8}(h:∀ c∈l,F8 c):I0 l<10^l.length:=by
 induction l with
 | nil=>simp [I0]
 | cons c l ih=>
  have d:=ih fun x b=>h x (by simp [b])
  have a:=h c (by simp)
  unfold F8 at a
  rw [Tl,List.length_cons,aC]
  have:(c.toNat-48)*10^l.length<=9*10^l.length:=Nat.mul_le_mul_right _ o
  omega
def Zs(n:Nat):I0 (dd n)=n:=by
 induction n using aJ with
 | _ n ih=>
  by_cases h:n=0
  ·subst h;rw [E7];rfl
  ·rw [K6 h,Cx,ih _ o,Z6 o];omega
def A29(n:Nat):∀ c∈dd n,F8 c:=by
 induction n using aJ with
 | _ n ih=>
  by_cases h:n=0
  ·subst h;rw [E7];simp
  ·rw [K6 h]
   intro c b
   rcases List.mem_append.1 b with a|a
   ·exact ih _ o c a
   ·rw [List.mem_singleton.1 a];exact Zu o
def Zt{n:Nat}(h:n≠0):dd n≠[]:=by rw [K6 h];simp
def Tq(n:Nat)(h:n≠0):(dd n).head? ≠ some 48:=by
 induction n using aJ with
 | _ n ih=>
  rw [K6 h]
  by_cases a:n/10=0
  ·rw [a,E7]
   simp only [List.nil_append,List.head?_cons,ne_eq,Option.some.injEq]
   intro e
   have:=Z6 (d:=n%10) o
   rw [e] at this
   simp at this
   omega
  ·have:=ih _ o a
   obtain ⟨c,r,e⟩:=aK (Zt a)
   rw [e] at this ⊢
   simpa using this
def Tr{l:List UInt8}(h:∀ c∈l,F8 c)(h0:l.head? ≠ some 48):dd (I0 l)=l:=by
 obtain ⟨n,i⟩:∃ n,l.length=n:=⟨_,rfl⟩
 induction n generalizing l with
 | zero=>rw [aI i];exact E7
 | succ n ih=>
  obtain ⟨m,c,rfl⟩:∃ m c,l=m++[c]:=by
   refine ⟨l.dropLast,l.getLast (by rintro rfl;simp at i),?_⟩
   rw [List.dropLast_concat_getLast]
  have g:=h c (by simp)
  have b:=g
  unfold F8 at b
  rw [Cx]
  cases m with
  | nil=>
   simp at h0
   have p:c.toNat-48≠0:=by
    intro e
    apply h0
    apply UInt8.toNat_inj.1
    show c.toNat=48
    omega
   rw [K6 (by simp [I0];omega)]
   simp only [I0,List.foldl_nil,List.nil_append]
   rw [show (10*0+(c.toNat-48))/10=0 from o,E7,show (10*0+(c.toNat-48))%10=c.toNat-48 from o,Xp g];rfl
  | cons d m=>
   have a:=ih (l:=d::m) (fun x k=>h x (by simp at k ⊢;rcases k with h|h<;>simp [h])) (by simpa using h0) (by simpa using i)
   have j:I0 (d::m)≠0:=by
    intro e
    rw [e,E7] at a
    cases a
   rw [K6 o,show (10*I0 (d::m)+(c.toNat-48))/10=I0 (d::m) from o,a,show (10*I0 (d::m)+(c.toNat-48))%10=c.toNat-48 from o,Xp g]
def J7{n k:Nat}:(dd n).length<=k↔n<10^k:=by
 induction k generalizing n with
 | zero=>
  constructor
  ·intro h
   have:dd n=[]:=aI o
   by_cases a:n=0
   ·subst a;decide
   ·exact absurd this (Zt a)
  ·intro h
   have:n=0:=by simp at h;exact h
   subst this;rw [E7];simp
 | succ k ih=>
  by_cases a:n=0
  ·subst a;rw [E7];simp [aD]
  ·rw [K6 a,aH,List.length_singleton,Nat.add_le_add_iff_right,ih,aC]
   omega
def pad(w n:Nat):List UInt8:=List.replicate (w-(dd n).length) 48++dd n
def Oq(n:Nat):pad 0 n=dd n:=by simp [pad]
def Hw{w n:Nat}(h:n<10^w):(pad w n).length=w:=by
 have:=J7.2 h
 simp [pad];omega
def Fi(w n:Nat):pad (w+1) n=pad w (n/10)++[dch (n%10)]:=by
 unfold pad
 by_cases h:n=0
 ·subst h
  rw [E7]
  simp only [List.length_nil,Nat.sub_zero,List.append_nil,Nat.zero_mod]
  rw [List.replicate_succ'];rfl
 ·rw [K6 h,aH,List.length_singleton,Nat.add_sub_add_right,aE]
def A28{h l k:Nat}(h0:h≠0)(hl:l<10^k):dd (h*10^k+l)=dd h++pad k l:=by
 induction k generalizing l with
 | zero=>
  have:l=0:=by simpa using hl
  subst this;simp [pad,E7]
 | succ k ih=>
  have d:0<10^k:=aD dc
  have a:h*10^(k+1)+l≠0:=by
   have:0<h*10^(k+1):=Nat.mul_pos o (aD dc)
   omega
  have c:(h*10^(k+1)+l)/10=h*10^k+l/10:=by
   rw [aC,<- Nat.mul_assoc];omega
  have b:(h*10^(k+1)+l)%10=l%10:=by
   rw [aC,<- Nat.mul_assoc];omega
  rw [K6 a,c,b,ih (by rw [aC] at hl;omega),Fi,aE]
def Ks{w h l k:Nat}(hl:l<10^k)(hw:h≠0\/k<=w):pad w (h*10^k+l)=pad (w-k) h++pad k l:=by
 by_cases b:h=0
 ·subst b
  have c:k<=w:=by
   rcases hw with h|h
   ·exact absurd rfl h
   ·exact h
  have:=J7.2 hl
  unfold pad
  rw [E7]
  simp only [Nat.zero_mul,Nat.zero_add,List.length_nil,Nat.sub_zero,List.append_nil,<- aE,List.replicate_append_replicate]
  congr 2;omega
 ·have e:=A28 b hl
  have a:=Hw hl
  unfold pad at a
  unfold pad at e ⊢
  rw [e,aH,a,<- aE]
  congr 3;omega
def H2(n:Nat):List UInt8:=if n=0 then [48] else dd n
def U4{n:Nat}(h:n≠0):H2 n=dd n:=by simp [H2,h]
def Cy(n:Nat):I0 (H2 n)=n:=by
 unfold H2;split
 ·rename_i h;subst h;rfl
 ·exact Zs n
def Pb(n:Nat):∀ c∈H2 n,F8 c:=by
 unfold H2;split
 ·intro c a;rw [List.mem_singleton.1 a];decide
 ·exact A29 n
def Nt(n:Nat):H2 n≠[]:=by
 unfold H2;split
 ·simp
 ·rename_i h;exact Zt h
def Wc{a b:Nat}(h:H2 a=H2 b):a=b:=by rw [<- Cy a,h,Cy]
def Da{l:List UInt8}(h:∀ c∈l,F8 c)(hn:l≠[])(h0:l.head? ≠ some 48\/l=[48]):H2 (I0 l)=l:=by
 rcases h0 with h0|h0
 ·have:=Tr h h0
  rw [U4,this]
  intro e
  rw [e,E7] at this
  exact hn this.symm
 ·subst h0;rfl
def Cz{n k:Nat}(hk:0<k):(H2 n).length<=k↔n<10^k:=by
 by_cases h:n=0
 ·subst h;have:0<10^k:=aD dc;simp [H2];omega
 ·rw [U4 h];exact J7
def Be(z:Int):List UInt8:=if z<0 then 45::H2 z.natAbs else H2 z.natAbs
def C6(q:Rat):List UInt8:=Be q.num++(if q.den=1 then [] else 47::H2 q.den)
structure Form (s:List UInt8) (neg:Bool) (a b:List UInt8):Prop where
 eq:s=(if neg then [45] else [])++a++(if b=[] then [] else 47::b)
 da:∀ c∈a,F8 c
 db:∀ c∈b,F8 c
 ne:a≠[]
 ha:a.head? ≠ some 48\/(a=[48]/\neg=false/\b=[])
 hb:b.head? ≠ some 48
 b1:b≠[49]
def Vw{c:UInt8}(h:F8 c):c≠45/\c≠47:=by
 unfold F8 at h
 constructor<;>(rintro rfl;grind)
def T4{a r:List UInt8}(h:∀ c∈a,F8 c)(hr:∀ c,r.head? = some c->¬ F8 c):(a++r).takeWhile (fun c=>decide (F8 c))=a/\(a++r).dropWhile (fun c=>decide (F8 c))=r:=by
 induction a with
 | nil=>
  cases r with
  | nil=>simp
  | cons c r=>
   simp_all
 | cons c a ih=>
  simp_all
def Form.head{s:List UInt8}{neg:Bool}{a b:List UInt8}(f:Form s neg a b):neg=(s.head? == some 45):=by
 obtain ⟨c,r,e⟩:=aK f.ne
 have d:=(Vw (f.da c (by simp [e]))).1
 rw [f.eq,e]
 grind
def Form.unique{s:List UInt8}{neg neg':Bool}{a b a' b':List UInt8}(f:Form s neg a b)(g:Form s neg' a' b'):neg=neg'/\a=a'/\b=b':=by
 have l:neg=neg':=by rw [f.head,g.head]
 have e:=f.eq.symm.trans g.eq
 have i:∀ b:List UInt8,∀ c,(if b=[] then [] else 47::b:List UInt8).head? = some c->¬ F8 c:=by
  intro b c d
  split at d
  ·grind
  ·simp at d;subst d;decide
 have k:=T4 f.da (i b)
 have j:=T4 g.da (i b')
 grind
def Gs{q:Rat}(h:q.num=0):q.den=1:=by
 simp_all
def Y5(q:Rat):Form (C6 q) (decide (q.num<0)) (H2 q.num.natAbs) (if q.den=1 then [] else H2 q.den):=by
 constructor
 ·unfold C6 Be
  by_cases a:q.num<0<;>by_cases b:q.den=1<;>simp [a,b,Nt]
 ·exact Pb _
 ·split
  ·simp
  ·exact Pb _
 ·exact Nt _
 ·by_cases h:q.num=0
  ·right
   rw [Gs h,h];simp [H2]
  ·left
   rw [U4 o];exact Tq _ o
 ·split
  ·simp
  ·rw [U4 q.den_nz];exact Tq _ q.den_nz
 ·split
  ·simp
  ·rename_i h
   intro e
   have c:H2 q.den=H2 1:=by rw [e];simp [H2,K6,E7,dch]
   exact h (Wc c)
def Ev(neg:Bool)(a:List UInt8):Int:=if neg then -(I0 a:Int) else I0 a
def Bv(b:List UInt8):Nat:=if b=[] then 1 else I0 b
def Gq{b:List UInt8}(h:∀ c∈b,F8 c)(hn:b≠[])(h0:b.head? ≠ some 48):I0 b≠0:=by
 intro e
 have:=Tr h h0
 rw [e,E7] at this
 grind
def Form.den_ne{s:List UInt8}{neg:Bool}{a b:List UInt8}(f:Form s neg a b):Bv b≠0:=by
 unfold Bv;split
 ·decide
 ·rename_i h;exact Gq f.db h f.hb
def Form.txt{s:List UInt8}{neg:Bool}{a b:List UInt8}(f:Form s neg a b){q:Rat}(h1:q.num=Ev neg a)(h2:q.den=Bv b):s=C6 q:=by
 have k:H2 (I0 a)=a:=Da f.da f.ne (f.ha.imp id fun h=>h.1)
 have d:(Ev neg a).natAbs=I0 a:=by unfold Ev;omega
 have c:(Ev neg a<0)↔neg=true:=by
  unfold Ev
  cases neg
  ·simp
  ·simp only [if_true]
   constructor
   ·grind
   ·intro _
    have:I0 a≠0:=by
     rcases f.ha with h|h
     ·exact Gq f.da f.ne h
     grind
    omega
 have j:(Bv b=1)↔b=[]:=by
  unfold Bv
  split
  ·grind
  ·rename_i h
   constructor
   ·intro e
    exfalso
    have g:=Da f.db h (Or.inl f.hb)
    rw [e] at g
    apply f.b1
    rw [<- g];simp [H2,K6,E7,dch]
   grind
 rw [f.eq]
 unfold C6 Be
 by_cases i:b=[]
 ·grind
 ·have l:H2 (Bv b)=b:=by
   unfold Bv;rw [iN i];exact Da f.db i (Or.inl f.hb)
  grind
def Form.of_txt{s:List UInt8}{neg:Bool}{a b:List UInt8}(f:Form s neg a b){q:Rat}(e:s=C6 q):q.num=Ev neg a/\q.den=Bv b:=by
 subst e
 obtain ⟨g,d,c⟩:=f.unique (Y5 q)
 subst g d c
 constructor
 ·unfold Ev
  rw [Cy]
  grind
 ·unfold Bv
  by_cases h:q.den=1
  ·simp [h]
  ·simp [h,Nt,Cy]
def P1{p q:Rat}(e:C6 p=C6 q):p=q:=by
 have f:=Y5 p
 have a:=f.of_txt rfl
 have b:=f.of_txt e
 exact Rat.ext (a.1.trans b.1.symm) (a.2.trans b.2.symm)
def IsNum(s:List UInt8):Prop:=∃ q,s=C6 q
def Form.isNum{s:List UInt8}{neg:Bool}{a b:List UInt8}(f:Form s neg a b):IsNum s↔Nat.gcd (I0 a) (Bv b)=1:=by
 have c:(Ev neg a).natAbs=I0 a:=by unfold Ev;omega
 constructor
 ·rintro ⟨q,e⟩
  have:=f.of_txt e
  have d:=q.reduced
  grind
 ·intro h
  exact ⟨⟨Ev neg a,Bv b,f.den_ne,gz0⟩,f.txt rfl rfl⟩
def IsNum.form{s:List UInt8}(h:IsNum s):∃ neg a b,Form s neg a b:=by
 obtain ⟨q,rfl⟩:=h
 exact ⟨_,_,_,Y5 q⟩
def Vg(s:List UInt8):Rat:=
 let neg:=s.head? == some 45
 let t:=if neg then s.drop 1 else s
 mkRat (Ev neg (t.takeWhile fun c=>decide (F8 c))) (Bv ((t.dropWhile fun c=>decide (F8 c)).drop 1))
def rv(s:List UInt8):Rat:=if C6 (Vg s)=s then Vg s else 0
def B8(q:Rat):rv (C6 q)=q:=by
 have f:=Y5 q
 have k:=f.head
 have d:∀ b:List UInt8,∀ c,(if b=[] then [] else 47::b:List UInt8).head? = some c->¬ F8 c:=by
  intro b c a
  split at a
  ·grind
  ·simp at a;subst a;decide
 have e:Vg (C6 q)=q:=by
  unfold Vg
  simp only [<- k]
  generalize hb:(if q.den=1 then [] else H2 q.den)=b at f
  have j:(if decide (q.num<0)=true then (C6 q).drop 1 else C6 q)=H2 q.num.natAbs++(if b=[] then [] else 47::b):=by
   rw [f.eq]
   grind
  rw [j,(T4 f.da (d b)).1,(T4 f.da (d b)).2]
  have g:=f.of_txt rfl
  have i:(if b=[] then [] else 47::b:List UInt8).drop 1=b:=by
   grind
  rw [i,<- g.1,<- g.2,Rat.mkRat_self]
 unfold rv
 grind
def Rp{s:List UInt8}(h:¬ IsNum s):rv s=0:=by
 unfold rv
 rw [iN (fun e=>h ⟨_,e.symm⟩)]
def Form.rv_num{s:List UInt8}{neg:Bool}{a b:List UInt8}(f:Form s neg a b)(h:IsNum s):(rv s).num=Ev neg a/\(rv s).den=Bv b:=by
 obtain ⟨q,rfl⟩:=h
 rw [B8];exact f.of_txt rfl
