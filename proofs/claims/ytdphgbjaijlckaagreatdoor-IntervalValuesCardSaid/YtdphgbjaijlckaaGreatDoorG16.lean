/- A part. -/
import Derived.Test.YtdphgbjaijlckaaGreatDoorG14
import Derived.Test.YtdphgbjaijlckaaGreatDoorG15
set_option linter.all false
open List renaming append_assoc->aF,length_append->aH,eq_nil_of_length_eq_zero->aJ,exists_cons_of_ne_nil->aL
open Nat renaming pow_succ->aD,pow_pos->aE,mul_le_mul_left->aG,strongRecOn->aK
open Rat renaming divInt->aC,divInt_ofNat->aI
open _root_.Go renaming Addr->aM
namespace Go.Proofs.YtdphgbjaijlckaaGreatDoor
set_option maxRecDepth 20000
open Go
section
variable {h g:Heap} {K:VP} {A B:Option aM} {ac bc:Nat}
def Cd{B:Int}(hB:0<B){xs:List Int}(d:Dig B xs){m:Nat}(hl:xs.length=m+1):val B xs<(xs.getD m 0+1)*B^m/\xs.getD m 0*B^m<=val B xs:=by
 have a:=G3 B xs m
 have b:=J4 hB (d.take m)
 have c:=C3 hB (d.take m)
 grind
def Wo{xs:List Int}{m:Nat}(hl:xs.length=m+1)(hn:Norm xs):xs.getD m 0≠0:=by
 intro a
 apply hn
 grind
end
def SlI.unique{k:IntKind}{h:Heap}{A:Option aM}{xs ys:List Int}(s:SlI k h A xs)(t:SlI k h A ys)(hl:xs.length=ys.length):xs=ys:=by
 apply List.ext_getElem hl
 intro i g e
 obtain ⟨a,d,l⟩:=SlV.at s (i:=i) gz0
 obtain ⟨b,j,c⟩:=SlV.at t (i:=i) gz0
 grind
def Ud(h:Heap)(A:Option aM)(len:Nat):List Int:=(List.range len).map fun i=>
 match A with
 | some a=>(match h.cell? (a.add i) with|some (.int _ n)=>n|_=>0)
 | none=>0
def A4a(B:Int)(h:Heap)(A:Option aM)(len:Nat):Nat:=(val B (Ud h A len)).toNat
def Zi{k:IntKind}{h:Heap}{A:Option aM}{xs:List Int}(s:SlI k h A xs):Ud h A xs.length=xs:=by
 apply List.ext_getElem
 ·simp [Ud]
 ·intro i d e
  obtain ⟨a,b,c⟩:=SlV.at s (i:=i) gz0
  subst b
  simp [Ud,c]
def Bj{k:IntKind}{B:Int}{h:Heap}{A:Option aM}{len:Nat}{n:Int}(m:Mag k B h A len n):A4a B h A len=n.toNat:=by
 obtain ⟨xs,rfl,s,_,_,rfl⟩:=m
 unfold A4a
 rw [Zi s]
def ZB(m:Nat)(z:Int):Prop:=z.natAbs<2^m
def ZB.mono{m n:Nat}{z:Int}(h:ZB m z)(hm:m<=n):ZB n z:=Nat.lt_of_lt_of_le h (Nat.pow_le_pow_right dc hm)
def ZB.neg{m:Nat}{z:Int}(h:ZB m z):ZB m (-z):=by unfold ZB at *;omega
def ZB.add{m:Nat}{x y:Int}(hx:ZB m x)(hy:ZB m y):ZB (m+1) (x+y):=by
 unfold ZB at *;omega
def ZB.mul{m n:Nat}{x y:Int}(hx:ZB m x)(hy:ZB n y):ZB (m+n) (x*y):=by
 unfold ZB at *;rw [Int.natAbs_mul,Nat.pow_add]
 have a:x.natAbs*y.natAbs<=x.natAbs*2^n:=aG _ (Nat.le_of_lt hy)
 have b:x.natAbs*2^n<2^m*2^n:=Nat.mul_lt_mul_of_pos_right hx (aE dc)
 omega
def ZB.le{m:Nat}{x y:Int}(hx:ZB m x)(h:y.natAbs<=x.natAbs):ZB m y:=Nat.lt_of_le_of_lt h hx
def ZB.one{m:Nat}(h:1<=m):ZB m 1:=ZB.mono (m:=1) (by unfold ZB;decide) h
def ZB.zero{m:Nat}:ZB m 0:=aE dc
structure NI (h:Heap) (s:Bool) (A:Option aM) (n c:Nat) (z:Int):Prop where
 mag:Mg h A n (z.natAbs:Int)
 sg:s=decide (z<0)
 cap:n<=c
section
variable {h h':Heap} {K:VP} {A B:Option aM} {n c n' c':Nat} {s s':Bool} {x y z:Int} {m:Nat}
end
def L8(n:Nat):Nat:=if n=0 then 0 else Nat.log2 n+1
def Zm:L8 0=0:=rfl
def X3{n:Nat}(h:n≠0):2^(L8 n-1)<=n/\n<2^L8 n:=by
 unfold L8
 rw [iN h,Nat.add_sub_cancel]
 exact ⟨Nat.log2_self_le h,Nat.lt_log2_self⟩
def Sr{n k:Nat}(h1:2^k<=n)(h2:n<2^(k+1)):L8 n=k+1:=by
 have c:n≠0:=o
 unfold L8
 rw [iN c]
 have a:=(Nat.le_log2 c).2 h1
 have b:=(Nat.log2_lt c).2 h2
 omega
def Vn{l t j:Nat}(hl:l<2^j)(ht:t≠0):L8 (l+2^j*t)=j+L8 t:=by
 obtain ⟨a,b⟩:=X3 ht
 have c:L8 t=L8 t-1+1:=gz0
 rw [c,<- Nat.add_assoc]
 apply Sr
 ·rw [Nat.pow_add]
  have:=aG (2^j) a
  omega
 ·have:=aG (2^j) (show t+1<=2^L8 t from o)
  grind
def Bq{n k:Nat}(h:n<2^k):L8 n<=k:=by
 by_cases a:n=0
 ·subst a;rw [Zm];omega
 ·unfold L8;rw [iN a];have:=(Nat.log2_lt a).2 h;omega
section
variable {h h':Heap} {K:VP} {A B:Option aM} {n c n' c':Nat} {s s':Bool} {x y z:Int} {m:Nat}
end
structure QV where
 s:Bool
 A:Option aM
 n:Nat
 c:Nat
 s2:Bool
 A2:Option aM
 n2:Nat
 c2:Nat
abbrev QV.v(w:QV):Value:=.agg #[.bool w.s,.slice w.A w.n w.c,.bool w.s2,.slice w.A2 w.n2 w.c2]
structure NQ (h:Heap) (w:QV) (q:Rat):Prop where
 num:NI h w.s w.A w.n w.c q.num
 den:NI h w.s2 w.A2 w.n2 w.c2 (if q.den=1 then 0 else (q.den:Int))
structure Sz (m:Nat) (q:Rat):Prop where
 num:ZB m q.num
 den:ZB m q.den
def Sz.mono{m n:Nat}{q:Rat}(h:Sz m q)(hm:m<=n):Sz n q:=⟨h.num.mono hm,h.den.mono hm⟩
def Sz.neg{m:Nat}{q:Rat}(h:Sz m q):Sz m (-q):=⟨by exact h.num.neg,by exact h.den⟩
def Ps{a b:Int}(hb:b≠0):(aC a b).num.natAbs<=a.natAbs/\(aC a b).den<=b.natAbs:=by
 rw [Rat.num_divInt,Rat.den_divInt,iN hb]
 constructor
 ·have c:(Int.gcd b a:Int)∣b.sign*a:=Int.dvd_mul_of_dvd_right (Int.gcd_dvd_right b a)
  rw [Int.natAbs_ediv_of_dvd c,Int.natAbs_mul,Int.natAbs_natCast]
  have:b.sign.natAbs=1:=by
   grind
  rw [this,Nat.one_mul]
  exact Nat.div_le_self _ _
 ·exact Nat.div_le_self _ _
def Qg{m:Nat}{a b:Int}(hb:b≠0)(h1:ZB m a)(h2:ZB m b):Sz m (aC a b):=by
 have:=Ps (a:=a) hb
 exact ⟨h1.le this.1,h2.le o⟩
def Lh(p q:Rat):p+q=aC (p.num*q.den+q.num*p.den) (p.den*q.den):=by
 rw [Rat.add_def',<- Int.natCast_mul,aI]
def Kp(p q:Rat):p*q=aC (p.num*q.num) (p.den*q.den):=by
 rw [Rat.mul_def',<- Int.natCast_mul,aI]
def Vh(z:Int):aC z 1=(z:Rat):=by
 show aC z ((1:Nat):Int)=_
 rw [aI]
 apply Rat.ext
 ·rw [Rat.num_mkRat];simp
 ·rw [Rat.den_mkRat];simp
def den_ne(q:Rat):(q.den:Int)≠0:=by have:=q.den_nz;omega
def Vg(p q:Rat):p/q=aC (p.num*q.den) (p.den*q.num):=by
 rw [Rat.div_def,<- Rat.num_divInt_den p,<- Rat.num_divInt_den q,Rat.inv_divInt,Rat.divInt_mul_divInt]
 simp_all
def Sz.add{m n:Nat}{p q:Rat}(hp:Sz m p)(hq:Sz n q):Sz (m+n+1) (p+q):=by
 rw [Lh]
 refine Qg (Int.mul_ne_zero (den_ne p) (den_ne q)) ?_ ((hp.den.mul hq.den).mono o)
 exact (hp.num.mul hq.den).add ((hq.num.mul hp.den).mono o)
def Sz.mul{m n:Nat}{p q:Rat}(hp:Sz m p)(hq:Sz n q):Sz (m+n) (p*q):=by
 rw [Kp]
 exact Qg (Int.mul_ne_zero (den_ne p) (den_ne q)) (hp.num.mul hq.num) (hp.den.mul hq.den)
def Sz.zero{m:Nat}(hm:1<=m):Sz m 0:=⟨ZB.zero,ZB.one hm⟩
def Sz.inv{m:Nat}{q:Rat}(h:Sz m q)(hm:1<=m):Sz m q⁻¹:=by
 constructor
 ·rw [Rat.num_inv]
  refine h.den.le ?_
  grind
 ·rw [Rat.den_inv]
  split
  ·exact ZB.one hm
  ·have:=h.num
   assumption
def Sz.div{m n:Nat}{p q:Rat}(hp:Sz m p)(hq:Sz n q)(hn:1<=n):Sz (m+n) (p/q):=by
 exact hp.mul (hq.inv hn)
def Sz.int{m:Nat}{z:Int}(h:ZB m z)(hm:1<=m):Sz m (z:Rat):=⟨by assumption,by simpa using ZB.one hm⟩
section
variable {h h':Heap} {K:VP} {A B:Option aM} {n c n' c':Nat} {s s':Bool} {x y z:Int} {m:Nat} {p q:Rat} {a b w:QV}
end
def dch(d:Nat):UInt8:=UInt8.ofNat (48+d)
def Bn{d:Nat}(h:d<10):(dch d).toNat=48+d:=by
 unfold dch;rw [UInt8.toNat_ofNat'];omega
def G4(c:UInt8):Prop:=48<=c.toNat/\c.toNat<=57
instance (c:UInt8):Decidable (G4 c):=by unfold G4;infer_instance
def A4l{d:Nat}(h:d<10):G4 (dch d):=by unfold G4;rw [Bn h];omega
def A2w{c:UInt8}(h:G4 c):dch (c.toNat-48)=c:=by
 unfold G4 at h
 apply UInt8.toNat_inj.1
 rw [Bn o];omega
def dd(n:Nat):List UInt8:=if _h:n=0 then [] else dd (n/10)++[dch (n%10)]
def G0:dd 0=[]:=by unfold dd;simp
def O2{n:Nat}(h:n≠0):dd n=dd (n/10)++[dch (n%10)]:=by rw [dd];simp [h]
def J9(l:List UInt8):Nat:=l.foldl (fun a c=>10*a+(c.toNat-48)) 0
def Ew(l:List UInt8)(c:UInt8):J9 (l++[c])=10*J9 l+(c.toNat-48):=by simp [J9]
def A4i(l:List UInt8):∀ a,l.foldl (fun a c=>10*a+(c.toNat-48)) a=a*10^l.length+J9 l:=by
 induction l with
 | nil=>intro a;simp [J9]
 | cons c l ih=>
  intro a
  unfold J9
  rw [List.foldl_cons,List.foldl_cons,ih,ih,List.length_cons,aD]
  grind
def Dm(a b:List UInt8):J9 (a++b)=J9 a*10^b.length+J9 b:=by
 unfold J9;rw [List.foldl_append,A4i b];rfl
def Yx(c:UInt8)(l:List UInt8):J9 (c::l)=(c.toNat-48)*10^l.length+J9 l:=by
 rw [<- List.singleton_append,Dm];simp [J9]
def Dl{l:List UInt8}(h:∀ c∈l,G4 c):J9 l<10^l.length:=by
 induction l with
 | nil=>simp [J9]
 | cons c l ih=>
  have d:=ih fun x b=>h x (by simp [b])
  have a:=h c (by simp)
  unfold G4 at a
  rw [Yx,List.length_cons,aD]
  have:(c.toNat-48)*10^l.length<=9*10^l.length:=Nat.mul_le_mul_right _ o
  omega
def A4j(n:Nat):J9 (dd n)=n:=by
 induction n using aK with
 | _ n ih=>
  by_cases h:n=0
  ·subst h;rw [G0];rfl
  ·rw [O2 h,Ew,ih _ o,Bn o];omega
def A7d(n:Nat):∀ c∈dd n,G4 c:=by
 induction n using aK with
 | _ n ih=>
  by_cases h:n=0
  ·subst h;rw [G0];simp
  ·rw [O2 h]
   intro c b
   rcases List.mem_append.1 b with a|a
   ·exact ih _ o c a
   ·rw [List.mem_singleton.1 a];exact A4l o
def A4k{n:Nat}(h:n≠0):dd n≠[]:=by rw [O2 h];simp
def Zc(n:Nat)(h:n≠0):(dd n).head? ≠ some 48:=by
 induction n using aK with
 | _ n ih=>
  rw [O2 h]
  by_cases a:n/10=0
  ·rw [a,G0]
   simp only [List.nil_append,List.head?_cons,ne_eq,Option.some.injEq]
   intro e
   have:=Bn (d:=n%10) o
   rw [e] at this
   simp at this
   omega
  ·have:=ih _ o a
   obtain ⟨c,r,e⟩:=aL (A4k a)
   rw [e] at this ⊢
   simpa using this
def Zd{l:List UInt8}(h:∀ c∈l,G4 c)(h0:l.head? ≠ some 48):dd (J9 l)=l:=by
 obtain ⟨n,i⟩:∃ n,l.length=n:=⟨_,rfl⟩
 induction n generalizing l with
 | zero=>rw [aJ i];exact G0
 | succ n ih=>
  obtain ⟨m,c,rfl⟩:∃ m c,l=m++[c]:=by
   refine ⟨l.dropLast,l.getLast (by rintro rfl;simp at i),?_⟩
   rw [List.dropLast_concat_getLast]
  have g:=h c (by simp)
  have b:=g
  unfold G4 at b
  rw [Ew]
  cases m with
  | nil=>
   simp at h0
   have p:c.toNat-48≠0:=by
    intro e
    apply h0
    apply UInt8.toNat_inj.1
    show c.toNat=48
    omega
   rw [O2 (by simp [J9];omega)]
   simp only [J9,List.foldl_nil,List.nil_append]
   rw [show (10*0+(c.toNat-48))/10=0 from o,G0,show (10*0+(c.toNat-48))%10=c.toNat-48 from o,A2w g];rfl
  | cons d m=>
   have a:=ih (l:=d::m) (fun x k=>h x (by simp at k ⊢;rcases k with h|h<;>simp [h])) (by simpa using h0) (by simpa using i)
   have j:J9 (d::m)≠0:=by
    intro e
    rw [e,G0] at a
    cases a
   rw [O2 o,show (10*J9 (d::m)+(c.toNat-48))/10=J9 (d::m) from o,a,show (10*J9 (d::m)+(c.toNat-48))%10=c.toNat-48 from o,A2w g]
def L4{n k:Nat}:(dd n).length<=k↔n<10^k:=by
 induction k generalizing n with
 | zero=>
  constructor
  ·intro h
   have:dd n=[]:=aJ o
   by_cases a:n=0
   ·subst a;decide
   ·exact absurd this (A4k a)
  ·intro h
   have:n=0:=by simp at h;exact h
   subst this;rw [G0];simp
 | succ k ih=>
  by_cases a:n=0
  ·subst a;rw [G0];simp [aE]
  ·rw [O2 a,aH,List.length_singleton,Nat.add_le_add_iff_right,ih,aD]
   omega
def pad(w n:Nat):List UInt8:=List.replicate (w-(dd n).length) 48++dd n
def Tp(n:Nat):pad 0 n=dd n:=by simp [pad]
def Km{w n:Nat}(h:n<10^w):(pad w n).length=w:=by
 have:=L4.2 h
 simp [pad];omega
def Hr(w n:Nat):pad (w+1) n=pad w (n/10)++[dch (n%10)]:=by
 unfold pad
 by_cases h:n=0
 ·subst h
  rw [G0]
  simp only [List.length_nil,Nat.sub_zero,List.append_nil,Nat.zero_mod]
  rw [List.replicate_succ'];rfl
 ·rw [O2 h,aH,List.length_singleton,Nat.add_sub_add_right,aF]
def A7c{h l k:Nat}(h0:h≠0)(hl:l<10^k):dd (h*10^k+l)=dd h++pad k l:=by
 induction k generalizing l with
 | zero=>
  have:l=0:=by simpa using hl
  subst this;simp [pad,G0]
 | succ k ih=>
  have d:0<10^k:=aE dc
  have a:h*10^(k+1)+l≠0:=by
   have:0<h*10^(k+1):=Nat.mul_pos o (aE dc)
   omega
  have c:(h*10^(k+1)+l)/10=h*10^k+l/10:=by
   rw [aD,<- Nat.mul_assoc];omega
  have b:(h*10^(k+1)+l)%10=l%10:=by
   rw [aD,<- Nat.mul_assoc];omega
  rw [O2 a,c,b,ih (by rw [aD] at hl;omega),Hr,aF]
def Pb{w h l k:Nat}(hl:l<10^k)(hw:h≠0\/k<=w):pad w (h*10^k+l)=pad (w-k) h++pad k l:=by
 by_cases b:h=0
 ·subst b
  have c:k<=w:=by
   rcases hw with h|h
   ·exact absurd rfl h
   ·exact h
  have:=L4.2 hl
  unfold pad
  rw [G0]
  simp only [Nat.zero_mul,Nat.zero_add,List.length_nil,Nat.sub_zero,List.append_nil,<- aF,List.replicate_append_replicate]
  congr 2;omega
 ·have e:=A7c b hl
  have a:=Km hl
  unfold pad at a
  unfold pad at e ⊢
  rw [e,aH,a,<- aF]
  congr 3;omega
def J1(n:Nat):List UInt8:=if n=0 then [48] else dd n
def Z8{n:Nat}(h:n≠0):J1 n=dd n:=by simp [J1,h]
def Ey(n:Nat):J9 (J1 n)=n:=by
 unfold J1;split
 ·rename_i h;subst h;rfl
 ·exact A4j n
def Uc(n:Nat):∀ c∈J1 n,G4 c:=by
 unfold J1;split
 ·intro c a;rw [List.mem_singleton.1 a];decide
 ·exact A7d n
def Sj(n:Nat):J1 n≠[]:=by
 unfold J1;split
 ·simp
 ·rename_i h;exact A4k h
def A1o{a b:Nat}(h:J1 a=J1 b):a=b:=by rw [<- Ey a,h,Ey]
def Fa{l:List UInt8}(h:∀ c∈l,G4 c)(hn:l≠[])(h0:l.head? ≠ some 48\/l=[48]):J1 (J9 l)=l:=by
 rcases h0 with h0|h0
 ·have:=Zd h h0
  rw [Z8,this]
  intro e
  rw [e,G0] at this
  exact hn this.symm
 ·subst h0;rfl
def Ez{n k:Nat}(hk:0<k):(J1 n).length<=k↔n<10^k:=by
 by_cases h:n=0
 ·subst h;have:0<10^k:=aE dc;simp [J1];omega
 ·rw [Z8 h];exact L4
def Ds(z:Int):List UInt8:=if z<0 then 45::J1 z.natAbs else J1 z.natAbs
def C7(q:Rat):List UInt8:=Ds q.num++(if q.den=1 then [] else 47::J1 q.den)
structure Form (s:List UInt8) (neg:Bool) (a b:List UInt8):Prop where
 eq:s=(if neg then [45] else [])++a++(if b=[] then [] else 47::b)
 da:∀ c∈a,G4 c
 db:∀ c∈b,G4 c
 ne:a≠[]
 ha:a.head? ≠ some 48\/(a=[48]/\neg=false/\b=[])
 hb:b.head? ≠ some 48
 b1:b≠[49]
def A1f{c:UInt8}(h:G4 c):c≠45/\c≠47:=by
 unfold G4 at h
 constructor<;>(rintro rfl;grind)
def Y9{a r:List UInt8}(h:∀ c∈a,G4 c)(hr:∀ c,r.head? = some c->¬ G4 c):(a++r).takeWhile (fun c=>decide (G4 c))=a/\(a++r).dropWhile (fun c=>decide (G4 c))=r:=by
 induction a with
 | nil=>
  cases r with
  | nil=>simp
  | cons c r=>
   simp_all
 | cons c a ih=>
  simp_all
def Form.head{s:List UInt8}{neg:Bool}{a b:List UInt8}(f:Form s neg a b):neg=(s.head? == some 45):=by
 obtain ⟨c,r,e⟩:=aL f.ne
 have d:=(A1f (f.da c (by simp [e]))).1
 rw [f.eq,e]
 grind
def Form.unique{s:List UInt8}{neg neg':Bool}{a b a' b':List UInt8}(f:Form s neg a b)(g:Form s neg' a' b'):neg=neg'/\a=a'/\b=b':=by
 have l:neg=neg':=by rw [f.head,g.head]
 have e:=f.eq.symm.trans g.eq
 have i:∀ b:List UInt8,∀ c,(if b=[] then [] else 47::b:List UInt8).head? = some c->¬ G4 c:=by
  intro b c d
  split at d
  ·grind
  ·simp at d;subst d;decide
 have k:=Y9 f.da (i b)
 have j:=Y9 g.da (i b')
 grind
def Je{q:Rat}(h:q.num=0):q.den=1:=by
 simp_all
def Bb(q:Rat):Form (C7 q) (decide (q.num<0)) (J1 q.num.natAbs) (if q.den=1 then [] else J1 q.den):=by
 constructor
 ·unfold C7 Ds
  by_cases a:q.num<0<;>by_cases b:q.den=1<;>simp [a,b,Sj]
 ·exact Uc _
 ·split
  ·simp
  ·exact Uc _
 ·exact Sj _
 ·by_cases h:q.num=0
  ·right
   rw [Je h,h];simp [J1]
  ·left
   rw [Z8 o];exact Zc _ o
 ·split
  ·simp
  ·rw [Z8 q.den_nz];exact Zc _ q.den_nz
 ·split
  ·simp
  ·rename_i h
   intro e
   have c:J1 q.den=J1 1:=by rw [e];simp [J1,O2,G0,dch]
   exact h (A1o c)
def Hf(neg:Bool)(a:List UInt8):Int:=if neg then -(J9 a:Int) else J9 a
def Du(b:List UInt8):Nat:=if b=[] then 1 else J9 b
def Jc{b:List UInt8}(h:∀ c∈b,G4 c)(hn:b≠[])(h0:b.head? ≠ some 48):J9 b≠0:=by
 intro e
 have:=Zd h h0
 rw [e,G0] at this
 grind
def Form.den_ne{s:List UInt8}{neg:Bool}{a b:List UInt8}(f:Form s neg a b):Du b≠0:=by
 unfold Du;split
 ·decide
 ·rename_i h;exact Jc f.db h f.hb
def Form.txt{s:List UInt8}{neg:Bool}{a b:List UInt8}(f:Form s neg a b){q:Rat}(h1:q.num=Hf neg a)(h2:q.den=Du b):s=C7 q:=by
 have k:J1 (J9 a)=a:=Fa f.da f.ne (f.ha.imp id fun h=>h.1)
 have d:(Hf neg a).natAbs=J9 a:=by unfold Hf;omega
 have c:(Hf neg a<0)↔neg=true:=by
  unfold Hf
  cases neg
  ·simp
  ·simp only [if_true]
   constructor
   ·grind
   ·intro _
    have:J9 a≠0:=by
     rcases f.ha with h|h
     ·exact Jc f.da f.ne h
     grind
    omega
 have j:(Du b=1)↔b=[]:=by
  unfold Du
  split
  ·grind
  ·rename_i h
   constructor
   ·intro e
    exfalso
    have g:=Fa f.db h (Or.inl f.hb)
    rw [e] at g
    apply f.b1
    rw [<- g];simp [J1,O2,G0,dch]
   grind
 rw [f.eq]
 unfold C7 Ds
 by_cases i:b=[]
 ·grind
 ·have l:J1 (Du b)=b:=by
   unfold Du;rw [iN i];exact Fa f.db i (Or.inl f.hb)
  grind
def Form.of_txt{s:List UInt8}{neg:Bool}{a b:List UInt8}(f:Form s neg a b){q:Rat}(e:s=C7 q):q.num=Hf neg a/\q.den=Du b:=by
 subst e
 obtain ⟨g,d,c⟩:=f.unique (Bb q)
 subst g d c
 constructor
 ·unfold Hf
  rw [Ey]
  grind
 ·unfold Du
  by_cases h:q.den=1
  ·simp [h]
  ·simp [h,Sj,Ey]
def T2{p q:Rat}(e:C7 p=C7 q):p=q:=by
 have f:=Bb p
 have a:=f.of_txt rfl
 have b:=f.of_txt e
 exact Rat.ext (a.1.trans b.1.symm) (a.2.trans b.2.symm)
def IsNum(s:List UInt8):Prop:=∃ q,s=C7 q
def Form.isNum{s:List UInt8}{neg:Bool}{a b:List UInt8}(f:Form s neg a b):IsNum s↔Nat.gcd (J9 a) (Du b)=1:=by
 have c:(Hf neg a).natAbs=J9 a:=by unfold Hf;omega
 constructor
 ·rintro ⟨q,e⟩
  have:=f.of_txt e
  have d:=q.reduced
  grind
 ·intro h
  exact ⟨⟨Hf neg a,Du b,f.den_ne,gz0⟩,f.txt rfl rfl⟩
def IsNum.form{s:List UInt8}(h:IsNum s):∃ neg a b,Form s neg a b:=by
 obtain ⟨q,rfl⟩:=h
 exact ⟨_,_,_,Bb q⟩
def A0s(s:List UInt8):Rat:=
 let neg:=s.head? == some 45
 let t:=if neg then s.drop 1 else s
 mkRat (Hf neg (t.takeWhile fun c=>decide (G4 c))) (Du ((t.dropWhile fun c=>decide (G4 c)).drop 1))
def rv(s:List UInt8):Rat:=if C7 (A0s s)=s then A0s s else 0
def C1(q:Rat):rv (C7 q)=q:=by
 have f:=Bb q
 have k:=f.head
 have d:∀ b:List UInt8,∀ c,(if b=[] then [] else 47::b:List UInt8).head? = some c->¬ G4 c:=by
  intro b c a
  split at a
  ·grind
  ·simp at a;subst a;decide
 have e:A0s (C7 q)=q:=by
  unfold A0s
  simp only [<- k]
  generalize hb:(if q.den=1 then [] else J1 q.den)=b at f
  have j:(if decide (q.num<0)=true then (C7 q).drop 1 else C7 q)=J1 q.num.natAbs++(if b=[] then [] else 47::b):=by
   rw [f.eq]
   grind
  rw [j,(Y9 f.da (d b)).1,(Y9 f.da (d b)).2]
  have g:=f.of_txt rfl
  have i:(if b=[] then [] else 47::b:List UInt8).drop 1=b:=by
   grind
  rw [i,<- g.1,<- g.2,Rat.mkRat_self]
 unfold rv
 grind
def Ti{s:List UInt8}(h:¬ IsNum s):rv s=0:=by
 unfold rv
 rw [iN (fun e=>h ⟨_,e.symm⟩)]
def Form.rv_num{s:List UInt8}{neg:Bool}{a b:List UInt8}(f:Form s neg a b)(h:IsNum s):(rv s).num=Hf neg a/\(rv s).den=Du b:=by
 obtain ⟨q,rfl⟩:=h
 rw [C1];exact f.of_txt rfl
