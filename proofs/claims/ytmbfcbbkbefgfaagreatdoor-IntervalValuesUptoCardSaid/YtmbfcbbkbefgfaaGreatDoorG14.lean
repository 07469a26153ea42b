/- A part. -/
import Derived.Test.YtmbfcbbkbefgfaaGreatDoorG12
import Derived.Test.YtmbfcbbkbefgfaaGreatDoorG13
set_option linter.all false
open Int renaming natAbs_mul->aN
open List renaming append_assoc->aC,length_append->aI,eq_nil_of_length_eq_zero->aK,exists_cons_of_ne_nil->aM
open Nat renaming pow_pos->aD,pow_succ->aE,mul_le_mul_left->aH,strongRecOn->aL
open Rat renaming divInt->aF,num_divInt_den->aG,divInt_ofNat->aJ
namespace Go.Proofs.YtmbfcbbkbefgfaaGreatDoor
set_option maxRecDepth 20000
open Go
section
variable {h g:Heap} {K:VP} {A B:Option Addr} {ac bc:Nat}
def Gr{B:Int}(hB:0<B){xs:List Int}(d:Dig B xs){m:Nat}(hl:xs.length=m+1):val B xs<(xs.getD m 0+1)*B^m/\xs.getD m 0*B^m<=val B xs:=by
 have b:=H2 B xs m
 rw [show m+1=xs.length by omega,List.take_length] at b
 have a:=N5 hB (d.take m)
 have g:=C1 hB (d.take m)
 rw [List.length_take,Nat.min_eq_left (by omega)] at a
 have c:(xs.getD m 0+1)*B^m=B^m*xs.getD m 0+B^m:=by grind
 have e:xs.getD m 0*B^m=B^m*xs.getD m 0:=Int.mul_comm _ _
 omega
def A6p{xs:List Int}{m:Nat}(hl:xs.length=m+1)(hn:Norm xs):xs.getD m 0≠0:=by
 intro a
 have e:=Jj (xs:=xs) (i:=m) (by omega)
 rw [<- hl,List.take_length,a] at e
 apply hn
 rw [e];simp
end
def A40(h:Heap)(A:Option Addr)(len:Nat):List Int:=(List.range len).map fun i=>
 match A with
 | some a=>(match h.cell? (a.add i) with|some (.int _ n)=>n|_=>0)
 | none=>0
def B55(B:Int)(h:Heap)(A:Option Addr)(len:Nat):Nat:=(val B (A40 h A len)).toNat
def A8s{k:IntKind}{h:Heap}{A:Option Addr}{xs:List Int}(s:SlI k h A xs):A40 h A xs.length=xs:=by
 apply List.ext_getElem
 ·simp [A40]
 ·intro i e b
  obtain ⟨a,c,d⟩:=SlV.at s (i:=i) (by simpa using b)
  subst c
  simp [A40,d]
def Fk{k:IntKind}{B:Int}{h:Heap}{A:Option Addr}{len:Nat}{n:Int}(m:Mag k B h A len n):B55 B h A len=n.toNat:=by
 obtain ⟨xs,rfl,s,_,_,rfl⟩:=m
 unfold B55
 rw [A8s s]
def ZB(m:Nat)(z:Int):Prop:=z.natAbs<2^m
def ZB.mono{m n:Nat}{z:Int}(h:ZB m z)(hm:m<=n):ZB n z:=Nat.lt_of_lt_of_le h (Nat.pow_le_pow_right (by decide) hm)
def ZB.neg{m:Nat}{z:Int}(h:ZB m z):ZB m (-z):=by unfold ZB at *;rwa [Int.natAbs_neg]
def ZB.add{m:Nat}{x y:Int}(hx:ZB m x)(hy:ZB m y):ZB (m+1) (x+y):=by
 unfold ZB at *;rw [aE]
 have:=Int.natAbs_add_le x y;omega
def ZB.mul{m n:Nat}{x y:Int}(hx:ZB m x)(hy:ZB n y):ZB (m+n) (x*y):=by
 unfold ZB at *;rw [aN,Nat.pow_add]
 have b:x.natAbs*y.natAbs<=x.natAbs*2^n:=aH _ (Nat.le_of_lt hy)
 have a:x.natAbs*2^n<2^m*2^n:=Nat.mul_lt_mul_of_pos_right hx (aD (by decide))
 omega
def ZB.le{m:Nat}{x y:Int}(hx:ZB m x)(h:y.natAbs<=x.natAbs):ZB m y:=Nat.lt_of_le_of_lt h hx
def ZB.one{m:Nat}(h:1<=m):ZB m 1:=ZB.mono (m:=1) (by unfold ZB;decide) h
def ZB.zero{m:Nat}:ZB m 0:=aD (by decide)
structure NI (h:Heap) (s:Bool) (A:Option Addr) (n c:Nat) (z:Int):Prop where
 mag:Mg h A n (z.natAbs:Int)
 sg:s=decide (z<0)
 cap:n<=c
section
variable {h h':Heap} {K:VP} {A B:Option Addr} {n c n' c':Nat} {s s':Bool} {x y z:Int} {m:Nat}
end
def M0(n:Nat):Nat:=if n=0 then 0 else Nat.log2 n+1
def A8y:M0 0=0:=rfl
def Db{n:Nat}(h:n≠0):2^(M0 n-1)<=n/\n<2^M0 n:=by
 unfold M0
 rw [iN h,Nat.add_sub_cancel]
 exact ⟨Nat.log2_self_le h,Nat.lt_log2_self⟩
def A2o{n k:Nat}(h1:2^k<=n)(h2:n<2^(k+1)):M0 n=k+1:=by
 have c:n≠0:=by have:=aD (n:=k) (show 0<2 by decide);omega
 unfold M0
 rw [iN c]
 have a:=(Nat.le_log2 c).2 h1
 have b:=(Nat.log2_lt c).2 h2
 omega
def A5c{l t j:Nat}(hl:l<2^j)(ht:t≠0):M0 (l+2^j*t)=j+M0 t:=by
 obtain ⟨a,b⟩:=Db ht
 have c:M0 t=M0 t-1+1:=by unfold M0;rw [iN ht];omega
 have d:0<2^j:=aD (by decide)
 rw [c,<- Nat.add_assoc]
 apply A2o
 ·rw [Nat.pow_add]
  have:=aH (2^j) a
  omega
 ·rw [Nat.add_assoc,<- c,Nat.pow_add]
  have:=aH (2^j) (show t+1<=2^M0 t by omega)
  rw [Nat.mul_add] at this;omega
def Fx{n k:Nat}(h:n<2^k):M0 n<=k:=by
 by_cases a:n=0
 ·subst a;rw [A8y];omega
 ·unfold M0;rw [iN a];have:=(Nat.log2_lt a).2 h;omega
section
variable {h h':Heap} {K:VP} {A B:Option Addr} {n c n' c':Nat} {s s':Bool} {x y z:Int} {m:Nat}
end
structure QV where
 s:Bool
 A:Option Addr
 n:Nat
 c:Nat
 s2:Bool
 A2:Option Addr
 n2:Nat
 c2:Nat
abbrev QV.v(w:QV):Value:=.agg #[.bool w.s,.slice w.A w.n w.c,.bool w.s2,.slice w.A2 w.n2 w.c2]
structure NQ (h:Heap) (w:QV) (q:Rat):Prop where
 num:NI h w.s w.A w.n w.c q.num
 den:NI h w.s2 w.A2 w.n2 w.c2 (if q.den=1 then 0 else (q.den:Int))
structure Sz (m:Nat) (q:Rat):Prop where
 num:ZB m q.num
 den:ZB m q.den
def Sz.mono{m n:Nat}{q:Rat}(h:Sz m q)(hm:m<=n):Sz n q:=⟨h.num.mono hm,h.den.mono hm⟩
def Sz.neg{m:Nat}{q:Rat}(h:Sz m q):Sz m (-q):=⟨by rw [Rat.neg_num];exact h.num.neg,by rw [Rat.neg_den];exact h.den⟩
def A08{a b:Int}(hb:b≠0):(aF a b).num.natAbs<=a.natAbs/\(aF a b).den<=b.natAbs:=by
 have d:0<Int.gcd b a:=Int.gcd_pos_of_ne_zero_left a hb
 rw [Rat.num_divInt,Rat.den_divInt,iN hb]
 constructor
 ·have c:(Int.gcd b a:Int)∣b.sign*a:=Int.dvd_mul_of_dvd_right (Int.gcd_dvd_right b a)
  rw [Int.natAbs_ediv_of_dvd c,aN,Int.natAbs_natCast]
  have:b.sign.natAbs=1:=by
   rw [Int.natAbs_sign];simp [hb]
  rw [this,Nat.one_mul]
  exact Nat.div_le_self _ _
 ·exact Nat.div_le_self _ _
def A0u{m:Nat}{a b:Int}(hb:b≠0)(h1:ZB m a)(h2:ZB m b):Sz m (aF a b):=by
 have:=A08 (a:=a) hb
 exact ⟨h1.le this.1,h2.le (by simpa using this.2)⟩
def Ut(p q:Rat):p+q=aF (p.num*q.den+q.num*p.den) (p.den*q.den):=by
 rw [Rat.add_def',<- Int.natCast_mul,aJ]
def Ue(p q:Rat):p*q=aF (p.num*q.num) (p.den*q.den):=by
 rw [Rat.mul_def',<- Int.natCast_mul,aJ]
def A56(z:Int):aF z 1=(z:Rat):=by
 show aF z ((1:Nat):Int)=_
 rw [aJ]
 apply Rat.ext
 ·rw [Rat.num_mkRat];simp
 ·rw [Rat.den_mkRat];simp
def den_ne(q:Rat):(q.den:Int)≠0:=by have:=q.den_nz;omega
def A55(p q:Rat):p/q=aF (p.num*q.den) (p.den*q.num):=by
 rw [Rat.div_def,<- aG p,<- aG q,Rat.inv_divInt,Rat.divInt_mul_divInt]
 rw [aG,aG]
def Sz.add{m n:Nat}{p q:Rat}(hp:Sz m p)(hq:Sz n q):Sz (m+n+1) (p+q):=by
 rw [Ut]
 refine A0u (Int.mul_ne_zero (den_ne p) (den_ne q)) ?_ ((hp.den.mul hq.den).mono (by omega))
 exact (hp.num.mul hq.den).add ((hq.num.mul hp.den).mono (by omega))
def Sz.mul{m n:Nat}{p q:Rat}(hp:Sz m p)(hq:Sz n q):Sz (m+n) (p*q):=by
 rw [Ue]
 exact A0u (Int.mul_ne_zero (den_ne p) (den_ne q)) (hp.num.mul hq.num) (hp.den.mul hq.den)
def Sz.zero{m:Nat}(hm:1<=m):Sz m 0:=⟨ZB.zero,ZB.one hm⟩
def Sz.inv{m:Nat}{q:Rat}(h:Sz m q)(hm:1<=m):Sz m q⁻¹:=by
 constructor
 ·rw [Rat.num_inv]
  refine h.den.le ?_
  rw [aN]
  by_cases a:q.num=0
  ·rw [a];simp
  ·rw [Int.natAbs_sign];simp [a]
 ·rw [Rat.den_inv]
  split
  ·exact ZB.one hm
  ·have:=h.num
   unfold ZB at *
   simpa using this
def Sz.div{m n:Nat}{p q:Rat}(hp:Sz m p)(hq:Sz n q)(hn:1<=n):Sz (m+n) (p/q):=by
 rw [Rat.div_def];exact hp.mul (hq.inv hn)
def Sz.int{m:Nat}{z:Int}(h:ZB m z)(hm:1<=m):Sz m (z:Rat):=⟨by simpa using h,by simpa using ZB.one hm⟩
section
variable {h h':Heap} {K:VP} {A B:Option Addr} {n c n' c':Nat} {s s':Bool} {x y z:Int} {m:Nat} {p q:Rat} {a b w:QV}
end
def dch(d:Nat):UInt8:=UInt8.ofNat (48+d)
def Fu{d:Nat}(h:d<10):(dch d).toNat=48+d:=by
 unfold dch;rw [UInt8.toNat_ofNat'];omega
def H0(c:UInt8):Prop:=48<=c.toNat/\c.toNat<=57
instance (c:UInt8):Decidable (H0 c):=by unfold H0;infer_instance
def B5n{d:Nat}(h:d<10):H0 (dch d):=by unfold H0;rw [Fu h];omega
def B3n{c:UInt8}(h:H0 c):dch (c.toNat-48)=c:=by
 unfold H0 at h
 apply UInt8.toNat_inj.1
 rw [Fu (by omega)];omega
def dd(n:Nat):List UInt8:=if _h:n=0 then [] else dd (n/10)++[dch (n%10)]
def F9:dd 0=[]:=by unfold dd;simp
def P6{n:Nat}(h:n≠0):dd n=dd (n/10)++[dch (n%10)]:=by rw [dd];simp [h]
def N2(l:List UInt8):Nat:=l.foldl (fun a c=>10*a+(c.toNat-48)) 0
def Kl(l:List UInt8)(c:UInt8):N2 (l++[c])=10*N2 l+(c.toNat-48):=by simp [N2]
def B5k(l:List UInt8):∀ a,l.foldl (fun a c=>10*a+(c.toNat-48)) a=a*10^l.length+N2 l:=by
 induction l with
 | nil=>intro a;simp [N2]
 | cons c l ih=>
  intro a
  unfold N2
  rw [List.foldl_cons,List.foldl_cons,ih,ih,List.length_cons,aE]
  grind
def Iu(a b:List UInt8):N2 (a++b)=N2 a*10^b.length+N2 b:=by
 unfold N2;rw [List.foldl_append,B5k b];rfl
def A8h(c:UInt8)(l:List UInt8):N2 (c::l)=(c.toNat-48)*10^l.length+N2 l:=by
 rw [<- List.singleton_append,Iu];simp [N2]
def It{l:List UInt8}(h:∀ c∈l,H0 c):N2 l<10^l.length:=by
 induction l with
 | nil=>simp [N2]
 | cons c l ih=>
  have d:=ih fun x b=>h x (by simp [b])
  have a:=h c (by simp)
  unfold H0 at a
  rw [A8h,List.length_cons,aE]
  have:(c.toNat-48)*10^l.length<=9*10^l.length:=Nat.mul_le_mul_right _ (by omega)
  omega
def B5l(n:Nat):N2 (dd n)=n:=by
 induction n using aL with
 | _ n ih=>
  by_cases h:n=0
  ·subst h;rw [F9];rfl
  ·rw [P6 h,Kl,ih _ (by omega),Fu (by omega)];omega
def B8k(n:Nat):∀ c∈dd n,H0 c:=by
 induction n using aL with
 | _ n ih=>
  by_cases h:n=0
  ·subst h;rw [F9];simp
  ·rw [P6 h]
   intro c b
   rcases List.mem_append.1 b with a|a
   ·exact ih _ (by omega) c a
   ·rw [List.mem_singleton.1 a];exact B5n (by omega)
def B5m{n:Nat}(h:n≠0):dd n≠[]:=by rw [P6 h];simp
def A8m(n:Nat)(h:n≠0):(dd n).head? ≠ some 48:=by
 induction n using aL with
 | _ n ih=>
  rw [P6 h]
  by_cases a:n/10=0
  ·rw [a,F9]
   simp only [List.nil_append,List.head?_cons,ne_eq,Option.some.injEq]
   intro e
   have:=Fu (d:=n%10) (by omega)
   rw [e] at this
   simp at this
   omega
  ·have:=ih _ (by omega) a
   obtain ⟨c,r,e⟩:=aM (B5m a)
   rw [e] at this ⊢
   simpa using this
def A8n{l:List UInt8}(h:∀ c∈l,H0 c)(h0:l.head? ≠ some 48):dd (N2 l)=l:=by
 obtain ⟨n,i⟩:∃ n,l.length=n:=⟨_,rfl⟩
 induction n generalizing l with
 | zero=>rw [aK i];exact F9
 | succ n ih=>
  obtain ⟨m,c,rfl⟩:∃ m c,l=m++[c]:=by
   refine ⟨l.dropLast,l.getLast (by rintro rfl;simp at i),?_⟩
   rw [List.dropLast_concat_getLast]
  have g:=h c (by simp)
  have b:=g
  unfold H0 at b
  rw [Kl]
  cases m with
  | nil=>
   simp at h0
   have o:c.toNat-48≠0:=by
    intro e
    apply h0
    apply UInt8.toNat_inj.1
    show c.toNat=48
    omega
   rw [P6 (by simp [N2];omega)]
   simp only [N2,List.foldl_nil,List.nil_append]
   rw [show (10*0+(c.toNat-48))/10=0 by omega,F9,show (10*0+(c.toNat-48))%10=c.toNat-48 by omega,B3n g];rfl
  | cons d m=>
   have a:=ih (l:=d::m) (fun x j=>h x (by simp at j ⊢;rcases j with h|h<;>simp [h])) (by simpa using h0) (by simpa using i)
   have k:N2 (d::m)≠0:=by
    intro e
    rw [e,F9] at a
    cases a
   rw [P6 (by omega),show (10*N2 (d::m)+(c.toNat-48))/10=N2 (d::m) by omega,a,show (10*N2 (d::m)+(c.toNat-48))%10=c.toNat-48 by omega,B3n g]
def Q5{n k:Nat}:(dd n).length<=k↔n<10^k:=by
 induction k generalizing n with
 | zero=>
  constructor
  ·intro h
   have:dd n=[]:=aK (by omega)
   by_cases a:n=0
   ·subst a;decide
   ·exact absurd this (B5m a)
  ·intro h
   have:n=0:=by simp at h;exact h
   subst this;rw [F9];simp
 | succ k ih=>
  by_cases a:n=0
  ·subst a;rw [F9];simp [aD]
  ·rw [P6 a,aI,List.length_singleton,Nat.add_le_add_iff_right,ih,aE]
   omega
def pad(w n:Nat):List UInt8:=List.replicate (w-(dd n).length) 48++dd n
def A3j(n:Nat):pad 0 n=dd n:=by simp [pad]
def Ub{w n:Nat}(h:n<10^w):(pad w n).length=w:=by
 have:=Q5.2 h
 simp [pad];omega
def Pb(w n:Nat):pad (w+1) n=pad w (n/10)++[dch (n%10)]:=by
 unfold pad
 by_cases h:n=0
 ·subst h
  rw [F9]
  simp only [List.length_nil,Nat.sub_zero,List.append_nil,Nat.zero_mod]
  rw [List.replicate_succ'];rfl
 ·rw [P6 h,aI,List.length_singleton,Nat.add_sub_add_right,aC]
def B8j{h l k:Nat}(h0:h≠0)(hl:l<10^k):dd (h*10^k+l)=dd h++pad k l:=by
 induction k generalizing l with
 | zero=>
  have:l=0:=by simpa using hl
  subst this;simp [pad,F9]
 | succ k ih=>
  have d:0<10^k:=aD (by decide)
  have a:h*10^(k+1)+l≠0:=by
   have:0<h*10^(k+1):=Nat.mul_pos (by omega) (aD (by decide))
   omega
  have b:(h*10^(k+1)+l)/10=h*10^k+l/10:=by
   rw [aE,<- Nat.mul_assoc];omega
  have c:(h*10^(k+1)+l)%10=l%10:=by
   rw [aE,<- Nat.mul_assoc];omega
  rw [P6 a,b,c,ih (by rw [aE] at hl;omega),Pb,aC]
def Zm{w h l k:Nat}(hl:l<10^k)(hw:h≠0\/k<=w):pad w (h*10^k+l)=pad (w-k) h++pad k l:=by
 by_cases b:h=0
 ·subst b
  have c:k<=w:=by
   rcases hw with h|h
   ·exact absurd rfl h
   ·exact h
  have:=Q5.2 hl
  unfold pad
  rw [F9]
  simp only [Nat.zero_mul,Nat.zero_add,List.length_nil,Nat.sub_zero,List.append_nil,<- aC,List.replicate_append_replicate]
  congr 2;omega
 ·have e:=B8j b hl
  have a:=Ub hl
  unfold pad at a
  unfold pad at e ⊢
  rw [e,aI,a,<- aC]
  congr 3;omega
def L0(n:Nat):List UInt8:=if n=0 then [48] else dd n
def Ag{n:Nat}(h:n≠0):L0 n=dd n:=by simp [L0,h]
def Km(n:Nat):N2 (L0 n)=n:=by
 unfold L0;split
 ·rename_i h;subst h;rfl
 ·exact B5l n
def A3y(n:Nat):∀ c∈L0 n,H0 c:=by
 unfold L0;split
 ·intro c a;rw [List.mem_singleton.1 a];decide
 ·exact B8k n
def A2h(n:Nat):L0 n≠[]:=by
 unfold L0;split
 ·simp
 ·rename_i h;exact B5m h
def B24{a b:Nat}(h:L0 a=L0 b):a=b:=by rw [<- Km a,h,Km]
def Ko{l:List UInt8}(h:∀ c∈l,H0 c)(hn:l≠[])(h0:l.head? ≠ some 48\/l=[48]):L0 (N2 l)=l:=by
 rcases h0 with h0|h0
 ·have:=A8n h h0
  rw [Ag,this]
  intro e
  rw [e,F9] at this
  exact hn this.symm
 ·subst h0;rfl
def Kn{n k:Nat}(hk:0<k):(L0 n).length<=k↔n<10^k:=by
 by_cases h:n=0
 ·subst h;have:0<10^k:=aD (by decide);simp [L0];omega
 ·rw [Ag h];exact Q5
def Hp(z:Int):List UInt8:=if z<0 then 45::L0 z.natAbs else L0 z.natAbs
def C9(q:Rat):List UInt8:=Hp q.num++(if q.den=1 then [] else 47::L0 q.den)
structure Form (s:List UInt8) (neg:Bool) (a b:List UInt8):Prop where
 eq:s=(if neg then [45] else [])++a++(if b=[] then [] else 47::b)
 da:∀ c∈a,H0 c
 db:∀ c∈b,H0 c
 ne:a≠[]
 ha:a.head? ≠ some 48\/(a=[48]/\neg=false/\b=[])
 hb:b.head? ≠ some 48
 b1:b≠[49]
def B1p{c:UInt8}(h:H0 c):c≠45/\c≠47:=by
 unfold H0 at h
 constructor<;>(rintro rfl;revert h;decide)
def Do{a r:List UInt8}(h:∀ c∈a,H0 c)(hr:∀ c,r.head? = some c->¬ H0 c):(a++r).takeWhile (fun c=>decide (H0 c))=a/\(a++r).dropWhile (fun c=>decide (H0 c))=r:=by
 induction a with
 | nil=>
  cases r with
  | nil=>simp
  | cons c r=>
   have:=hr c rfl
   simp [this]
 | cons c a ih=>
  have b:=h c (by simp)
  have:=ih fun x d=>h x (by simp [d])
  simp [b,this]
def Form.head{s:List UInt8}{neg:Bool}{a b:List UInt8}(f:Form s neg a b):neg=(s.head? == some 45):=by
 obtain ⟨c,r,e⟩:=aM f.ne
 have d:=(B1p (f.da c (by simp [e]))).1
 rw [f.eq,e]
 cases neg<;>simp [d]
def Form.unique{s:List UInt8}{neg neg':Bool}{a b a' b':List UInt8}(f:Form s neg a b)(g:Form s neg' a' b'):neg=neg'/\a=a'/\b=b':=by
 have q:neg=neg':=by rw [f.head,g.head]
 subst q
 have e:=f.eq.symm.trans g.eq
 rw [aC,aC] at e
 have p:=List.append_cancel_left e
 have m:∀ b:List UInt8,∀ c,(if b=[] then [] else 47::b:List UInt8).head? = some c->¬ H0 c:=by
  intro b c d
  split at d
  ·simp at d
  ·simp at d;subst d;decide
 have j:=Do f.da (m b)
 have l:=Do g.da (m b')
 rw [p] at j
 have n:a=a':=j.1.symm.trans l.1
 have k:=j.2.symm.trans l.2
 refine ⟨rfl,n,?_⟩
 by_cases o:b=[]<;>by_cases i:b'=[]<;>simp [o,i] at k ⊢
 exact k
def Rh{q:Rat}(h:q.num=0):q.den=1:=by
 have:=q.reduced
 rw [h] at this
 simpa using this
def Fc(q:Rat):Form (C9 q) (decide (q.num<0)) (L0 q.num.natAbs) (if q.den=1 then [] else L0 q.den):=by
 constructor
 ·unfold C9 Hp
  by_cases c:q.num<0<;>by_cases b:q.den=1<;>simp [c,b,A2h]
 ·exact A3y _
 ·split
  ·simp
  ·exact A3y _
 ·exact A2h _
 ·by_cases h:q.num=0
  ·right
   rw [Rh h,h];simp [L0]
  ·left
   rw [Ag (by omega)];exact A8m _ (by omega)
 ·split
  ·simp
  ·rw [Ag q.den_nz];exact A8m _ q.den_nz
 ·split
  ·simp
  ·rename_i h
   intro e
   have a:L0 q.den=L0 1:=by rw [e];simp [L0,P6,F9,dch]
   exact h (B24 a)
def Nx(neg:Bool)(a:List UInt8):Int:=if neg then -(N2 a:Int) else N2 a
def Jb(b:List UInt8):Nat:=if b=[] then 1 else N2 b
def Rf{b:List UInt8}(h:∀ c∈b,H0 c)(hn:b≠[])(h0:b.head? ≠ some 48):N2 b≠0:=by
 intro e
 have:=A8n h h0
 rw [e,F9] at this
 exact hn this.symm
def Form.den_ne{s:List UInt8}{neg:Bool}{a b:List UInt8}(f:Form s neg a b):Jb b≠0:=by
 unfold Jb;split
 ·decide
 ·rename_i h;exact Rf f.db h f.hb
def Form.txt{s:List UInt8}{neg:Bool}{a b:List UInt8}(f:Form s neg a b){q:Rat}(h1:q.num=Nx neg a)(h2:q.den=Jb b):s=C9 q:=by
 have l:L0 (N2 a)=a:=Ko f.da f.ne (f.ha.imp id fun h=>h.1)
 have g:(Nx neg a).natAbs=N2 a:=by unfold Nx;split<;>simp
 have c:(Nx neg a<0)↔neg=true:=by
  unfold Nx
  cases neg
  ·simp
  ·simp only [if_true]
   constructor
   ·intro _;trivial
   ·intro _
    have:N2 a≠0:=by
     rcases f.ha with h|h
     ·exact Rf f.da f.ne h
     ·exact absurd h.2.1 (by simp)
    omega
 have i:(Jb b=1)↔b=[]:=by
  unfold Jb
  split
  ·rename_i h;simp [h]
  ·rename_i h
   constructor
   ·intro e
    exfalso
    have j:=Ko f.db h (Or.inl f.hb)
    rw [e] at j
    apply f.b1
    rw [<- j];simp [L0,P6,F9,dch]
   ·intro e;exact absurd e h
 rw [f.eq]
 unfold C9 Hp
 rw [h1,h2,g,l]
 by_cases d:b=[]
 ·rw [iP d,iP (i.2 d)]
  cases neg
  ·rw [iN (fun e=>Bool.noConfusion (c.1 e))];simp
  ·rw [iP (c.2 rfl)];simp
 ·rw [iN d,iN (fun e=>d (i.1 e))]
  have k:L0 (Jb b)=b:=by
   unfold Jb;rw [iN d];exact Ko f.db d (Or.inl f.hb)
  rw [k]
  cases neg
  ·rw [iN (fun e=>Bool.noConfusion (c.1 e))];simp
  ·rw [iP (c.2 rfl)];simp
def Form.of_txt{s:List UInt8}{neg:Bool}{a b:List UInt8}(f:Form s neg a b){q:Rat}(e:s=C9 q):q.num=Nx neg a/\q.den=Jb b:=by
 subst e
 obtain ⟨c,g,d⟩:=f.unique (Fc q)
 subst c g d
 constructor
 ·unfold Nx
  rw [Km]
  by_cases h:q.num<0
  ·simp [h];omega
  ·simp [h];omega
 ·unfold Jb
  by_cases h:q.den=1
  ·simp [h]
  ·simp [h,A2h,Km]
def Bg{p q:Rat}(e:C9 p=C9 q):p=q:=by
 have f:=Fc p
 have b:=f.of_txt rfl
 have a:=f.of_txt e
 exact Rat.ext (b.1.trans a.1.symm) (b.2.trans a.2.symm)
def IsNum(s:List UInt8):Prop:=∃ q,s=C9 q
def Form.isNum{s:List UInt8}{neg:Bool}{a b:List UInt8}(f:Form s neg a b):IsNum s↔Nat.gcd (N2 a) (Jb b)=1:=by
 have c:(Nx neg a).natAbs=N2 a:=by unfold Nx;split<;>simp
 constructor
 ·rintro ⟨q,e⟩
  have:=f.of_txt e
  have d:=q.reduced
  rw [this.1,this.2,c] at d
  exact d
 ·intro h
  exact ⟨⟨Nx neg a,Jb b,f.den_ne,by rw [c];exact h⟩,f.txt rfl rfl⟩
def IsNum.form{s:List UInt8}(h:IsNum s):∃ neg a b,Form s neg a b:=by
 obtain ⟨q,rfl⟩:=h
 exact ⟨_,_,_,Fc q⟩
def B1b(s:List UInt8):Rat:=
 let neg:=s.head? == some 45
 let t:=if neg then s.drop 1 else s
 mkRat (Nx neg (t.takeWhile fun c=>decide (H0 c))) (Jb ((t.dropWhile fun c=>decide (H0 c)).drop 1))
def rv(s:List UInt8):Rat:=if C9 (B1b s)=s then B1b s else 0
def C3(q:Rat):rv (C9 q)=q:=by
 have f:=Fc q
 have l:=f.head
 have g:∀ b:List UInt8,∀ c,(if b=[] then [] else 47::b:List UInt8).head? = some c->¬ H0 c:=by
  intro b c a
  split at a
  ·simp at a
  ·simp at a;subst a;decide
 have e:B1b (C9 q)=q:=by
  unfold B1b
  simp only [<- l]
  generalize hb:(if q.den=1 then [] else L0 q.den)=b at f
  have k:(if decide (q.num<0)=true then (C9 q).drop 1 else C9 q)=L0 q.num.natAbs++(if b=[] then [] else 47::b):=by
   rw [f.eq]
   by_cases d:q.num<0<;>simp [d]
  rw [k,(Do f.da (g b)).1,(Do f.da (g b)).2]
  have i:=f.of_txt rfl
  have j:(if b=[] then [] else 47::b:List UInt8).drop 1=b:=by
   by_cases d:b=[]<;>simp [d]
  rw [j,<- i.1,<- i.2,Rat.mkRat_self]
 unfold rv
 rw [e,iP rfl]
def A3g{s:List UInt8}(h:¬ IsNum s):rv s=0:=by
 unfold rv
 rw [iN (fun e=>h ⟨_,e.symm⟩)]
def Form.rv_num{s:List UInt8}{neg:Bool}{a b:List UInt8}(f:Form s neg a b)(h:IsNum s):(rv s).num=Nx neg a/\(rv s).den=Jb b:=by
 obtain ⟨q,rfl⟩:=h
 rw [C3];exact f.of_txt rfl
