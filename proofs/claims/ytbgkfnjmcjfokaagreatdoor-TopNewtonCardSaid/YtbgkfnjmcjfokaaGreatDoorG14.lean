/- A part. -/
import Derived.Test.YtbgkfnjmcjfokaaGreatDoorG12
import Derived.Test.YtbgkfnjmcjfokaaGreatDoorG13
set_option linter.all false
open Int renaming mul_le_mul_of_nonneg_right->aC,mul_le_mul_of_nonneg_left->aE,dvd_mul_of_dvd_right->aF,mul_nonneg->aH,le_of_lt->aJ,mul_pos->aK,dvd_sub->aL,gcd->aN
open List renaming drop_of_length_le->aI,take_of_length_le->aO
namespace Go.Proofs.YtbgkfnjmcjfokaaGreatDoor
set_option maxRecDepth 20000
open Go
section
variable {h g:Heap} {K:VP} {A B:Option Addr} {ac bc:Nat}
def B0p{xs:List Int}{i:Nat}(hi:i<xs.length):xs.drop i=xs.getD i 0::xs.drop (i+1):=by
 simp_all
def Ra(B:Int){xs:List Int}{i:Nat}(hi:i<xs.length):val B (xs.drop i)=xs.getD i 0+B*val B (xs.drop (i+1)):=by
 rw [B0p hi];rfl
def Fc{xs:List Int}{i:Nat}{v:Int}(hi:i<xs.length):(xs.set i v).drop i=v::xs.drop (i+1):=by
 rw [List.drop_eq_getElem_cons gz0]
 simp [List.drop_set_of_lt]
end
def J9{xs ys:List Int}{i:Nat}(h:xs.drop i=ys.drop i):xs.getD i 0=ys.getD i 0:=by
 have a:(xs.drop i)[0]? = (ys.drop i)[0]? :=by rw [h]
 grind
def H9{xs ys:List Int}{i:Nat}(h:xs.drop i=ys.drop i):xs.drop (i+1)=ys.drop (i+1):=by
 rw [<- List.drop_drop,<- List.drop_drop,h]
def G7{xs:List Int}{i j:Nat}{v:Int}(h:i<j):(xs.set i v).drop j=xs.drop j:=List.drop_set_of_lt h
section
variable {h g:Heap} {K:VP} {A B:Option Addr} {ac bc:Nat}
end
structure Est (B P top u2 ul v1 v2 vl U V:Int):Prop where
 hB:1<B
 hP:0<P
 hU:U=(top*B+u2)*P+ul
 hV:V=(v1*B+v2)*P+vl
 u2r:0<=u2/\u2<B
 ulr:0<=ul/\ul<P
 v2r:0<=v2/\v2<B
 vlr:0<=vl/\vl<P
 top0:0<=top
 v1r:B<=2*v1/\v1<B
 lt:U<V*B
section
variable {B P top u2 ul v1 v2 vl U V:Int}
def Est.U0(e:Est B P top u2 ul v1 v2 vl U V):0<=U:=by
 obtain ⟨l,j,m,n,i,c,g,b,a,d,lt⟩:=e
 have k:0<=top*B:=aH a o
 have:0<=(top*B+u2)*P:=aH o o
 omega
def Est.V0(e:Est B P top u2 ul v1 v2 vl U V):0<V:=by
 obtain ⟨l,c,m,n,j,d,i,b,a,g,lt⟩:=e
 have k:0<v1*B:=aK o o
 have:0<(v1*B+v2)*P:=aK o c
 omega
def Est.V2(e:Est B P top u2 ul v1 v2 vl U V):B<=v1*B+v2:=by
 obtain ⟨k,j,l,m,i,c,g,b,a,d,lt⟩:=e
 have:1*B<=v1*B:=aC o o
 omega
def Est.low(e:Est B P top u2 ul v1 v2 vl U V){q:Int}(h0:0<=q)(h:top*B+u2<q*(v1*B+v2)):U<q*V:=by
 obtain ⟨m,j,p,r,i,c,g,a,b,d,lt⟩:=e
 have l:(top*B+u2+1)*P<=q*(v1*B+v2)*P:=aC o o
 have k:0<=q*vl:=aH h0 a.1
 have n:q*V=q*(v1*B+v2)*P+q*vl:=gz0
 grind
def Est.big(e:Est B P top u2 ul v1 v2 vl U V){q:Int}(h:B<=q):U<q*V:=by
 have:=aC h (aJ e.V0)
 have:=e.lt
 grind
def Est.init(e:Est B P top u2 ul v1 v2 vl U V):U<(top/v1+1)*V:=by
 obtain ⟨r,c,u,w,l,i,b,d,a,k,lt⟩:=e
 have n:0<=top/v1:=Int.ediv_nonneg a o
 have j:top+1<=(top/v1+1)*v1:=by
  have:=Int.mul_ediv_add_emod top v1
  have:=Int.emod_lt_of_pos top (show 0<v1 from o)
  grind
 have g:0<B*P:=aK o c
 have p:(top+1)*(B*P)<=(top/v1+1)*v1*(B*P):=aC j o
 have s:0<=(top/v1+1)*(v2*P+vl):=aH o (by have:=aH b.1 (aJ c);omega)
 have q:(top/v1+1)*V=(top/v1+1)*v1*(B*P)+(top/v1+1)*(v2*P+vl):=gz0
 have m:(u2+1)*P<=B*P:=aC o o
 grind
def Est.up(e:Est B P top u2 ul v1 v2 vl U V){q:Int}(hq:q<=B)(h:q*(v1*B+v2)<=top*B+u2):(q-1)*V<=U:=by
 have i:=e.V2
 have l:=e.V0
 have b:=e.U0
 obtain ⟨w,m,x,y,j,d,k,c,a,g,lt⟩:=e
 by_cases r:q<=0
 ·have:(q-1)*V<=0:=Int.mul_nonpos_of_nonpos_of_nonneg o o
  omega
 ·have n:(q-1)*vl<=(q-1)*P:=aE o o
  have u:(q*(v1*B+v2))*P<=(top*B+u2)*P:=aC h o
  have p:(q-1)*V=(q*(v1*B+v2))*P-(v1*B+v2)*P+(q-1)*vl:=gz0
  have s:(q-1)*P<=(v1*B+v2)*P:=aC o o
  omega
def Est.first(e:Est B P top u2 ul v1 v2 vl U V):top<(v1+1)*B/\top/v1<=B+1:=by
 obtain ⟨r,g,s,u,a,j,n,c,b,k,lt⟩:=e
 have d:0<B*P:=aK o g
 have q:top*(B*P)<=U:=by
  have:0<=u2*P:=aH a.1 o
  grind
 have p:V<(v1+1)*(B*P):=by
  have m:(v2+1)*P<=B*P:=aC o o
  grind
 have m:V*B<=(v1+1)*(B*P)*B:=aC o o
 have i:top*(B*P)<(v1+1)*B*(B*P):=by
  grind
 have l:top<(v1+1)*B:=Int.lt_of_mul_lt_mul_right i o
 refine ⟨l,?_⟩
 have:top/v1<B+2:=by
  apply Int.ediv_lt_of_lt_mul o
  grind
 omega
end
def Nm(k:IntKind)(e:TypeId)(g:Heap)(bu:Nat)(us:List Int)(bq:Nat)(qs:List Int):Heap:=blk k e (blk k e g bu us) bq qs
section
variable {k:IntKind} {e:TypeId} {g:Heap} {bu bq:Nat} {us qs:List Int}
def B19(hu:g bu=none)(hq:g bq=none)(hne:bu≠bq):g.le (Nm k e g bu us bq qs):=
 A0 (Wd hu us) (Wd (by unfold blk;rw [B6 _ _ hne.symm];exact hq) qs)
def Hw(hne:bu≠bq):Nm k e g bu us bq qs=blk k e (blk k e g bq qs) bu us:=by
 exact Heap.put_comm g _ _ hne
def B18(hne:bu≠bq):SlI k (Nm k e g bu us bq qs) (some ⟨bu,0,none⟩) us:=by
 rw [Hw hne];exact Tm k e _ bu us
def C2s:SlI k (Nm k e g bu us bq qs) (some ⟨bq,0,none⟩) qs:=Tm k e _ bq qs
def Kj{P:Program}{t:TypeId}(one:P.cellsOf t=1/\(P.info? t).isSome=true)(hne:bu≠bq){n i:Int}(hi:i.toNat<us.length){K:Unit->Heap->Prop}
 (x:K () (Nm k e g bu (us.set i.toNat n) bq qs)):wpH P (Instr.storeAt t (.pointer (some (Addr.add ⟨bu,0,none⟩ (i.toNat*1)))) (.int k n)) K (Nm k e g bu us bq qs):=by
 rw [Hw hne]
 rw [Hw hne] at x
 exact Tl one hi x
def A3z{P:Program}{t:TypeId}(one:P.cellsOf t=1/\(P.info? t).isSome=true){n i:Int}(hi:i.toNat<qs.length){K:Unit->Heap->Prop}
 (x:K () (Nm k e g bu us bq (qs.set i.toNat n))):wpH P (Instr.storeAt t (.pointer (some (Addr.add ⟨bq,0,none⟩ (i.toNat*1)))) (.int k n)) K (Nm k e g bu us bq qs):=
 Tl one hi x
end
def B02{xs:List Int}{j i:Nat}:(xs.drop j).getD i 0=xs.getD (j+i) 0:=gz0
section
variable {g:Heap} {bu bq:Nat} {us qs:List Int} {VA:Option Addr} {vs:List Int}
end
def L0(B:Int)(xs:List Int)(i:Nat):val B (xs.take (i+1))=val B (xs.take i)+B^i*xs.getD i 0:=by
 by_cases a:i<xs.length
 ·exact S9 B a
 ·rw [aO o,aO o]
  grind
def B28(B:Int){vs:List Int}{m:Nat}(hn:vs.length=m+2):val B vs=(vs.getD (m+1) 0*B+vs.getD m 0)*B^m+val B (vs.take m):=by
 have a:=L0 B vs (m+1)
 have b:=L0 B vs m
 grind
def B27(B:Int){us:List Int}{m:Nat}(hn:us.length=m+3):val B us=((us.getD (m+2) 0*B+us.getD (m+1) 0)*B+us.getD m 0)*B^m+val B (us.take m):=by
 have a:=L0 B us (m+2)
 have b:=L0 B us (m+1)
 have c:=L0 B us m
 grind
def C2a{B:Int}(hB:1<B){us vs:List Int}{m:Nat}(du:Dig B us)(dv:Dig B vs)(hu:us.length=m+3)(hv:vs.length=m+2)(h1:B<=2*vs.getD (m+1) 0)(hlt:val B us<val B vs*B):
 Est B (B^m) (us.getD (m+2) 0*B+us.getD (m+1) 0) (us.getD m 0) (val B (us.take m)) (vs.getD (m+1) 0) (vs.getD m 0) (val B (vs.take m)) (val B us) (val B vs):=by
 have a:0<B:=o
 have c:=R9 a (du.take m)
 have b:=R9 a (dv.take m)
 rw [List.length_take,Nat.min_eq_left o] at c b
 refine ⟨hB,Int.pow_pos a,B27 B hu,B28 B hv,du.getD a _,⟨C5 a (du.take m),c⟩,dv.getD a _,⟨C5 a (dv.take m),b⟩,?_,⟨h1,(dv.getD a _).2⟩,hlt⟩
 have:=aH (du.getD a (m+2)).1 (aJ a)
 have:=(du.getD a (m+1)).1
 omega
def Est.top{B P top u2 ul v1 v2 vl U V:Int}(e:Est B P top u2 ul v1 v2 vl U V)(h:v1*B<=top):(B-1-1)*V<=U/\U<(B-1+1)*V:=by
 obtain ⟨q,l,r,s,j,g,k,d,a,i,lt⟩:=e
 constructor
 ·have n:v1*B*B*P<=U:=by
   have b:v1*B*B<=top*B:=aC h o
   have c:v1*B*B*P<=(top*B+u2)*P:=aC o o
   omega
  have b:V<=(v1+1)*B*P:=by
   have c:(v2+1)*P<=B*P:=aC o o
   grind
  have c:(B-1-1)*V<=(B-1-1)*((v1+1)*B*P):=aE b o
  have m:(B-1-1)*((v1+1)*B*P)=v1*B*B*P-(2*v1+2-B)*(B*P):=gz0
  have p:0<=(2*v1+2-B)*(B*P):=aH o (aH o o)
  omega
 grind
structure LS (F S first second u0 v0 u1 v1 u2 v2:Int) (odd:Bool):Prop where
 hF:F=v2*first+v1*second
 hS:S=u2*first+u1*second
 det:u1*v2-u2*v1=if odd then -1 else 1
 ord:0<=second/\second<=first
 st:(u0=0/\v0=0/\u1=1/\v1=0/\u2=0/\v2=1)\/
  (((u0=1/\v0=0/\u1=0/\v1=1/\0<=u2/\u2<=v2/\1<=u2)\/(0<=u0/\u0<=v0/\1<=v0/\1<=u1/\u1<=v1/\1<=u2/\u2<=v2))/\
   (u0*v1-u1*v0=if odd then 1 else -1)/\∃ f0,F=v1*f0+v0*first/\S=u1*f0+u0*first/\v0+v1<=f0-first/\v1<=first)
def LS.init{F S:Int}(h0:0<=S)(h:S<=F):LS F S F S 0 0 1 0 0 1 false:=
 ⟨o,o,by simp,⟨h0,h⟩,.inl ⟨rfl,rfl,rfl,rfl,rfl,rfl⟩⟩
def LS.v2pos{F S first second u0 v0 u1 v1 u2 v2:Int}{odd:Bool}(l:LS F S first second u0 v0 u1 v1 u2 v2 odd):1<=v2/\0<=v1/\0<=u1/\0<=u2/\0<=u0/\0<=v0:=by
 obtain ⟨d,c,a,b,st⟩:=l
 grind
def LS.step{F S first second u0 v0 u1 v1 u2 v2:Int}{odd:Bool}(l:LS F S first second u0 v0 u1 v1 u2 v2 odd)(h1:v2<=second)(h2:v1+v2<=first-second):
 LS F S second (first%second) u1 v1 u2 v2 (u1+first/second*u2) (v1+first/second*v2) (!odd):=by
 obtain ⟨k,e,j,g,st⟩:=l
 have b:0<second:=o
 have d:1<=first/second:=by
  rw [Int.le_ediv_iff_mul_le b];omega
 have c:=Int.mul_ediv_add_emod first second
 have a:=Int.emod_nonneg first (show second≠0 from o)
 have i:=Int.emod_lt_of_pos first b
 have n:u2<=first/second*u2:=by
  have:=aC d (show 0<=u2 from o);omega
 have m:first/second*u2<=first/second*v2:=aE o o
 refine ⟨?_,?_,?_,⟨a,o⟩,.inr ⟨?_,?_,first,?_,?_,o,h1⟩⟩
 ·grind
 ·grind
 ·grind
 ·rcases st with st|⟨st,_⟩
  ·grind
  ·right;omega
 ·grind
 ·rw [k]
 ·rw [e]
def LS.bound{F S first second u0 v0 u1 v1 u2 v2:Int}{odd:Bool}(l:LS F S first second u0 v0 u1 v1 u2 v2 odd)(hf:1<=first):v2<=F/\u2<=F/\u2<=v2:=by
 obtain ⟨g,d,b,a,st⟩:=l
 have e:v2*1<=v2*first:=aE hf o
 have c:0<=v1*second:=aH o o
 grind
def LS.bound2{F S first second u0 v0 u1 v1 u2 v2:Int}{odd:Bool}(l:LS F S first second u0 v0 u1 v1 u2 v2 odd)(hs:1<=second):v1+v2<=F:=by
 obtain ⟨g,d,b,a,st⟩:=l
 have e:v2*1<=v2*first:=aE o o
 have c:v1*1<=v1*second:=aE hs o
 omega
structure Leh (a b u0 v0 u1 v1 X0 X1:Int):Prop where
 ord:0<=X1/\X1<X0
 ha:a=v1*X0+v0*X1
 hb:b=u1*X0+u0*X1
 le:X0<=b
def Ok(a b u0 v0:Int)(odd:Bool):Int:=if odd then u0*a-v0*b else v0*b-u0*a
def Oj(a b u1 v1:Int)(odd:Bool):Int:=if odd then v1*b-u1*a else u1*a-v1*b
def LS.leh{F S first second u0 v0 u1 v1 u2 v2 a b al bl W:Int}{odd:Bool}(l:LS F S first second u0 v0 u1 v1 u2 v2 odd)(hv0:v0≠0)(hW:0<W)(ha:a=F*W+al)(hb:b=S*W+bl)(hal:0<=al/\al<W)(hbl:0<=bl/\bl<W):
 Leh a b u0 v0 u1 v1 (Ok a b u0 v0 odd) (Oj a b u1 v1 odd):=by
 obtain ⟨N,T,y,r,st⟩:=l
 rcases st with st|⟨st,p,j,u,w,q,m⟩
 ·omega
 have O:first*W>=v1*W:=aC m o
 have C:(j-first)*W>=(v0+v1)*W:=aC q o
 have G:v1*bl<=v1*W:=aE o o
 have X:u1*al<=u1*W:=aE o o
 have L:u1*W<=v1*W:=aC o o
 have Q:0<=u1*al:=aH o o
 have M:0<=v1*bl:=aH o o
 have E:(v0+v1)*(bl+1)<=(v0+v1)*W:=aE o o
 have B:(u0+u1)*(al+1)<=(u0+u1)*W:=aE o o
 have V:(u0+u1)*W<=(v0+v1)*W:=aC o o
 have A:0<=(u0+u1)*al:=aH o o
 have z:0<=(v0+v1)*bl:=aH o o
 have g:∀ X0 X1:Int,0<=X1->X1<X0->b=u1*X0+u0*X1->X0<=b:=by
  intro X0 X1 s H e
  have D:1*X0<=u1*X0:=aC o o
  have R:0<=u0*X1:=aH o s
  omega
 cases odd with
 | true=>
  have x:v1*b-u1*a=first*W+v1*bl-u1*al:=by
   grind
  have k:u0*a-v0*b-(v1*b-u1*a)=(j-first)*W+(u0+u1)*al-(v0+v1)*bl:=by
   grind
  have d:0<=v1*b-u1*a:=o
  have c:v1*b-u1*a<u0*a-v0*b:=by
   grind
  have n:a=v1*(u0*a-v0*b)+v0*(v1*b-u1*a):=by
   grind
  have i:b=u1*(u0*a-v0*b)+u0*(v1*b-u1*a):=by
   grind
  exact ⟨⟨d,c⟩,n,i,g _ _ d c i⟩
 | false=>
  have x:u1*a-v1*b=first*W+u1*al-v1*bl:=by
   grind
  have k:v0*b-u0*a-(u1*a-v1*b)=(j-first)*W+(v0+v1)*bl-(u0+u1)*al:=by
   grind
  have d:0<=u1*a-v1*b:=o
  have c:u1*a-v1*b<v0*b-u0*a:=by
   grind
  have n:a=v1*(v0*b-u0*a)+v0*(u1*a-v1*b):=by
   grind
  have i:b=u1*(v0*b-u0*a)+u0*(u1*a-v1*b):=by
   grind
  exact ⟨⟨d,c⟩,n,i,g _ _ d c i⟩
def Leh.gcd{a b u0 v0 u1 v1:Int}{odd:Bool}(l:Leh a b u0 v0 u1 v1 (Ok a b u0 v0 odd) (Oj a b u1 v1 odd)):aN (Ok a b u0 v0 odd) (Oj a b u1 v1 odd)=aN a b:=by
 apply Nat.dvd_antisymm
 ·have g:=l.ha
  have i:=l.hb
  generalize Ok a b u0 v0 odd=p at *
  generalize Oj a b u1 v1 odd=q at *
  have dp:(aN p q:Int)∣p:=Int.gcd_dvd_left p q
  have e:(aN p q:Int)∣q:=Int.gcd_dvd_right p q
  rw [<- Int.ofNat_dvd]
  apply Int.dvd_coe_gcd
  ·rw [g];exact Int.dvd_add (aF dp) (aF e)
  ·rw [i];exact Int.dvd_add (aF dp) (aF e)
 ·have c:(aN a b:Int)∣a:=Int.gcd_dvd_left a b
  have d:(aN a b:Int)∣b:=Int.gcd_dvd_right a b
  rw [<- Int.ofNat_dvd]
  apply Int.dvd_coe_gcd
  ·unfold Ok;split
   ·exact aL (aF c) (aF d)
   ·exact aL (aF d) (aF c)
  ·unfold Oj;split
   ·exact aL (aF d) (aF c)
   ·exact aL (aF c) (aF d)
def Yn(pre ws:List Int)(i:Nat):(pre++ws).getD (i+pre.length) 0=ws.getD i 0:=by
 grind
def A2z(pre ws:List Int)(i:Nat)(v:Int):(pre++ws).set (i+pre.length) v=pre++ws.set i v:=by
 grind
def Ub{B:Int}(hB:0<B){ws:List Int}{n:Nat}(d:Dig B ws)(h:val B ws<B^n):val B (ws.drop n)=0:=by
 by_cases b:n<=ws.length
 ·have e:=J6 B ws b
  have c:=C5 hB (d.take n)
  have g:=C5 hB (d.drop n)
  by_cases a:val B (ws.drop n)=0
  ·exact a
  ·have:B^n*1<=B^n*val B (ws.drop n):=aE o (aJ (E9 hB n))
   omega
 ·rw [aI o];rfl
section
variable {g:Heap} {bu bq:Nat} {pre qs:List Int} {VA:Option Addr} {vs:List Int}
end
def A7m(B:Int)(xs:List Int)(i:Nat):val B (xs.drop i)=xs.getD i 0+B*val B (xs.drop (i+1)):=by
 by_cases a:i<xs.length
 ·exact Ra B a
 ·rw [aI o,aI o]
  simp [val,List.getD,List.getElem?_eq_none (Nat.le_of_not_lt a)]
section
variable {h g:Heap} {K:VP} {A B:Option Addr} {ac bc:Nat} {bu bq:Nat} {VA:Option Addr} {vs us0:List Int}
end
