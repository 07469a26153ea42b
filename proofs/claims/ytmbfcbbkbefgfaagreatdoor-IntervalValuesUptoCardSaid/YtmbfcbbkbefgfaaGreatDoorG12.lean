/- A part. -/
import Derived.Test.YtmbfcbbkbefgfaaGreatDoorG10
import Derived.Test.YtmbfcbbkbefgfaaGreatDoorG11
set_option linter.all false
open Int renaming mul_le_mul_of_nonneg_right->aC,mul_le_mul_of_nonneg_left->aD,dvd_mul_of_dvd_right->aE,mul_nonneg->aF,le_of_lt->aI,mul_pos->aJ,dvd_sub->aK,gcd->aL,pow_succ->aO
open List renaming drop_of_length_le->aG,getD->aH,drop_eq_getElem_cons->aM,take_of_length_le->aN
namespace Go.Proofs.YtmbfcbbkbefgfaaGreatDoor
set_option maxRecDepth 20000
open Go
section
variable {h g:Heap} {K:VP} {A B:Option Addr} {ac bc:Nat}
def A8i{xs:List Int}{i:Nat}(hi:i<xs.length):xs.drop i=xs.getD i 0::xs.drop (i+1):=by
 rw [aM hi];simp [aH,hi]
def Pa(B:Int){xs:List Int}{i:Nat}(hi:i<xs.length):val B (xs.drop i)=xs.getD i 0+B*val B (xs.drop (i+1)):=by
 rw [A8i hi];rfl
def Ef{xs:List Int}{i:Nat}{v:Int}(hi:i<xs.length):(xs.set i v).drop i=v::xs.drop (i+1):=by
 rw [aM (by simpa using hi)]
 simp [List.drop_set_of_lt]
end
def G6{xs ys:List Int}{i:Nat}(h:xs.drop i=ys.drop i):xs.getD i 0=ys.getD i 0:=by
 have a:(xs.drop i)[0]? = (ys.drop i)[0]? :=by rw [h]
 simp at a
 simp [aH,a]
def F1{xs ys:List Int}{i:Nat}(h:xs.drop i=ys.drop i):xs.drop (i+1)=ys.drop (i+1):=by
 rw [<- List.drop_drop,<- List.drop_drop,h]
def E5{xs:List Int}{i j:Nat}{v:Int}(h:i<j):(xs.set i v).drop j=xs.drop j:=List.drop_set_of_lt h
section
variable {h g:Heap} {K:VP} {A B:Option Addr} {ac bc:Nat}
end
structure Est (B P top u2 ul v1 v2 vl U V:Int):Prop where
 hB:1<B
 hP:0<P
 hU:U=(top*B+u2)*P+ul
 hV:V=(v1*B+v2)*P+vl
 u2r:0<=u2/\u2<B
 ulr:0<=ul/\ul<P
 v2r:0<=v2/\v2<B
 vlr:0<=vl/\vl<P
 top0:0<=top
 v1r:B<=2*v1/\v1<B
 lt:U<V*B
section
variable {B P top u2 ul v1 v2 vl U V:Int}
def Est.U0(e:Est B P top u2 ul v1 v2 vl U V):0<=U:=by
 obtain ⟨j,l,m,k,d,i,c,g,a,b,lt⟩:=e
 have n:0<=top*B:=aF a (by omega)
 have:0<=(top*B+u2)*P:=aF (by omega) (by omega)
 omega
def Est.V0(e:Est B P top u2 ul v1 v2 vl U V):0<V:=by
 obtain ⟨k,c,m,l,g,j,d,i,a,b,lt⟩:=e
 have n:0<v1*B:=aJ (by omega) (by omega)
 have:0<(v1*B+v2)*P:=aJ (by omega) c
 omega
def Est.V2(e:Est B P top u2 ul v1 v2 vl U V):B<=v1*B+v2:=by
 obtain ⟨j,l,m,k,d,i,c,g,a,b,lt⟩:=e
 have:1*B<=v1*B:=aC (by omega) (by omega)
 omega
def Est.low(e:Est B P top u2 ul v1 v2 vl U V){q:Int}(h0:0<=q)(h:top*B+u2<q*(v1*B+v2)):U<q*V:=by
 obtain ⟨l,m,n,d,i,j,g,a,b,c,lt⟩:=e
 have r:(top*B+u2+1)*P<=q*(v1*B+v2)*P:=aC (by omega) (by omega)
 have k:0<=q*vl:=aF h0 a.1
 have p:q*V=q*(v1*B+v2)*P+q*vl:=by rw [d];grind
 have o:(top*B+u2+1)*P=(top*B+u2)*P+P:=by grind
 omega
def Est.big(e:Est B P top u2 ul v1 v2 vl U V){q:Int}(h:B<=q):U<q*V:=by
 have:=aC h (aI e.V0)
 have:=e.lt
 rw [Int.mul_comm V] at this
 omega
def Est.init(e:Est B P top u2 ul v1 v2 vl U V):U<(top/v1+1)*V:=by
 obtain ⟨q,c,m,d,k,g,b,n,a,l,lt⟩:=e
 have o:0<=top/v1:=Int.ediv_nonneg a (by omega)
 have i:top+1<=(top/v1+1)*v1:=by
  have:=Int.mul_ediv_add_emod top v1
  have:=Int.emod_lt_of_pos top (show 0<v1 by omega)
  grind
 have j:0<B*P:=aJ (by omega) c
 have p:(top+1)*(B*P)<=(top/v1+1)*v1*(B*P):=aC i (by omega)
 have u:0<=(top/v1+1)*(v2*P+vl):=aF (by omega) (by have:=aF b.1 (aI c);omega)
 have y:(top/v1+1)*V=(top/v1+1)*v1*(B*P)+(top/v1+1)*(v2*P+vl):=by rw [d];grind
 have w:(top+1)*(B*P)=top*B*P+B*P:=by grind
 have s:(u2+1)*P<=B*P:=aC (by omega) (by omega)
 have r:U=top*B*P+u2*P+ul:=by rw [m];grind
 have x:(u2+1)*P=u2*P+P:=by grind
 omega
def Est.up(e:Est B P top u2 ul v1 v2 vl U V){q:Int}(hq:q<=B)(h:q*(v1*B+v2)<=top*B+u2):(q-1)*V<=U:=by
 have m:=e.V2
 have c:=e.V0
 have g:=e.U0
 obtain ⟨o,r,s,d,j,l,i,k,a,b,lt⟩:=e
 by_cases x:q<=0
 ·have:(q-1)*V<=0:=Int.mul_nonpos_of_nonpos_of_nonneg (by omega) (by omega)
  omega
 ·have n:(q-1)*vl<=(q-1)*P:=aD (by omega) (by omega)
  have w:(q*(v1*B+v2))*P<=(top*B+u2)*P:=aC h (by omega)
  have u:(q-1)*V=(q*(v1*B+v2))*P-(v1*B+v2)*P+(q-1)*vl:=by rw [d];grind
  have p:(q-1)*P<=(v1*B+v2)*P:=aC (by omega) (by omega)
  omega
def Est.first(e:Est B P top u2 ul v1 v2 vl U V):top<(v1+1)*B/\top/v1<=B+1:=by
 obtain ⟨r,i,k,g,a,n,j,m,b,c,lt⟩:=e
 have d:0<B*P:=aJ (by omega) i
 have s:top*(B*P)<=U:=by
  have:0<=u2*P:=aF a.1 (by omega)
  have:U=top*(B*P)+u2*P+ul:=by rw [k];grind
  omega
 have q:V<(v1+1)*(B*P):=by
  have o:(v2+1)*P<=B*P:=aC (by omega) (by omega)
  have:V=v1*(B*P)+v2*P+vl:=by rw [g];grind
  have:(v1+1)*(B*P)=v1*(B*P)+B*P:=by grind
  have:(v2+1)*P=v2*P+P:=by grind
  omega
 have o:V*B<=(v1+1)*(B*P)*B:=aC (by omega) (by omega)
 have l:top*(B*P)<(v1+1)*B*(B*P):=by
  have:(v1+1)*(B*P)*B=(v1+1)*B*(B*P):=by grind
  omega
 have p:top<(v1+1)*B:=Int.lt_of_mul_lt_mul_right l (by omega)
 refine ⟨p,?_⟩
 have:top/v1<B+2:=by
  apply Int.ediv_lt_of_lt_mul (by omega)
  have:(v1+1)*B=v1*B+B:=by grind
  have:v1*(B+2)=v1*B+2*v1:=by grind
  have:(B+2)*v1=v1*B+2*v1:=by grind
  omega
 omega
end
def Kq(k:IntKind)(e:TypeId)(g:Heap)(bu:Nat)(us:List Int)(bq:Nat)(qs:List Int):Heap:=blk k e (blk k e g bu us) bq qs
section
variable {k:IntKind} {e:TypeId} {g:Heap} {bu bq:Nat} {us qs:List Int}
def A8x(hu:g bu=none)(hq:g bq=none)(hne:bu≠bq):g.le (Kq k e g bu us bq qs):=
 Heap.le_trans (Kp hu us) (Kp (by unfold blk;rw [B6 _ _ hne.symm];exact hq) qs)
def Fw(hne:bu≠bq):Kq k e g bu us bq qs=blk k e (blk k e g bq qs) bu us:=by
 unfold Kq blk;exact Heap.put_comm g _ _ hne
def A8w(hne:bu≠bq):SlI k (Kq k e g bu us bq qs) (some ⟨bu,0,none⟩) us:=by
 rw [Fw hne];exact Rn k e _ bu us
def B8o:SlI k (Kq k e g bu us bq qs) (some ⟨bq,0,none⟩) qs:=Rn k e _ bq qs
def Ix{P:Program}{t:TypeId}(one:P.cellsOf t=1/\(P.info? t).isSome=true)(hne:bu≠bq){n i:Int}(hi:i.toNat<us.length){K:Unit->Heap->Prop}
 (x:K () (Kq k e g bu (us.set i.toNat n) bq qs)):wpH P (Instr.storeAt t (.pointer (some (Addr.add ⟨bu,0,none⟩ (i.toNat*1)))) (.int k n)) K (Kq k e g bu us bq qs):=by
 rw [Fw hne]
 rw [Fw hne] at x
 exact Rm one hi x
def A2n{P:Program}{t:TypeId}(one:P.cellsOf t=1/\(P.info? t).isSome=true){n i:Int}(hi:i.toNat<qs.length){K:Unit->Heap->Prop}
 (x:K () (Kq k e g bu us bq (qs.set i.toNat n))):wpH P (Instr.storeAt t (.pointer (some (Addr.add ⟨bq,0,none⟩ (i.toNat*1)))) (.int k n)) K (Kq k e g bu us bq qs):=
 Rm one hi x
end
def A7y{xs:List Int}{j i:Nat}:(xs.drop j).getD i 0=xs.getD (j+i) 0:=by simp [aH]
section
variable {g:Heap} {bu bq:Nat} {us qs:List Int} {VA:Option Addr} {vs:List Int}
end
def H2(B:Int)(xs:List Int)(i:Nat):val B (xs.take (i+1))=val B (xs.take i)+B^i*xs.getD i 0:=by
 by_cases a:i<xs.length
 ·exact O3 B a
 ·rw [aN (by omega),aN (by omega)]
  simp [aH,List.getElem?_eq_none (Nat.le_of_not_lt a)]
def B0q(B:Int){vs:List Int}{m:Nat}(hn:vs.length=m+2):val B vs=(vs.getD (m+1) 0*B+vs.getD m 0)*B^m+val B (vs.take m):=by
 have a:=H2 B vs (m+1)
 have b:=H2 B vs m
 rw [show m+1+1=vs.length by omega,List.take_length] at a
 rw [a,b,aO]
 grind
def B0p(B:Int){us:List Int}{m:Nat}(hn:us.length=m+3):val B us=((us.getD (m+2) 0*B+us.getD (m+1) 0)*B+us.getD m 0)*B^m+val B (us.take m):=by
 have a:=H2 B us (m+2)
 have b:=H2 B us (m+1)
 have c:=H2 B us m
 rw [show m+2+1=us.length by omega,List.take_length] at a
 rw [show m+2=m+1+1 by omega] at a
 rw [a,b,c,aO,aO]
 grind
def B8h{B:Int}(hB:1<B){us vs:List Int}{m:Nat}(du:Dig B us)(dv:Dig B vs)(hu:us.length=m+3)(hv:vs.length=m+2)(h1:B<=2*vs.getD (m+1) 0)(hlt:val B us<val B vs*B):
 Est B (B^m) (us.getD (m+2) 0*B+us.getD (m+1) 0) (us.getD m 0) (val B (us.take m)) (vs.getD (m+1) 0) (vs.getD m 0) (val B (vs.take m)) (val B us) (val B vs):=by
 have a:0<B:=by omega
 have c:=N5 a (du.take m)
 have b:=N5 a (dv.take m)
 rw [List.length_take,Nat.min_eq_left (by omega)] at c b
 refine ⟨hB,Int.pow_pos a,B0p B hu,B0q B hv,du.getD a _,⟨C1 a (du.take m),c⟩,dv.getD a _,⟨C1 a (dv.take m),b⟩,?_,⟨h1,(dv.getD a _).2⟩,hlt⟩
 have:=aF (du.getD a (m+2)).1 (aI a)
 have:=(du.getD a (m+1)).1
 omega
def Est.top{B P top u2 ul v1 v2 vl U V:Int}(e:Est B P top u2 ul v1 v2 vl U V)(h:v1*B<=top):(B-1-1)*V<=U/\U<(B-1+1)*V:=by
 have d:=e.lt
 obtain ⟨n,o,p,i,k,m,j,l,b,g,lt⟩:=e
 constructor
 ·have s:v1*B*B*P<=U:=by
   have a:v1*B*B<=top*B:=aC h (by omega)
   have c:v1*B*B*P<=(top*B+u2)*P:=aC (by omega) (by omega)
   omega
  have a:V<=(v1+1)*B*P:=by
   have c:(v2+1)*P<=B*P:=aC (by omega) (by omega)
   have:V=v1*B*P+v2*P+vl:=by rw [i];grind
   have:(v1+1)*B*P=v1*B*P+B*P:=by grind
   have:(v2+1)*P=v2*P+P:=by grind
   omega
  have c:(B-1-1)*V<=(B-1-1)*((v1+1)*B*P):=aD a (by omega)
  have q:(B-1-1)*((v1+1)*B*P)=v1*B*B*P-(2*v1+2-B)*(B*P):=by grind
  have r:0<=(2*v1+2-B)*(B*P):=aF (by omega) (aF (by omega) (by omega))
  omega
 ·rw [Int.sub_add_cancel,Int.mul_comm];exact d
structure LS (F S first second u0 v0 u1 v1 u2 v2:Int) (odd:Bool):Prop where
 hF:F=v2*first+v1*second
 hS:S=u2*first+u1*second
 det:u1*v2-u2*v1=if odd then -1 else 1
 ord:0<=second/\second<=first
 st:(u0=0/\v0=0/\u1=1/\v1=0/\u2=0/\v2=1)\/
  (((u0=1/\v0=0/\u1=0/\v1=1/\0<=u2/\u2<=v2/\1<=u2)\/(0<=u0/\u0<=v0/\1<=v0/\1<=u1/\u1<=v1/\1<=u2/\u2<=v2))/\
   (u0*v1-u1*v0=if odd then 1 else -1)/\∃ f0,F=v1*f0+v0*first/\S=u1*f0+u0*first/\v0+v1<=f0-first/\v1<=first)
def LS.init{F S:Int}(h0:0<=S)(h:S<=F):LS F S F S 0 0 1 0 0 1 false:=
 ⟨by omega,by omega,by simp,⟨h0,h⟩,.inl ⟨rfl,rfl,rfl,rfl,rfl,rfl⟩⟩
def LS.v2pos{F S first second u0 v0 u1 v1 u2 v2:Int}{odd:Bool}(l:LS F S first second u0 v0 u1 v1 u2 v2 odd):1<=v2/\0<=v1/\0<=u1/\0<=u2/\0<=u0/\0<=v0:=by
 obtain ⟨d,e,b,c,a⟩:=l
 rcases a with a|⟨a,_⟩<;>omega
def LS.step{F S first second u0 v0 u1 v1 u2 v2:Int}{odd:Bool}(l:LS F S first second u0 v0 u1 v1 u2 v2 odd)(h1:v2<=second)(h2:v1+v2<=first-second):
 LS F S second (first%second) u1 v1 u2 v2 (u1+first/second*u2) (v1+first/second*v2) (!odd):=by
 have s:=l.v2pos
 obtain ⟨g,j,a,n,c⟩:=l
 have i:0<second:=by omega
 have e:1<=first/second:=by
  rw [Int.le_ediv_iff_mul_le i];omega
 have b:=Int.mul_ediv_add_emod first second
 have d:=Int.emod_nonneg first (show second≠0 by omega)
 have k:=Int.emod_lt_of_pos first i
 have o:u2<=first/second*u2:=by
  have:=aC e (show 0<=u2 by omega);omega
 have p:v2<=first/second*v2:=by
  have:=aC e (show 0<=v2 by omega);omega
 have m:first/second*u2<=first/second*v2:=aD (by omega) (by omega)
 refine ⟨?_,?_,?_,⟨d,by omega⟩,.inr ⟨?_,?_,first,?_,?_,by omega,h1⟩⟩
 ·rw [g]
  generalize hq':first/second=q at *
  generalize first%second=r at *
  subst b
  grind
 ·rw [j]
  generalize hq':first/second=q at *
  generalize first%second=r at *
  subst b
  grind
 ·cases odd<;>simp at a ⊢ <;> grind
 ·rcases c with c|⟨c,_⟩
  ·left
   obtain ⟨rfl,rfl,rfl,rfl,rfl,rfl⟩:=c
   omega
  ·right;omega
 ·cases odd<;>simp at a ⊢ <;> omega
 ·rw [g]
 ·rw [j]
def LS.bound{F S first second u0 v0 u1 v1 u2 v2:Int}{odd:Bool}(l:LS F S first second u0 v0 u1 v1 u2 v2 odd)(hf:1<=first):v2<=F/\u2<=F/\u2<=v2:=by
 have i:=l.v2pos
 obtain ⟨g,c,b,d,a⟩:=l
 have j:v2*1<=v2*first:=aD hf (by omega)
 have e:0<=v1*second:=aF (by omega) (by omega)
 clear b c
 rcases a with a|⟨a,_⟩<;>omega
def LS.bound2{F S first second u0 v0 u1 v1 u2 v2:Int}{odd:Bool}(l:LS F S first second u0 v0 u1 v1 u2 v2 odd)(hs:1<=second):v1+v2<=F:=by
 have i:=l.v2pos
 obtain ⟨e,g,b,c,a⟩:=l
 have j:v2*1<=v2*first:=aD (by omega) (by omega)
 have d:v1*1<=v1*second:=aD hs (by omega)
 clear a
 omega
structure Leh (a b u0 v0 u1 v1 X0 X1:Int):Prop where
 ord:0<=X1/\X1<X0
 ha:a=v1*X0+v0*X1
 hb:b=u1*X0+u0*X1
 le:X0<=b
def Ih(a b u0 v0:Int)(odd:Bool):Int:=if odd then u0*a-v0*b else v0*b-u0*a
def Ig(a b u1 v1:Int)(odd:Bool):Int:=if odd then v1*b-u1*a else u1*a-v1*b
def LS.leh{F S first second u0 v0 u1 v1 u2 v2 a b al bl W:Int}{odd:Bool}(l:LS F S first second u0 v0 u1 v1 u2 v2 odd)(hv0:v0≠0)(hW:0<W)(ha:a=F*W+al)(hb:b=S*W+bl)(hal:0<=al/\al<W)(hbl:0<=bl/\bl<W):
 Leh a b u0 v0 u1 v1 (Ih a b u0 v0 odd) (Ig a b u1 v1 odd):=by
 have hp:=l.v2pos
 obtain ⟨hF,M,E,D,x⟩:=l
 rcases x with x|⟨x,c,j,m,o,G,y⟩
 ·omega
 have C:0<=u0/\u0<=v0/\1<=v0/\1<=u1/\u1<=v1:=by omega
 have s:u0*F-v0*S=(u0*v1-u1*v0)*j:=by rw [m,o];grind
 have q:u1*F-v1*S=(u1*v0-u0*v1)*first:=by rw [m,o];grind
 have Q:first*W>=v1*W:=aC y (by omega)
 have N:(j-first)*W>=(v0+v1)*W:=aC G (by omega)
 have J:v1*bl<=v1*W:=aD (by omega) (by omega)
 have R:u1*al<=u1*W:=aD (by omega) (by omega)
 have q3:u1*W<=v1*W:=aC (by omega) (by omega)
 have T:0<=u1*al:=aF (by omega) (by omega)
 have H:0<=v1*bl:=aF (by omega) (by omega)
 have Z:(v0+v1)*(bl+1)<=(v0+v1)*W:=aD (by omega) (by omega)
 have X:(u0+u1)*(al+1)<=(u0+u1)*W:=aD (by omega) (by omega)
 have V:(u0+u1)*W<=(v0+v1)*W:=aC (by omega) (by omega)
 have L:0<=(u0+u1)*al:=aF (by omega) (by omega)
 have B:0<=(v0+v1)*bl:=aF (by omega) (by omega)
 have k:∀ X0 X1:Int,0<=X1->X1<X0->b=u1*X0+u0*X1->X0<=b:=by
  intro X0 X1 z O e
  have r1:1*X0<=u1*X0:=aC (by omega) (by omega)
  have r2:0<=u0*X1:=aF (by omega) z
  omega
 cases odd with
 | true=>
  simp only [Ih,Ig,if_true] at c ⊢
  have A:v1*b-u1*a=first*W+v1*bl-u1*al:=by
   rw [c.symm.symm] at s
   have:v1*S-u1*F=first:=by
    have:u1*v0-u0*v1= -1:=by omega
    rw [this] at q;omega
   rw [ha,hb,<- this];grind
  have w:u0*a-v0*b-(v1*b-u1*a)=(j-first)*W+(u0+u1)*al-(v0+v1)*bl:=by
   have r:u0*F-v0*S=j:=by rw [c] at s;omega
   have p:v1*S-u1*F=first:=by
    have:u1*v0-u0*v1= -1:=by omega
    rw [this] at q;omega
   rw [ha,hb,<- r,<- p];grind
  have i:0<=v1*b-u1*a:=by omega
  have g:v1*b-u1*a<u0*a-v0*b:=by
   have:(v0+v1)*(bl+1)=(v0+v1)*bl+(v0+v1):=by grind
   omega
  have u:a=v1*(u0*a-v0*b)+v0*(v1*b-u1*a):=by
   have:v1*(u0*a-v0*b)+v0*(v1*b-u1*a)=(u0*v1-u1*v0)*a:=by grind
   rw [this,c];omega
  have n:b=u1*(u0*a-v0*b)+u0*(v1*b-u1*a):=by
   have:u1*(u0*a-v0*b)+u0*(v1*b-u1*a)=(u0*v1-u1*v0)*b:=by grind
   rw [this,c];omega
  exact ⟨⟨i,g⟩,u,n,k _ _ i g n⟩
 | false=>
  simp only [Ih,Ig,Bool.false_eq_true,if_false] at c ⊢
  have r:v0*S-u0*F=j:=by rw [c] at s;omega
  have p:u1*F-v1*S=first:=by
   have:u1*v0-u0*v1=1:=by omega
   rw [this] at q;omega
  have A:u1*a-v1*b=first*W+u1*al-v1*bl:=by
   rw [ha,hb,<- p];grind
  have w:v0*b-u0*a-(u1*a-v1*b)=(j-first)*W+(v0+v1)*bl-(u0+u1)*al:=by
   rw [ha,hb,<- r,<- p];grind
  have i:0<=u1*a-v1*b:=by omega
  have g:u1*a-v1*b<v0*b-u0*a:=by
   have:(u0+u1)*(al+1)=(u0+u1)*al+(u0+u1):=by grind
   omega
  have u:a=v1*(v0*b-u0*a)+v0*(u1*a-v1*b):=by
   have:v1*(v0*b-u0*a)+v0*(u1*a-v1*b)=(u1*v0-u0*v1)*a:=by grind
   have d:u1*v0-u0*v1=1:=by omega
   rw [this,d];omega
  have n:b=u1*(v0*b-u0*a)+u0*(u1*a-v1*b):=by
   have:u1*(v0*b-u0*a)+u0*(u1*a-v1*b)=(u1*v0-u0*v1)*b:=by grind
   have d:u1*v0-u0*v1=1:=by omega
   rw [this,d];omega
  exact ⟨⟨i,g⟩,u,n,k _ _ i g n⟩
def Leh.gcd{a b u0 v0 u1 v1:Int}{odd:Bool}(l:Leh a b u0 v0 u1 v1 (Ih a b u0 v0 odd) (Ig a b u1 v1 odd)):aL (Ih a b u0 v0 odd) (Ig a b u1 v1 odd)=aL a b:=by
 apply Nat.dvd_antisymm
 ·have i:=l.ha
  have g:=l.hb
  generalize Ih a b u0 v0 odd=p at *
  generalize Ig a b u1 v1 odd=q at *
  have dp:(aL p q:Int)∣p:=Int.gcd_dvd_left p q
  have e:(aL p q:Int)∣q:=Int.gcd_dvd_right p q
  rw [<- Int.ofNat_dvd]
  apply Int.dvd_coe_gcd
  ·rw [i];exact Int.dvd_add (aE dp) (aE e)
  ·rw [g];exact Int.dvd_add (aE dp) (aE e)
 ·have d:(aL a b:Int)∣a:=Int.gcd_dvd_left a b
  have c:(aL a b:Int)∣b:=Int.gcd_dvd_right a b
  rw [<- Int.ofNat_dvd]
  apply Int.dvd_coe_gcd
  ·unfold Ih;split
   ·exact aK (aE d) (aE c)
   ·exact aK (aE c) (aE d)
  ·unfold Ig;split
   ·exact aK (aE c) (aE d)
   ·exact aK (aE d) (aE c)
def Wu(pre ws:List Int)(i:Nat):(pre++ws).getD (i+pre.length) 0=ws.getD i 0:=by
 simp [aH,List.getElem?_append_right (Nat.le_add_left pre.length i)]
def A1n(pre ws:List Int)(i:Nat)(v:Int):(pre++ws).set (i+pre.length) v=pre++ws.set i v:=by
 rw [List.set_append_right _ _ (by omega),Nat.add_sub_cancel]
def Sq{B:Int}(hB:0<B){ws:List Int}{n:Nat}(d:Dig B ws)(h:val B ws<B^n):val B (ws.drop n)=0:=by
 by_cases b:n<=ws.length
 ·have g:=G4 B ws b
  have c:=C1 hB (d.take n)
  have e:=C1 hB (d.drop n)
  by_cases a:val B (ws.drop n)=0
  ·exact a
  ·have:B^n*1<=B^n*val B (ws.drop n):=aD (by omega) (aI (D4 hB n))
   omega
 ·rw [aG (by omega)];rfl
section
variable {g:Heap} {bu bq:Nat} {pre qs:List Int} {VA:Option Addr} {vs:List Int}
end
def A6f(B:Int)(xs:List Int)(i:Nat):val B (xs.drop i)=xs.getD i 0+B*val B (xs.drop (i+1)):=by
 by_cases a:i<xs.length
 ·exact Pa B a
 ·rw [aG (by omega),aG (by omega)]
  simp [val,aH,List.getElem?_eq_none (Nat.le_of_not_lt a)]
section
variable {h g:Heap} {K:VP} {A B:Option Addr} {ac bc:Nat} {bu bq:Nat} {VA:Option Addr} {vs us0:List Int}
end
