/-
  Texts of this proof, merged by a program of ours.
-/
import Derived.Test.YtajkakhfcokljaaGreatDoorG14
import Derived.Test.YtajkakhfcokljaaGreatDoorG15
import Derived.Test.YtajkakhfcokljaaGreatDoorG12
set_option linter.all false
open Int renaming mul_le_mul_of_nonneg_right->B8g,mul_le_mul_of_nonneg_left->B8h,dvd_mul_of_dvd_right->B8i,mul_nonneg->B8j,le_of_lt->B8m,mul_pos->B8n,dvd_sub->B8o
open List renaming drop_of_length_le->B8k,getD->B8l,drop_eq_getElem_cons->B8p
namespace Go.Proofs.YtajkakhfcokljaaGreatDoor
set_option maxRecDepth 20000
open Go
section
variable {h g:Heap} {K:VP} {A B:Option Addr} {ac bc:Nat}
theorem A6c{xs:List Int}{i:Nat}(hi:i<xs.length):xs.drop i=xs.getD i 0::xs.drop (i+1):=by
 rw [B8p hi];simp [B8l,hi]
theorem Ms(B:Int){xs:List Int}{i:Nat}(hi:i<xs.length):val B (xs.drop i)=xs.getD i 0+B*val B (xs.drop (i+1)):=by
 rw [A6c hi];rfl
theorem Cz{xs:List Int}{i:Nat}{v:Int}(hi:i<xs.length):(xs.set i v).drop i=v::xs.drop (i+1):=by
 rw [B8p (by simpa using hi)]
 simp [List.drop_set_of_lt]
end
theorem G7{xs ys:List Int}{i:Nat}(h:xs.drop i=ys.drop i):xs.getD i 0=ys.getD i 0:=by
 have h1:(xs.drop i)[0]? = (ys.drop i)[0]? :=by rw [h]
 simp at h1
 simp [B8l,h1]
theorem E9{xs ys:List Int}{i:Nat}(h:xs.drop i=ys.drop i):xs.drop (i+1)=ys.drop (i+1):=by
 rw [<- List.drop_drop,<- List.drop_drop,h]
theorem E5{xs:List Int}{i j:Nat}{v:Int}(h:i<j):(xs.set i v).drop j=xs.drop j:=List.drop_set_of_lt h
section
variable {h g:Heap} {K:VP} {A B:Option Addr} {ac bc:Nat}
end
structure Est (B P top u2 ul v1 v2 vl U V:Int):Prop where
 hB:1<B
 hP:0<P
 hU:U=(top*B+u2)*P+ul
 hV:V=(v1*B+v2)*P+vl
 u2r:0<=u2/\u2<B
 ulr:0<=ul/\ul<P
 v2r:0<=v2/\v2<B
 vlr:0<=vl/\vl<P
 top0:0<=top
 v1r:B<=2*v1/\v1<B
 lt:U<V*B
section
variable {B P top u2 ul v1 v2 vl U V:Int}
theorem Est.U0(e:Est B P top u2 ul v1 v2 vl U V):0<=U:=by
 obtain ⟨hB,hP,hU,hV,u2r,ulr,v2r,vlr,top0,v1r,lt⟩:=e
 have h1:0<=top*B:=B8j top0 (by omega)
 have:0<=(top*B+u2)*P:=B8j (by omega) (by omega)
 omega
theorem Est.V0(e:Est B P top u2 ul v1 v2 vl U V):0<V:=by
 obtain ⟨hB,hP,hU,hV,u2r,ulr,v2r,vlr,top0,v1r,lt⟩:=e
 have h1:0<v1*B:=B8n (by omega) (by omega)
 have:0<(v1*B+v2)*P:=B8n (by omega) hP
 omega
theorem Est.V2(e:Est B P top u2 ul v1 v2 vl U V):B<=v1*B+v2:=by
 obtain ⟨hB,hP,hU,hV,u2r,ulr,v2r,vlr,top0,v1r,lt⟩:=e
 have:1*B<=v1*B:=B8g (by omega) (by omega)
 omega
theorem Est.low(e:Est B P top u2 ul v1 v2 vl U V){q:Int}(h0:0<=q)(h:top*B+u2<q*(v1*B+v2)):U<q*V:=by
 obtain ⟨hB,hP,hU,hV,u2r,ulr,v2r,vlr,top0,v1r,lt⟩:=e
 have h1:(top*B+u2+1)*P<=q*(v1*B+v2)*P:=B8g (by omega) (by omega)
 have h2:0<=q*vl:=B8j h0 vlr.1
 have h3:q*V=q*(v1*B+v2)*P+q*vl:=by rw [hV];grind
 have h4:(top*B+u2+1)*P=(top*B+u2)*P+P:=by grind
 omega
theorem Est.big(e:Est B P top u2 ul v1 v2 vl U V){q:Int}(h:B<=q):U<q*V:=by
 have:=B8g h (B8m e.V0)
 have:=e.lt
 rw [Int.mul_comm V] at this
 omega
theorem Est.init(e:Est B P top u2 ul v1 v2 vl U V):U<(top/v1+1)*V:=by
 obtain ⟨hB,hP,hU,hV,u2r,ulr,v2r,vlr,top0,v1r,lt⟩:=e
 have hq:0<=top/v1:=Int.ediv_nonneg top0 (by omega)
 have h1:top+1<=(top/v1+1)*v1:=by
  have:=Int.mul_ediv_add_emod top v1
  have:=Int.emod_lt_of_pos top (show 0<v1 by omega)
  grind
 have hBP:0<B*P:=B8n (by omega) hP
 have h2:(top+1)*(B*P)<=(top/v1+1)*v1*(B*P):=B8g h1 (by omega)
 have h3:0<=(top/v1+1)*(v2*P+vl):=B8j (by omega) (by have:=B8j v2r.1 (B8m hP);omega)
 have h4:(top/v1+1)*V=(top/v1+1)*v1*(B*P)+(top/v1+1)*(v2*P+vl):=by rw [hV];grind
 have h5:(top+1)*(B*P)=top*B*P+B*P:=by grind
 have h6:(u2+1)*P<=B*P:=B8g (by omega) (by omega)
 have h7:U=top*B*P+u2*P+ul:=by rw [hU];grind
 have h8:(u2+1)*P=u2*P+P:=by grind
 omega
theorem Est.up(e:Est B P top u2 ul v1 v2 vl U V){q:Int}(hq:q<=B)(h:q*(v1*B+v2)<=top*B+u2):(q-1)*V<=U:=by
 have hV2:=e.V2
 have hV0:=e.V0
 have hU0:=e.U0
 obtain ⟨hB,hP,hU,hV,u2r,ulr,v2r,vlr,top0,v1r,lt⟩:=e
 by_cases h1:q<=0
 ·have:(q-1)*V<=0:=Int.mul_nonpos_of_nonpos_of_nonneg (by omega) (by omega)
  omega
 ·have h2:(q-1)*vl<=(q-1)*P:=B8h (by omega) (by omega)
  have h3:(q*(v1*B+v2))*P<=(top*B+u2)*P:=B8g h (by omega)
  have h4:(q-1)*V=(q*(v1*B+v2))*P-(v1*B+v2)*P+(q-1)*vl:=by rw [hV];grind
  have h5:(q-1)*P<=(v1*B+v2)*P:=B8g (by omega) (by omega)
  omega
theorem Est.first(e:Est B P top u2 ul v1 v2 vl U V):top<(v1+1)*B/\top/v1<=B+1:=by
 obtain ⟨hB,hP,hU,hV,u2r,ulr,v2r,vlr,top0,v1r,lt⟩:=e
 have hBP:0<B*P:=B8n (by omega) hP
 have h1:top*(B*P)<=U:=by
  have:0<=u2*P:=B8j u2r.1 (by omega)
  have:U=top*(B*P)+u2*P+ul:=by rw [hU];grind
  omega
 have h2:V<(v1+1)*(B*P):=by
  have h3:(v2+1)*P<=B*P:=B8g (by omega) (by omega)
  have:V=v1*(B*P)+v2*P+vl:=by rw [hV];grind
  have:(v1+1)*(B*P)=v1*(B*P)+B*P:=by grind
  have:(v2+1)*P=v2*P+P:=by grind
  omega
 have h3:V*B<=(v1+1)*(B*P)*B:=B8g (by omega) (by omega)
 have h4:top*(B*P)<(v1+1)*B*(B*P):=by
  have:(v1+1)*(B*P)*B=(v1+1)*B*(B*P):=by grind
  omega
 have h5:top<(v1+1)*B:=Int.lt_of_mul_lt_mul_right h4 (by omega)
 refine ⟨h5,?_⟩
 have:top/v1<B+2:=by
  apply Int.ediv_lt_of_lt_mul (by omega)
  have:(v1+1)*B=v1*B+B:=by grind
  have:v1*(B+2)=v1*B+2*v1:=by grind
  have:(B+2)*v1=v1*B+2*v1:=by grind
  omega
 omega
end
def Jb(k:IntKind)(e:TypeId)(g:Heap)(bu:Nat)(us:List Int)(bq:Nat)(qs:List Int):Heap:=blk k e (blk k e g bu us) bq qs
section
variable {k:IntKind} {e:TypeId} {g:Heap} {bu bq:Nat} {us qs:List Int}
theorem A6s(hu:g bu=none)(hq:g bq=none)(hne:bu≠bq):g.le (Jb k e g bu us bq qs):=
 B0 (Ja hu us) (Ja (by unfold blk;rw [B6 _ _ hne.symm];exact hq) qs)
theorem Et(hne:bu≠bq):Jb k e g bu us bq qs=blk k e (blk k e g bq qs) bu us:=by
 unfold Jb blk;exact Heap.put_comm g _ _ hne
theorem A6r(hne:bu≠bq):SlI k (Jb k e g bu us bq qs) (some ⟨bu,0,none⟩) us:=by
 rw [Et hne];exact Pm k e _ bu us
theorem B5a:SlI k (Jb k e g bu us bq qs) (some ⟨bq,0,none⟩) qs:=Pm k e _ bq qs
theorem Hi{P:Program}{t:TypeId}(one:P.cellsOf t=1/\(P.info? t).isSome=true)(hne:bu≠bq){n i:Int}(hi:i.toNat<us.length){K:Unit->Heap->Prop}
 (x:K () (Jb k e g bu (us.set i.toNat n) bq qs)):wpH P (Instr.storeAt t (.pointer (some (Addr.add ⟨bu,0,none⟩ (i.toNat*1)))) (.int k n)) K (Jb k e g bu us bq qs):=by
 rw [Et hne]
 rw [Et hne] at x
 exact Pl one hi x
theorem A0q{P:Program}{t:TypeId}(one:P.cellsOf t=1/\(P.info? t).isSome=true){n i:Int}(hi:i.toNat<qs.length){K:Unit->Heap->Prop}
 (x:K () (Jb k e g bu us bq (qs.set i.toNat n))):wpH P (Instr.storeAt t (.pointer (some (Addr.add ⟨bq,0,none⟩ (i.toNat*1)))) (.int k n)) K (Jb k e g bu us bq qs):=
 Pl one hi x
end
theorem A5n{xs:List Int}{j i:Nat}:(xs.drop j).getD i 0=xs.getD (j+i) 0:=by simp [B8l]
section
variable {g:Heap} {bu bq:Nat} {us qs:List Int} {VA:Option Addr} {vs:List Int}
end
theorem I5(B:Int)(xs:List Int)(i:Nat):val B (xs.take (i+1))=val B (xs.take i)+B^i*xs.getD i 0:=by
 by_cases hi:i<xs.length
 ·exact N7 B hi
 ·rw [List.take_of_length_le (by omega),List.take_of_length_le (by omega)]
  simp [B8l,List.getElem?_eq_none (Nat.le_of_not_lt hi)]
theorem A8e(B:Int){vs:List Int}{m:Nat}(hn:vs.length=m+2):val B vs=(vs.getD (m+1) 0*B+vs.getD m 0)*B^m+val B (vs.take m):=by
 have h1:=I5 B vs (m+1)
 have h2:=I5 B vs m
 rw [show m+1+1=vs.length by omega,List.take_length] at h1
 rw [h1,h2,Int.pow_succ]
 grind
theorem A8d(B:Int){us:List Int}{m:Nat}(hn:us.length=m+3):val B us=((us.getD (m+2) 0*B+us.getD (m+1) 0)*B+us.getD m 0)*B^m+val B (us.take m):=by
 have h1:=I5 B us (m+2)
 have h2:=I5 B us (m+1)
 have h3:=I5 B us m
 rw [show m+2+1=us.length by omega,List.take_length] at h1
 rw [show m+2=m+1+1 by omega] at h1
 rw [h1,h2,h3,Int.pow_succ,Int.pow_succ]
 grind
theorem B4u{B:Int}(hB:1<B){us vs:List Int}{m:Nat}(du:Dig B us)(dv:Dig B vs)(hu:us.length=m+3)(hv:vs.length=m+2)(h1:B<=2*vs.getD (m+1) 0)(hlt:val B us<val B vs*B):
 Est B (B^m) (us.getD (m+2) 0*B+us.getD (m+1) 0) (us.getD m 0) (val B (us.take m)) (vs.getD (m+1) 0) (vs.getD m 0) (val B (vs.take m)) (val B us) (val B vs):=by
 have hB0:0<B:=by omega
 have hlu:=M0 hB0 (du.take m)
 have hlv:=M0 hB0 (dv.take m)
 rw [List.length_take,Nat.min_eq_left (by omega)] at hlu hlv
 refine ⟨hB,Int.pow_pos hB0,A8d B hu,A8e B hv,du.getD hB0 _,⟨C5 hB0 (du.take m),hlu⟩,dv.getD hB0 _,⟨C5 hB0 (dv.take m),hlv⟩,?_,⟨h1,(dv.getD hB0 _).2⟩,hlt⟩
 have:=B8j (du.getD hB0 (m+2)).1 (B8m hB0)
 have:=(du.getD hB0 (m+1)).1
 omega
theorem Est.top{B P top u2 ul v1 v2 vl U V:Int}(e:Est B P top u2 ul v1 v2 vl U V)(h:v1*B<=top):(B-1-1)*V<=U/\U<(B-1+1)*V:=by
 have hl:=e.lt
 obtain ⟨hB,hP,hU,hV,u2r,ulr,v2r,vlr,top0,v1r,lt⟩:=e
 constructor
 ·have h1:v1*B*B*P<=U:=by
   have h2:v1*B*B<=top*B:=B8g h (by omega)
   have h3:v1*B*B*P<=(top*B+u2)*P:=B8g (by omega) (by omega)
   omega
  have h2:V<=(v1+1)*B*P:=by
   have h3:(v2+1)*P<=B*P:=B8g (by omega) (by omega)
   have:V=v1*B*P+v2*P+vl:=by rw [hV];grind
   have:(v1+1)*B*P=v1*B*P+B*P:=by grind
   have:(v2+1)*P=v2*P+P:=by grind
   omega
  have h3:(B-1-1)*V<=(B-1-1)*((v1+1)*B*P):=B8h h2 (by omega)
  have h4:(B-1-1)*((v1+1)*B*P)=v1*B*B*P-(2*v1+2-B)*(B*P):=by grind
  have h5:0<=(2*v1+2-B)*(B*P):=B8j (by omega) (B8j (by omega) (by omega))
  omega
 ·rw [Int.sub_add_cancel,Int.mul_comm];exact hl
structure LS (F S first second u0 v0 u1 v1 u2 v2:Int) (odd:Bool):Prop where
 hF:F=v2*first+v1*second
 hS:S=u2*first+u1*second
 det:u1*v2-u2*v1=if odd then -1 else 1
 ord:0<=second/\second<=first
 st:(u0=0/\v0=0/\u1=1/\v1=0/\u2=0/\v2=1)\/
  (((u0=1/\v0=0/\u1=0/\v1=1/\0<=u2/\u2<=v2/\1<=u2)\/(0<=u0/\u0<=v0/\1<=v0/\1<=u1/\u1<=v1/\1<=u2/\u2<=v2))/\
   (u0*v1-u1*v0=if odd then 1 else -1)/\∃ f0,F=v1*f0+v0*first/\S=u1*f0+u0*first/\v0+v1<=f0-first/\v1<=first)
theorem LS.init{F S:Int}(h0:0<=S)(h:S<=F):LS F S F S 0 0 1 0 0 1 false:=
 ⟨by omega,by omega,by simp,⟨h0,h⟩,.inl ⟨rfl,rfl,rfl,rfl,rfl,rfl⟩⟩
theorem LS.v2pos{F S first second u0 v0 u1 v1 u2 v2:Int}{odd:Bool}(l:LS F S first second u0 v0 u1 v1 u2 v2 odd):1<=v2/\0<=v1/\0<=u1/\0<=u2/\0<=u0/\0<=v0:=by
 obtain ⟨hF,hS,det,ord,st⟩:=l
 rcases st with st|⟨st,_⟩<;>omega
theorem LS.step{F S first second u0 v0 u1 v1 u2 v2:Int}{odd:Bool}(l:LS F S first second u0 v0 u1 v1 u2 v2 odd)(h1:v2<=second)(h2:v1+v2<=first-second):
 LS F S second (first%second) u1 v1 u2 v2 (u1+first/second*u2) (v1+first/second*v2) (!odd):=by
 have hp:=l.v2pos
 obtain ⟨hF,hS,det,ord,st⟩:=l
 have hs:0<second:=by omega
 have hq:1<=first/second:=by
  rw [Int.le_ediv_iff_mul_le hs];omega
 have hdm:=Int.mul_ediv_add_emod first second
 have hm0:=Int.emod_nonneg first (show second≠0 by omega)
 have hm1:=Int.emod_lt_of_pos first hs
 have hu:u2<=first/second*u2:=by
  have:=B8g hq (show 0<=u2 by omega);omega
 have hv:v2<=first/second*v2:=by
  have:=B8g hq (show 0<=v2 by omega);omega
 have huv:first/second*u2<=first/second*v2:=B8h (by omega) (by omega)
 refine ⟨?_,?_,?_,⟨hm0,by omega⟩,.inr ⟨?_,?_,first,?_,?_,by omega,h1⟩⟩
 ·rw [hF]
  generalize hq':first/second=q at *
  generalize first%second=r at *
  subst hdm
  grind
 ·rw [hS]
  generalize hq':first/second=q at *
  generalize first%second=r at *
  subst hdm
  grind
 ·cases odd<;>simp at det ⊢ <;> grind
 ·rcases st with st|⟨st,_⟩
  ·left
   obtain ⟨rfl,rfl,rfl,rfl,rfl,rfl⟩:=st
   omega
  ·right;omega
 ·cases odd<;>simp at det ⊢ <;> omega
 ·rw [hF]
 ·rw [hS]
theorem LS.bound{F S first second u0 v0 u1 v1 u2 v2:Int}{odd:Bool}(l:LS F S first second u0 v0 u1 v1 u2 v2 odd)(hf:1<=first):v2<=F/\u2<=F/\u2<=v2:=by
 have hp:=l.v2pos
 obtain ⟨hF,hS,det,ord,st⟩:=l
 have h1:v2*1<=v2*first:=B8h hf (by omega)
 have h2:0<=v1*second:=B8j (by omega) (by omega)
 clear det hS
 rcases st with st|⟨st,_⟩<;>omega
theorem LS.bound2{F S first second u0 v0 u1 v1 u2 v2:Int}{odd:Bool}(l:LS F S first second u0 v0 u1 v1 u2 v2 odd)(hs:1<=second):v1+v2<=F:=by
 have hp:=l.v2pos
 obtain ⟨hF,hS,det,ord,st⟩:=l
 have h1:v2*1<=v2*first:=B8h (by omega) (by omega)
 have h2:v1*1<=v1*second:=B8h hs (by omega)
 clear st
 omega
structure Leh (a b u0 v0 u1 v1 X0 X1:Int):Prop where
 ord:0<=X1/\X1<X0
 ha:a=v1*X0+v0*X1
 hb:b=u1*X0+u0*X1
 le:X0<=b
def Gt(a b u0 v0:Int)(odd:Bool):Int:=if odd then u0*a-v0*b else v0*b-u0*a
def Gs(a b u1 v1:Int)(odd:Bool):Int:=if odd then v1*b-u1*a else u1*a-v1*b
theorem LS.leh{F S first second u0 v0 u1 v1 u2 v2 a b al bl W:Int}{odd:Bool}(l:LS F S first second u0 v0 u1 v1 u2 v2 odd)(hv0:v0≠0)(hW:0<W)(ha:a=F*W+al)(hb:b=S*W+bl)(hal:0<=al/\al<W)(hbl:0<=bl/\bl<W):
 Leh a b u0 v0 u1 v1 (Gt a b u0 v0 odd) (Gs a b u1 v1 odd):=by
 have hp:=l.v2pos
 obtain ⟨hF,hS,det,ord,st⟩:=l
 rcases st with st|⟨st,det0,f0,hF0,hS0,hd,hf1⟩
 ·omega
 have st2:0<=u0/\u0<=v0/\1<=v0/\1<=u1/\u1<=v1:=by omega
 have e1:u0*F-v0*S=(u0*v1-u1*v0)*f0:=by rw [hF0,hS0];grind
 have e2:u1*F-v1*S=(u1*v0-u0*v1)*first:=by rw [hF0,hS0];grind
 have p1:first*W>=v1*W:=B8g hf1 (by omega)
 have p2:(f0-first)*W>=(v0+v1)*W:=B8g hd (by omega)
 have q1:v1*bl<=v1*W:=B8h (by omega) (by omega)
 have q2:u1*al<=u1*W:=B8h (by omega) (by omega)
 have q3:u1*W<=v1*W:=B8g (by omega) (by omega)
 have q4:0<=u1*al:=B8j (by omega) (by omega)
 have q5:0<=v1*bl:=B8j (by omega) (by omega)
 have q6:(v0+v1)*(bl+1)<=(v0+v1)*W:=B8h (by omega) (by omega)
 have q7:(u0+u1)*(al+1)<=(u0+u1)*W:=B8h (by omega) (by omega)
 have q8:(u0+u1)*W<=(v0+v1)*W:=B8g (by omega) (by omega)
 have q9:0<=(u0+u1)*al:=B8j (by omega) (by omega)
 have q10:0<=(v0+v1)*bl:=B8j (by omega) (by omega)
 have fin:∀ X0 X1:Int,0<=X1->X1<X0->b=u1*X0+u0*X1->X0<=b:=by
  intro X0 X1 h0 h1 e
  have r1:1*X0<=u1*X0:=B8g (by omega) (by omega)
  have r2:0<=u0*X1:=B8j (by omega) h0
  omega
 cases odd with
 | true=>
  simp only [Gt,Gs,if_true] at det0 ⊢
  have x1:v1*b-u1*a=first*W+v1*bl-u1*al:=by
   rw [det0.symm.symm] at e1
   have:v1*S-u1*F=first:=by
    have:u1*v0-u0*v1= -1:=by omega
    rw [this] at e2;omega
   rw [ha,hb,<- this];grind
  have x01:u0*a-v0*b-(v1*b-u1*a)=(f0-first)*W+(u0+u1)*al-(v0+v1)*bl:=by
   have t1:u0*F-v0*S=f0:=by rw [det0] at e1;omega
   have t2:v1*S-u1*F=first:=by
    have:u1*v0-u0*v1= -1:=by omega
    rw [this] at e2;omega
   rw [ha,hb,<- t1,<- t2];grind
  have hX1:0<=v1*b-u1*a:=by omega
  have hX01:v1*b-u1*a<u0*a-v0*b:=by
   have:(v0+v1)*(bl+1)=(v0+v1)*bl+(v0+v1):=by grind
   omega
  have ea:a=v1*(u0*a-v0*b)+v0*(v1*b-u1*a):=by
   have:v1*(u0*a-v0*b)+v0*(v1*b-u1*a)=(u0*v1-u1*v0)*a:=by grind
   rw [this,det0];omega
  have eb:b=u1*(u0*a-v0*b)+u0*(v1*b-u1*a):=by
   have:u1*(u0*a-v0*b)+u0*(v1*b-u1*a)=(u0*v1-u1*v0)*b:=by grind
   rw [this,det0];omega
  exact ⟨⟨hX1,hX01⟩,ea,eb,fin _ _ hX1 hX01 eb⟩
 | false=>
  simp only [Gt,Gs,Bool.false_eq_true,if_false] at det0 ⊢
  have t1:v0*S-u0*F=f0:=by rw [det0] at e1;omega
  have t2:u1*F-v1*S=first:=by
   have:u1*v0-u0*v1=1:=by omega
   rw [this] at e2;omega
  have x1:u1*a-v1*b=first*W+u1*al-v1*bl:=by
   rw [ha,hb,<- t2];grind
  have x01:v0*b-u0*a-(u1*a-v1*b)=(f0-first)*W+(v0+v1)*bl-(u0+u1)*al:=by
   rw [ha,hb,<- t1,<- t2];grind
  have hX1:0<=u1*a-v1*b:=by omega
  have hX01:u1*a-v1*b<v0*b-u0*a:=by
   have:(u0+u1)*(al+1)=(u0+u1)*al+(u0+u1):=by grind
   omega
  have ea:a=v1*(v0*b-u0*a)+v0*(u1*a-v1*b):=by
   have:v1*(v0*b-u0*a)+v0*(u1*a-v1*b)=(u1*v0-u0*v1)*a:=by grind
   have d:u1*v0-u0*v1=1:=by omega
   rw [this,d];omega
  have eb:b=u1*(v0*b-u0*a)+u0*(u1*a-v1*b):=by
   have:u1*(v0*b-u0*a)+u0*(u1*a-v1*b)=(u1*v0-u0*v1)*b:=by grind
   have d:u1*v0-u0*v1=1:=by omega
   rw [this,d];omega
  exact ⟨⟨hX1,hX01⟩,ea,eb,fin _ _ hX1 hX01 eb⟩
theorem Leh.gcd{a b u0 v0 u1 v1:Int}{odd:Bool}(l:Leh a b u0 v0 u1 v1 (Gt a b u0 v0 odd) (Gs a b u1 v1 odd)):Int.gcd (Gt a b u0 v0 odd) (Gs a b u1 v1 odd)=Int.gcd a b:=by
 apply Nat.dvd_antisymm
 ·have ha:=l.ha
  have hb:=l.hb
  generalize Gt a b u0 v0 odd=p at *
  generalize Gs a b u1 v1 odd=q at *
  have dp:(Int.gcd p q:Int)∣p:=Int.gcd_dvd_left p q
  have dq:(Int.gcd p q:Int)∣q:=Int.gcd_dvd_right p q
  rw [<- Int.ofNat_dvd]
  apply Int.dvd_coe_gcd
  ·rw [ha];exact Int.dvd_add (B8i dp) (B8i dq)
  ·rw [hb];exact Int.dvd_add (B8i dp) (B8i dq)
 ·have da:(Int.gcd a b:Int)∣a:=Int.gcd_dvd_left a b
  have db:(Int.gcd a b:Int)∣b:=Int.gcd_dvd_right a b
  rw [<- Int.ofNat_dvd]
  apply Int.dvd_coe_gcd
  ·unfold Gt;split
   ·exact B8o (B8i da) (B8i db)
   ·exact B8o (B8i db) (B8i da)
  ·unfold Gs;split
   ·exact B8o (B8i db) (B8i da)
   ·exact B8o (B8i da) (B8i db)
theorem Ui(pre ws:List Int)(i:Nat):(pre++ws).getD (i+pre.length) 0=ws.getD i 0:=by
 simp [B8l,List.getElem?_append_right (Nat.le_add_left pre.length i)]
theorem Zw(pre ws:List Int)(i:Nat)(v:Int):(pre++ws).set (i+pre.length) v=pre++ws.set i v:=by
 rw [List.set_append_right _ _ (by omega),Nat.add_sub_cancel]
theorem Qp{B:Int}(hB:0<B){ws:List Int}{n:Nat}(d:Dig B ws)(h:val B ws<B^n):val B (ws.drop n)=0:=by
 by_cases hn:n<=ws.length
 ·have h1:=G2 B ws hn
  have h2:=C5 hB (d.take n)
  have h3:=C5 hB (d.drop n)
  by_cases h0:val B (ws.drop n)=0
  ·exact h0
  ·have:B^n*1<=B^n*val B (ws.drop n):=B8h (by omega) (B8m (D4 hB n))
   omega
 ·rw [B8k (by omega)];rfl
section
variable {g:Heap} {bu bq:Nat} {pre qs:List Int} {VA:Option Addr} {vs:List Int}
end
theorem A47(B:Int)(xs:List Int)(i:Nat):val B (xs.drop i)=xs.getD i 0+B*val B (xs.drop (i+1)):=by
 by_cases hi:i<xs.length
 ·exact Ms B hi
 ·rw [B8k (by omega),B8k (by omega)]
  simp [val,B8l,List.getElem?_eq_none (Nat.le_of_not_lt hi)]
section
variable {h g:Heap} {K:VP} {A B:Option Addr} {ac bc:Nat} {bu bq:Nat} {VA:Option Addr} {vs us0:List Int}
end
end Go.Proofs.YtajkakhfcokljaaGreatDoor
