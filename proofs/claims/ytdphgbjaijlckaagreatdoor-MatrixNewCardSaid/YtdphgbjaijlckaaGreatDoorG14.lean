/- A part. -/
import Derived.Test.YtdphgbjaijlckaaGreatDoorG12
import Derived.Test.YtdphgbjaijlckaaGreatDoorG13
open Go.Proofs.Tryz
set_option linter.all false
open Int renaming mul_le_mul_of_nonneg_right->aC,toNat_natCast->aD,mul_le_mul_of_nonneg_left->aE,dvd_mul_of_dvd_right->aF,mul_nonneg->aG,le_of_lt->aJ,mul_ediv_add_emod->aL,ediv_lt_of_lt_mul->aN,pow_pos->aO,ediv_nonneg->aP,emod_lt_of_pos->aR,pow_succ->aV,emod_nonneg->aW,mul_zero->aY,mul_comm->aZ,mul_pos->bB,dvd_sub->bC,gcd->bD,tmod_eq_emod_of_nonneg->bG,tdiv_eq_ediv_of_nonneg->bH,mul_le_mul->bI,mul_emod_mul_of_pos->bJ,ediv_eq_zero_of_lt->bK,add_zero->bL,add_mul_ediv_right->bM
open List renaming getElem?_cons_zero->aH,length_take->aK,getElem?_cons_succ->aM,drop_drop->aQ,take_of_length_le->aT,drop_of_length_le->aU,take_set_of_le->aX,replicate->bF
open Nat renaming min_eq_left->aI,le_refl->aS
namespace Go.Proofs.YtdphgbjaijlckaaGreatDoor
set_option maxRecDepth 20000
open Go
section
variable {h g:Heap} {K:VP} {A B:Option Addr} {ac bc:Nat}
def Yy{xs:List Int}{i:Nat}(hi:i<xs.length):xs.drop i=xs.getD i 0::xs.drop (i+1):=by
 simp_all
def Dv(B:Int){xs:List Int}{i:Nat}(hi:i<xs.length):val B (xs.drop i)=xs.getD i 0+B*val B (xs.drop (i+1)):=by
 rw [Yy hi];rfl
def O2{xs:List Int}{i:Nat}{v:Int}(hi:i<xs.length):(xs.set i v).drop i=v::xs.drop (i+1):=by
 rw [List.drop_eq_getElem_cons gz0]
 simp [List.drop_set_of_lt]
def Ea{x d:Int}{an:Nat}(ma:Mg h A an x)(hd0:0<d/\d<4294967296)(hl:an<=18000000000000)(hK:∀ A' m c' h',h.le h'->m<=c'->m<=an->Mg h' A' m (x/d)->K (.tuple #[.slice A' m c',U32 (x%d)]) h'):FCall prog 141 #[.slice A an ac,U32 d] h K:=by
 obtain ⟨a,rfl,F,M,S,rfl⟩:=ma
 refine (fnk func141 [(4,[7,8],[],[U 0,I 0])]) ?_
 refine I0 Gx o o o ?_
 intro b z
 rw [aD]
 refine ⟨_,_,_,rfl,?_⟩
 refine ⟨fun l h'=>∃ (k:Nat) (r:Int) (zs:List Int),l=[U r,I ((k:Int)-1)]/\k<=a.length/\zs.length=a.length/\Dig b32 zs/\(0<=r/\r<d)/\h'=blk .u32 173 h b zs/\val b32 (a.drop k)=val b32 (zs.drop k)*d+r,fun l _=>(iAt l 1+1).toNat,⟨a.length,0,_,by rw [B6 o o],o,by simp,F9 dc _,o,rfl,by simp [val]⟩,?_⟩
 rintro r i Q ⟨k,y,zs,L,O,q,u,c,rfl,f⟩
 obtain ⟨rfl,rfl⟩:r=y/\i=(k:Int)-1:=gz0
 have s:=X9 (k:=.u32) (e:=173) z zs
 refine B5 (fun B=>?_) (fun B=>?_)
 ·obtain ⟨j,rfl⟩:∃ j,k=j+1:=⟨k-1,o⟩
  have e:((j+1:Nat):Int)-1=(j:Int):=o
  rw [e]
  have G:=T6 M j
  refine (F.mono s).load rfl o o ?_
  rw [aD]
  have H:C1 d=d:=B9 o o
  have C:bor .u64 (C1 (r*2^(min ((32:Int)).toNat 64))) (C1 (a.getD j 0))=r*4294967296+a.getD j 0:=by
   rw [show (2:Int)^(min ((32:Int)).toNat 64)=4294967296 from dc,B9 (n:=a.getD j 0) o o,B9 (n:=r*4294967296) o o]
   exact Ly o G
  rw [H,C]
  have p:0<=r*4294967296+a.getD j 0:=o
  have D:Int.tdiv (r*4294967296+a.getD j 0) d=(r*4294967296+a.getD j 0)/d:=bH p
  have E:Int.tmod (r*4294967296+a.getD j 0) d=(r*4294967296+a.getD j 0)%d:=bG p
  rw [D,E]
  have w:0<=(r*4294967296+a.getD j 0)/d/\(r*4294967296+a.getD j 0)/d<4294967296:=by
   constructor
   ·exact aP p o
   ·apply aN o
    omega
  refine B5 (fun e=>absurd e o) (fun _=>?_)
  refine ⟨_,rfl,o,o,?_⟩
  refine L9 (k:=.u32) (zs:=zs) (i:=(j:Int)) I4 o ?_
  rw [aD,B9 o o,J8 o o,B6 o o]
  refine B5 (fun e=>absurd e o) (fun _=>?_)
  refine ⟨⟨j,_,zs.set j ((r*4294967296+a.getD j 0)/d),rfl,o,gz0,u.set w,⟨aW _ o,aR _ o⟩,rfl,?_⟩,by simp only [iAt,aH,aM];omega⟩
  rw [O2 o,Dv b32 o,f]
  have:=aL (r*4294967296+a.getD j 0) d
  simp only [val]
  grind
 ·have g:k=0:=o
  subst g
  rw [List.drop_zero,List.drop_zero] at f
  rw [<- q]
  refine R8 (X8 _ _ _ _ _) u (aS _) o ?_
  intro m R N
  have w:val b32 a/d=val b32 zs:=by
   rw [f,Int.add_comm,bM _ _ o,bK c.1 c.2,Int.zero_add]
  have t:val b32 a%d=r:=by
   rw [f,Int.add_comm,Int.add_mul_emod_self_right,Int.emod_eq_of_lt c.1 c.2]
  rw [J8 o o,<- t]
  grind
end
def A6t{a b:Int}(ha:0<=a/\a<4294967296)(hb:0<=b/\b<4294967296):0<=a*b/\a*b<=18446744065119617025:=by
 refine ⟨aG ha.1 hb.1,?_⟩
 have:=bI (show a<=4294967295 from o) (show b<=4294967295 from o) hb.1 dc
 omega
def D7{xs ys:List Int}{i:Nat}(h:xs.drop i=ys.drop i):xs.getD i 0=ys.getD i 0:=by
 have a:(xs.drop i)[0]? = (ys.drop i)[0]? :=by rw [h]
 grind
def D0{xs ys:List Int}{i:Nat}(h:xs.drop i=ys.drop i):xs.drop (i+1)=ys.drop (i+1):=by
 rw [<- aQ,<- aQ,h]
def C8{xs:List Int}{i j:Nat}{v:Int}(h:i<j):(xs.set i v).drop j=xs.drop j:=List.drop_set_of_lt h
section
variable {h g:Heap} {K:VP} {A B:Option Addr} {ac bc:Nat}
def Qz{x y:Int}{an bn:Nat}(ma:Mg h A an x)(mb:Mg h B bn y)(hl:an<=18000000000000)(hl2:bn<=18000000000000)(hK:∀ A' m c' h',h.le h'->m<=c'->Mg h' A' m (x*y)->K (.slice A' m c') h'):FCall prog 202 #[.slice A an ac,.slice B bn bc] h K:=by
 have E:=ma.len_zero dc
 have G:=mb.len_zero dc
 obtain ⟨d,rfl,sx,dx,nx,rfl⟩:=ma
 obtain ⟨a,rfl,S,dy,ny,rfl⟩:=mb
 refine Vk _ _ _ _ _ _ ?_
 refine D5 (fun R=>?_) (fun hx=>D5 (fun R=>?_) (fun hy=>?_))
 ·have:=hK none 0 0 h (B3 h) (aS _) (by rw [E.2 o,Int.zero_mul];exact Mag.zero)
  exact this
 ·have:=hK none 0 0 h (B3 h) (aS _) (by rw [G.2 o,aY];exact Mag.zero)
  exact this
 have e1:B7 ((d.length:Int)+a.length)=((d.length+a.length:Nat):Int):=by rw [B6 o o];omega
 rw [e1]
 refine I0 Gx o o o ?_
 intro b L
 rw [aD]
 refine ⟨_,_,_,rfl,?_⟩
 refine ⟨fun l h'=>∃ (k:Nat) (zs:List Int),l=[I k]/\k<=d.length/\zs.length=d.length+a.length/\Dig b32 zs/\h'=blk .u32 173 h b zs/\zs.drop (k+a.length)=bF (d.length-k) 0/\val b32 (zs.take (k+a.length))=val b32 (d.take k)*val b32 a,fun l _=>d.length-(iAt l 0).toNat,⟨0,_,rfl,o,by simp,F9 dc _,rfl,by simp,?_⟩,?_⟩
 ·rw [List.take_replicate,S9];simp [val]
 rintro i X ⟨k,f,ab,hk,g,u,rfl,s,r⟩
 obtain rfl:i=(k:Int):=gz0
 refine B5 (fun T=>?_) (fun T=>?_)
 ·have gx:=T6 dx k
  have vx:=C2 b32 d k
  refine ⟨fun l h'=>∃ (m:Nat) (c:Int) (zs:List Int),l=[U c,I m]/\m<=a.length/\zs.length=d.length+a.length/\Dig b32 zs/\(0<=c/\c<4294967296)/\h'=blk .u32 173 h b zs/\zs.drop (k+m)=f.drop (k+m)/\val b32 (zs.take (k+m))+c*b32^(k+m)=val b32 (f.take (k+m))+b32^k*(d.getD k 0*val b32 (a.take m)),fun l _=>a.length-(iAt l 1).toNat,⟨0,0,f,rfl,o,g,u,o,rfl,rfl,by simp [val]⟩,?_⟩
  rintro c j W ⟨m,c',zs,aa,M,D,w,hc,rfl,q,hv⟩
  obtain ⟨rfl,rfl⟩:c=c'/\j=(m:Int):=gz0
  have t:=X9 (k:=.u32) (e:=173) L zs
  refine B5 (fun O=>?_) (fun O=>?_)
  ·have V:=T6 dy m
   have vy:=C2 b32 a m
   have gz:=T6 w (k+m)
   have F:=D7 q
   have vz:=C2 b32 f (k+m)
   have p:B7 ((k:Int)+m)=((k+m:Nat):Int):=by rw [B6 o o];omega
   rw [p]
   refine (sx.mono t).load rfl o o ?_
   refine (S.mono t).load rfl o o ?_
   refine (X8 .u32 173 h b zs).load D.symm o o ?_
   simp only [aD]
   have X:=A6t gx V
   have Q:C1 (c+C1 (C1 (C1 (d.getD k 0)*C1 (a.getD m 0))+C1 (zs.getD (k+m) 0)))=c+(d.getD k 0*a.getD m 0+zs.getD (k+m) 0):=by
    rw [B9 (n:=d.getD k 0) o o,B9 (n:=a.getD m 0) o o,B9 (n:=zs.getD (k+m) 0) o o,B9 (n:=d.getD k 0*a.getD m 0) o o,B9 (n:=d.getD k 0*a.getD m 0+zs.getD (k+m) 0) o o,B9 o o]
   rw [Q]
   refine ⟨_,rfl,o,o,?_⟩
   refine L9 (k:=.u32) (zs:=zs) (i:=((k+m:Nat):Int)) I4 o ?_
   rw [aD,T7,Kz,B6 (n:=(m:Int)+1) o o]
   refine ⟨⟨m+1,_,zs.set (k+m) ((c+(d.getD k 0*a.getD m 0+zs.getD (k+m) 0))%4294967296),rfl,o,gz0,w.set (Xw _),o,rfl,?_,?_⟩,by simp only [iAt,aH,aM];omega⟩
   ·rw [C8 o];exact D0 q
   ·rw [<- Nat.add_assoc,C5 o,D8,aK,aI o,aV,S3,vy,vz,<- F]
    grind
  ·have z:m=a.length:=o
   subst z
   have p:B7 ((k:Int)+a.length)=((k+a.length:Nat):Int):=by rw [B6 o o];omega
   rw [p]
   refine ⟨_,rfl,o,o,?_⟩
   refine L9 (k:=.u32) (zs:=zs) (i:=((k+a.length:Nat):Int)) I4 o ?_
   rw [aD,J8 o o,B6 (n:=(k:Int)+1) o o]
   have N:k+1+a.length=k+a.length+1:=o
   refine ⟨⟨k+1,zs.set (k+a.length) c,rfl,o,gz0,w.set hc,rfl,?_,?_⟩,by simp only [iAt,aH];omega⟩
   ·rw [N,C8 o,D0 q,<- aQ,s,List.drop_replicate]
    congr 1
   ·rw [N,C5 o,D8,aK,aI o]
    grind
 ·have C:k=d.length:=o
  subst C
  rw [List.take_length,aT (show f.length<=d.length+a.length from o)] at r
  rw [<- g]
  refine R8 (X8 _ _ _ _ _) u (aS _) o ?_
  intro m M H
  rw [r] at H
  exact ⟨_,_,_,rfl,hK _ _ _ _ (X9 L _) M H⟩
def Sv{x z:Int}{s:Nat}(hs:s<=32)(_hx:0<=x/\x<4294967296)(hz:0<=z/\z<(2:Int)^s):
 bor .u32 z (x*2^s%4294967296)=z+x*2^s%4294967296/\z+x*2^s%4294967296<4294967296:=by
 have g:(2:Int)^s*2^(32-s)=4294967296:=by
  rw [<- Int.pow_add,show s+(32-s)=32 from o];decide
 have c:0<(2:Int)^s:=aO dc
 have j:0<(2:Int)^(32-s):=aO dc
 have a:z<4294967296:=by
  have:(2:Int)^s*1<=2^s*2^(32-s):=aE o o
  omega
 have k:x*2^s%4294967296=2^s*(x%2^(32-s)):=by
  rw [<- g,aZ x,bJ _ _ c]
 have e:=Xw (x*2^s)
 have b:bor .u32 z (x*2^s%4294967296)=z+x*2^s%4294967296:=by
  rw [A79 ⟨hz.1,a⟩ e]
  have i:0<=x%2^(32-s):=aW _ o
  have f:(x*2^s%4294967296).toNat=2^s*(x%2^(32-s)).toNat:=by
   grind
  have d:z.toNat<2^s:=by
   grind
  rw [f,Nat.or_comm,Sw d,<- f]
  omega
 refine ⟨b,?_⟩
 rw [<- b,A79 ⟨hz.1,a⟩ e]
 have:z.toNat ||| (x*2^s%4294967296).toNat<2^32:=Nat.or_lt_two_pow o o
 omega
def Cu{xs:List Int}{s:Nat}(sx:SlI .u32 h A xs)(dx:Dig b32 xs)(hs:s<32)(hl:xs.length<=18000000000000)(hK:∀ b zs,h b=none->zs.length=xs.length+1->Dig b32 zs->val b32 zs=val b32 xs*2^s->K (.slice (some ⟨b,0,none⟩) (xs.length+1) (xs.length+1)) (blk .u32 173 h b zs)):FCall prog 275 #[.slice A xs.length ac,U s] h K:=by
 refine (fnk func275 [(3,[6],[],[I 0])]) ?_
 have F:B7 ((xs.length:Int)+1)=((xs.length+1:Nat):Int):=by rw [B6 o o];omega
 rw [F]
 refine I0 Gx o o o ?_
 intro b t
 refine ⟨_,_,_,rfl,?_⟩
 have g:0<(2:Int)^s:=aO dc
 have p:(2:Int)^s<=2147483648:=by
  have:=C7 (B:=2) dc (show s<=31 from o)
  omega
 refine ⟨fun l x=>∃ (k:Nat) (zs:List Int),l=[I k]/\k<=xs.length/\zs.length=xs.length+1/\Dig b32 zs/\x=blk .u32 173 h b zs/\zs.drop (k+1)=bF (xs.length-k) 0/\zs.getD k 0<2^s/\val b32 (zs.take (k+1))=val b32 (xs.take k)*2^s,fun l _=>xs.length-(iAt l 0).toNat,⟨0,_,rfl,o,by simp,F9 dc _,rfl,by simp,by assumption,by simp [val]⟩,?_⟩
 rintro i M ⟨k,zs,G,L,a,m,rfl,f,u,O⟩
 obtain rfl:i=(k:Int):=gz0
 have j:=X9 (k:=.u32) (e:=173) t zs
 refine B5 (fun C=>?_) (fun C=>?_)
 ·have d:=T6 dx k
  have q:=T6 m k
  have H:=C2 b32 xs k
  have N:=C2 b32 zs k
  refine (sx.mono j).load rfl o o ?_
  refine B5 (fun e=>absurd e o) (fun _=>?_)
  refine (X8 .u32 173 h b zs).load a.symm o o ?_
  simp only [aD]
  obtain ⟨E,D⟩:=Sv (Nat.le_of_lt hs) d ⟨q.1,u⟩
  have c:0<=xs.getD k 0*2^s:=aG d.1 o
  have r:xs.getD k 0*2^s<4294967296*2^s:=Int.mul_lt_mul_of_pos_right d.2 g
  have w:C1 (C1 (xs.getD k 0)*2^(min s 64))=xs.getD k 0*2^s:=by
   rw [B9 (n:=xs.getD k 0) o o,aI o,B9 o o]
  rw [w]
  refine ⟨_,rfl,o,o,?_⟩
  refine L9 (k:=.u32) (zs:=zs) (i:=(k:Int)) I4 o ?_
  rw [aD,T7 (xs.getD k 0*2^s),E,Kz]
  have z:B7 ((k:Int)+1)=((k+1:Nat):Int):=by rw [B6 o o];omega
  rw [z]
  have y:0<=xs.getD k 0*2^s/4294967296/\xs.getD k 0*2^s/4294967296<2^s:=⟨aP c dc,aN dc o⟩
  refine ⟨_,rfl,o,o,?_⟩
  refine L9 (k:=.u32) (zs:=zs.set k (zs.getD k 0+xs.getD k 0*2^s%4294967296)) (i:=((k+1:Nat):Int)) I4 gz0 ?_
  rw [aD,J8 o o]
  refine ⟨⟨k+1,(zs.set k (zs.getD k 0+xs.getD k 0*2^s%4294967296)).set (k+1) (xs.getD k 0*2^s/4294967296),rfl,o,gz0,(m.set ⟨o,D⟩).set ⟨y.1,gz0⟩,rfl,?_,?_,?_⟩,by simp only [iAt,aH];omega⟩
  ·rw [C8 o,C8 o,<- aQ,f,List.drop_replicate]
   congr 1
  ·grind
  ·rw [C5 gz0,D8,C5 o,D8]
   simp only [aK,List.length_append,List.length_singleton]
   grind
 grind
end
structure Est (B P top u2 ul v1 v2 vl U V:Int):Prop where
 hB:1<B
 hP:0<P
 hU:U=(top*B+u2)*P+ul
 hV:V=(v1*B+v2)*P+vl
 u2r:0<=u2/\u2<B
 ulr:0<=ul/\ul<P
 v2r:0<=v2/\v2<B
 vlr:0<=vl/\vl<P
 top0:0<=top
 v1r:B<=2*v1/\v1<B
 lt:U<V*B
section
variable {B P top u2 ul v1 v2 vl U V:Int}
def Est.U0(e:Est B P top u2 ul v1 v2 vl U V):0<=U:=by
 obtain ⟨k,i,l,m,g,c,f,b,a,d,lt⟩:=e
 have j:0<=top*B:=aG a o
 have:0<=(top*B+u2)*P:=aG o o
 omega
def Est.V0(e:Est B P top u2 ul v1 v2 vl U V):0<V:=by
 obtain ⟨k,c,l,m,i,d,g,b,a,f,lt⟩:=e
 have j:0<v1*B:=bB o o
 have:0<(v1*B+v2)*P:=bB o c
 omega
def Est.V2(e:Est B P top u2 ul v1 v2 vl U V):B<=v1*B+v2:=by
 obtain ⟨j,i,k,l,g,c,f,b,a,d,lt⟩:=e
 have:1*B<=v1*B:=aC o o
 omega
def Est.low(e:Est B P top u2 ul v1 v2 vl U V){q:Int}(h0:0<=q)(h:top*B+u2<q*(v1*B+v2)):U<q*V:=by
 obtain ⟨l,i,n,p,g,c,f,a,b,d,lt⟩:=e
 have k:(top*B+u2+1)*P<=q*(v1*B+v2)*P:=aC o o
 have j:0<=q*vl:=aG h0 a.1
 have m:q*V=q*(v1*B+v2)*P+q*vl:=gz0
 grind
def Est.big(e:Est B P top u2 ul v1 v2 vl U V){q:Int}(h:B<=q):U<q*V:=by
 have:=aC h (aJ e.V0)
 have:=e.lt
 grind
def Est.init(e:Est B P top u2 ul v1 v2 vl U V):U<(top/v1+1)*V:=by
 obtain ⟨q,c,s,t,k,g,b,d,a,j,lt⟩:=e
 have m:0<=top/v1:=aP a o
 have i:top+1<=(top/v1+1)*v1:=by
  have:=aL top v1
  have:=aR top (show 0<v1 from o)
  grind
 have f:0<B*P:=bB o c
 have n:(top+1)*(B*P)<=(top/v1+1)*v1*(B*P):=aC i o
 have r:0<=(top/v1+1)*(v2*P+vl):=aG o (by have:=aG b.1 (aJ c);omega)
 have p:(top/v1+1)*V=(top/v1+1)*v1*(B*P)+(top/v1+1)*(v2*P+vl):=gz0
 have l:(u2+1)*P<=B*P:=aC o o
 grind
def Est.up(e:Est B P top u2 ul v1 v2 vl U V){q:Int}(hq:q<=B)(h:q*(v1*B+v2)<=top*B+u2):(q-1)*V<=U:=by
 have g:=e.V2
 have k:=e.V0
 have b:=e.U0
 obtain ⟨t,l,u,w,i,d,j,c,a,f,lt⟩:=e
 by_cases p:q<=0
 ·have:(q-1)*V<=0:=Int.mul_nonpos_of_nonpos_of_nonneg o o
  omega
 ·have m:(q-1)*vl<=(q-1)*P:=aE o o
  have s:(q*(v1*B+v2))*P<=(top*B+u2)*P:=aC h o
  have n:(q-1)*V=(q*(v1*B+v2))*P-(v1*B+v2)*P+(q-1)*vl:=gz0
  have r:(q-1)*P<=(v1*B+v2)*P:=aC o o
  omega
def Est.first(e:Est B P top u2 ul v1 v2 vl U V):top<(v1+1)*B/\top/v1<=B+1:=by
 obtain ⟨q,f,r,s,a,i,m,c,b,j,lt⟩:=e
 have d:0<B*P:=bB o f
 have p:top*(B*P)<=U:=by
  have:0<=u2*P:=aG a.1 o
  grind
 have n:V<(v1+1)*(B*P):=by
  have l:(v2+1)*P<=B*P:=aC o o
  grind
 have l:V*B<=(v1+1)*(B*P)*B:=aC o o
 have g:top*(B*P)<(v1+1)*B*(B*P):=by
  grind
 have k:top<(v1+1)*B:=Int.lt_of_mul_lt_mul_right g o
 refine ⟨k,?_⟩
 have:top/v1<B+2:=by
  apply aN o
  grind
 omega
end
def Q9(k:IntKind)(e:TypeId)(g:Heap)(bu:Nat)(us:List Int)(bq:Nat)(qs:List Int):Heap:=blk k e (blk k e g bu us) bq qs
section
variable {k:IntKind} {e:TypeId} {g:Heap} {bu bq:Nat} {us qs:List Int}
def Gb(hu:g bu=none)(hq:g bq=none)(hne:bu≠bq):g.le (Q9 k e g bu us bq qs):=
 A0 (X9 hu us) (X9 (by unfold blk;rw [B4 _ _ hne.symm];exact hq) qs)
def Bw(hne:bu≠bq):Q9 k e g bu us bq qs=blk k e (blk k e g bq qs) bu us:=by
 exact Heap.put_comm g _ _ hne
def Iy(hne:bu≠bq):SlI k (Q9 k e g bu us bq qs) (some ⟨bu,0,none⟩) us:=by
 rw [Bw hne];exact X8 k e _ bu us
def A2u:SlI k (Q9 k e g bu us bq qs) (some ⟨bq,0,none⟩) qs:=X8 k e _ bq qs
def J4{P:Program}{t:TypeId}(one:P.cellsOf t=1/\(P.info? t).isSome=true)(hne:bu≠bq){n i:Int}(hi:i.toNat<us.length){K:Unit->Heap->Prop}
 (x:K () (Q9 k e g bu (us.set i.toNat n) bq qs)):wpH P (Instr.storeAt t (.pointer (some (Addr.add ⟨bu,0,none⟩ (i.toNat*1)))) (.int k n)) K (Q9 k e g bu us bq qs):=by
 rw [Bw hne]
 rw [Bw hne] at x
 exact L9 one hi x
def Iz{P:Program}{t:TypeId}(one:P.cellsOf t=1/\(P.info? t).isSome=true){n i:Int}(hi:i.toNat<qs.length){K:Unit->Heap->Prop}
 (x:K () (Q9 k e g bu us bq (qs.set i.toNat n))):wpH P (Instr.storeAt t (.pointer (some (Addr.add ⟨bq,0,none⟩ (i.toNat*1)))) (.int k n)) K (Q9 k e g bu us bq qs):=
 L9 one hi x
end
def On{xs:List Int}{j i:Nat}:(xs.drop j).getD i 0=xs.getD (j+i) 0:=gz0
section
variable {g:Heap} {bu bq:Nat} {us qs:List Int} {VA:Option Addr} {vs:List Int}
def A1i{n j:Nat}{J:LP}{hp:Heap}{UA:Option Addr}{top u2 ul v1 v2 vl X Y P:Int}{t87 t96:Int}(es:Est 4294967296 P top u2 ul v1 v2 vl X Y)(sv:SlI .u32 hp VA vs)(su:SlI .u32 hp UA us)(hn:n=vs.length)(hn2:2<=n)(hul:j+n<us.length)(hbig:us.length<=36000000000000)
 (hv1:vs.getD (n-1) 0=v1) (hv2:vs.getD (n-2) 0=v2) (hu2:us.getD (j+n-2) 0=u2) (h87:0<=t87/\t87<4294967296) (h96:0<=t96/\t96<4294967296) (htop:top=t87*4294967296+t96)
 (hJ:∀ q,0<=q->q<=4294967296->X<(q+1)*Y->(q-1)*Y<=X->J [U q] hp):Gg prog VA n UA us.length j t87 t96 v1 v1 J hp:=by
 obtain ⟨f1,f2⟩:=es.first
 have y:=es.init
 have T:=es.U0
 have R:=es.v1r
 have g:=es.v2r
 have p:=es.u2r
 have c:=es.top0
 have z:bor .u64 (C1 (C1 t87*2^(min ((32:Int)).toNat 64))) (C1 t96)=top:=by
  rw [show (2:Int)^(min ((32:Int)).toNat 64)=4294967296 from dc,B9 (n:=t87) o o,B9 (n:=t96) o o,B9 (n:=t87*4294967296) o o,Ly h87 h96,htop]
 have d:C1 v1=v1:=B9 o o
 unfold Gg
 rw [z,d,bH c,bG c]
 have x:0<=top/v1:=aP c o
 have s:=aL top v1
 have w:=aW top (show v1≠0 from o)
 have N:=aR top (show 0<v1 from o)
 refine ⟨fun l t=>∃ q r:Int,l=[U q,U r]/\t=hp/\0<=q/\q<=4294967297/\0<=r/\r<4294967296/\q*v1+r=top/\X<(q+1)*Y,fun l _=>match l with|[.int _ q,_]=>q.toNat|_=>0,⟨_,_,rfl,rfl,?_,?_,w,o,?_,?_⟩,?_⟩
 ·rw [B9 o o];exact x
 ·rw [B9 o o];omega
 ·rw [B9 o o,aZ];exact s
 ·rw [B9 o o];exact y
 rintro q r f ⟨V,G,hl,rfl,B,W,Q,m,L,i⟩
 obtain ⟨rfl,rfl⟩:q=V/\r=G:=gz0
 have A:B7 ((n:Int)-1)=((n-1:Nat):Int):=by rw [B6 o o];omega
 have u:B7 ((n:Int)-2)=((n-2:Nat):Int):=by rw [B6 o o];omega
 have k:B7 (B7 ((j:Int)+(n:Int))-2)=((j+n-2:Nat):Int):=by rw [B6 (n:=(j:Int)+n) o o,B6 o o];omega
 refine ⟨fun l t=>l=[]/\t=f/\X<q*Y,?_,?_⟩
 ·refine B5 (fun C=>⟨rfl,rfl,es.big C⟩) (fun C=>?_)
  rw [u,k]
  refine sv.load hn o o ?_
  refine su.load rfl o o ?_
  rw [aD,aD,hv2,hu2]
  have hp:=A6t (a:=q) (b:=v2) o g
  have O:C1 (q*C1 v2)=q*v2:=by rw [B9 (n:=v2) o o,B9 o o]
  have M:bor .u64 (C1 (r*2^(min ((32:Int)).toNat 64))) (C1 u2)=r*4294967296+u2:=by
   rw [show (2:Int)^(min ((32:Int)).toNat 64)=4294967296 from dc,B9 (n:=u2) o o,B9 (n:=r*4294967296) o o,Ly ⟨Q,m⟩ p]
  have key:q*(v1*4294967296+v2)=(top-r)*4294967296+q*v2:=gz0
  refine B5 (fun H=>⟨rfl,rfl,es.low B o⟩) (fun H=>?_)
  refine hJ q B o i (es.up o o)
 ·rintro D ⟨_,rfl,F⟩
  have E:1<=q:=by
   grind
  rw [A]
  refine sv.load hn o o ?_
  rw [aD,hv1,d,B9 (n:=r+v1) o o,B9 (n:=q-1) o o]
  have e:X<(q-1+1)*Y:=gz0
  refine B5 (fun S=>?_) (fun S=>?_)
  ·have key:(q-1)*(v1*4294967296+v2)=(top-(r+v1))*4294967296+(q-1)*v2:=gz0
   have hb:(q-1)*v2<=4294967296*v2:=aC o g.1
   exact hJ (q-1) o o e (es.up o o)
  grind
end
def F1(B:Int)(xs:List Int)(i:Nat):val B (xs.take (i+1))=val B (xs.take i)+B^i*xs.getD i 0:=by
 by_cases a:i<xs.length
 ·exact J0 B a
 ·rw [aT o,aT o]
  grind
def A0b(B:Int){vs:List Int}{m:Nat}(hn:vs.length=m+2):val B vs=(vs.getD (m+1) 0*B+vs.getD m 0)*B^m+val B (vs.take m):=by
 have a:=F1 B vs (m+1)
 have b:=F1 B vs m
 grind
def A0a(B:Int){us:List Int}{m:Nat}(hn:us.length=m+3):val B us=((us.getD (m+2) 0*B+us.getD (m+1) 0)*B+us.getD m 0)*B^m+val B (us.take m):=by
 have a:=F1 B us (m+2)
 have b:=F1 B us (m+1)
 have c:=F1 B us m
 grind
def A2n{B:Int}(hB:1<B){us vs:List Int}{m:Nat}(du:Dig B us)(dv:Dig B vs)(hu:us.length=m+3)(hv:vs.length=m+2)(h1:B<=2*vs.getD (m+1) 0)(hlt:val B us<val B vs*B):
 Est B (B^m) (us.getD (m+2) 0*B+us.getD (m+1) 0) (us.getD m 0) (val B (us.take m)) (vs.getD (m+1) 0) (vs.getD m 0) (val B (vs.take m)) (val B us) (val B vs):=by
 have a:0<B:=o
 have c:=I6 a (du.take m)
 have b:=I6 a (dv.take m)
 rw [aK,aI o] at c b
 refine ⟨hB,aO a,A0a B hu,A0b B hv,du.getD a _,⟨C3 a (du.take m),c⟩,dv.getD a _,⟨C3 a (dv.take m),b⟩,?_,⟨h1,(dv.getD a _).2⟩,hlt⟩
 have:=aG (du.getD a (m+2)).1 (aJ a)
 have:=(du.getD a (m+1)).1
 omega
def Est.top{B P top u2 ul v1 v2 vl U V:Int}(e:Est B P top u2 ul v1 v2 vl U V)(h:v1*B<=top):(B-1-1)*V<=U/\U<(B-1+1)*V:=by
 obtain ⟨p,k,q,r,i,f,j,d,a,g,lt⟩:=e
 constructor
 ·have m:v1*B*B*P<=U:=by
   have b:v1*B*B<=top*B:=aC h o
   have c:v1*B*B*P<=(top*B+u2)*P:=aC o o
   omega
  have b:V<=(v1+1)*B*P:=by
   have c:(v2+1)*P<=B*P:=aC o o
   grind
  have c:(B-1-1)*V<=(B-1-1)*((v1+1)*B*P):=aE b o
  have l:(B-1-1)*((v1+1)*B*P)=v1*B*B*P-(2*v1+2-B)*(B*P):=gz0
  have n:0<=(2*v1+2-B)*(B*P):=aG o (aG o o)
  omega
 grind
structure LS (F S first second u0 v0 u1 v1 u2 v2:Int) (odd:Bool):Prop where
 hF:F=v2*first+v1*second
 hS:S=u2*first+u1*second
 det:u1*v2-u2*v1=if odd then -1 else 1
 ord:0<=second/\second<=first
 st:(u0=0/\v0=0/\u1=1/\v1=0/\u2=0/\v2=1)\/
  (((u0=1/\v0=0/\u1=0/\v1=1/\0<=u2/\u2<=v2/\1<=u2)\/(0<=u0/\u0<=v0/\1<=v0/\1<=u1/\u1<=v1/\1<=u2/\u2<=v2))/\
   (u0*v1-u1*v0=if odd then 1 else -1)/\∃ f0,F=v1*f0+v0*first/\S=u1*f0+u0*first/\v0+v1<=f0-first/\v1<=first)
def LS.init{F S:Int}(h0:0<=S)(h:S<=F):LS F S F S 0 0 1 0 0 1 false:=
 ⟨o,o,by simp,⟨h0,h⟩,.inl ⟨rfl,rfl,rfl,rfl,rfl,rfl⟩⟩
def LS.v2pos{F S first second u0 v0 u1 v1 u2 v2:Int}{odd:Bool}(l:LS F S first second u0 v0 u1 v1 u2 v2 odd):1<=v2/\0<=v1/\0<=u1/\0<=u2/\0<=u0/\0<=v0:=by
 obtain ⟨e,c,b,a,d⟩:=l
 grind
def LS.step{F S first second u0 v0 u1 v1 u2 v2:Int}{odd:Bool}(l:LS F S first second u0 v0 u1 v1 u2 v2 odd)(h1:v2<=second)(h2:v1+v2<=first-second):
 LS F S second (first%second) u1 v1 u2 v2 (u1+first/second*u2) (v1+first/second*v2) (!odd):=by
 obtain ⟨k,f,j,g,b⟩:=l
 have c:0<second:=o
 have e:1<=first/second:=by
  rw [Int.le_ediv_iff_mul_le c];omega
 have d:=aL first second
 have a:=aW first (show second≠0 from o)
 have i:=aR first c
 have n:u2<=first/second*u2:=by
  have:=aC e (show 0<=u2 from o);omega
 have m:first/second*u2<=first/second*v2:=aE o o
 refine ⟨?_,?_,?_,⟨a,o⟩,.inr ⟨?_,?_,first,?_,?_,o,h1⟩⟩
 ·grind
 ·grind
 ·grind
 ·rcases b with b|⟨b,_⟩
  ·grind
  ·right;omega
 ·grind
 ·rw [k]
 ·rw [f]
def LS.bound{F S first second u0 v0 u1 v1 u2 v2:Int}{odd:Bool}(l:LS F S first second u0 v0 u1 v1 u2 v2 odd)(hf:1<=first):v2<=F/\u2<=F/\u2<=v2:=by
 obtain ⟨g,d,b,a,f⟩:=l
 have e:v2*1<=v2*first:=aE hf o
 have c:0<=v1*second:=aG o o
 grind
def LS.bound2{F S first second u0 v0 u1 v1 u2 v2:Int}{odd:Bool}(l:LS F S first second u0 v0 u1 v1 u2 v2 odd)(hs:1<=second):v1+v2<=F:=by
 obtain ⟨g,d,b,a,f⟩:=l
 have e:v2*1<=v2*first:=aE o o
 have c:v1*1<=v1*second:=aE hs o
 omega
structure Leh (a b u0 v0 u1 v1 X0 X1:Int):Prop where
 ord:0<=X1/\X1<X0
 ha:a=v1*X0+v0*X1
 hb:b=u1*X0+u0*X1
 le:X0<=b
def Fv(a b u0 v0:Int)(odd:Bool):Int:=if odd then u0*a-v0*b else v0*b-u0*a
def Fu(a b u1 v1:Int)(odd:Bool):Int:=if odd then v1*b-u1*a else u1*a-v1*b
def LS.leh{F S first second u0 v0 u1 v1 u2 v2 a b al bl W:Int}{odd:Bool}(l:LS F S first second u0 v0 u1 v1 u2 v2 odd)(hv0:v0≠0)(hW:0<W)(ha:a=F*W+al)(hb:b=S*W+bl)(hal:0<=al/\al<W)(hbl:0<=bl/\bl<W):
 Leh a b u0 v0 u1 v1 (Fv a b u0 v0 odd) (Fu a b u1 v1 odd):=by
 obtain ⟨M,R,x,r,k⟩:=l
 rcases k with k|⟨k,p,i,t,u,q,m⟩
 ·omega
 have N:first*W>=v1*W:=aC m o
 have B:(i-first)*W>=(v0+v1)*W:=aC q o
 have E:v1*bl<=v1*W:=aE o o
 have V:u1*al<=u1*W:=aE o o
 have H:u1*W<=v1*W:=aC o o
 have O:0<=u1*al:=aG o o
 have L:0<=v1*bl:=aG o o
 have D:(v0+v1)*(bl+1)<=(v0+v1)*W:=aE o o
 have A:(u0+u1)*(al+1)<=(u0+u1)*W:=aE o o
 have T:(u0+u1)*W<=(v0+v1)*W:=aC o o
 have z:0<=(u0+u1)*al:=aG o o
 have y:0<=(v0+v1)*bl:=aG o o
 have f:∀ X0 X1:Int,0<=X1->X1<X0->b=u1*X0+u0*X1->X0<=b:=by
  intro X0 X1 s G e
  have C:1*X0<=u1*X0:=aC o o
  have Q:0<=u0*X1:=aG o s
  omega
 cases odd with
 | true=>
  have w:v1*b-u1*a=first*W+v1*bl-u1*al:=by
   grind
  have j:u0*a-v0*b-(v1*b-u1*a)=(i-first)*W+(u0+u1)*al-(v0+v1)*bl:=by
   grind
  have d:0<=v1*b-u1*a:=o
  have c:v1*b-u1*a<u0*a-v0*b:=by
   grind
  have n:a=v1*(u0*a-v0*b)+v0*(v1*b-u1*a):=by
   grind
  have g:b=u1*(u0*a-v0*b)+u0*(v1*b-u1*a):=by
   grind
  exact ⟨⟨d,c⟩,n,g,f _ _ d c g⟩
 | false=>
  have w:u1*a-v1*b=first*W+u1*al-v1*bl:=by
   grind
  have j:v0*b-u0*a-(u1*a-v1*b)=(i-first)*W+(v0+v1)*bl-(u0+u1)*al:=by
   grind
  have d:0<=u1*a-v1*b:=o
  have c:u1*a-v1*b<v0*b-u0*a:=by
   grind
  have n:a=v1*(v0*b-u0*a)+v0*(u1*a-v1*b):=by
   grind
  have g:b=u1*(v0*b-u0*a)+u0*(u1*a-v1*b):=by
   grind
  exact ⟨⟨d,c⟩,n,g,f _ _ d c g⟩
def Leh.gcd{a b u0 v0 u1 v1:Int}{odd:Bool}(l:Leh a b u0 v0 u1 v1 (Fv a b u0 v0 odd) (Fu a b u1 v1 odd)):bD (Fv a b u0 v0 odd) (Fu a b u1 v1 odd)=bD a b:=by
 apply Nat.dvd_antisymm
 ·have f:=l.ha
  have g:=l.hb
  generalize Fv a b u0 v0 odd=p at *
  generalize Fu a b u1 v1 odd=q at *
  have dp:(bD p q:Int)∣p:=Int.gcd_dvd_left p q
  have e:(bD p q:Int)∣q:=Int.gcd_dvd_right p q
  rw [<- Int.ofNat_dvd]
  apply Int.dvd_coe_gcd
  ·rw [f];exact Int.dvd_add (aF dp) (aF e)
  ·rw [g];exact Int.dvd_add (aF dp) (aF e)
 ·have c:(bD a b:Int)∣a:=Int.gcd_dvd_left a b
  have d:(bD a b:Int)∣b:=Int.gcd_dvd_right a b
  rw [<- Int.ofNat_dvd]
  apply Int.dvd_coe_gcd
  ·unfold Fv;split
   ·exact bC (aF c) (aF d)
   ·exact bC (aF d) (aF c)
  ·unfold Fu;split
   ·exact bC (aF d) (aF c)
   ·exact bC (aF c) (aF d)
def Z8(pre ws:List Int)(i:Nat):(pre++ws).getD (i+pre.length) 0=ws.getD i 0:=by
 grind
def Dd(pre ws:List Int)(i:Nat)(v:Int):(pre++ws).set (i+pre.length) v=pre++ws.set i v:=by
 grind
def U5{B:Int}(hB:0<B){ws:List Int}{n:Nat}(d:Dig B ws)(h:val B ws<B^n):val B (ws.drop n)=0:=by
 by_cases b:n<=ws.length
 ·have e:=E5 B ws b
  have c:=C3 hB (d.take n)
  have f:=C3 hB (d.drop n)
  by_cases a:val B (ws.drop n)=0
  ·exact a
  ·have:B^n*1<=B^n*val B (ws.drop n):=aE o (aJ (C9 hB n))
   omega
 ·rw [aU o];rfl
section
variable {g:Heap} {bu bq:Nat} {pre qs:List Int} {VA:Option Addr} {vs:List Int}
def Zo{n N:Nat}{ws:List Int}{q:Int}{J:LP}(hu:g bu=none)(hq:g bq=none)(hne:bu≠bq)(sv:SlI .u32 g VA vs)(dv:Dig b32 vs)(hn:n=vs.length)(dw:Dig b32 ws)(hN:N=(pre++ws).length)(hl:n<ws.length)(hbig:N<=36000000000000)
 (hD:val b32 (ws.take n)+val b32 vs<2*b32^n) (hD0:b32^n<=val b32 (ws.take n)+val b32 vs) (htop:ws.getD n 0=4294967295)
 (hJ:∀ ws',ws'.length=ws.length->Dig b32 ws'->ws'.drop (n+1)=ws.drop (n+1)->ws'.getD n 0=0->val b32 (ws'.take n)=val b32 (ws.take n)+val b32 vs-b32^n->J [U (C1 (q-1))] (Q9 .u32 173 g bu (pre++ws') bq qs)):
 Kk prog VA n (some ⟨bu,0,none⟩) N (pre.length:Int) q J (Q9 .u32 173 g bu (pre++ws) bq qs):=by
 refine ⟨fun l y=>∃ (k:Nat) (c:Int) (zs:List Int),l=[U c,I k]/\k<=n/\zs.length=ws.length/\Dig b32 zs/\(0<=c/\c<=1)/\y=Q9 .u32 173 g bu (pre++zs) bq qs/\zs.drop k=ws.drop k/\val b32 (zs.take k)+c*b32^k=val b32 (ws.take k)+val b32 (vs.take k),fun l _=>n-(iAt l 1).toNat,⟨0,0,ws,rfl,o,rfl,dw,o,rfl,rfl,by rfl⟩,?_⟩
 rintro c i M ⟨k,w,zs,F,L,A,e,O,rfl,a,E⟩
 obtain ⟨rfl,rfl⟩:c=w/\i=(k:Int):=gz0
 have p:g.le (Q9 .u32 173 g bu (pre++zs) bq qs):=Gb hu hq hne
 have t:SlI .u32 (Q9 .u32 173 g bu (pre++zs) bq qs) (some ⟨bu,0,none⟩) (pre++zs):=Iy hne
 have d:N=(pre++zs).length:=gz0
 have B:N=pre.length+zs.length:=gz0
 have r:B7 ((k:Int)+pre.length)=((k+pre.length:Nat):Int):=by rw [B6 o o];omega
 have j:B7 ((pre.length:Int)+n)=((n+pre.length:Nat):Int):=by rw [B6 o o];omega
 refine B5 (fun z=>?_) (fun z=>?_)
 ·have H:=T6 dv k
  have G:=T6 e k
  have b:=D7 a
  have D:=C2 b32 vs k
  have x:=C2 b32 ws k
  rw [r]
  refine t.load d o o ?_
  refine (sv.mono p).load hn o o ?_
  simp only [aD,Z8]
  have C:C1 (c+C1 (C1 (zs.getD k 0)+C1 (vs.getD k 0)))=c+zs.getD k 0+vs.getD k 0:=by
   rw [B9 (n:=zs.getD k 0) o o,B9 (n:=vs.getD k 0) o o,B9 (n:=zs.getD k 0+vs.getD k 0) o o,B9 o o];omega
  rw [C]
  refine ⟨_,rfl,o,o,?_⟩
  refine J4 (us:=pre++zs) (i:=((k+pre.length:Nat):Int)) I4 hne o ?_
  rw [aD,Dd,T7,Kz,B6 (n:=(k:Int)+1) o o]
  refine ⟨⟨k+1,_,zs.set k ((c+zs.getD k 0+vs.getD k 0)%4294967296),rfl,o,gz0,e.set (Xw _),o,rfl,?_,?_⟩,by simp only [iAt,aH,aM];omega⟩
  ·rw [C8 o];exact D0 a
  ·rw [C5 o,D8,aK,aI o,aV,S3,D,x,<- b]
   grind
 ·have f:k=n:=o
  subst f
  have b:=D7 a
  rw [j]
  refine t.load d o o ?_
  rw [aD,Z8,b,htop]
  refine ⟨_,rfl,o,o,?_⟩
  refine J4 (us:=pre++zs) (i:=((k+pre.length:Nat):Int)) I4 hne o ?_
  rw [aD,Dd]
  have m:vs.take k=vs:=gz0
  rw [m] at E
  have u:=I6 dc (e.take k)
  have s:c=1:=by
   grind
  subst s
  refine hJ (zs.set k 0) gz0 (e.set dc) (by rw [C8 o];exact D0 a) gz0 ?_
  rw [aX o]
  omega
def Va{n N nq:Nat}{ws:List Int}{q X Y:Int}{J:LP}(hu:g bu=none)(hq:g bq=none)(hne:bu≠bq)(sv:SlI .u32 g VA vs)(dv:Dig b32 vs)(hn:n=vs.length)(dw:Dig b32 ws)(hN:N=(pre++ws).length)(hl:n<ws.length)(hbig:N<=36000000000000)
 (hnq:nq=qs.length) (hjq:pre.length<qs.length)
 (hX:X=val b32 (ws.take n)+b32^n*ws.getD n 0) (hY:Y=val b32 vs) (hq0:0<=q) (hq1:q<=4294967296) (hlt:X<(q+1)*Y) (hge:(q-1)*Y<=X) (hXB:X<Y*4294967296)
 (hJ:∀ ws' q',ws'.length=ws.length->Dig b32 ws'->ws'.drop (n+1)=ws.drop (n+1)->ws'.getD n 0=0->val b32 (ws'.take n)=X-q'*Y->0<=X-q'*Y->X-q'*Y<Y->0<=q'->q'<4294967296->J [] (Q9 .u32 173 g bu (pre++ws') bq (qs.set pre.length q'))):
 Gf prog VA n (some ⟨bu,0,none⟩) N (some ⟨bq,0,none⟩) nq (pre.length:Int) J q (Q9 .u32 173 g bu (pre++ws) bq qs):=by
 have ab:Y<b32^n:=by rw [hY,hn];exact I6 dc dv
 have ae:0<=X:=by
  have H:=C3 dc (dw.take n)
  have h2:=aG (aJ (C9 (B:=b32) dc n)) (T6 dw n).1
  omega
 have w:0<Y:=by
  omega
 have z:∀ ws' q',ws'.length=ws.length->Dig b32 ws'->ws'.drop (n+1)=ws.drop (n+1)->ws'.getD n 0=0->val b32 (ws'.take n)=X-q'*Y->0<=X-q'*Y->X-q'*Y<Y->0<=q'->Gi prog (some ⟨bq,0,none⟩) nq (pre.length:Int) J q' (Q9 .u32 173 g bu (pre++ws') bq qs):=by
  intro ws' q' H h2 h3 h4 h5 h6 h7 h8
  have ac:q'<4294967296:=by
   by_cases r:q'<4294967296
   ·exact r
   ·have:=aC (show 4294967296<=q' from o) (aJ w)
    omega
  unfold Gi
  refine ⟨_,rfl,o,o,?_⟩
  refine Iz (i:=(pre.length:Int)) I4 o ?_
  rw [aD,J8 h8 o]
  grind
 unfold Gf
 refine ⟨fun l E=>∃ (k:Nat) (c b:Int) (zs:List Int),l=[U c,U b,I k]/\k<=n/\zs.length=ws.length/\Dig b32 zs/\(0<=c/\c<4294967296)/\(0<=b/\b<=1)/\E=Q9 .u32 173 g bu (pre++zs) bq qs/\zs.drop k=ws.drop k/\val b32 (zs.take k)=val b32 (ws.take k)-q*val b32 (vs.take k)+(c+b)*b32^k,fun l _=>n-(iAt l 2).toNat,⟨0,0,0,ws,rfl,o,rfl,dw,o,o,rfl,rfl,by simp [val]⟩,?_⟩
 rintro c b i hp ⟨k,c',b',zs,aj,hk,j,f,r,hb,rfl,d,hv⟩
 obtain ⟨rfl,rfl,rfl⟩:c=c'/\b=b'/\i=(k:Int):=gz0
 have V:g.le (Q9 .u32 173 g bu (pre++zs) bq qs):=Gb hu hq hne
 have su:SlI .u32 (Q9 .u32 173 g bu (pre++zs) bq qs) (some ⟨bu,0,none⟩) (pre++zs):=Iy hne
 have m:N=(pre++zs).length:=gz0
 have ah:N=pre.length+zs.length:=gz0
 have W:B7 ((k:Int)+pre.length)=((k+pre.length:Nat):Int):=by rw [B6 o o];omega
 have C:B7 ((pre.length:Int)+n)=((n+pre.length:Nat):Int):=by rw [B6 o o];omega
 refine B5 (fun H=>?_) (fun H=>?_)
 ·have gv:=T6 dv k
  have gz:=T6 f k
  have u:=D7 d
  have vv:=C2 b32 vs k
  have vw:=C2 b32 ws k
  refine (sv.mono V).load hn o o ?_
  rw [W]
  refine su.load m o o ?_
  simp only [aD,Z8]
  have hm:0<=q*vs.getD k 0/\q*vs.getD k 0<=4294967296*4294967295:=⟨aG hq0 gv.1,bI hq1 o gv.1 dc⟩
  have ep:C1 (C1 (q*C1 (vs.getD k 0))+c)=q*vs.getD k 0+c:=by
   rw [B9 (n:=vs.getD k 0) o o,B9 (n:=q*vs.getD k 0) o o,B9 o o]
  rw [ep,S4 o,Kz,Kz,B9 (n:=zs.getD k 0) o o]
  generalize S:q*vs.getD k 0+c=p at *
  have ag:0<=p/\p<18446744073709551616:=o
  have O:C1 (C1 (zs.getD k 0-p%4294967296)-b)=(zs.getD k 0-p%4294967296-b)%18446744073709551616:=by
   rw [E9,E9];omega
  rw [O,Vg o]
  refine ⟨_,rfl,o,o,?_⟩
  refine J4 (us:=pre++zs) (i:=((k+pre.length:Nat):Int)) I4 hne o ?_
  rw [aD,Dd,T7,B6 (n:=(k:Int)+1) o o]
  refine ⟨⟨k+1,_,_,zs.set k ((zs.getD k 0-p%4294967296-b)%18446744073709551616%4294967296),rfl,o,by simpa using j,f.set (Xw _),o,o,rfl,?_,?_⟩,by simp only [iAt,aH,aM];omega⟩
  ·rw [C8 o];exact D0 d
  ·rw [C5 o,D8,aK,aI o,aV,vv,vw,<- u,hv]
   have key:(zs.getD k 0-p%4294967296-b)%18446744073709551616%4294967296=zs.getD k 0-p-b+4294967296*(p/4294967296+(zs.getD k 0-p%4294967296-b)%18446744073709551616/4294967296%2):=o
   grind
 ·have y:k=n:=o
  subst y
  have u:=D7 d
  have gz:=T6 f k
  have R:vs.take k=vs:=gz0
  rw [R,<- hY] at hv
  have D:=I6 dc (f.take k)
  rw [aK,aI o] at D
  have af:=C3 dc (f.take k)
  rw [C]
  refine su.load m o o ?_
  rw [aD,Z8]
  have hD:X-q*Y=val b32 (zs.take k)+(zs.getD k 0-c-b)*b32^k:=by
   grind
  have s:X-q*Y<Y:=by
   grind
  have aa: -Y<=X-q*Y:=by
   grind
  have S:0<b32^k:=C9 dc k
  have a:zs.getD k 0-c-b=0\/zs.getD k 0-c-b= -1:=by
   have h2:zs.getD k 0-c-b<1:=by
    by_cases r:zs.getD k 0-c-b<1
    ·exact r
    ·have:=aC (show 1<=zs.getD k 0-c-b from o) (aJ S);omega
   have h3: -2<zs.getD k 0-c-b:=by
    by_cases r: -2<zs.getD k 0-c-b
    ·exact r
    ·have:=aC (show zs.getD k 0-c-b <= -2 from o) (aJ S);omega
   omega
  have O:C1 (C1 (C1 (zs.getD k 0)-c)-b)=(zs.getD k 0-c-b)%18446744073709551616:=by
   rw [B9 (n:=zs.getD k 0) o o,E9,E9];omega
  rw [O]
  have T:∀ x:Int,Int.fdiv x (2^(min ((63:Int)).toNat 64))=x/9223372036854775808:=by
   intro x;rw [show (2:Int)^(min ((63:Int)).toNat 64)=9223372036854775808 from dc];grind
  refine ⟨_,rfl,o,o,?_⟩
  refine J4 (us:=pre++zs) (i:=((k+pre.length:Nat):Int)) I4 hne o ?_
  rw [aD,Dd,T7,T]
  have t:∀ v,(zs.set k v).getD k 0=v:=by intro v;simp [List.getD,show k<zs.length from o]
  refine ⟨fun l E=>∃ ws' q',l=[U q']/\E=Q9 .u32 173 g bu (pre++ws') bq qs/\ws'.length=ws.length/\Dig b32 ws'/\ws'.drop (k+1)=ws.drop (k+1)/\ws'.getD k 0=0/\val b32 (ws'.take k)=X-q'*Y/\0<=X-q'*Y/\X-q'*Y<Y/\0<=q',?_,?_⟩
  ·rcases a with a|a
   ·rw [a] at hD ⊢
    refine D5 (fun e=>absurd e dc) (fun _=>?_)
    refine ⟨zs.set k (0%18446744073709551616%4294967296),q,rfl,rfl,by simpa using j,f.set dc,by rw [C8 o];exact D0 d,t _,?_,o,s,hq0⟩
    rw [aX o];omega
   ·rw [a] at hD ⊢
    refine D5 (fun _=>?_) (fun e=>absurd dc e)
    have G:1<=q:=by
     grind
    have ht:(zs.set k (-1%18446744073709551616%4294967296)).take k=zs.take k:=aX o
    have e1:(q-1)*Y=q*Y-Y:=gz0
    refine Zo (ws:=zs.set k (-1%18446744073709551616%4294967296)) hu hq hne sv dv hn (f.set dc) (by rw [m];simp) (by simpa using (show k<zs.length from o)) hbig ?_ ?_ (t _) ?_
    ·grind
    ·grind
    ·intro ws' M F A L Q
     rw [ht,<- hY] at Q
     rw [B9 (n:=q-1) o o]
     refine ⟨ws',q-1,rfl,rfl,by rw [M];simpa using j,F,?_,L,o,o,o,o⟩
     rw [A,C8 o];exact D0 d
  ·rintro q2 ad ⟨ws',q',ai,rfl,M,F,A,L,Q,g6,g7,g8⟩
   obtain rfl:q2=q':=gz0
   exact z ws' q2 M F A L Q g6 g7 g8
end
def Nf(B:Int)(xs:List Int)(i:Nat):val B (xs.drop i)=xs.getD i 0+B*val B (xs.drop (i+1)):=by
 by_cases a:i<xs.length
 ·exact Dv B a
 ·rw [aU o,aU o]
  simp [val,List.getD,List.getElem?_eq_none (Nat.le_of_not_lt a)]
def Dx{s:Nat}(hs:s<=32):(2:Int)^s*2^(32-s)=4294967296:=by
 rw [<- Int.pow_add,show s+(32-s)=32 from o];decide
section
variable {h g:Heap} {K:VP} {A B:Option Addr} {ac bc:Nat} {bu bq:Nat} {VA:Option Addr} {vs us0:List Int}
def Wt{s nq cq rn cr:Nat}{rs tl qs:List Int}{Q R:Int}(hu:g bu=none)(hq:g bq=none)(hne:bu≠bq)(hs:s<32)(hrn:rn=rs.length)(hcr:rn<=cr)(hnq:nq=qs.length)(hcq:nq<=cq)(dq:Dig b32 qs)(dr:Dig b32 rs)(hb1:nq<=36000000000000)(hb2:rn<=36000000000000)(hQ:val b32 qs=Q)(hR:val b32 rs=R*2^s)
 (hK:∀ A1 m1 c1 A2 m2 c2 h',g.le h'->m1<=c1->m2<=c2->Mg h' A1 m1 Q->Mg h' A2 m2 R->K (.tuple #[.slice A1 m1 c1,.slice A2 m2 c2]) h'):
 Ge prog K (s:Int) (some ⟨bq,0,none⟩) nq cq (some ⟨bu,0,none⟩) rn cr (Q9 .u32 173 g bu (rs++tl) bq qs):=by
 have u:0<(2:Int)^s:=aO dc
 have D:=Dx (Nat.le_of_lt hs)
 have q:0<(2:Int)^(32-s):=aO dc
 refine ⟨fun l h'=>∃ (k:Nat) (zs:List Int),l=[I k]/\k<=rn/\zs.length=rs.length/\Dig b32 zs/\h'=Q9 .u32 173 g bu (zs++tl) bq qs/\zs.drop k=rs.drop k/\2^s*val b32 (zs.take k)+rs.getD 0 0%2^s=val b32 (rs.take k)+b32^k*(rs.getD k 0%2^s),fun l _=>rn-(iAt l 0).toNat,⟨0,rs,rfl,o,rfl,dr,rfl,rfl,by simp [val]⟩,?_⟩
 rintro i N ⟨k,zs,ac,hk,A,r,rfl,b,hv⟩
 obtain rfl:i=(k:Int):=gz0
 have t:∀ zs:List Int,SlI .u32 (Q9 .u32 173 g bu (zs++tl) bq qs) (some ⟨bu,0,none⟩) zs:=by
  intro zs
  have:=(Iy (g:=g) (k:=.u32) (e:=173) (us:=zs++tl) (qs:=qs) hne).cut (c:=(zs++tl).length) (l:=0) (m:=zs.length) o (by simp) (aS _)
  simpa [F2] using this
 have y:B7 ((k:Int)+1)=((k+1:Nat):Int):=by rw [B6 o o];omega
 have O:=T6 r k
 have F:=D7 b
 refine B5 (fun X=>?_) (fun X=>?_)
 ·refine (t zs).load o o o ?_
  refine B5 (fun e=>absurd e o) (fun _=>?_)
  refine ⟨_,rfl,o,o,?_⟩
  simp only [aD]
  rw [aI o,Int.fdiv_eq_ediv_of_nonneg _ (aJ u)]
  refine J4 (us:=zs++tl) (i:=(k:Int)) I4 hne gz0 ?_
  rw [aD,List.set_append_left _ _ o,y]
  have a:0<=zs.getD k 0/2^s:=aP O.1 o
  have w:zs.getD k 0/2^s<2^(32-s):=by
   apply aN u
   grind
  have f:(2:Int)^(32-s)<=4294967296:=by
   have:=aC (show 1<=(2:Int)^s from o) (aJ q);omega
  have W:Dig b32 (zs.set k (zs.getD k 0/2^s)):=r.set ⟨a,gz0⟩
  have l1:(zs.set k (zs.getD k 0/2^s)).length=rs.length:=gz0
  have g1:(zs.set k (zs.getD k 0/2^s)).getD k 0=zs.getD k 0/2^s:=gz0
  have V:(zs.set k (zs.getD k 0/2^s)).getD (k+1) 0=rs.getD (k+1) 0:=by
   rw [Qj o];exact D7 (D0 b)
  have vr:=C2 b32 rs k
  have d:∀ z:Int,(0<=z/\z<4294967296)->2^s*z=zs.getD k 0-zs.getD k 0%2^s+4294967296*(rs.getD (k+1) 0%2^s)->
   2^s*val b32 ((zs.set k z).take (k+1))+rs.getD 0 0%2^s=val b32 (rs.take (k+1))+b32^(k+1)*(rs.getD (k+1) 0%2^s):=by
   intro z hz ez
   rw [C5 o,D8,aK,aI o,vr,aV,<- F]
   grind
  have T:=aL (zs.getD k 0) (2^s)
  refine B5 (fun S=>?_) (fun S=>?_)
  ·refine (t _).load o o o ?_
   refine (t _).load o o o ?_
   simp only [aD,g1,V]
   have es:C1 ((32:Int)-s)=((32-s:Nat):Int):=by rw [B9 o o];omega
   rw [es]
   refine B5 (fun e=>absurd e o) (fun _=>?_)
   refine ⟨_,rfl,o,o,?_⟩
   have L:=T6 dr (k+1)
   have E:0<=rs.getD (k+1) 0*2^(32-s):=aG L.1 o
   have B:rs.getD (k+1) 0*2^(32-s)<18446744073709551616:=by
    have:=bI (show rs.getD (k+1) 0<=4294967295 from o) f o dc
    omega
   rw [aD,aI (show 32-s<=64 from o),B9 (n:=rs.getD (k+1) 0) o o,B9 E B,T7]
   obtain ⟨o1,H⟩:=Sv (s:=32-s) o L ⟨a,w⟩
   rw [o1]
   refine J4 (us:=zs.set k (zs.getD k 0/2^s)++tl) (i:=(k:Int)) I4 hne gz0 ?_
   rw [aD,List.set_append_left _ _ o,List.set_set]
   refine ⟨⟨k+1,zs.set k (zs.getD k 0/2^s+rs.getD (k+1) 0*2^(32-s)%4294967296),rfl,o,gz0,r.set ⟨o,H⟩,rfl,by rw [C8 o];exact D0 b,d _ ⟨o,H⟩ ?_⟩,by simp only [iAt,aH];omega⟩
   have em:rs.getD (k+1) 0*2^(32-s)%4294967296=2^(32-s)*(rs.getD (k+1) 0%2^s):=by
    rw [<- D,aZ (2^s),aZ (rs.getD (k+1) 0),bJ _ _ q]
   grind
  ·have M:rs.getD (k+1) 0=0:=gz0
   refine ⟨⟨k+1,zs.set k (zs.getD k 0/2^s),rfl,o,l1,W,rfl,gz0,d _ ⟨a,o⟩ ?_⟩,by simp only [iAt,aH];omega⟩
   rw [M,Int.zero_emod,aY,bL];omega
 ·have x:k=rs.length:=o
  subst x
  have G:val b32 zs=R:=by
   simp at hv
   have:2^s*(R-val b32 zs)=rs.getD 0 0%2^s:=by
    grind
   have hz:R-val b32 zs=0:=by
    by_cases hc:R-val b32 zs<=0
    ·by_cases C:R-val b32 zs=0
     ·exact C
     ·have:=aE (show R-val b32 zs <= -1 from o) (aJ u);omega
    ·have:=aE (show 1<=R-val b32 zs from o) (aJ u);omega
   omega
  rw [hnq]
  refine R8 A2u dq o o ?_
  intro m1 aa j
  refine ⟨_,_,_,rfl,?_⟩
  rw [hrn,<- A]
  refine R8 (t zs) r o o ?_
  intro m2 ab p
  rw [hQ] at j
  rw [G] at p
  exact ⟨_,_,_,rfl,hK _ _ _ _ _ _ _ (Gb hu hq hne) o o j p⟩
def Vj{s mm N nq:Nat}{us0:List Int}{a b Y:Int}(hu:g bu=none)(hq:g bq=none)(hne:bu≠bq)(sv:SlI .u32 g VA vs)(dv:Dig b32 vs)(hn:vs.length=mm+2)(hv1:4294967296<=2*vs.getD (mm+1) 0)(hs:s<32)(hY:val b32 vs=Y)(hYb:Y=b*2^s)(du:Dig b32 us0)(hN:us0.length=N)(hua:val b32 us0=a*2^s)(hnq:N=nq+(mm+2))(hnq1:1<=nq)(hbig:N<=36000000000000)(htop:val b32 (us0.drop nq)<Y)
 (hK:∀ A1 m1 c1 A2 m2 c2 h',g.le h'->m1<=c1->m2<=c2->Mg h' A1 m1 (a/b)->Mg h' A2 m2 (a%b)->K (.tuple #[.slice A1 m1 c1,.slice A2 m2 c2]) h'):
 Gh prog K (s:Int) VA (mm+2) (some ⟨bu,0,none⟩) N N (some ⟨bq,0,none⟩) nq nq (Q9 .u32 173 g bu us0 bq (bF nq 0)):=by
 have hp:0<(2:Int)^s:=aO dc
 have aj:Y<b32^(mm+2):=by rw [<- hY,<- hn];exact I6 dc dv
 have ap:0<Y:=by have:=C3 dc (du.drop nq);omega
 have e0:B7 (B7 ((N:Int)-((mm+2:Nat):Int))-1)=(nq:Int)-1:=by rw [B6 (n:=(N:Int)-((mm+2:Nat):Int)) o o,B6 o o];omega
 unfold Gh
 refine ⟨fun l h'=>∃ (k:Nat) (us qs:List Int),l=[I ((k:Int)-1)]/\k<=nq/\us.length=N/\qs.length=nq/\Dig b32 us/\Dig b32 qs/\h'=Q9 .u32 173 g bu us bq qs/\val b32 (us.drop k)<Y/\val b32 us0=val b32 (qs.drop k)*Y*b32^k+val b32 us,fun l _=>(iAt l 0+1).toNat,⟨nq,us0,_,by rw [e0],o,hN,by simp,du,F9 dc _,rfl,htop,by simp [val]⟩,?_⟩
 rintro j al ⟨k,us,qs,ay,hk,E,D,f,M,rfl,V,hv⟩
 obtain rfl:j=(k:Int)-1:=gz0
 have u:g.le (Q9 .u32 173 g bu us bq qs):=Gb hu hq hne
 have O:SlI .u32 (Q9 .u32 173 g bu us bq qs) (some ⟨bu,0,none⟩) us:=Iy hne
 unfold Kn
 refine B5 (fun h1=>?_) (fun h1=>?_)
 ·obtain ⟨j,rfl⟩:∃ j,k=j+1:=⟨k-1,o⟩
  have ej:((j+1:Nat):Int)-1=(j:Int):=o
  rw [ej]
  have e1:B7 ((j:Int)+((mm+2:Nat):Int))=((j+(mm+2):Nat):Int):=by rw [B6 o o];omega
  have e2:B7 (((j+(mm+2):Nat):Int)-1)=((j+(mm+1):Nat):Int):=by rw [B6 o o];omega
  have e3:B7 (((mm+2:Nat):Int)-1)=((mm+1:Nat):Int):=by rw [B6 o o];omega
  rw [e1,e2,e3]
  have z:=f.drop j
  have ai:(us.drop j).length=N-j:=gz0
  have aq:∀ i,(us.drop j).getD i 0=us.getD (j+i) 0:=fun i=>On
  have t:val b32 ((us.drop j).drop (mm+3))=0:=by
   have:=U5 (B:=b32) dc (n:=mm+2) (f.drop (j+1)) o
   rw [aQ] at this ⊢
   grind
  have ar:=Nf b32 us j
  have ae:val b32 (us.drop j)<Y*4294967296:=by
   have:=T6 f j
   grind
  have C:=E5 b32 (us.drop j) (i:=mm+3) o
  rw [t,aY,bL] at C
  have ax:=F1 b32 (us.drop j) (mm+2)
  have hX:val b32 (us.drop j)=val b32 ((us.drop j).take (mm+2))+b32^(mm+2)*(us.drop j).getD (mm+2) 0:=gz0
  have es:=A2n (B:=b32) dc (us:=(us.drop j).take (mm+3)) (m:=mm) (z.take _) dv gz0 hn hv1 gz0
  have gt:∀ i,i<mm+3->((us.drop j).take (mm+3)).getD i 0=us.getD (j+i) 0:=by
   grind
  rw [gt (mm+2) o,gt (mm+1) o,gt mm o,<- C,hY] at es
  refine ⟨fun l h'=>∃ d p,l=[]/\h'=Q9 .u32 173 g bu d bq (qs.set j p)/\d.length=N/\Dig b32 d/\(0<=p/\p<4294967296)/\val b32 (d.drop j)<Y/\val b32 (d.drop j)=val b32 (us.drop j)-p*Y/\d.take j=us.take j,?_,?_⟩
  ·refine O.load E.symm o o ?_
   refine O.load E.symm o o ?_
   refine (sv.mono u).load hn.symm o o ?_
   simp only [aD]
   have am:=T6 dv (mm+1)
   have ew:C1 (vs.getD (mm+1) 0)=vs.getD (mm+1) 0:=B9 o o
   refine B5 (fun e=>absurd (ew.symm.trans e) o) (fun _=>?_)
   refine (sv.mono u).load hn.symm o o ?_
   simp only [aD]
   refine B5 (fun e=>absurd (ew.symm.trans e) o) (fun _=>?_)
   refine ⟨fun l h'=>∃ q,l=[U q]/\h'=Q9 .u32 173 g bu us bq qs/\0<=q/\q<=4294967296/\val b32 (us.drop j)<(q+1)*Y/\(q-1)*Y<=val b32 (us.drop j),?_,?_⟩
   ·have:=A1i (us:=us) (vs:=vs) (n:=mm+2) (j:=j) (J:=fun l h'=>∃ q,l=[U q]/\h'=Q9 .u32 173 g bu us bq qs/\0<=q/\q<=4294967296/\val b32 (us.drop j)<(q+1)*Y/\(q-1)*Y<=val b32 (us.drop j)) es (sv.mono u) O hn.symm o o o rfl rfl (by rfl) (T6 f (j+(mm+2))) (T6 f (j+(mm+1))) rfl (fun q q0 q1 q2 q3=>⟨q,rfl,rfl,q0,q1,q2,q3⟩)
    grind
   ·rintro q ak ⟨p,au,rfl,ab,ah,y,x⟩
    obtain rfl:q=p:=gz0
    unfold Kl
    have r:(us.take j).length=j:=gz0
    have:=Va (g:=g) (bu:=bu) (bq:=bq) (pre:=us.take j) (qs:=qs) (VA:=VA) (vs:=vs) (n:=mm+2) (N:=N) (nq:=nq) (ws:=us.drop j) (q:=q) (X:=val b32 (us.drop j)) (Y:=Y)
     (J:=fun l h'=>∃ d p,l=[]/\h'=Q9 .u32 173 g bu d bq (qs.set j p)/\d.length=N/\Dig b32 d/\(0<=p/\p<4294967296)/\val b32 (d.drop j)<Y/\val b32 (d.drop j)=val b32 (us.drop j)-p*Y/\d.take j=us.take j)
     hu hq hne sv dv hn.symm z gz0 o hbig D.symm o hX hY.symm ab ah y x ae ?_
    ·rw [List.take_append_drop,r] at this
     exact this
    ·intro F p w1 w2 w3 w4 w5 w6 w7 w8 w9
     refine ⟨us.take j++F,p,rfl,by rw [r],by rw [List.length_append,w1,ai,r];omega,Dig.append (f.take j) w2,⟨w8,w9⟩,?_,?_,?_⟩
     all_goals first|(rw [List.drop_left' r])|grind
     all_goals
      have z1:=E5 b32 F (i:=mm+3) o
      rw [w3,t,F1,w4,w5] at z1
      omega
  ·rintro ao ⟨d,p,_,rfl,u1,u2,u3,u4,u5,u6⟩
   unfold Km
   have ad:B7 ((j:Int)-1)=(j:Int)-1:=B6 o o
   rw [ad]
   refine ⟨⟨j,d,qs.set j p,rfl,o,u1,gz0,u2,M.set u3,rfl,u4,?_⟩,by simp only [iAt,aH];omega⟩
   have af:=E5 b32 d (i:=j) o
   have Q:=E5 b32 us (i:=j) o
   rw [hv,O2 o,af,Q,u5,u6,aV]
   simp only [val]
   grind
 ·have aa:k=0:=o
  subst aa
  simp at V hv
  have aw:0<b:=by
   by_cases T:0<b
   ·exact T
   ·have:=aC (show b<=0 from o) (aJ hp);omega
  have an:=C3 dc f
  have hR:val b32 us=(a-val b32 qs*b)*2^s:=by
   grind
  have ag:0<=a-val b32 qs*b:=by
   by_cases T:0<=a-val b32 qs*b
   ·exact T
   ·have:=aC (show a-val b32 qs*b <= -1 from o) (aJ hp);omega
  have R:a-val b32 qs*b<b:=by
   simp_all
  have L:a/b=val b32 qs:=by
   have:a=(a-val b32 qs*b)+val b32 qs*b:=o
   rw [this,bM _ _ o,bK ag R,Int.zero_add]
  have A:a%b=a-val b32 qs*b:=by
   have:=Int.emod_def a b
   grind
  rw [L,A] at hK
  have hz:=U5 (B:=b32) dc (n:=mm+2) f o
  have G:=E5 b32 us (i:=mm+2) o
  rw [hz,aY,bL] at G
  refine ⟨⟨o,o⟩,?_⟩
  rw [F2,aD,Nat.sub_zero,Nat.sub_zero]
  have H:(us.take (mm+2)).length=mm+2:=gz0
  have st:SlI .u32 (Q9 .u32 173 g bu us bq qs) (some ⟨bu,0,none⟩) (us.take (mm+2)):=by
   have:=O.cut (c:=N) (l:=0) (m:=mm+2) o o o
   simpa [F2] using this
  have tr:=Ng (K:=fun r7 w=>∃ (t259A:Option Addr) (t259n:Nat) (t259c:Nat),r7= .slice t259A t259n t259c/\Ge prog K (s:Int) (some ⟨bq,0,none⟩) nq nq t259A t259n t259c w) (ac:=N) st o o ?_
  ·grind
  ·intro m hm av W
   rw [H] at hm
   rw [List.take_take,aI hm] at W
   refine ⟨_,_,_,rfl,?_⟩
   have S:us=us.take m++us.drop m:=(List.take_append_drop m us).symm
   rw [S]
   refine Wt (rs:=us.take m) (tl:=us.drop m) (qs:=qs) hu hq hne hs gz0 o D.symm (aS _) M (f.take m) o o rfl ?_ hK
   omega
end
