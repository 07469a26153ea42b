/- A part. -/
import Derived.Test.YtdphgbjaijlckaaGreatDoorG12
import Derived.Test.YtdphgbjaijlckaaGreatDoorG13
open Go.Proofs.Tryz
set_option linter.all false
open Int renaming mul_le_mul_of_nonneg_right->aC,toNat_natCast->aD,mul_le_mul_of_nonneg_left->aE,dvd_mul_of_dvd_right->aF,mul_nonneg->aG,le_of_lt->aJ,mul_ediv_add_emod->aL,ediv_lt_of_lt_mul->aN,pow_pos->aO,ediv_nonneg->aP,emod_lt_of_pos->aR,pow_succ->aV,emod_nonneg->aW,mul_zero->aY,mul_comm->aZ,mul_pos->bA,dvd_sub->bB,gcd->bC,tmod_eq_emod_of_nonneg->bE,tdiv_eq_ediv_of_nonneg->bF,mul_le_mul->bG,mul_emod_mul_of_pos->bH,ediv_eq_zero_of_lt->bI,add_zero->bJ,add_mul_ediv_right->bK
open List renaming getElem?_cons_zero->aH,length_take->aK,getElem?_cons_succ->aM,drop_drop->aQ,take_of_length_le->aT,drop_of_length_le->aU,take_set_of_le->aX,replicate->bD
open Nat renaming min_eq_left->aI,le_refl->aS
namespace Go.Proofs.YtdphgbjaijlckaaGreatDoor
set_option maxRecDepth 20000
open Go
section
variable {h g:Heap} {K:VP} {A B:Option Addr} {ac bc:Nat}
def Vq{xs:List Int}{i:Nat}(hi:i<xs.length):xs.drop i=xs.getD i 0::xs.drop (i+1):=by
 simp_all
def Db(B:Int){xs:List Int}{i:Nat}(hi:i<xs.length):val B (xs.drop i)=xs.getD i 0+B*val B (xs.drop (i+1)):=by
 rw [Vq hi];rfl
def M0{xs:List Int}{i:Nat}{v:Int}(hi:i<xs.length):(xs.set i v).drop i=v::xs.drop (i+1):=by
 rw [List.drop_eq_getElem_cons gz0]
 simp [List.drop_set_of_lt]
def Dh{x d:Int}{an:Nat}(ma:Mg h A an x)(hd0:0<d/\d<4294967296)(hl:an<=18000000000000)(hK:∀ A' m c' h',h.le h'->m<=c'->m<=an->Mg h' A' m (x/d)->K (.tuple #[.slice A' m c',U32 (x%d)]) h'):FCall prog 141 #[.slice A an ac,U32 d] h K:=by
 obtain ⟨a,rfl,H,O,V,rfl⟩:=ma
 refine (fnk func141 [(4,[7,8],[],[U 0,I 0])]) ?_
 refine H0 Ha o o o ?_
 intro b C
 rw [aD]
 refine ⟨_,_,_,rfl,?_⟩
 refine ⟨fun l h'=>∃ (k:Nat) (r:Int) (zs:List Int),l=[U r,I ((k:Int)-1)]/\k<=a.length/\zs.length=a.length/\Dig b32 zs/\(0<=r/\r<d)/\h'=blk .u32 173 h b zs/\val b32 (a.drop k)=val b32 (zs.drop k)*d+r,fun l _=>(iAt l 1+1).toNat,⟨a.length,0,_,by rw [B4 o o],o,by simp,F3 dc _,o,rfl,by simp [val]⟩,?_⟩
 rintro r i S ⟨k,B,zs,N,R,s,y,c,rfl,g⟩
 obtain ⟨rfl,rfl⟩:r=B/\i=(k:Int)-1:=gz0
 have u:=V8 (k:=.u32) (e:=173) C zs
 refine B5 (fun D=>?_) (fun D=>?_)
 ·obtain ⟨j,rfl⟩:∃ j,k=j+1:=⟨k-1,o⟩
  have e:((j+1:Nat):Int)-1=(j:Int):=o
  rw [e]
  have L:=S6 O j
  refine (H.mono u).load rfl o o ?_
  rw [aD]
  have M:B9 d=d:=B8 o o
  have E:bor .u64 (B9 (r*2^(min ((32:Int)).toNat 64))) (B9 (a.getD j 0))=r*4294967296+a.getD j 0:=by
   rw [show (2:Int)^(min ((32:Int)).toNat 64)=4294967296 from dc,B8 (n:=a.getD j 0) o o,B8 (n:=r*4294967296) o o]
   exact Kz o L
  rw [M,E]
  have q:0<=r*4294967296+a.getD j 0:=o
  have F:Int.tdiv (r*4294967296+a.getD j 0) d=(r*4294967296+a.getD j 0)/d:=bF q
  have G:Int.tmod (r*4294967296+a.getD j 0) d=(r*4294967296+a.getD j 0)%d:=bE q
  rw [F,G]
  have z:0<=(r*4294967296+a.getD j 0)/d/\(r*4294967296+a.getD j 0)/d<4294967296:=by
   constructor
   ·exact aP q o
   ·apply aN o
    omega
  refine B5 (fun e=>absurd e o) (fun _=>?_)
  refine ⟨_,rfl,o,o,?_⟩
  refine K4 (k:=.u32) (zs:=zs) (i:=(j:Int)) G8 o ?_
  rw [aD,B8 o o,I6 o o,B4 o o]
  refine B5 (fun e=>absurd e o) (fun _=>?_)
  refine ⟨⟨j,_,zs.set j ((r*4294967296+a.getD j 0)/d),rfl,o,gz0,y.set z,⟨aW _ o,aR _ o⟩,rfl,?_⟩,by simp only [iAt,aH,aM];omega⟩
  rw [M0 o,Db b32 o,g]
  have:=aL (r*4294967296+a.getD j 0) d
  simp only [val]
  grind
 ·have p:k=0:=o
  subst p
  rw [List.drop_zero,List.drop_zero] at g
  rw [<- s]
  refine S8 (V7 _ _ _ _ _) y (aS _) o ?_
  intro m T Q
  have z:val b32 a/d=val b32 zs:=by
   rw [g,Int.add_comm,bK _ _ o,bI c.1 c.2,Int.zero_add]
  have w:val b32 a%d=r:=by
   rw [g,Int.add_comm,Int.add_mul_emod_self_right,Int.emod_eq_of_lt c.1 c.2]
  rw [I6 o o,<- w]
  grind
end
def A3n{a b:Int}(ha:0<=a/\a<4294967296)(hb:0<=b/\b<4294967296):0<=a*b/\a*b<=18446744065119617025:=by
 refine ⟨aG ha.1 hb.1,?_⟩
 have:=bG (show a<=4294967295 from o) (show b<=4294967295 from o) hb.1 dc
 omega
def D3{xs ys:List Int}{i:Nat}(h:xs.drop i=ys.drop i):xs.getD i 0=ys.getD i 0:=by
 have a:(xs.drop i)[0]? = (ys.drop i)[0]? :=by rw [h]
 grind
def D0{xs ys:List Int}{i:Nat}(h:xs.drop i=ys.drop i):xs.drop (i+1)=ys.drop (i+1):=by
 rw [<- aQ,<- aQ,h]
def C8{xs:List Int}{i j:Nat}{v:Int}(h:i<j):(xs.set i v).drop j=xs.drop j:=List.drop_set_of_lt h
section
variable {h g:Heap} {K:VP} {A B:Option Addr} {ac bc:Nat}
def Pb{x y:Int}{an bn:Nat}(ma:Mg h A an x)(mb:Mg h B bn y)(hl:an<=18000000000000)(hl2:bn<=18000000000000)(hK:∀ A' m c' h',h.le h'->m<=c'->Mg h' A' m (x*y)->K (.slice A' m c') h'):FCall prog 202 #[.slice A an ac,.slice B bn bc] h K:=by
 have G:=ma.len_zero dc
 have L:=mb.len_zero dc
 obtain ⟨d,rfl,sx,dx,nx,rfl⟩:=ma
 obtain ⟨a,rfl,V,dy,ny,rfl⟩:=mb
 refine Sp _ _ _ _ _ _ ?_
 refine D6 (fun T=>?_) (fun hx=>D6 (fun T=>?_) (fun hy=>?_))
 ·have:=hK none 0 0 h (B3 h) (aS _) (by rw [G.2 o,Int.zero_mul];exact Mag.zero)
  exact this
 ·have:=hK none 0 0 h (B3 h) (aS _) (by rw [L.2 o,aY];exact Mag.zero)
  exact this
 have e1:B6 ((d.length:Int)+a.length)=((d.length+a.length:Nat):Int):=by rw [B4 o o];omega
 rw [e1]
 refine H0 Ha o o o ?_
 intro b N
 rw [aD]
 refine ⟨_,_,_,rfl,?_⟩
 refine ⟨fun l h'=>∃ (k:Nat) (zs:List Int),l=[I k]/\k<=d.length/\zs.length=d.length+a.length/\Dig b32 zs/\h'=blk .u32 173 h b zs/\zs.drop (k+a.length)=bD (d.length-k) 0/\val b32 (zs.take (k+a.length))=val b32 (d.take k)*val b32 a,fun l _=>d.length-(iAt l 0).toNat,⟨0,_,rfl,o,by simp,F3 dc _,rfl,by simp,?_⟩,?_⟩
 ·rw [List.take_replicate,R7];simp [val]
 rintro i hp ⟨k,g,ad,hk,p,z,rfl,u,s⟩
 obtain rfl:i=(k:Int):=gz0
 refine B5 (fun W=>?_) (fun W=>?_)
 ·have gx:=S6 dx k
  have vx:=C0 b32 d k
  refine ⟨fun l h'=>∃ (m:Nat) (c:Int) (zs:List Int),l=[U c,I m]/\m<=a.length/\zs.length=d.length+a.length/\Dig b32 zs/\(0<=c/\c<4294967296)/\h'=blk .u32 173 h b zs/\zs.drop (k+m)=g.drop (k+m)/\val b32 (zs.take (k+m))+c*b32^(k+m)=val b32 (g.take (k+m))+b32^k*(d.getD k 0*val b32 (a.take m)),fun l _=>a.length-(iAt l 1).toNat,⟨0,0,g,rfl,o,p,z,o,rfl,rfl,by simp [val]⟩,?_⟩
  rintro c j aa ⟨m,c',zs,ab,O,F,C,hc,rfl,r,hv⟩
  obtain ⟨rfl,rfl⟩:c=c'/\j=(m:Int):=gz0
  have w:=V8 (k:=.u32) (e:=173) N zs
  refine B5 (fun R=>?_) (fun R=>?_)
  ·have X:=S6 dy m
   have vy:=C0 b32 a m
   have gz:=S6 C (k+m)
   have H:=D3 r
   have vz:=C0 b32 g (k+m)
   have q:B6 ((k:Int)+m)=((k+m:Nat):Int):=by rw [B4 o o];omega
   rw [q]
   refine (sx.mono w).load rfl o o ?_
   refine (V.mono w).load rfl o o ?_
   refine (V7 .u32 173 h b zs).load F.symm o o ?_
   simp only [aD]
   have hp:=A3n gx X
   have S:B9 (c+B9 (B9 (B9 (d.getD k 0)*B9 (a.getD m 0))+B9 (zs.getD (k+m) 0)))=c+(d.getD k 0*a.getD m 0+zs.getD (k+m) 0):=by
    rw [B8 (n:=d.getD k 0) o o,B8 (n:=a.getD m 0) o o,B8 (n:=zs.getD (k+m) 0) o o,B8 (n:=d.getD k 0*a.getD m 0) o o,B8 (n:=d.getD k 0*a.getD m 0+zs.getD (k+m) 0) o o,B8 o o]
   rw [S]
   refine ⟨_,rfl,o,o,?_⟩
   refine K4 (k:=.u32) (zs:=zs) (i:=((k+m:Nat):Int)) G8 o ?_
   rw [aD,W8,Me,B4 (n:=(m:Int)+1) o o]
   refine ⟨⟨m+1,_,zs.set (k+m) ((c+(d.getD k 0*a.getD m 0+zs.getD (k+m) 0))%4294967296),rfl,o,gz0,C.set (Uw _),o,rfl,?_,?_⟩,by simp only [iAt,aH,aM];omega⟩
   ·rw [C8 o];exact D0 r
   ·rw [<- Nat.add_assoc,C5 o,D8,aK,aI o,aV,R4,vy,vz,<- H]
    grind
  ·have D:m=a.length:=o
   subst D
   have q:B6 ((k:Int)+a.length)=((k+a.length:Nat):Int):=by rw [B4 o o];omega
   rw [q]
   refine ⟨_,rfl,o,o,?_⟩
   refine K4 (k:=.u32) (zs:=zs) (i:=((k+a.length:Nat):Int)) G8 o ?_
   rw [aD,I6 o o,B4 (n:=(k:Int)+1) o o]
   have Q:k+1+a.length=k+a.length+1:=o
   refine ⟨⟨k+1,zs.set (k+a.length) c,rfl,o,gz0,C.set hc,rfl,?_,?_⟩,by simp only [iAt,aH];omega⟩
   ·rw [Q,C8 o,D0 r,<- aQ,u,List.drop_replicate]
    congr 1
   ·rw [Q,C5 o,D8,aK,aI o]
    grind
 ·have E:k=d.length:=o
  subst E
  rw [List.take_length,aT (show g.length<=d.length+a.length from o)] at s
  rw [<- p]
  refine S8 (V7 _ _ _ _ _) z (aS _) o ?_
  intro m O M
  rw [s] at M
  exact ⟨_,_,_,rfl,hK _ _ _ _ (V8 N _) O M⟩
def Qo{x z:Int}{s:Nat}(hs:s<=32)(_hx:0<=x/\x<4294967296)(hz:0<=z/\z<(2:Int)^s):
 bor .u32 z (x*2^s%4294967296)=z+x*2^s%4294967296/\z+x*2^s%4294967296<4294967296:=by
 have i:(2:Int)^s*2^(32-s)=4294967296:=by
  rw [<- Int.pow_add,show s+(32-s)=32 from o];decide
 have c:0<(2:Int)^s:=aO dc
 have k:0<(2:Int)^(32-s):=aO dc
 have a:z<4294967296:=by
  have:(2:Int)^s*1<=2^s*2^(32-s):=aE o o
  omega
 have l:x*2^s%4294967296=2^s*(x%2^(32-s)):=by
  rw [<- i,aZ x,bH _ _ c]
 have e:=Uw (x*2^s)
 have b:bor .u32 z (x*2^s%4294967296)=z+x*2^s%4294967296:=by
  rw [A3y ⟨hz.1,a⟩ e]
  have j:0<=x%2^(32-s):=aW _ o
  have g:(x*2^s%4294967296).toNat=2^s*(x%2^(32-s)).toNat:=by
   grind
  have d:z.toNat<2^s:=by
   grind
  rw [g,Nat.or_comm,Qp d,<- g]
  omega
 refine ⟨b,?_⟩
 rw [<- b,A3y ⟨hz.1,a⟩ e]
 have:z.toNat ||| (x*2^s%4294967296).toNat<2^32:=Nat.or_lt_two_pow o o
 omega
def Cc{xs:List Int}{s:Nat}(sx:SlI .u32 h A xs)(dx:Dig b32 xs)(hs:s<32)(hl:xs.length<=18000000000000)(hK:∀ b zs,h b=none->zs.length=xs.length+1->Dig b32 zs->val b32 zs=val b32 xs*2^s->K (.slice (some ⟨b,0,none⟩) (xs.length+1) (xs.length+1)) (blk .u32 173 h b zs)):FCall prog 275 #[.slice A xs.length ac,U s] h K:=by
 refine (fnk func275 [(3,[6],[],[I 0])]) ?_
 have H:B6 ((xs.length:Int)+1)=((xs.length+1:Nat):Int):=by rw [B4 o o];omega
 rw [H]
 refine H0 Ha o o o ?_
 intro b w
 refine ⟨_,_,_,rfl,?_⟩
 have j:0<(2:Int)^s:=aO dc
 have q:(2:Int)^s<=2147483648:=by
  have:=C7 (B:=2) dc (show s<=31 from o)
  omega
 refine ⟨fun l z=>∃ (k:Nat) (zs:List Int),l=[I k]/\k<=xs.length/\zs.length=xs.length+1/\Dig b32 zs/\z=blk .u32 173 h b zs/\zs.drop (k+1)=bD (xs.length-k) 0/\zs.getD k 0<2^s/\val b32 (zs.take (k+1))=val b32 (xs.take k)*2^s,fun l _=>xs.length-(iAt l 0).toNat,⟨0,_,rfl,o,by simp,F3 dc _,rfl,by simp,by assumption,by simp [val]⟩,?_⟩
 rintro i O ⟨k,zs,L,N,a,p,rfl,g,x,R⟩
 obtain rfl:i=(k:Int):=gz0
 have m:=V8 (k:=.u32) (e:=173) w zs
 refine B5 (fun E=>?_) (fun E=>?_)
 ·have d:=S6 dx k
  have r:=S6 p k
  have M:=C0 b32 xs k
  have Q:=C0 b32 zs k
  refine (sx.mono m).load rfl o o ?_
  refine B5 (fun e=>absurd e o) (fun _=>?_)
  refine (V7 .u32 173 h b zs).load a.symm o o ?_
  simp only [aD]
  obtain ⟨G,F⟩:=Qo (Nat.le_of_lt hs) d ⟨r.1,x⟩
  have c:0<=xs.getD k 0*2^s:=aG d.1 o
  have u:xs.getD k 0*2^s<4294967296*2^s:=Int.mul_lt_mul_of_pos_right d.2 j
  have y:B9 (B9 (xs.getD k 0)*2^(min s 64))=xs.getD k 0*2^s:=by
   rw [B8 (n:=xs.getD k 0) o o,aI o,B8 o o]
  rw [y]
  refine ⟨_,rfl,o,o,?_⟩
  refine K4 (k:=.u32) (zs:=zs) (i:=(k:Int)) G8 o ?_
  rw [aD,W8 (xs.getD k 0*2^s),G,Me]
  have D:B6 ((k:Int)+1)=((k+1:Nat):Int):=by rw [B4 o o];omega
  rw [D]
  have C:0<=xs.getD k 0*2^s/4294967296/\xs.getD k 0*2^s/4294967296<2^s:=⟨aP c dc,aN dc o⟩
  refine ⟨_,rfl,o,o,?_⟩
  refine K4 (k:=.u32) (zs:=zs.set k (zs.getD k 0+xs.getD k 0*2^s%4294967296)) (i:=((k+1:Nat):Int)) G8 gz0 ?_
  rw [aD,I6 o o]
  refine ⟨⟨k+1,(zs.set k (zs.getD k 0+xs.getD k 0*2^s%4294967296)).set (k+1) (xs.getD k 0*2^s/4294967296),rfl,o,gz0,(p.set ⟨o,F⟩).set ⟨C.1,gz0⟩,rfl,?_,?_,?_⟩,by simp only [iAt,aH];omega⟩
  ·rw [C8 o,C8 o,<- aQ,g,List.drop_replicate]
   congr 1
  ·grind
  ·rw [C5 gz0,D8,C5 o,D8]
   simp only [aK,List.length_append,List.length_singleton]
   grind
 grind
end
structure Est (B P top u2 ul v1 v2 vl U V:Int):Prop where
 hB:1<B
 hP:0<P
 hU:U=(top*B+u2)*P+ul
 hV:V=(v1*B+v2)*P+vl
 u2r:0<=u2/\u2<B
 ulr:0<=ul/\ul<P
 v2r:0<=v2/\v2<B
 vlr:0<=vl/\vl<P
 top0:0<=top
 v1r:B<=2*v1/\v1<B
 lt:U<V*B
section
variable {B P top u2 ul v1 v2 vl U V:Int}
def Est.U0(e:Est B P top u2 ul v1 v2 vl U V):0<=U:=by
 obtain ⟨l,j,m,n,i,c,g,b,a,d,lt⟩:=e
 have k:0<=top*B:=aG a o
 have:0<=(top*B+u2)*P:=aG o o
 omega
def Est.V0(e:Est B P top u2 ul v1 v2 vl U V):0<V:=by
 obtain ⟨l,c,m,n,j,d,i,b,a,g,lt⟩:=e
 have k:0<v1*B:=bA o o
 have:0<(v1*B+v2)*P:=bA o c
 omega
def Est.V2(e:Est B P top u2 ul v1 v2 vl U V):B<=v1*B+v2:=by
 obtain ⟨k,j,l,m,i,c,g,b,a,d,lt⟩:=e
 have:1*B<=v1*B:=aC o o
 omega
def Est.low(e:Est B P top u2 ul v1 v2 vl U V){q:Int}(h0:0<=q)(h:top*B+u2<q*(v1*B+v2)):U<q*V:=by
 obtain ⟨m,j,p,r,i,c,g,a,b,d,lt⟩:=e
 have l:(top*B+u2+1)*P<=q*(v1*B+v2)*P:=aC o o
 have k:0<=q*vl:=aG h0 a.1
 have n:q*V=q*(v1*B+v2)*P+q*vl:=gz0
 grind
def Est.big(e:Est B P top u2 ul v1 v2 vl U V){q:Int}(h:B<=q):U<q*V:=by
 have:=aC h (aJ e.V0)
 have:=e.lt
 grind
def Est.init(e:Est B P top u2 ul v1 v2 vl U V):U<(top/v1+1)*V:=by
 obtain ⟨r,c,u,w,l,i,b,d,a,k,lt⟩:=e
 have n:0<=top/v1:=aP a o
 have j:top+1<=(top/v1+1)*v1:=by
  have:=aL top v1
  have:=aR top (show 0<v1 from o)
  grind
 have g:0<B*P:=bA o c
 have p:(top+1)*(B*P)<=(top/v1+1)*v1*(B*P):=aC j o
 have s:0<=(top/v1+1)*(v2*P+vl):=aG o (by have:=aG b.1 (aJ c);omega)
 have q:(top/v1+1)*V=(top/v1+1)*v1*(B*P)+(top/v1+1)*(v2*P+vl):=gz0
 have m:(u2+1)*P<=B*P:=aC o o
 grind
def Est.up(e:Est B P top u2 ul v1 v2 vl U V){q:Int}(hq:q<=B)(h:q*(v1*B+v2)<=top*B+u2):(q-1)*V<=U:=by
 have i:=e.V2
 have l:=e.V0
 have b:=e.U0
 obtain ⟨w,m,x,y,j,d,k,c,a,g,lt⟩:=e
 by_cases r:q<=0
 ·have:(q-1)*V<=0:=Int.mul_nonpos_of_nonpos_of_nonneg o o
  omega
 ·have n:(q-1)*vl<=(q-1)*P:=aE o o
  have u:(q*(v1*B+v2))*P<=(top*B+u2)*P:=aC h o
  have p:(q-1)*V=(q*(v1*B+v2))*P-(v1*B+v2)*P+(q-1)*vl:=gz0
  have s:(q-1)*P<=(v1*B+v2)*P:=aC o o
  omega
def Est.first(e:Est B P top u2 ul v1 v2 vl U V):top<(v1+1)*B/\top/v1<=B+1:=by
 obtain ⟨r,g,s,u,a,j,n,c,b,k,lt⟩:=e
 have d:0<B*P:=bA o g
 have q:top*(B*P)<=U:=by
  have:0<=u2*P:=aG a.1 o
  grind
 have p:V<(v1+1)*(B*P):=by
  have m:(v2+1)*P<=B*P:=aC o o
  grind
 have m:V*B<=(v1+1)*(B*P)*B:=aC o o
 have i:top*(B*P)<(v1+1)*B*(B*P):=by
  grind
 have l:top<(v1+1)*B:=Int.lt_of_mul_lt_mul_right i o
 refine ⟨l,?_⟩
 have:top/v1<B+2:=by
  apply aN o
  grind
 omega
end
def P0(k:IntKind)(e:TypeId)(g:Heap)(bu:Nat)(us:List Int)(bq:Nat)(qs:List Int):Heap:=blk k e (blk k e g bu us) bq qs
section
variable {k:IntKind} {e:TypeId} {g:Heap} {bu bq:Nat} {us qs:List Int}
def Fe(hu:g bu=none)(hq:g bq=none)(hne:bu≠bq):g.le (P0 k e g bu us bq qs):=
 A0 (V8 hu us) (V8 (by unfold blk;rw [B7 _ _ hne.symm];exact hq) qs)
def Bg(hne:bu≠bq):P0 k e g bu us bq qs=blk k e (blk k e g bq qs) bu us:=by
 exact Heap.put_comm g _ _ hne
def Ia(hne:bu≠bq):SlI k (P0 k e g bu us bq qs) (some ⟨bu,0,none⟩) us:=by
 rw [Bg hne];exact V7 k e _ bu us
def A01:SlI k (P0 k e g bu us bq qs) (some ⟨bq,0,none⟩) qs:=V7 k e _ bq qs
def H7{P:Program}{t:TypeId}(one:P.cellsOf t=1/\(P.info? t).isSome=true)(hne:bu≠bq){n i:Int}(hi:i.toNat<us.length){K:Unit->Heap->Prop}
 (x:K () (P0 k e g bu (us.set i.toNat n) bq qs)):wpH P (Instr.storeAt t (.pointer (some (Addr.add ⟨bu,0,none⟩ (i.toNat*1)))) (.int k n)) K (P0 k e g bu us bq qs):=by
 rw [Bg hne]
 rw [Bg hne] at x
 exact K4 one hi x
def Ib{P:Program}{t:TypeId}(one:P.cellsOf t=1/\(P.info? t).isSome=true){n i:Int}(hi:i.toNat<qs.length){K:Unit->Heap->Prop}
 (x:K () (P0 k e g bu us bq (qs.set i.toNat n))):wpH P (Instr.storeAt t (.pointer (some (Addr.add ⟨bq,0,none⟩ (i.toNat*1)))) (.int k n)) K (P0 k e g bu us bq qs):=
 K4 one hi x
end
def Nj{xs:List Int}{j i:Nat}:(xs.drop j).getD i 0=xs.getD (j+i) 0:=gz0
section
variable {g:Heap} {bu bq:Nat} {us qs:List Int} {VA:Option Addr} {vs:List Int}
def Yo{n j:Nat}{J:LP}{hp:Heap}{UA:Option Addr}{top u2 ul v1 v2 vl X Y P:Int}{t87 t96:Int}(es:Est 4294967296 P top u2 ul v1 v2 vl X Y)(sv:SlI .u32 hp VA vs)(su:SlI .u32 hp UA us)(hn:n=vs.length)(hn2:2<=n)(hul:j+n<us.length)(hbig:us.length<=36000000000000)
 (hv1:vs.getD (n-1) 0=v1) (hv2:vs.getD (n-2) 0=v2) (hu2:us.getD (j+n-2) 0=u2) (h87:0<=t87/\t87<4294967296) (h96:0<=t96/\t96<4294967296) (htop:top=t87*4294967296+t96)
 (hJ:∀ q,0<=q->q<=4294967296->X<(q+1)*Y->(q-1)*Y<=X->J [U q] hp):Fk prog VA n UA us.length j t87 t96 v1 v1 J hp:=by
 obtain ⟨f1,f2⟩:=es.first
 have A:=es.init
 have V:=es.U0
 have S:=es.v1r
 have i:=es.v2r
 have s:=es.u2r
 have c:=es.top0
 have B:bor .u64 (B9 (B9 t87*2^(min ((32:Int)).toNat 64))) (B9 t96)=top:=by
  rw [show (2:Int)^(min ((32:Int)).toNat 64)=4294967296 from dc,B8 (n:=t87) o o,B8 (n:=t96) o o,B8 (n:=t87*4294967296) o o,Kz h87 h96,htop]
 have d:B9 v1=v1:=B8 o o
 unfold Fk
 rw [B,d,bF c,bE c]
 have z:0<=top/v1:=aP c o
 have u:=aL top v1
 have y:=aW top (show v1≠0 from o)
 have Q:=aR top (show 0<v1 from o)
 refine ⟨fun l w=>∃ q r:Int,l=[U q,U r]/\w=hp/\0<=q/\q<=4294967297/\0<=r/\r<4294967296/\q*v1+r=top/\X<(q+1)*Y,fun l _=>match l with|[.int _ q,_]=>q.toNat|_=>0,⟨_,_,rfl,rfl,?_,?_,y,o,?_,?_⟩,?_⟩
 ·rw [B8 o o];exact z
 ·rw [B8 o o];omega
 ·rw [B8 o o,aZ];exact u
 ·rw [B8 o o];exact A
 rintro q r g ⟨W,L,hl,rfl,D,aa,R,p,N,k⟩
 obtain ⟨rfl,rfl⟩:q=W/\r=L:=gz0
 have C:B6 ((n:Int)-1)=((n-1:Nat):Int):=by rw [B4 o o];omega
 have x:B6 ((n:Int)-2)=((n-2:Nat):Int):=by rw [B4 o o];omega
 have m:B6 (B6 ((j:Int)+(n:Int))-2)=((j+n-2:Nat):Int):=by rw [B4 (n:=(j:Int)+n) o o,B4 o o];omega
 refine ⟨fun l w=>l=[]/\w=g/\X<q*Y,?_,?_⟩
 ·refine B5 (fun E=>⟨rfl,rfl,es.big E⟩) (fun E=>?_)
  rw [x,m]
  refine sv.load hn o o ?_
  refine su.load rfl o o ?_
  rw [aD,aD,hv2,hu2]
  have hp:=A3n (a:=q) (b:=v2) o i
  have eq2:B9 (q*B9 v2)=q*v2:=by rw [B8 (n:=v2) o o,B8 o o]
  have O:bor .u64 (B9 (r*2^(min ((32:Int)).toNat 64))) (B9 u2)=r*4294967296+u2:=by
   rw [show (2:Int)^(min ((32:Int)).toNat 64)=4294967296 from dc,B8 (n:=u2) o o,B8 (n:=r*4294967296) o o,Kz ⟨R,p⟩ s]
  have key:q*(v1*4294967296+v2)=(top-r)*4294967296+q*v2:=gz0
  refine B5 (fun M=>⟨rfl,rfl,es.low D o⟩) (fun M=>?_)
  refine hJ q D o k (es.up o o)
 ·rintro F ⟨_,rfl,H⟩
  have G:1<=q:=by
   grind
  rw [C]
  refine sv.load hn o o ?_
  rw [aD,hv1,d,B8 (n:=r+v1) o o,B8 (n:=q-1) o o]
  have e:X<(q-1+1)*Y:=gz0
  refine B5 (fun T=>?_) (fun T=>?_)
  ·have key:(q-1)*(v1*4294967296+v2)=(top-(r+v1))*4294967296+(q-1)*v2:=gz0
   have hb:(q-1)*v2<=4294967296*v2:=aC o i.1
   exact hJ (q-1) o o e (es.up o o)
  grind
end
def E5(B:Int)(xs:List Int)(i:Nat):val B (xs.take (i+1))=val B (xs.take i)+B^i*xs.getD i 0:=by
 by_cases a:i<xs.length
 ·exact H4 B a
 ·rw [aT o,aT o]
  grind
def Xa(B:Int){vs:List Int}{m:Nat}(hn:vs.length=m+2):val B vs=(vs.getD (m+1) 0*B+vs.getD m 0)*B^m+val B (vs.take m):=by
 have a:=E5 B vs (m+1)
 have b:=E5 B vs m
 grind
def Wz(B:Int){us:List Int}{m:Nat}(hn:us.length=m+3):val B us=((us.getD (m+2) 0*B+us.getD (m+1) 0)*B+us.getD m 0)*B^m+val B (us.take m):=by
 have a:=E5 B us (m+2)
 have b:=E5 B us (m+1)
 have c:=E5 B us m
 grind
def Zz{B:Int}(hB:1<B){us vs:List Int}{m:Nat}(du:Dig B us)(dv:Dig B vs)(hu:us.length=m+3)(hv:vs.length=m+2)(h1:B<=2*vs.getD (m+1) 0)(hlt:val B us<val B vs*B):
 Est B (B^m) (us.getD (m+2) 0*B+us.getD (m+1) 0) (us.getD m 0) (val B (us.take m)) (vs.getD (m+1) 0) (vs.getD m 0) (val B (vs.take m)) (val B us) (val B vs):=by
 have a:0<B:=o
 have c:=H1 a (du.take m)
 have b:=H1 a (dv.take m)
 rw [aK,aI o] at c b
 refine ⟨hB,aO a,Wz B hu,Xa B hv,du.getD a _,⟨C2 a (du.take m),c⟩,dv.getD a _,⟨C2 a (dv.take m),b⟩,?_,⟨h1,(dv.getD a _).2⟩,hlt⟩
 have:=aG (du.getD a (m+2)).1 (aJ a)
 have:=(du.getD a (m+1)).1
 omega
def Est.top{B P top u2 ul v1 v2 vl U V:Int}(e:Est B P top u2 ul v1 v2 vl U V)(h:v1*B<=top):(B-1-1)*V<=U/\U<(B-1+1)*V:=by
 obtain ⟨q,l,r,s,j,g,k,d,a,i,lt⟩:=e
 constructor
 ·have n:v1*B*B*P<=U:=by
   have b:v1*B*B<=top*B:=aC h o
   have c:v1*B*B*P<=(top*B+u2)*P:=aC o o
   omega
  have b:V<=(v1+1)*B*P:=by
   have c:(v2+1)*P<=B*P:=aC o o
   grind
  have c:(B-1-1)*V<=(B-1-1)*((v1+1)*B*P):=aE b o
  have m:(B-1-1)*((v1+1)*B*P)=v1*B*B*P-(2*v1+2-B)*(B*P):=gz0
  have p:0<=(2*v1+2-B)*(B*P):=aG o (aG o o)
  omega
 grind
structure LS (F S first second u0 v0 u1 v1 u2 v2:Int) (odd:Bool):Prop where
 hF:F=v2*first+v1*second
 hS:S=u2*first+u1*second
 det:u1*v2-u2*v1=if odd then -1 else 1
 ord:0<=second/\second<=first
 st:(u0=0/\v0=0/\u1=1/\v1=0/\u2=0/\v2=1)\/
  (((u0=1/\v0=0/\u1=0/\v1=1/\0<=u2/\u2<=v2/\1<=u2)\/(0<=u0/\u0<=v0/\1<=v0/\1<=u1/\u1<=v1/\1<=u2/\u2<=v2))/\
   (u0*v1-u1*v0=if odd then 1 else -1)/\∃ f0,F=v1*f0+v0*first/\S=u1*f0+u0*first/\v0+v1<=f0-first/\v1<=first)
def LS.init{F S:Int}(h0:0<=S)(h:S<=F):LS F S F S 0 0 1 0 0 1 false:=
 ⟨o,o,by simp,⟨h0,h⟩,.inl ⟨rfl,rfl,rfl,rfl,rfl,rfl⟩⟩
def LS.v2pos{F S first second u0 v0 u1 v1 u2 v2:Int}{odd:Bool}(l:LS F S first second u0 v0 u1 v1 u2 v2 odd):1<=v2/\0<=v1/\0<=u1/\0<=u2/\0<=u0/\0<=v0:=by
 obtain ⟨e,c,b,a,d⟩:=l
 grind
def LS.step{F S first second u0 v0 u1 v1 u2 v2:Int}{odd:Bool}(l:LS F S first second u0 v0 u1 v1 u2 v2 odd)(h1:v2<=second)(h2:v1+v2<=first-second):
 LS F S second (first%second) u1 v1 u2 v2 (u1+first/second*u2) (v1+first/second*v2) (!odd):=by
 obtain ⟨m,g,k,i,b⟩:=l
 have c:0<second:=o
 have e:1<=first/second:=by
  rw [Int.le_ediv_iff_mul_le c];omega
 have d:=aL first second
 have a:=aW first (show second≠0 from o)
 have j:=aR first c
 have p:u2<=first/second*u2:=by
  have:=aC e (show 0<=u2 from o);omega
 have n:first/second*u2<=first/second*v2:=aE o o
 refine ⟨?_,?_,?_,⟨a,o⟩,.inr ⟨?_,?_,first,?_,?_,o,h1⟩⟩
 ·grind
 ·grind
 ·grind
 ·rcases b with b|⟨b,_⟩
  ·grind
  ·right;omega
 ·grind
 ·rw [m]
 ·rw [g]
def LS.bound{F S first second u0 v0 u1 v1 u2 v2:Int}{odd:Bool}(l:LS F S first second u0 v0 u1 v1 u2 v2 odd)(hf:1<=first):v2<=F/\u2<=F/\u2<=v2:=by
 obtain ⟨i,d,b,a,g⟩:=l
 have e:v2*1<=v2*first:=aE hf o
 have c:0<=v1*second:=aG o o
 grind
def LS.bound2{F S first second u0 v0 u1 v1 u2 v2:Int}{odd:Bool}(l:LS F S first second u0 v0 u1 v1 u2 v2 odd)(hs:1<=second):v1+v2<=F:=by
 obtain ⟨i,d,b,a,g⟩:=l
 have e:v2*1<=v2*first:=aE o o
 have c:v1*1<=v1*second:=aE hs o
 omega
structure Leh (a b u0 v0 u1 v1 X0 X1:Int):Prop where
 ord:0<=X1/\X1<X0
 ha:a=v1*X0+v0*X1
 hb:b=u1*X0+u0*X1
 le:X0<=b
def Ev(a b u0 v0:Int)(odd:Bool):Int:=if odd then u0*a-v0*b else v0*b-u0*a
def Eu(a b u1 v1:Int)(odd:Bool):Int:=if odd then v1*b-u1*a else u1*a-v1*b
def LS.leh{F S first second u0 v0 u1 v1 u2 v2 a b al bl W:Int}{odd:Bool}(l:LS F S first second u0 v0 u1 v1 u2 v2 odd)(hv0:v0≠0)(hW:0<W)(ha:a=F*W+al)(hb:b=S*W+bl)(hal:0<=al/\al<W)(hbl:0<=bl/\bl<W):
 Leh a b u0 v0 u1 v1 (Ev a b u0 v0 odd) (Eu a b u1 v1 odd):=by
 obtain ⟨O,V,z,s,m⟩:=l
 rcases m with m|⟨m,q,j,w,x,r,n⟩
 ·omega
 have Q:first*W>=v1*W:=aC n o
 have D:(j-first)*W>=(v0+v1)*W:=aC r o
 have H:v1*bl<=v1*W:=aE o o
 have q2:u1*al<=u1*W:=aE o o
 have M:u1*W<=v1*W:=aC o o
 have R:0<=u1*al:=aG o o
 have N:0<=v1*bl:=aG o o
 have G:(v0+v1)*(bl+1)<=(v0+v1)*W:=aE o o
 have C:(u0+u1)*(al+1)<=(u0+u1)*W:=aE o o
 have X:(u0+u1)*W<=(v0+v1)*W:=aC o o
 have B:0<=(u0+u1)*al:=aG o o
 have A:0<=(v0+v1)*bl:=aG o o
 have g:∀ X0 X1:Int,0<=X1->X1<X0->b=u1*X0+u0*X1->X0<=b:=by
  intro X0 X1 u L e
  have E:1*X0<=u1*X0:=aC o o
  have T:0<=u0*X1:=aG o u
  omega
 cases odd with
 | true=>
  have y:v1*b-u1*a=first*W+v1*bl-u1*al:=by
   grind
  have k:u0*a-v0*b-(v1*b-u1*a)=(j-first)*W+(u0+u1)*al-(v0+v1)*bl:=by
   grind
  have d:0<=v1*b-u1*a:=o
  have c:v1*b-u1*a<u0*a-v0*b:=by
   grind
  have p:a=v1*(u0*a-v0*b)+v0*(v1*b-u1*a):=by
   grind
  have i:b=u1*(u0*a-v0*b)+u0*(v1*b-u1*a):=by
   grind
  exact ⟨⟨d,c⟩,p,i,g _ _ d c i⟩
 | false=>
  have y:u1*a-v1*b=first*W+u1*al-v1*bl:=by
   grind
  have k:v0*b-u0*a-(u1*a-v1*b)=(j-first)*W+(v0+v1)*bl-(u0+u1)*al:=by
   grind
  have d:0<=u1*a-v1*b:=o
  have c:u1*a-v1*b<v0*b-u0*a:=by
   grind
  have p:a=v1*(v0*b-u0*a)+v0*(u1*a-v1*b):=by
   grind
  have i:b=u1*(v0*b-u0*a)+u0*(u1*a-v1*b):=by
   grind
  exact ⟨⟨d,c⟩,p,i,g _ _ d c i⟩
def Leh.gcd{a b u0 v0 u1 v1:Int}{odd:Bool}(l:Leh a b u0 v0 u1 v1 (Ev a b u0 v0 odd) (Eu a b u1 v1 odd)):bC (Ev a b u0 v0 odd) (Eu a b u1 v1 odd)=bC a b:=by
 apply Nat.dvd_antisymm
 ·have i:=l.ha
  have j:=l.hb
  generalize Ev a b u0 v0 odd=p at *
  generalize Eu a b u1 v1 odd=q at *
  have e:(bC p q:Int)∣p:=Int.gcd_dvd_left p q
  have g:(bC p q:Int)∣q:=Int.gcd_dvd_right p q
  rw [<- Int.ofNat_dvd]
  apply Int.dvd_coe_gcd
  ·rw [i];exact Int.dvd_add (aF e) (aF g)
  ·rw [j];exact Int.dvd_add (aF e) (aF g)
 ·have c:(bC a b:Int)∣a:=Int.gcd_dvd_left a b
  have d:(bC a b:Int)∣b:=Int.gcd_dvd_right a b
  rw [<- Int.ofNat_dvd]
  apply Int.dvd_coe_gcd
  ·unfold Ev;split
   ·exact bB (aF c) (aF d)
   ·exact bB (aF d) (aF c)
  ·unfold Eu;split
   ·exact bB (aF d) (aF c)
   ·exact bB (aF c) (aF d)
def Y4(pre ws:List Int)(i:Nat):(pre++ws).getD (i+pre.length) 0=ws.getD i 0:=by
 grind
def Cm(pre ws:List Int)(i:Nat)(v:Int):(pre++ws).set (i+pre.length) v=pre++ws.set i v:=by
 grind
def T7{B:Int}(hB:0<B){ws:List Int}{n:Nat}(d:Dig B ws)(h:val B ws<B^n):val B (ws.drop n)=0:=by
 by_cases b:n<=ws.length
 ·have e:=D9 B ws b
  have c:=C2 hB (d.take n)
  have g:=C2 hB (d.drop n)
  by_cases a:val B (ws.drop n)=0
  ·exact a
  ·have:B^n*1<=B^n*val B (ws.drop n):=aE o (aJ (C9 hB n))
   omega
 ·rw [aU o];rfl
section
variable {g:Heap} {bu bq:Nat} {pre qs:List Int} {VA:Option Addr} {vs:List Int}
def Wg{n N:Nat}{ws:List Int}{q:Int}{J:LP}(hu:g bu=none)(hq:g bq=none)(hne:bu≠bq)(sv:SlI .u32 g VA vs)(dv:Dig b32 vs)(hn:n=vs.length)(dw:Dig b32 ws)(hN:N=(pre++ws).length)(hl:n<ws.length)(hbig:N<=36000000000000)
 (hD:val b32 (ws.take n)+val b32 vs<2*b32^n) (hD0:b32^n<=val b32 (ws.take n)+val b32 vs) (htop:ws.getD n 0=4294967295)
 (hJ:∀ ws',ws'.length=ws.length->Dig b32 ws'->ws'.drop (n+1)=ws.drop (n+1)->ws'.getD n 0=0->val b32 (ws'.take n)=val b32 (ws.take n)+val b32 vs-b32^n->J [U (B9 (q-1))] (P0 .u32 173 g bu (pre++ws') bq qs)):
 Js prog VA n (some ⟨bu,0,none⟩) N (pre.length:Int) q J (P0 .u32 173 g bu (pre++ws) bq qs):=by
 refine ⟨fun l B=>∃ (k:Nat) (c:Int) (a:List Int),l=[U c,I k]/\k<=n/\a.length=ws.length/\Dig b32 a/\(0<=c/\c<=1)/\B=P0 .u32 173 g bu (pre++a) bq qs/\a.drop k=ws.drop k/\val b32 (a.take k)+c*b32^k=val b32 (ws.take k)+val b32 (vs.take k),fun l _=>n-(iAt l 1).toNat,⟨0,0,ws,rfl,o,rfl,dw,o,rfl,rfl,by rfl⟩,?_⟩
 rintro c i R ⟨k,z,a,L,Q,D,j,S,rfl,b,H⟩
 obtain ⟨rfl,rfl⟩:c=z/\i=(k:Int):=gz0
 have s:g.le (P0 .u32 173 g bu (pre++a) bq qs):=Fe hu hq hne
 have x:SlI .u32 (P0 .u32 173 g bu (pre++a) bq qs) (some ⟨bu,0,none⟩) (pre++a):=Ia hne
 have e:N=(pre++a).length:=gz0
 have E:N=pre.length+a.length:=gz0
 have u:B6 ((k:Int)+pre.length)=((k+pre.length:Nat):Int):=by rw [B4 o o];omega
 have p:B6 ((pre.length:Int)+n)=((n+pre.length:Nat):Int):=by rw [B4 o o];omega
 refine B5 (fun C=>?_) (fun C=>?_)
 ·have O:=S6 dv k
  have M:=S6 j k
  have d:=D3 b
  have G:=C0 b32 vs k
  have A:=C0 b32 ws k
  rw [u]
  refine x.load e o o ?_
  refine (sv.mono s).load hn o o ?_
  simp only [aD,Y4]
  have F:B9 (c+B9 (B9 (a.getD k 0)+B9 (vs.getD k 0)))=c+a.getD k 0+vs.getD k 0:=by
   rw [B8 (n:=a.getD k 0) o o,B8 (n:=vs.getD k 0) o o,B8 (n:=a.getD k 0+vs.getD k 0) o o,B8 o o];omega
  rw [F]
  refine ⟨_,rfl,o,o,?_⟩
  refine H7 (us:=pre++a) (i:=((k+pre.length:Nat):Int)) G8 hne o ?_
  rw [aD,Cm,W8,Me,B4 (n:=(k:Int)+1) o o]
  refine ⟨⟨k+1,_,a.set k ((c+a.getD k 0+vs.getD k 0)%4294967296),rfl,o,gz0,j.set (Uw _),o,rfl,?_,?_⟩,by simp only [iAt,aH,aM];omega⟩
  ·rw [C8 o];exact D0 b
  ·rw [C5 o,D8,aK,aI o,aV,R4,G,A,<- d]
   grind
 ·have m:k=n:=o
  subst m
  have d:=D3 b
  rw [p]
  refine x.load e o o ?_
  rw [aD,Y4,d,htop]
  refine ⟨_,rfl,o,o,?_⟩
  refine H7 (us:=pre++a) (i:=((k+pre.length:Nat):Int)) G8 hne o ?_
  rw [aD,Cm]
  have r:vs.take k=vs:=gz0
  rw [r] at H
  have y:=H1 dc (j.take k)
  have w:c=1:=by
   grind
  subst w
  refine hJ (a.set k 0) gz0 (j.set dc) (by rw [C8 o];exact D0 b) gz0 ?_
  rw [aX o]
  omega
def Sg{n N nq:Nat}{ws:List Int}{q X Y:Int}{J:LP}(hu:g bu=none)(hq:g bq=none)(hne:bu≠bq)(sv:SlI .u32 g VA vs)(dv:Dig b32 vs)(hn:n=vs.length)(dw:Dig b32 ws)(hN:N=(pre++ws).length)(hl:n<ws.length)(hbig:N<=36000000000000)
 (hnq:nq=qs.length) (hjq:pre.length<qs.length)
 (hX:X=val b32 (ws.take n)+b32^n*ws.getD n 0) (hY:Y=val b32 vs) (hq0:0<=q) (hq1:q<=4294967296) (hlt:X<(q+1)*Y) (hge:(q-1)*Y<=X) (hXB:X<Y*4294967296)
 (hJ:∀ ws' q',ws'.length=ws.length->Dig b32 ws'->ws'.drop (n+1)=ws.drop (n+1)->ws'.getD n 0=0->val b32 (ws'.take n)=X-q'*Y->0<=X-q'*Y->X-q'*Y<Y->0<=q'->q'<4294967296->J [] (P0 .u32 173 g bu (pre++ws') bq (qs.set pre.length q'))):
 Fj prog VA n (some ⟨bu,0,none⟩) N (some ⟨bq,0,none⟩) nq (pre.length:Int) J q (P0 .u32 173 g bu (pre++ws) bq qs):=by
 have ae:Y<b32^n:=by rw [hY,hn];exact H1 dc dv
 have ah:0<=X:=by
  have O:=C2 dc (dw.take n)
  have h2:=aG (aJ (C9 (B:=b32) dc n)) (S6 dw n).1
  omega
 have A:0<Y:=by
  omega
 have D:∀ ws' q',ws'.length=ws.length->Dig b32 ws'->ws'.drop (n+1)=ws.drop (n+1)->ws'.getD n 0=0->val b32 (ws'.take n)=X-q'*Y->0<=X-q'*Y->X-q'*Y<Y->0<=q'->Fm prog (some ⟨bq,0,none⟩) nq (pre.length:Int) J q' (P0 .u32 173 g bu (pre++ws') bq qs):=by
  intro ws' q' O h2 h3 h4 h5 h6 h7 h8
  have af:q'<4294967296:=by
   by_cases u:q'<4294967296
   ·exact u
   ·have:=aC (show 4294967296<=q' from o) (aJ A)
    omega
  unfold Fm
  refine ⟨_,rfl,o,o,?_⟩
  refine Ib (i:=(pre.length:Int)) G8 o ?_
  rw [aD,I6 h8 o]
  grind
 unfold Fj
 refine ⟨fun l H=>∃ (k:Nat) (c b:Int) (a:List Int),l=[U c,U b,I k]/\k<=n/\a.length=ws.length/\Dig b32 a/\(0<=c/\c<4294967296)/\(0<=b/\b<=1)/\H=P0 .u32 173 g bu (pre++a) bq qs/\a.drop k=ws.drop k/\val b32 (a.take k)=val b32 (ws.take k)-q*val b32 (vs.take k)+(c+b)*b32^k,fun l _=>n-(iAt l 2).toNat,⟨0,0,0,ws,rfl,o,rfl,dw,o,o,rfl,rfl,by simp [val]⟩,?_⟩
 rintro c b i hp ⟨k,c',b',a,am,hk,r,m,u,hb,rfl,j,hv⟩
 obtain ⟨rfl,rfl,rfl⟩:c=c'/\b=b'/\i=(k:Int):=gz0
 have ab:g.le (P0 .u32 173 g bu (pre++a) bq qs):=Fe hu hq hne
 have su:SlI .u32 (P0 .u32 173 g bu (pre++a) bq qs) (some ⟨bu,0,none⟩) (pre++a):=Ia hne
 have s:N=(pre++a).length:=gz0
 have ak:N=pre.length+a.length:=gz0
 have ac:B6 ((k:Int)+pre.length)=((k+pre.length:Nat):Int):=by rw [B4 o o];omega
 have F:B6 ((pre.length:Int)+n)=((n+pre.length:Nat):Int):=by rw [B4 o o];omega
 refine B5 (fun O=>?_) (fun O=>?_)
 ·have gv:=S6 dv k
  have gz:=S6 m k
  have z:=D3 j
  have vv:=C0 b32 vs k
  have vw:=C0 b32 ws k
  refine (sv.mono ab).load hn o o ?_
  rw [ac]
  refine su.load s o o ?_
  simp only [aD,Y4]
  have hm:0<=q*vs.getD k 0/\q*vs.getD k 0<=4294967296*4294967295:=⟨aG hq0 gv.1,bG hq1 o gv.1 dc⟩
  have ep:B9 (B9 (q*B9 (vs.getD k 0))+c)=q*vs.getD k 0+c:=by
   rw [B8 (n:=vs.getD k 0) o o,B8 (n:=q*vs.getD k 0) o o,B8 o o]
  rw [ep,R5 o,Me,Me,B8 (n:=a.getD k 0) o o]
  generalize W:q*vs.getD k 0+c=p at *
  have aj:0<=p/\p<18446744073709551616:=o
  have S:B9 (B9 (a.getD k 0-p%4294967296)-b)=(a.getD k 0-p%4294967296-b)%18446744073709551616:=by
   rw [E4,E4];omega
  rw [S,Ff o]
  refine ⟨_,rfl,o,o,?_⟩
  refine H7 (us:=pre++a) (i:=((k+pre.length:Nat):Int)) G8 hne o ?_
  rw [aD,Cm,W8,B4 (n:=(k:Int)+1) o o]
  refine ⟨⟨k+1,_,_,a.set k ((a.getD k 0-p%4294967296-b)%18446744073709551616%4294967296),rfl,o,by simpa using r,m.set (Uw _),o,o,rfl,?_,?_⟩,by simp only [iAt,aH,aM];omega⟩
  ·rw [C8 o];exact D0 j
  ·rw [C5 o,D8,aK,aI o,aV,vv,vw,<- z,hv]
   have key:(a.getD k 0-p%4294967296-b)%18446744073709551616%4294967296=a.getD k 0-p-b+4294967296*(p/4294967296+(a.getD k 0-p%4294967296-b)%18446744073709551616/4294967296%2):=o
   grind
 ·have C:k=n:=o
  subst C
  have z:=D3 j
  have gz:=S6 m k
  have V:vs.take k=vs:=gz0
  rw [V,<- hY] at hv
  have G:=H1 dc (m.take k)
  rw [aK,aI o] at G
  have ai:=C2 dc (m.take k)
  rw [F]
  refine su.load s o o ?_
  rw [aD,Y4]
  have hD:X-q*Y=val b32 (a.take k)+(a.getD k 0-c-b)*b32^k:=by
   grind
  have w:X-q*Y<Y:=by
   grind
  have ad: -Y<=X-q*Y:=by
   grind
  have W:0<b32^k:=C9 dc k
  have d:a.getD k 0-c-b=0\/a.getD k 0-c-b= -1:=by
   have h2:a.getD k 0-c-b<1:=by
    by_cases u:a.getD k 0-c-b<1
    ·exact u
    ·have:=aC (show 1<=a.getD k 0-c-b from o) (aJ W);omega
   have h3: -2<a.getD k 0-c-b:=by
    by_cases u: -2<a.getD k 0-c-b
    ·exact u
    ·have:=aC (show a.getD k 0-c-b <= -2 from o) (aJ W);omega
   omega
  have S:B9 (B9 (B9 (a.getD k 0)-c)-b)=(a.getD k 0-c-b)%18446744073709551616:=by
   rw [B8 (n:=a.getD k 0) o o,E4,E4];omega
  rw [S]
  have aa:∀ x:Int,Int.fdiv x (2^(min ((63:Int)).toNat 64))=x/9223372036854775808:=by
   intro x;rw [show (2:Int)^(min ((63:Int)).toNat 64)=9223372036854775808 from dc];grind
  refine ⟨_,rfl,o,o,?_⟩
  refine H7 (us:=pre++a) (i:=((k+pre.length:Nat):Int)) G8 hne o ?_
  rw [aD,Cm,W8,aa]
  have y:∀ v,(a.set k v).getD k 0=v:=by intro v;simp [List.getD,show k<a.length from o]
  refine ⟨fun l H=>∃ ws' q',l=[U q']/\H=P0 .u32 173 g bu (pre++ws') bq qs/\ws'.length=ws.length/\Dig b32 ws'/\ws'.drop (k+1)=ws.drop (k+1)/\ws'.getD k 0=0/\val b32 (ws'.take k)=X-q'*Y/\0<=X-q'*Y/\X-q'*Y<Y/\0<=q',?_,?_⟩
  ·rcases d with d|d
   ·rw [d] at hD ⊢
    refine D6 (fun e=>absurd e dc) (fun _=>?_)
    refine ⟨a.set k (0%18446744073709551616%4294967296),q,rfl,rfl,by simpa using r,m.set dc,by rw [C8 o];exact D0 j,y _,?_,o,w,hq0⟩
    rw [aX o];omega
   ·rw [d] at hD ⊢
    refine D6 (fun _=>?_) (fun e=>absurd dc e)
    have M:1<=q:=by
     grind
    have ht:(a.set k (-1%18446744073709551616%4294967296)).take k=a.take k:=aX o
    have e1:(q-1)*Y=q*Y-Y:=gz0
    refine Wg (ws:=a.set k (-1%18446744073709551616%4294967296)) hu hq hne sv dv hn (m.set dc) (by rw [s];simp) (by simpa using (show k<a.length from o)) hbig ?_ ?_ (y _) ?_
    ·grind
    ·grind
    ·intro ws' R L E Q T
     rw [ht,<- hY] at T
     rw [B8 (n:=q-1) o o]
     refine ⟨ws',q-1,rfl,rfl,by rw [R];simpa using r,L,?_,Q,o,o,o,o⟩
     rw [E,C8 o];exact D0 j
  ·rintro q2 ag ⟨ws',q',al,rfl,R,L,E,Q,T,g6,g7,g8⟩
   obtain rfl:q2=q':=gz0
   exact D ws' q2 R L E Q T g6 g7 g8
end
def Lp(B:Int)(xs:List Int)(i:Nat):val B (xs.drop i)=xs.getD i 0+B*val B (xs.drop (i+1)):=by
 by_cases a:i<xs.length
 ·exact Db B a
 ·rw [aU o,aU o]
  simp [val,List.getD,List.getElem?_eq_none (Nat.le_of_not_lt a)]
def Dd{s:Nat}(hs:s<=32):(2:Int)^s*2^(32-s)=4294967296:=by
 rw [<- Int.pow_add,show s+(32-s)=32 from o];decide
section
variable {h g:Heap} {K:VP} {A B:Option Addr} {ac bc:Nat} {bu bq:Nat} {VA:Option Addr} {vs us0:List Int}
def Tv{s nq cq rn cr:Nat}{rs tl qs:List Int}{Q R:Int}(hu:g bu=none)(hq:g bq=none)(hne:bu≠bq)(hs:s<32)(hrn:rn=rs.length)(hcr:rn<=cr)(hnq:nq=qs.length)(hcq:nq<=cq)(dq:Dig b32 qs)(dr:Dig b32 rs)(hb1:nq<=36000000000000)(hb2:rn<=36000000000000)(hQ:val b32 qs=Q)(hR:val b32 rs=R*2^s)
 (hK:∀ A1 m1 c1 A2 m2 c2 h',g.le h'->m1<=c1->m2<=c2->Mg h' A1 m1 Q->Mg h' A2 m2 R->K (.tuple #[.slice A1 m1 c1,.slice A2 m2 c2]) h'):
 Fi prog K (s:Int) (some ⟨bq,0,none⟩) nq cq (some ⟨bu,0,none⟩) rn cr (P0 .u32 173 g bu (rs++tl) bq qs):=by
 have y:0<(2:Int)^s:=aO dc
 have G:=Dd (Nat.le_of_lt hs)
 have u:0<(2:Int)^(32-s):=aO dc
 refine ⟨fun l h'=>∃ (k:Nat) (a:List Int),l=[I k]/\k<=rn/\a.length=rs.length/\Dig b32 a/\h'=P0 .u32 173 g bu (a++tl) bq qs/\a.drop k=rs.drop k/\2^s*val b32 (a.take k)+rs.getD 0 0%2^s=val b32 (rs.take k)+b32^k*(rs.getD k 0%2^s),fun l _=>rn-(iAt l 0).toNat,⟨0,rs,rfl,o,rfl,dr,rfl,rfl,by simp [val]⟩,?_⟩
 rintro i T ⟨k,a,ac,hk,D,w,rfl,d,hv⟩
 obtain rfl:i=(k:Int):=gz0
 have x:∀ a:List Int,SlI .u32 (P0 .u32 173 g bu (a++tl) bq qs) (some ⟨bu,0,none⟩) a:=by
  intro a
  have:=(Ia (g:=g) (k:=.u32) (e:=173) (us:=a++tl) (qs:=qs) hne).cut (c:=(a++tl).length) (l:=0) (m:=a.length) o (by simp) (aS _)
  simpa [F7] using this
 have C:B6 ((k:Int)+1)=((k+1:Nat):Int):=by rw [B4 o o];omega
 have V:=S6 w k
 have L:=D3 d
 refine B5 (fun h1=>?_) (fun h1=>?_)
 ·refine (x a).load o o o ?_
  refine B5 (fun e=>absurd e o) (fun _=>?_)
  refine ⟨_,rfl,o,o,?_⟩
  simp only [aD]
  rw [aI o,Int.fdiv_eq_ediv_of_nonneg _ (aJ y)]
  refine H7 (us:=a++tl) (i:=(k:Int)) G8 hne gz0 ?_
  rw [aD,List.set_append_left _ _ o,C]
  have b:0<=a.getD k 0/2^s:=aP V.1 o
  have A:a.getD k 0/2^s<2^(32-s):=by
   apply aN y
   grind
  have p:(2:Int)^(32-s)<=4294967296:=by
   have:=aC (show 1<=(2:Int)^s from o) (aJ u);omega
  have d1:Dig b32 (a.set k (a.getD k 0/2^s)):=w.set ⟨b,gz0⟩
  have l1:(a.set k (a.getD k 0/2^s)).length=rs.length:=gz0
  have g1:(a.set k (a.getD k 0/2^s)).getD k 0=a.getD k 0/2^s:=gz0
  have g2:(a.set k (a.getD k 0/2^s)).getD (k+1) 0=rs.getD (k+1) 0:=by
   rw [Oq o];exact D3 (D0 d)
  have vr:=C0 b32 rs k
  have j:∀ z:Int,(0<=z/\z<4294967296)->2^s*z=a.getD k 0-a.getD k 0%2^s+4294967296*(rs.getD (k+1) 0%2^s)->
   2^s*val b32 ((a.set k z).take (k+1))+rs.getD 0 0%2^s=val b32 (rs.take (k+1))+b32^(k+1)*(rs.getD (k+1) 0%2^s):=by
   intro z hz ez
   rw [C5 o,D8,aK,aI o,vr,aV,<- L]
   grind
  have X:=aL (a.getD k 0) (2^s)
  refine B5 (fun W=>?_) (fun W=>?_)
  ·refine (x _).load o o o ?_
   refine (x _).load o o o ?_
   simp only [aD,g1,g2]
   have es:B9 ((32:Int)-s)=((32-s:Nat):Int):=by rw [B8 o o];omega
   rw [es]
   refine B5 (fun e=>absurd e o) (fun _=>?_)
   refine ⟨_,rfl,o,o,?_⟩
   have O:=S6 dr (k+1)
   have H:0<=rs.getD (k+1) 0*2^(32-s):=aG O.1 o
   have E:rs.getD (k+1) 0*2^(32-s)<18446744073709551616:=by
    have:=bG (show rs.getD (k+1) 0<=4294967295 from o) p o dc
    omega
   rw [aD,aI (show 32-s<=64 from o),B8 (n:=rs.getD (k+1) 0) o o,B8 H E,W8]
   obtain ⟨o1,N⟩:=Qo (s:=32-s) o O ⟨b,A⟩
   rw [o1]
   refine H7 (us:=a.set k (a.getD k 0/2^s)++tl) (i:=(k:Int)) G8 hne gz0 ?_
   rw [aD,List.set_append_left _ _ o,List.set_set]
   refine ⟨⟨k+1,a.set k (a.getD k 0/2^s+rs.getD (k+1) 0*2^(32-s)%4294967296),rfl,o,gz0,w.set ⟨o,N⟩,rfl,by rw [C8 o];exact D0 d,j _ ⟨o,N⟩ ?_⟩,by simp only [iAt,aH];omega⟩
   have em:rs.getD (k+1) 0*2^(32-s)%4294967296=2^(32-s)*(rs.getD (k+1) 0%2^s):=by
    rw [<- G,aZ (2^s),aZ (rs.getD (k+1) 0),bH _ _ u]
   grind
  ·have S:rs.getD (k+1) 0=0:=gz0
   refine ⟨⟨k+1,a.set k (a.getD k 0/2^s),rfl,o,l1,d1,rfl,gz0,j _ ⟨b,o⟩ ?_⟩,by simp only [iAt,aH];omega⟩
   rw [S,Int.zero_emod,aY,bJ];omega
 ·have B:k=rs.length:=o
  subst B
  have M:val b32 a=R:=by
   simp at hv
   have:2^s*(R-val b32 a)=rs.getD 0 0%2^s:=by
    grind
   have hz:R-val b32 a=0:=by
    by_cases hc:R-val b32 a<=0
    ·by_cases F:R-val b32 a=0
     ·exact F
     ·have:=aE (show R-val b32 a <= -1 from o) (aJ y);omega
    ·have:=aE (show 1<=R-val b32 a from o) (aJ y);omega
   omega
  rw [hnq]
  refine S8 A01 dq o o ?_
  intro m1 aa q
  refine ⟨_,_,_,rfl,?_⟩
  rw [hrn,<- D]
  refine S8 (x a) w o o ?_
  intro m2 ab r
  rw [hQ] at q
  rw [M] at r
  exact ⟨_,_,_,rfl,hK _ _ _ _ _ _ _ (Fe hu hq hne) o o q r⟩
def So{s mm N nq:Nat}{us0:List Int}{a b Y:Int}(hu:g bu=none)(hq:g bq=none)(hne:bu≠bq)(sv:SlI .u32 g VA vs)(dv:Dig b32 vs)(hn:vs.length=mm+2)(hv1:4294967296<=2*vs.getD (mm+1) 0)(hs:s<32)(hY:val b32 vs=Y)(hYb:Y=b*2^s)(du:Dig b32 us0)(hN:us0.length=N)(hua:val b32 us0=a*2^s)(hnq:N=nq+(mm+2))(hnq1:1<=nq)(hbig:N<=36000000000000)(htop:val b32 (us0.drop nq)<Y)
 (hK:∀ A1 m1 c1 A2 m2 c2 h',g.le h'->m1<=c1->m2<=c2->Mg h' A1 m1 (a/b)->Mg h' A2 m2 (a%b)->K (.tuple #[.slice A1 m1 c1,.slice A2 m2 c2]) h'):
 Fl prog K (s:Int) VA (mm+2) (some ⟨bu,0,none⟩) N N (some ⟨bq,0,none⟩) nq nq (P0 .u32 173 g bu us0 bq (bD nq 0)):=by
 have hp:0<(2:Int)^s:=aO dc
 have al:Y<b32^(mm+2):=by rw [<- hY,<- hn];exact H1 dc dv
 have ar:0<Y:=by have:=C2 dc (du.drop nq);omega
 have e0:B6 (B6 ((N:Int)-((mm+2:Nat):Int))-1)=(nq:Int)-1:=by rw [B4 (n:=(N:Int)-((mm+2:Nat):Int)) o o,B4 o o];omega
 unfold Fl
 refine ⟨fun l h'=>∃ (k:Nat) (us qs:List Int),l=[I ((k:Int)-1)]/\k<=nq/\us.length=N/\qs.length=nq/\Dig b32 us/\Dig b32 qs/\h'=P0 .u32 173 g bu us bq qs/\val b32 (us.drop k)<Y/\val b32 us0=val b32 (qs.drop k)*Y*b32^k+val b32 us,fun l _=>(iAt l 0+1).toNat,⟨nq,us0,_,by rw [e0],o,hN,by simp,du,F3 dc _,rfl,htop,by simp [val]⟩,?_⟩
 rintro j an ⟨k,us,qs,a0,hk,G,F,p,Q,rfl,aa,hv⟩
 obtain rfl:j=(k:Int)-1:=gz0
 have x:g.le (P0 .u32 173 g bu us bq qs):=Fe hu hq hne
 have R:SlI .u32 (P0 .u32 173 g bu us bq qs) (some ⟨bu,0,none⟩) us:=Ia hne
 unfold Jv
 refine B5 (fun h1=>?_) (fun h1=>?_)
 ·obtain ⟨j,rfl⟩:∃ j,k=j+1:=⟨k-1,o⟩
  have ej:((j+1:Nat):Int)-1=(j:Int):=o
  rw [ej]
  have e1:B6 ((j:Int)+((mm+2:Nat):Int))=((j+(mm+2):Nat):Int):=by rw [B4 o o];omega
  have e2:B6 (((j+(mm+2):Nat):Int)-1)=((j+(mm+1):Nat):Int):=by rw [B4 o o];omega
  have e3:B6 (((mm+2:Nat):Int)-1)=((mm+1:Nat):Int):=by rw [B4 o o];omega
  rw [e1,e2,e3]
  have C:=p.drop j
  have ak:(us.drop j).length=N-j:=gz0
  have au:∀ i,(us.drop j).getD i 0=us.getD (j+i) 0:=fun i=>Nj
  have w:val b32 ((us.drop j).drop (mm+3))=0:=by
   have:=T7 (B:=b32) dc (n:=mm+2) (p.drop (j+1)) o
   rw [aQ] at this ⊢
   grind
  have av:=Lp b32 us j
  have ag:val b32 (us.drop j)<Y*4294967296:=by
   have:=S6 p j
   grind
  have E:=D9 b32 (us.drop j) (i:=mm+3) o
  rw [w,aY,bJ] at E
  have az:=E5 b32 (us.drop j) (mm+2)
  have hX:val b32 (us.drop j)=val b32 ((us.drop j).take (mm+2))+b32^(mm+2)*(us.drop j).getD (mm+2) 0:=gz0
  have es:=Zz (B:=b32) dc (us:=(us.drop j).take (mm+3)) (m:=mm) (C.take _) dv gz0 hn hv1 gz0
  have gt:∀ i,i<mm+3->((us.drop j).take (mm+3)).getD i 0=us.getD (j+i) 0:=by
   grind
  rw [gt (mm+2) o,gt (mm+1) o,gt mm o,<- E,hY] at es
  refine ⟨fun l h'=>∃ d r,l=[]/\h'=P0 .u32 173 g bu d bq (qs.set j r)/\d.length=N/\Dig b32 d/\(0<=r/\r<4294967296)/\val b32 (d.drop j)<Y/\val b32 (d.drop j)=val b32 (us.drop j)-r*Y/\d.take j=us.take j,?_,?_⟩
  ·refine R.load G.symm o o ?_
   refine R.load G.symm o o ?_
   refine (sv.mono x).load hn.symm o o ?_
   simp only [aD]
   have ao:=S6 dv (mm+1)
   have ew:B9 (vs.getD (mm+1) 0)=vs.getD (mm+1) 0:=B8 o o
   refine B5 (fun e=>absurd (ew.symm.trans e) o) (fun _=>?_)
   refine (sv.mono x).load hn.symm o o ?_
   simp only [aD]
   refine B5 (fun e=>absurd (ew.symm.trans e) o) (fun _=>?_)
   refine ⟨fun l h'=>∃ q,l=[U q]/\h'=P0 .u32 173 g bu us bq qs/\0<=q/\q<=4294967296/\val b32 (us.drop j)<(q+1)*Y/\(q-1)*Y<=val b32 (us.drop j),?_,?_⟩
   ·have:=Yo (us:=us) (vs:=vs) (n:=mm+2) (j:=j) (J:=fun l h'=>∃ q,l=[U q]/\h'=P0 .u32 173 g bu us bq qs/\0<=q/\q<=4294967296/\val b32 (us.drop j)<(q+1)*Y/\(q-1)*Y<=val b32 (us.drop j)) es (sv.mono x) R hn.symm o o o rfl rfl (by rfl) (S6 p (j+(mm+2))) (S6 p (j+(mm+1))) rfl (fun q q0 q1 q2 q3=>⟨q,rfl,rfl,q0,q1,q2,q3⟩)
    grind
   ·rintro q am ⟨r,aw,rfl,ae,aj,A,z⟩
    obtain rfl:q=r:=gz0
    unfold Jt
    have u:(us.take j).length=j:=gz0
    have:=Sg (g:=g) (bu:=bu) (bq:=bq) (pre:=us.take j) (qs:=qs) (VA:=VA) (vs:=vs) (n:=mm+2) (N:=N) (nq:=nq) (ws:=us.drop j) (q:=q) (X:=val b32 (us.drop j)) (Y:=Y)
     (J:=fun l h'=>∃ d r,l=[]/\h'=P0 .u32 173 g bu d bq (qs.set j r)/\d.length=N/\Dig b32 d/\(0<=r/\r<4294967296)/\val b32 (d.drop j)<Y/\val b32 (d.drop j)=val b32 (us.drop j)-r*Y/\d.take j=us.take j)
     hu hq hne sv dv hn.symm C gz0 o hbig F.symm o hX hY.symm ae aj A z ag ?_
    ·rw [List.take_append_drop,u] at this
     exact this
    ·intro H r w1 w2 w3 w4 w5 w6 w7 w8 w9
     refine ⟨us.take j++H,r,rfl,by rw [u],by rw [List.length_append,w1,ak,u];omega,Dig.append (p.take j) w2,⟨w8,w9⟩,?_,?_,?_⟩
     all_goals first|(rw [List.drop_left' u])|grind
     all_goals
      have z1:=D9 b32 H (i:=mm+3) o
      rw [w3,w,E5,w4,w5] at z1
      omega
  ·rintro aq ⟨d,r,_,rfl,u1,u2,u3,u4,u5,u6⟩
   unfold Ju
   have af:B6 ((j:Int)-1)=(j:Int)-1:=B4 o o
   rw [af]
   refine ⟨⟨j,d,qs.set j r,rfl,o,u1,gz0,u2,Q.set u3,rfl,u4,?_⟩,by simp only [iAt,aH];omega⟩
   have ah:=D9 b32 d (i:=j) o
   have S:=D9 b32 us (i:=j) o
   rw [hv,M0 o,ah,S,u5,u6,aV]
   simp only [val]
   grind
 ·have ad:k=0:=o
  subst ad
  simp at aa hv
  have ay:0<b:=by
   by_cases W:0<b
   ·exact W
   ·have:=aC (show b<=0 from o) (aJ hp);omega
  have ap:=C2 dc p
  have hR:val b32 us=(a-val b32 qs*b)*2^s:=by
   grind
  have ai:0<=a-val b32 qs*b:=by
   by_cases W:0<=a-val b32 qs*b
   ·exact W
   ·have:=aC (show a-val b32 qs*b <= -1 from o) (aJ hp);omega
  have T:a-val b32 qs*b<b:=by
   simp_all
  have O:a/b=val b32 qs:=by
   have:a=(a-val b32 qs*b)+val b32 qs*b:=o
   rw [this,bK _ _ o,bI ai T,Int.zero_add]
  have D:a%b=a-val b32 qs*b:=by
   have:=Int.emod_def a b
   grind
  rw [O,D] at hK
  have hz:=T7 (B:=b32) dc (n:=mm+2) p o
  have L:=D9 b32 us (i:=mm+2) o
  rw [hz,aY,bJ] at L
  refine ⟨⟨o,o⟩,?_⟩
  rw [F7,aD,Nat.sub_zero,Nat.sub_zero]
  have M:(us.take (mm+2)).length=mm+2:=gz0
  have st:SlI .u32 (P0 .u32 173 g bu us bq qs) (some ⟨bu,0,none⟩) (us.take (mm+2)):=by
   have:=R.cut (c:=N) (l:=0) (m:=mm+2) o o o
   simpa [F7] using this
  have tr:=Ls (K:=fun r7 y=>∃ (t259A:Option Addr) (t259n:Nat) (t259c:Nat),r7= .slice t259A t259n t259c/\Fi prog K (s:Int) (some ⟨bq,0,none⟩) nq nq t259A t259n t259c y) (ac:=N) st o o ?_
  ·grind
  ·intro m hm ax ab
   rw [M] at hm
   rw [List.take_take,aI hm] at ab
   refine ⟨_,_,_,rfl,?_⟩
   have V:us=us.take m++us.drop m:=(List.take_append_drop m us).symm
   rw [V]
   refine Tv (rs:=us.take m) (tl:=us.drop m) (qs:=qs) hu hq hne hs gz0 o F.symm (aS _) Q (p.take m) o o rfl ?_ hK
   omega
end
