/- A part. -/
import Derived.Test.YtmbfcbbkbefgfaaGreatDoorG14
import Derived.Test.YtmbfcbbkbefgfaaGreatDoorG15
open Go.Proofs.Tryz
set_option linter.all false
open Int renaming mul_le_mul_of_nonneg_right->aC,toNat_natCast->aD,mul_le_mul_of_nonneg_left->aE,dvd_mul_of_dvd_right->aF,mul_nonneg->aG,le_of_lt->aL,mul_comm->aO,pow_succ->aQ,mul_ediv_add_emod->aS,emod_lt_of_pos->aT,ediv_lt_of_lt_mul->aV,pow_pos->aX,emod_nonneg->aY,ediv_nonneg->aZ,mul_zero->bH,mul_pos->bI,dvd_sub->bJ,gcd->bK,tmod_eq_emod_of_nonneg->bM,tdiv_eq_ediv_of_nonneg->bN,mul_le_mul->bO,fdiv_eq_ediv_of_nonneg->bU,mul_emod_mul_of_pos->bW,ediv_eq_zero_of_lt->bX,add_zero->bY,add_mul_ediv_right->bZ
open List renaming getElem?_cons_zero->aH,length_take->aI,length_append->aK,take_length->aM,take_of_length_le->aN,getD->aP,getElem?_cons_succ->aR,getElem?_eq_none->aU,drop_drop->bB,drop_of_length_le->bC,length_set->bD,take_append_drop->bF,take_set_of_le->bG,replicate->bL,drop_eq_getElem_cons->bV
open Nat renaming min_eq_left->aJ,le_refl->aW
namespace Go.Proofs.YtmbfcbbkbefgfaaGreatDoor
set_option maxRecDepth 20000
open Go
section
variable {h g:Heap} {K:VP} {A B:Option Addr} {ac bc:Nat}
def Uc{x y:Int}{an bn:Nat}(ma:Mg h A an x)(mb:Mg h B bn y)(hxy:y<=x)(hl:an<=100000000)(hK:∀ A' m c' h',h.le h'->m<=c'->Mg h' A' m (x-y)->K (.slice A' m c') h'):FCall prog On #[.slice A an ac,.slice B bn bc] h K:=by
 have M:bn<=an:=by
  have j:=ma.lt (by decide)
  exact mb.len_le (by decide) (Int.lt_of_le_of_lt hxy j)
 obtain ⟨a,rfl,H,C,S,rfl⟩:=ma
 obtain ⟨f,rfl,G,D,Z,rfl⟩:=mb
 refine B1c _ _ _ _ _ _ ?_
 unfold B63
 refine J6 Qb (by omega) (by omega) (by omega) ?_
 intro b z
 rw [aD]
 refine ⟨_,_,_,rfl,?_⟩
 refine ⟨fun l h'=>∃ (k:Nat) (c:Int) (zs:List Int),l=[U c,I k]/\k<=a.length/\zs.length=a.length/\Dig b32 zs/\(0<=c/\c<=1)/\h'=blk .u32 C4 h b zs/\val b32 (zs.take k)=val b32 (a.take k)-val b32 (f.take k)+c*b32^k,fun l _=>a.length-(iAt l 1).toNat,⟨0,0,_,rfl,by omega,by simp,I0 (by decide) _,by omega,rfl,by simp [val]⟩,?_⟩
 rintro c i hp ⟨k,c',zs,p,V,g,t,X,rfl,w⟩
 obtain ⟨rfl,rfl⟩:c=c'/\i=(k:Int):=by simpa using p
 have o:=W9 (k:=.u32) (e:=C4) z zs
 refine B6 (fun j=>?_) (fun j=>?_)
 ·have T:=Cf C k
  have W:=Cf D k
  have N:=C5 b32 a k
  have E:=C5 b32 f k
  refine (H.mono o).load rfl (by omega) (by omega) ?_
  rw [aD]
  refine ⟨fun l h'=>l=[U (C0 (a.getD k 0-c-f.getD k 0))]/\h'=blk .u32 C4 h b zs,B6 (fun Q=>?_) (fun Q=>?_),?_⟩
  ·refine (G.mono o).load rfl (by omega) (by omega) ?_
   rw [aD]
   refine ⟨?_,rfl⟩
   rw [C3 (n:=a.getD k 0) (by omega) (by omega),C3 (n:=f.getD k 0) (by omega) (by omega),E6,E6,E6]
   have J:((a.getD k 0-c)%18446744073709551616-f.getD k 0)%18446744073709551616=(a.getD k 0-c-f.getD k 0)%18446744073709551616:=by omega
   rw [J]
  ·refine ⟨?_,rfl⟩
   have F:f.getD k 0=0:=by simp [aP,aU (show f.length<=k by omega)]
   rw [F,C3 (n:=a.getD k 0) (by omega) (by omega),Int.sub_zero]
  ·rintro d O ⟨r,rfl⟩
   obtain rfl:d=C0 (a.getD k 0-c-f.getD k 0):=by simpa using r
   refine ⟨_,rfl,by omega,by omega,?_⟩
   refine R6 (k:=.u32) (zs:=zs) (i:=(k:Int)) K3 (by rw [aD];omega) ?_
   rw [aD,Z5,Xd,E6,B7 (n:=(k:Int)+1) (by omega) (by omega),Zd (by omega)]
   refine ⟨⟨k+1,_,zs.set k ((a.getD k 0-c-f.getD k 0)%18446744073709551616%4294967296),rfl,by omega,by simpa using g,t.set (A3w _),by omega,rfl,?_⟩,by simp only [iAt,aH,aR];omega⟩
   rw [C9 (by omega),F0,aI,aJ (by omega),aQ,N,E,w]
   have key:(a.getD k 0-c-f.getD k 0)%18446744073709551616%4294967296=a.getD k 0-c-f.getD k 0+4294967296*((a.getD k 0-c-f.getD k 0)%18446744073709551616/4294967296%2):=by omega
   rw [key]
   grind
 ·have s:k=a.length:=by omega
  subst s
  rw [aM,aN (show f.length<=a.length by omega),aN (show zs.length<=a.length by omega)] at w
  have q:c=0:=by
   have j:=L6 (by decide) t
   rw [g] at j
   by_cases L:c=0
   ·exact L
   ·have:c=1:=by omega
    subst this
    omega
  subst q
  rw [<- g]
  refine Z8 (Dt _ _ _ _ _) t (aW _) (by omega) ?_
  intro m R u
  have e:val b32 zs=val b32 a-val b32 f:=by omega
  rw [e] at u
  exact ⟨_,_,_,rfl,hK _ _ _ _ (W9 z _) R u⟩
def B4p{xs:List Int}{i:Nat}(hi:i<xs.length):xs.drop i=xs.getD i 0::xs.drop (i+1):=by
 rw [bV hi];simp [aP,hi]
def Nj(B:Int){xs:List Int}{i:Nat}(hi:i<xs.length):val B (xs.drop i)=xs.getD i 0+B*val B (xs.drop (i+1)):=by
 rw [B4p hi];rfl
def W8{xs:List Int}{i:Nat}{v:Int}(hi:i<xs.length):(xs.set i v).drop i=v::xs.drop (i+1):=by
 rw [bV (by simpa using hi)]
 simp [List.drop_set_of_lt]
def Nq{x d:Int}{an:Nat}(ma:Mg h A an x)(hd0:0<d/\d<4294967296)(hl:an<=100000000)(hK:∀ A' m c' h',h.le h'->m<=c'->m<=an->Mg h' A' m (x/d)->K (.tuple #[.slice A' m c',U32 (x%d)]) h'):FCall prog Gs #[.slice A an ac,U32 d] h K:=by
 obtain ⟨a,rfl,D,B,N,rfl⟩:=ma
 refine A5c _ _ _ _ ?_
 unfold A5d
 refine J6 Qb (by omega) (by omega) (by omega) ?_
 intro b y
 rw [aD]
 refine ⟨_,_,_,rfl,?_⟩
 refine ⟨fun l h'=>∃ (k:Nat) (r:Int) (zs:List Int),l=[U r,I ((k:Int)-1)]/\k<=a.length/\zs.length=a.length/\Dig b32 zs/\(0<=r/\r<d)/\h'=blk .u32 C4 h b zs/\val b32 (a.drop k)=val b32 (zs.drop k)*d+r,fun l _=>(iAt l 1+1).toNat,⟨a.length,0,_,by rw [B7 (by omega) (by omega)],by omega,by simp,I0 (by decide) _,by omega,rfl,by simp [val]⟩,?_⟩
 rintro r i Q ⟨k,H,zs,o,O,c,z,f,rfl,g⟩
 obtain ⟨rfl,rfl⟩:r=H/\i=(k:Int)-1:=by simpa using o
 have u:=W9 (k:=.u32) (e:=C4) y zs
 refine B6 (fun G=>?_) (fun G=>?_)
 ·obtain ⟨j,rfl⟩:∃ j,k=j+1:=⟨k-1,by omega⟩
  have e:((j+1:Nat):Int)-1=(j:Int):=by omega
  rw [e]
  have E:=Cf B j
  refine (D.mono u).load rfl (by omega) (by omega) ?_
  rw [aD]
  have C:C0 d=d:=C3 (by omega) (by omega)
  have J:bor .u64 (C0 (r*2^(min ((32:Int)).toNat 64))) (C0 (a.getD j 0))=r*4294967296+a.getD j 0:=by
   rw [show (2:Int)^(min ((32:Int)).toNat 64)=4294967296 by decide,C3 (n:=a.getD j 0) (by omega) (by omega),C3 (n:=r*4294967296) (by omega) (by omega)]
   exact A1y (by omega) E
  rw [C,J]
  have t:0<=r*4294967296+a.getD j 0:=by omega
  have M:Int.tdiv (r*4294967296+a.getD j 0) d=(r*4294967296+a.getD j 0)/d:=bN t
  have F:Int.tmod (r*4294967296+a.getD j 0) d=(r*4294967296+a.getD j 0)%d:=bM t
  rw [M,F]
  have q:0<=(r*4294967296+a.getD j 0)/d/\(r*4294967296+a.getD j 0)/d<4294967296:=by
   constructor
   ·exact aZ t (by omega)
   ·apply aV (by omega)
    have:(r+1)*4294967296<=d*4294967296:=aC (by omega) (by decide)
    omega
  refine B6 (fun e=>absurd e (by omega)) (fun _=>?_)
  refine ⟨_,rfl,by omega,by omega,?_⟩
  refine R6 (k:=.u32) (zs:=zs) (i:=(j:Int)) K3 (by rw [aD];omega) ?_
  rw [aD,C3 (by omega) (by omega),O4 (by omega) (by omega),B7 (by omega) (by omega)]
  refine B6 (fun e=>absurd e (by omega)) (fun _=>?_)
  refine ⟨⟨j,_,zs.set j ((r*4294967296+a.getD j 0)/d),rfl,by omega,by simpa using c,z.set q,⟨aY _ (by omega),aT _ (by omega)⟩,rfl,?_⟩,by simp only [iAt,aH,aR];omega⟩
  rw [W8 (by omega),Nj b32 (by omega),g]
  have:=aS (r*4294967296+a.getD j 0) d
  simp only [val]
  grind
 ·have p:k=0:=by omega
  subst p
  rw [List.drop_zero,List.drop_zero] at g
  rw [<- c]
  refine Z8 (Dt _ _ _ _ _) z (aW _) (by omega) ?_
  intro m L w
  have q:val b32 a/d=val b32 zs:=by
   rw [g,Int.add_comm,bZ _ _ (by omega),bX f.1 f.2,Int.zero_add]
  have s:val b32 a%d=r:=by
   rw [g,Int.add_comm,Int.add_mul_emod_self_right,Int.emod_eq_of_lt f.1 f.2]
  rw [<- q] at w
  rw [O4 (by omega) (by omega),<- s]
  exact ⟨_,_,_,rfl,hK _ _ _ _ (W9 y _) L (by omega) w⟩
end
def C4a{a b:Int}(ha:0<=a/\a<4294967296)(hb:0<=b/\b<4294967296):0<=a*b/\a*b<=18446744065119617025:=by
 refine ⟨aG ha.1 hb.1,?_⟩
 have:=bO (show a<=4294967295 by omega) (show b<=4294967295 by omega) hb.1 (by decide)
 omega
def E7{xs ys:List Int}{i:Nat}(h:xs.drop i=ys.drop i):xs.getD i 0=ys.getD i 0:=by
 have a:(xs.drop i)[0]? = (ys.drop i)[0]? :=by rw [h]
 simp at a
 simp [aP,a]
def D7{xs ys:List Int}{i:Nat}(h:xs.drop i=ys.drop i):xs.drop (i+1)=ys.drop (i+1):=by
 rw [<- bB,<- bB,h]
def D5{xs:List Int}{i j:Nat}{v:Int}(h:i<j):(xs.set i v).drop j=xs.drop j:=List.drop_set_of_lt h
section
variable {h g:Heap} {K:VP} {A B:Option Addr} {ac bc:Nat}
def Ut{x y:Int}{an bn:Nat}(ma:Mg h A an x)(mb:Mg h B bn y)(hl:an<=100000000)(hl2:bn<=100000000)(hK:∀ A' m c' h',h.le h'->m<=c'->Mg h' A' m (x*y)->K (.slice A' m c') h'):FCall prog Oq #[.slice A an ac,.slice B bn bc] h K:=by
 have H:=ma.len_zero (by decide)
 have F:=mb.len_zero (by decide)
 obtain ⟨d,rfl,V,O,nx,rfl⟩:=ma
 obtain ⟨a,rfl,T,R,ny,rfl⟩:=mb
 refine B1e _ _ _ _ _ _ ?_
 unfold B67
 refine D9 (fun Z=>?_) (fun hx=>D9 (fun Z=>?_) (fun hy=>?_))
 ·have:=hK none 0 0 h (B4 h) (aW _) (by rw [H.2 (by omega),Int.zero_mul];exact Mag.zero)
  exact this
 ·have:=hK none 0 0 h (B4 h) (aW _) (by rw [F.2 (by omega),bH];exact Mag.zero)
  exact this
 have Q:B5 ((d.length:Int)+a.length)=((d.length+a.length:Nat):Int):=by rw [B7 (by omega) (by omega)];omega
 rw [Q]
 refine J6 Qb (by omega) (by omega) (by omega) ?_
 intro b L
 rw [aD]
 refine ⟨_,_,_,rfl,?_⟩
 refine ⟨fun l h'=>∃ (k:Nat) (zs:List Int),l=[I k]/\k<=d.length/\zs.length=d.length+a.length/\Dig b32 zs/\h'=blk .u32 C4 h b zs/\zs.drop (k+a.length)=bL (d.length-k) 0/\val b32 (zs.take (k+a.length))=val b32 (d.take k)*val b32 a,fun l _=>d.length-(iAt l 0).toNat,⟨0,_,rfl,by omega,by simp,I0 (by decide) _,rfl,by simp,?_⟩,?_⟩
 ·rw [List.take_replicate,Cs];simp [val]
 rintro i hp ⟨k,f,w,hk,g,t,rfl,s,r⟩
 obtain rfl:=sI1 w
 refine B6 (fun h1=>?_) (fun h1=>?_)
 ·have W:=Cf O k
  have vx:=C5 b32 d k
  refine ⟨fun l h'=>∃ (m:Nat) (c:Int) (zs:List Int),l=[U c,I m]/\m<=a.length/\zs.length=d.length+a.length/\Dig b32 zs/\(0<=c/\c<4294967296)/\h'=blk .u32 C4 h b zs/\zs.drop (k+m)=f.drop (k+m)/\val b32 (zs.take (k+m))+c*b32^(k+m)=val b32 (f.take (k+m))+b32^k*(d.getD k 0*val b32 (a.take m)),fun l _=>a.length-(iAt l 1).toNat,⟨0,0,f,rfl,by omega,g,t,by omega,rfl,rfl,by simp [val]⟩,?_⟩
  rintro c j aa ⟨m,c',zs,z,N,o,D,hc,rfl,q,X⟩
  obtain ⟨rfl,rfl⟩:c=c'/\j=(m:Int):=by simpa using z
  have u:=W9 (k:=.u32) (e:=C4) L zs
  refine B6 (fun h2=>?_) (fun h2=>?_)
  ·have gy:=Cf R m
   have S:=C5 b32 a m
   have gz:=Cf D (k+m)
   have G:=E7 q
   have vz:=C5 b32 f (k+m)
   have p:B5 ((k:Int)+m)=((k+m:Nat):Int):=by rw [B7 (by omega) (by omega)];omega
   rw [p]
   refine (V.mono u).load rfl (by omega) (by omega) ?_
   refine (T.mono u).load rfl (by omega) (by omega) ?_
   refine (Dt .u32 C4 h b zs).load o.symm (by omega) (by omega) ?_
   simp only [aD]
   have hp:=C4a W gy
   have ec:C0 (c+C0 (C0 (C0 (d.getD k 0)*C0 (a.getD m 0))+C0 (zs.getD (k+m) 0)))=c+(d.getD k 0*a.getD m 0+zs.getD (k+m) 0):=by
    rw [C3 (n:=d.getD k 0) (by omega) (by omega),C3 (n:=a.getD m 0) (by omega) (by omega),C3 (n:=zs.getD (k+m) 0) (by omega) (by omega),C3 (n:=d.getD k 0*a.getD m 0) (by omega) (by omega),C3 (n:=d.getD k 0*a.getD m 0+zs.getD (k+m) 0) (by omega) (by omega),C3 (by omega) (by omega)]
   rw [ec]
   refine ⟨_,rfl,by omega,by omega,?_⟩
   refine R6 (k:=.u32) (zs:=zs) (i:=((k+m:Nat):Int)) K3 (by rw [aD];omega) ?_
   rw [aD,Z5,Xd,B7 (n:=(m:Int)+1) (by omega) (by omega)]
   refine ⟨⟨m+1,_,zs.set (k+m) ((c+(d.getD k 0*a.getD m 0+zs.getD (k+m) 0))%4294967296),rfl,by omega,by simpa using o,D.set (A3w _),by omega,rfl,?_,?_⟩,by simp only [iAt,aH,aR];omega⟩
   ·rw [D5 (by omega)];exact D7 q
   ·rw [<- Nat.add_assoc,C9 (by omega),F0,aI,aJ (by omega),aQ,Co,S,vz,<- G]
    have:b32^(k+m)=b32^k*b32^m:=Int.pow_add _ _ _
    grind
  ·have E:m=a.length:=by omega
   subst E
   have p:B5 ((k:Int)+a.length)=((k+a.length:Nat):Int):=by rw [B7 (by omega) (by omega)];omega
   rw [p]
   refine ⟨_,rfl,by omega,by omega,?_⟩
   refine R6 (k:=.u32) (zs:=zs) (i:=((k+a.length:Nat):Int)) K3 (by rw [aD];omega) ?_
   rw [aD,O4 (by omega) (by omega),B7 (n:=(k:Int)+1) (by omega) (by omega)]
   have M:k+1+a.length=k+a.length+1:=by omega
   refine ⟨⟨k+1,zs.set (k+a.length) c,rfl,by omega,by simpa using o,D.set hc,rfl,?_,?_⟩,by simp only [iAt,aH];omega⟩
   ·rw [M,D5 (by omega),D7 q,<- bB,s,List.drop_replicate]
    congr 1
   ·rw [M,C9 (by omega),F0,aI,aJ (by omega)]
    rw [aM] at X
    rw [vx]
    grind
 ·have C:k=d.length:=by omega
  subst C
  rw [aM,aN (show f.length<=d.length+a.length by omega)] at r
  rw [<- g]
  refine Z8 (Dt _ _ _ _ _) t (aW _) (by omega) ?_
  intro m N J
  rw [r] at J
  exact ⟨_,_,_,rfl,hK _ _ _ _ (W9 L _) N J⟩
def A8k{x z:Int}{s:Nat}(hs:s<=32)(_hx:0<=x/\x<4294967296)(hz:0<=z/\z<(2:Int)^s):
 bor .u32 z (x*2^s%4294967296)=z+x*2^s%4294967296/\z+x*2^s%4294967296<4294967296:=by
 have i:(2:Int)^s*2^(32-s)=4294967296:=by
  rw [<- Int.pow_add,show s+(32-s)=32 by omega];decide
 have f:0<(2:Int)^s:=aX (by decide)
 have k:0<(2:Int)^(32-s):=aX (by decide)
 have a:z<4294967296:=by
  have:(2:Int)^s*1<=2^s*2^(32-s):=aE (by omega) (by omega)
  omega
 have j:x*2^s%4294967296=2^s*(x%2^(32-s)):=by
  rw [<- i,aO x,bW _ _ f]
 have e:=A3w (x*2^s)
 have b:bor .u32 z (x*2^s%4294967296)=z+x*2^s%4294967296:=by
  rw [C4s ⟨hz.1,a⟩ e]
  have c:0<=x%2^(32-s):=aY _ (by omega)
  have g:(x*2^s%4294967296).toNat=2^s*(x%2^(32-s)).toNat:=by
   rw [j,Int.toNat_mul (by omega) c]
   rw [Int.toNat_pow_of_nonneg (by decide)];rfl
  have d:z.toNat<2^s:=by
   have:((2^s:Nat):Int)=(2:Int)^s:=by simp
   omega
  rw [g,Nat.or_comm,A8l d,<- g]
  omega
 refine ⟨b,?_⟩
 rw [<- b,C4s ⟨hz.1,a⟩ e]
 have:z.toNat ||| (x*2^s%4294967296).toNat<2^32:=Nat.or_lt_two_pow (by omega) (by have:=e.2;show _<_;omega)
 omega
def Ky{xs:List Int}{s:Nat}(sx:SlI .u32 h A xs)(dx:Dig b32 xs)(hs:s<32)(hl:xs.length<=100000000)(hK:∀ b zs,h b=none->zs.length=xs.length+1->Dig b32 zs->val b32 zs=val b32 xs*2^s->K (.slice (some ⟨b,0,none⟩) (xs.length+1) (xs.length+1)) (blk .u32 C4 h b zs)):FCall prog Dn #[.slice A xs.length ac,U s] h K:=by
 refine A2e _ _ _ _ ?_
 unfold Zq
 have y:B5 ((xs.length:Int)+1)=((xs.length+1:Nat):Int):=by rw [B7 (by omega) (by omega)];omega
 rw [y]
 refine J6 Qb (by omega) (by omega) (by omega) ?_
 intro b t
 rw [aD]
 refine ⟨_,_,_,rfl,?_⟩
 have c:0<(2:Int)^s:=aX (by decide)
 have w:(2:Int)^s<=2147483648:=by
  have:=D0 (B:=2) (by decide) (show s<=31 by omega)
  have e:(2:Int)^31=2147483648:=by decide
  omega
 refine ⟨fun l L=>∃ (k:Nat) (zs:List Int),l=[I k]/\k<=xs.length/\zs.length=xs.length+1/\Dig b32 zs/\L=blk .u32 C4 h b zs/\zs.drop (k+1)=bL (xs.length-k) 0/\zs.getD k 0<2^s/\val b32 (zs.take (k+1))=val b32 (xs.take k)*2^s,fun l _=>xs.length-(iAt l 0).toNat,⟨0,_,rfl,by omega,by simp,I0 (by decide) _,rfl,by simp,by simpa using c,by simp [val]⟩,?_⟩
 rintro i N ⟨k,zs,d,M,a,o,rfl,q,D,j⟩
 obtain rfl:=sI1 d
 have r:=W9 (k:=.u32) (e:=C4) t zs
 refine B6 (fun C=>?_) (fun C=>?_)
 ·have g:=Cf dx k
  have E:=Cf o k
  have H:=C5 b32 xs k
  have F:=C5 b32 zs k
  refine (sx.mono r).load rfl (by omega) (by omega) ?_
  refine B6 (fun e=>absurd e (by omega)) (fun _=>?_)
  refine (Dt .u32 C4 h b zs).load a.symm (by omega) (by omega) ?_
  simp only [aD]
  obtain ⟨x,G⟩:=A8k (Nat.le_of_lt hs) g ⟨E.1,D⟩
  have f:0<=xs.getD k 0*2^s:=aG g.1 (by omega)
  have p:xs.getD k 0*2^s<4294967296*2^s:=Int.mul_lt_mul_of_pos_right g.2 c
  have ev:C0 (C0 (xs.getD k 0)*2^(min s 64))=xs.getD k 0*2^s:=by
   rw [C3 (n:=xs.getD k 0) (by omega) (by omega),aJ (by omega),C3 (by omega) (by omega)]
  rw [ev]
  refine ⟨_,rfl,by omega,by omega,?_⟩
  refine R6 (k:=.u32) (zs:=zs) (i:=(k:Int)) K3 (by rw [aD];omega) ?_
  rw [aD,Z5 (xs.getD k 0*2^s),x,Xd]
  have z:B5 ((k:Int)+1)=((k+1:Nat):Int):=by rw [B7 (by omega) (by omega)];omega
  rw [z]
  have u:0<=xs.getD k 0*2^s/4294967296/\xs.getD k 0*2^s/4294967296<2^s:=⟨aZ f (by decide),aV (by decide) (by rw [aO (2^s)];exact p)⟩
  refine ⟨_,rfl,by omega,by omega,?_⟩
  refine R6 (k:=.u32) (zs:=zs.set k (zs.getD k 0+xs.getD k 0*2^s%4294967296)) (i:=((k+1:Nat):Int)) K3 (by rw [aD,bD];omega) ?_
  rw [aD,O4 (by omega) (by omega)]
  have J:=A3w (xs.getD k 0*2^s)
  refine ⟨⟨k+1,(zs.set k (zs.getD k 0+xs.getD k 0*2^s%4294967296)).set (k+1) (xs.getD k 0*2^s/4294967296),rfl,by omega,by simpa using a,(o.set ⟨by omega,G⟩).set ⟨u.1,by show _<(4294967296:Int);omega⟩,rfl,?_,?_,?_⟩,by simp only [iAt,aH];omega⟩
  ·rw [D5 (by omega),D5 (by omega),<- bB,q,List.drop_replicate]
   congr 1
  ·have:((zs.set k (zs.getD k 0+xs.getD k 0*2^s%4294967296)).set (k+1) (xs.getD k 0*2^s/4294967296)).getD (k+1) 0=xs.getD k 0*2^s/4294967296:=by
    rw [aP,List.getElem?_set_self (by rw [bD];omega)];rfl
   rw [this];exact u.2
  ·rw [C9 (by rw [bD];omega),F0,C9 (by omega),F0]
   simp only [aI,aK,List.length_singleton]
   rw [aJ (show k<=zs.length by omega),aQ,H]
   have:=Int.emod_add_mul_ediv (xs.getD k 0*2^s) 4294967296
   rw [F] at j
   grind
 ·have m:k=xs.length:=by omega
  subst m
  rw [aM,aN (by omega)] at j
  exact hK b zs t a o j
end
structure Est (B P top u2 ul v1 v2 vl U V:Int):Prop where
 hB:1<B
 hP:0<P
 hU:U=(top*B+u2)*P+ul
 hV:V=(v1*B+v2)*P+vl
 u2r:0<=u2/\u2<B
 ulr:0<=ul/\ul<P
 v2r:0<=v2/\v2<B
 vlr:0<=vl/\vl<P
 top0:0<=top
 v1r:B<=2*v1/\v1<B
 lt:U<V*B
section
variable {B P top u2 ul v1 v2 vl U V:Int}
def Est.U0(e:Est B P top u2 ul v1 v2 vl U V):0<=U:=by
 obtain ⟨i,j,m,k,b,f,c,d,a,g,lt⟩:=e
 have l:0<=top*B:=aG a (by omega)
 have:0<=(top*B+u2)*P:=aG (by omega) (by omega)
 omega
def Est.V0(e:Est B P top u2 ul v1 v2 vl U V):0<V:=by
 obtain ⟨j,b,m,k,c,g,d,f,a,i,lt⟩:=e
 have l:0<v1*B:=bI (by omega) (by omega)
 have:0<(v1*B+v2)*P:=bI (by omega) b
 omega
def Est.V2(e:Est B P top u2 ul v1 v2 vl U V):B<=v1*B+v2:=by
 obtain ⟨i,j,l,k,b,f,c,d,a,g,lt⟩:=e
 have:1*B<=v1*B:=aC (by omega) (by omega)
 omega
def Est.low(e:Est B P top u2 ul v1 v2 vl U V){q:Int}(h0:0<=q)(h:top*B+u2<q*(v1*B+v2)):U<q*V:=by
 obtain ⟨j,k,o,g,c,f,d,a,b,i,lt⟩:=e
 have m:(top*B+u2+1)*P<=q*(v1*B+v2)*P:=aC (by omega) (by omega)
 have n:0<=q*vl:=aG h0 a.1
 have p:q*V=q*(v1*B+v2)*P+q*vl:=by rw [g];grind
 have l:(top*B+u2+1)*P=(top*B+u2)*P+P:=by grind
 omega
def Est.big(e:Est B P top u2 ul v1 v2 vl U V){q:Int}(h:B<=q):U<q*V:=by
 have:=aC h (aL e.V0)
 have:=e.lt
 rw [aO V] at this
 omega
def Est.init(e:Est B P top u2 ul v1 v2 vl U V):U<(top/v1+1)*V:=by
 obtain ⟨u,c,m,l,f,k,b,g,a,j,lt⟩:=e
 have p:0<=top/v1:=aZ a (by omega)
 have i:top+1<=(top/v1+1)*v1:=by
  have:=aS top v1
  have:=aT top (show 0<v1 by omega)
  grind
 have d:0<B*P:=bI (by omega) c
 have t:(top+1)*(B*P)<=(top/v1+1)*v1*(B*P):=aC i (by omega)
 have q:0<=(top/v1+1)*(v2*P+vl):=aG (by omega) (by have:=aG b.1 (aL c);omega)
 have n:(top/v1+1)*V=(top/v1+1)*v1*(B*P)+(top/v1+1)*(v2*P+vl):=by rw [l];grind
 have o:(top+1)*(B*P)=top*B*P+B*P:=by grind
 have w:(u2+1)*P<=B*P:=aC (by omega) (by omega)
 have r:U=top*B*P+u2*P+ul:=by rw [m];grind
 have s:(u2+1)*P=u2*P+P:=by grind
 omega
def Est.up(e:Est B P top u2 ul v1 v2 vl U V){q:Int}(hq:q<=B)(h:q*(v1*B+v2)<=top*B+u2):(q-1)*V<=U:=by
 have b:=e.V2
 have k:=e.V0
 have c:=e.U0
 obtain ⟨m,n,o,j,d,i,f,g,a,l,lt⟩:=e
 by_cases r:q<=0
 ·have:(q-1)*V<=0:=Int.mul_nonpos_of_nonpos_of_nonneg (by omega) (by omega)
  omega
 ·have s:(q-1)*vl<=(q-1)*P:=aE (by omega) (by omega)
  have t:(q*(v1*B+v2))*P<=(top*B+u2)*P:=aC h (by omega)
  have p:(q-1)*V=(q*(v1*B+v2))*P-(v1*B+v2)*P+(q-1)*vl:=by rw [j];grind
  have u:(q-1)*P<=(v1*B+v2)*P:=aC (by omega) (by omega)
  omega
def Est.first(e:Est B P top u2 ul v1 v2 vl U V):top<(v1+1)*B/\top/v1<=B+1:=by
 obtain ⟨p,c,m,k,a,j,f,i,b,l,lt⟩:=e
 have d:0<B*P:=bI (by omega) c
 have q:top*(B*P)<=U:=by
  have:0<=u2*P:=aG a.1 (by omega)
  have:U=top*(B*P)+u2*P+ul:=by rw [m];grind
  omega
 have r:V<(v1+1)*(B*P):=by
  have n:(v2+1)*P<=B*P:=aC (by omega) (by omega)
  have:V=v1*(B*P)+v2*P+vl:=by rw [k];grind
  have:(v1+1)*(B*P)=v1*(B*P)+B*P:=by grind
  have:(v2+1)*P=v2*P+P:=by grind
  omega
 have n:V*B<=(v1+1)*(B*P)*B:=aC (by omega) (by omega)
 have g:top*(B*P)<(v1+1)*B*(B*P):=by
  have:(v1+1)*(B*P)*B=(v1+1)*B*(B*P):=by grind
  omega
 have o:top<(v1+1)*B:=Int.lt_of_mul_lt_mul_right g (by omega)
 refine ⟨o,?_⟩
 have:top/v1<B+2:=by
  apply aV (by omega)
  have:(v1+1)*B=v1*B+B:=by grind
  have:v1*(B+2)=v1*B+2*v1:=by grind
  have:(B+2)*v1=v1*B+2*v1:=by grind
  omega
 omega
end
def Au(k:IntKind)(e:TypeId)(g:Heap)(bu:Nat)(us:List Int)(bq:Nat)(qs:List Int):Heap:=blk k e (blk k e g bu us) bq qs
section
variable {k:IntKind} {e:TypeId} {g:Heap} {bu bq:Nat} {us qs:List Int}
def Ra(hu:g bu=none)(hq:g bq=none)(hne:bu≠bq):g.le (Au k e g bu us bq qs):=
 B0 (W9 hu us) (W9 (by unfold blk;rw [B8 _ _ hne.symm];exact hq) qs)
def Je(hne:bu≠bq):Au k e g bu us bq qs=blk k e (blk k e g bq qs) bu us:=by
 unfold Au blk;exact Heap.put_comm g _ _ hne
def Vz(hne:bu≠bq):SlI k (Au k e g bu us bq qs) (some ⟨bu,0,none⟩) us:=by
 rw [Je hne];exact Dt k e _ bu us
def C08:SlI k (Au k e g bu us bq qs) (some ⟨bq,0,none⟩) qs:=Dt k e _ bq qs
def P0{P:Program}{t:TypeId}(one:P.cellsOf t=1/\(P.info? t).isSome=true)(hne:bu≠bq){n i:Int}(hi:i.toNat<us.length){K:Unit->Heap->Prop}
 (x:K () (Au k e g bu (us.set i.toNat n) bq qs)):wpH P (Instr.storeAt t (.pointer (some (Addr.add ⟨bu,0,none⟩ (i.toNat*1)))) (.int k n)) K (Au k e g bu us bq qs):=by
 rw [Je hne]
 rw [Je hne] at x
 exact R6 one hi x
def Wa{P:Program}{t:TypeId}(one:P.cellsOf t=1/\(P.info? t).isSome=true){n i:Int}(hi:i.toNat<qs.length){K:Unit->Heap->Prop}
 (x:K () (Au k e g bu us bq (qs.set i.toNat n))):wpH P (Instr.storeAt t (.pointer (some (Addr.add ⟨bq,0,none⟩ (i.toNat*1)))) (.int k n)) K (Au k e g bu us bq qs):=
 R6 one hi x
end
def A43{xs:List Int}{j i:Nat}:(xs.drop j).getD i 0=xs.getD (j+i) 0:=by simp [aP]
section
variable {g:Heap} {bu bq:Nat} {us qs:List Int} {VA:Option Addr} {vs:List Int}
def B87{n j:Nat}{J:LP}{hp:Heap}{UA:Option Addr}{top u2 ul v1 v2 vl X Y P:Int}{t87 t96:Int}(es:Est 4294967296 P top u2 ul v1 v2 vl X Y)(sv:SlI .u32 hp VA vs)(su:SlI .u32 hp UA us)(hn:n=vs.length)(hn2:2<=n)(hul:j+n<us.length)(hbig:us.length<=200000000)
 (hv1:vs.getD (n-1) 0=v1) (hv2:vs.getD (n-2) 0=v2) (hu2:us.getD (j+n-2) 0=u2) (h87:0<=t87/\t87<4294967296) (h96:0<=t96/\t96<4294967296) (htop:top=t87*4294967296+t96)
 (hJ:∀ q,0<=q->q<=4294967296->X<(q+1)*Y->(q-1)*Y<=X->J [U q] hp):Rg prog VA n UA us.length j t87 t96 v1 v1 J hp:=by
 obtain ⟨f1,f2⟩:=es.first
 have p:=es.init
 have M:=es.V0
 have L:=es.U0
 have T:=es.v1r
 have f:=es.v2r
 have m:=es.u2r
 have c:=es.top0
 have o:bor .u64 (C0 (C0 t87*2^(min ((32:Int)).toNat 64))) (C0 t96)=top:=by
  rw [show (2:Int)^(min ((32:Int)).toNat 64)=4294967296 by decide,C3 (n:=t87) (by omega) (by omega),C3 (n:=t96) (by omega) (by omega),C3 (n:=t87*4294967296) (by omega) (by omega),A1y h87 h96,htop]
 have i:C0 v1=v1:=C3 (by omega) (by omega)
 unfold Rg
 rw [o,i,bN c,bM c]
 have s:0<=top/v1:=aZ c (by omega)
 have w:=aS top v1
 have C:=aY top (show v1≠0 by omega)
 have N:=aT top (show 0<v1 by omega)
 refine ⟨fun l E=>∃ q r:Int,l=[U q,U r]/\E=hp/\0<=q/\q<=4294967297/\0<=r/\r<4294967296/\q*v1+r=top/\X<(q+1)*Y,fun l _=>match l with|[.int _ q,_]=>q.toNat|_=>0,⟨_,_,rfl,rfl,?_,?_,C,by omega,?_,?_⟩,?_⟩
 ·rw [C3 (by omega) (by omega)];exact s
 ·rw [C3 (by omega) (by omega)];omega
 ·rw [C3 (by omega) (by omega),aO];exact w
 ·rw [C3 (by omega) (by omega)];exact p
 rintro q r g ⟨R,W,hl,rfl,G,O,Q,B,t,y⟩
 obtain ⟨rfl,rfl⟩:q=R/\r=W:=by simpa using hl
 have u:B5 ((n:Int)-1)=((n-1:Nat):Int):=by rw [B7 (by omega) (by omega)];omega
 have x:B5 ((n:Int)-2)=((n-2:Nat):Int):=by rw [B7 (by omega) (by omega)];omega
 have k:B5 (B5 ((j:Int)+(n:Int))-2)=((j+n-2:Nat):Int):=by rw [B7 (n:=(j:Int)+n) (by omega) (by omega),B7 (by omega) (by omega)];omega
 refine ⟨fun l E=>l=[]/\E=g/\X<q*Y,?_,?_⟩
 ·refine B6 (fun F=>⟨rfl,rfl,es.big F⟩) (fun F=>?_)
  rw [x,k]
  refine sv.load hn (by omega) (by omega) ?_
  refine su.load rfl (by omega) (by omega) ?_
  rw [aD,aD,hv2,hu2]
  have hp:=C4a (a:=q) (b:=v2) (by omega) f
  have A:C0 (q*C0 v2)=q*v2:=by rw [C3 (n:=v2) (by omega) (by omega),C3 (by omega) (by omega)]
  have D:bor .u64 (C0 (r*2^(min ((32:Int)).toNat 64))) (C0 u2)=r*4294967296+u2:=by
   rw [show (2:Int)^(min ((32:Int)).toNat 64)=4294967296 by decide,C3 (n:=u2) (by omega) (by omega),C3 (n:=r*4294967296) (by omega) (by omega),A1y ⟨Q,B⟩ m]
  rw [A,D]
  have key:q*(v1*4294967296+v2)=(top-r)*4294967296+q*v2:=by rw [<- t];grind
  refine B6 (fun Z=>⟨rfl,rfl,es.low G (by omega)⟩) (fun Z=>?_)
  refine hJ q G (by omega) y (es.up (by omega) (by omega))
 ·rintro H ⟨_,rfl,z⟩
  have aa:1<=q:=by
   by_cases S:1<=q
   ·exact S
   ·have:q=0:=by omega
    subst this;omega
  rw [u]
  refine sv.load hn (by omega) (by omega) ?_
  rw [aD,hv1,i,C3 (n:=r+v1) (by omega) (by omega),C3 (n:=q-1) (by omega) (by omega)]
  have e:X<(q-1+1)*Y:=by rw [Int.sub_add_cancel];exact z
  have d:(q-1)*v1+(r+v1)=top:=by grind
  refine B6 (fun V=>?_) (fun V=>?_)
  ·have key:(q-1)*(v1*4294967296+v2)=(top-(r+v1))*4294967296+(q-1)*v2:=by rw [<- d];grind
   have hb:(q-1)*v2<=4294967296*v2:=aC (by omega) f.1
   exact hJ (q-1) (by omega) (by omega) e (es.up (by omega) (by omega))
  ·exact ⟨⟨q-1,r+v1,rfl,rfl,by omega,by omega,by omega,by omega,d,e⟩,by simp only;omega⟩
end
def G7(B:Int)(xs:List Int)(i:Nat):val B (xs.take (i+1))=val B (xs.take i)+B^i*xs.getD i 0:=by
 by_cases a:i<xs.length
 ·exact O6 B a
 ·rw [aN (by omega),aN (by omega)]
  simp [aP,aU (Nat.le_of_not_lt a)]
def B71(B:Int){vs:List Int}{m:Nat}(hn:vs.length=m+2):val B vs=(vs.getD (m+1) 0*B+vs.getD m 0)*B^m+val B (vs.take m):=by
 have a:=G7 B vs (m+1)
 have b:=G7 B vs m
 rw [show m+1+1=vs.length by omega,aM] at a
 rw [a,b,aQ]
 grind
def B70(B:Int){us:List Int}{m:Nat}(hn:us.length=m+3):val B us=((us.getD (m+2) 0*B+us.getD (m+1) 0)*B+us.getD m 0)*B^m+val B (us.take m):=by
 have a:=G7 B us (m+2)
 have b:=G7 B us (m+1)
 have c:=G7 B us m
 rw [show m+2+1=us.length by omega,aM] at a
 rw [show m+2=m+1+1 by omega] at a
 rw [a,b,c,aQ,aQ]
 grind
def C04{B:Int}(hB:1<B){us vs:List Int}{m:Nat}(du:Dig B us)(dv:Dig B vs)(hu:us.length=m+3)(hv:vs.length=m+2)(h1:B<=2*vs.getD (m+1) 0)(hlt:val B us<val B vs*B):
 Est B (B^m) (us.getD (m+2) 0*B+us.getD (m+1) 0) (us.getD m 0) (val B (us.take m)) (vs.getD (m+1) 0) (vs.getD m 0) (val B (vs.take m)) (val B us) (val B vs):=by
 have a:0<B:=by omega
 have b:=L6 a (du.take m)
 have c:=L6 a (dv.take m)
 rw [aI,aJ (by omega)] at b c
 refine ⟨hB,aX a,B70 B hu,B71 B hv,du.getD a _,⟨C7 a (du.take m),b⟩,dv.getD a _,⟨C7 a (dv.take m),c⟩,?_,⟨h1,(dv.getD a _).2⟩,hlt⟩
 have:=aG (du.getD a (m+2)).1 (aL a)
 have:=(du.getD a (m+1)).1
 omega
def Est.top{B P top u2 ul v1 v2 vl U V:Int}(e:Est B P top u2 ul v1 v2 vl U V)(h:v1*B<=top):(B-1-1)*V<=U/\U<(B-1+1)*V:=by
 have d:=e.lt
 obtain ⟨m,n,q,k,f,j,g,i,a,l,lt⟩:=e
 constructor
 ·have p:v1*B*B*P<=U:=by
   have b:v1*B*B<=top*B:=aC h (by omega)
   have c:v1*B*B*P<=(top*B+u2)*P:=aC (by omega) (by omega)
   omega
  have b:V<=(v1+1)*B*P:=by
   have c:(v2+1)*P<=B*P:=aC (by omega) (by omega)
   have:V=v1*B*P+v2*P+vl:=by rw [k];grind
   have:(v1+1)*B*P=v1*B*P+B*P:=by grind
   have:(v2+1)*P=v2*P+P:=by grind
   omega
  have c:(B-1-1)*V<=(B-1-1)*((v1+1)*B*P):=aE b (by omega)
  have o:(B-1-1)*((v1+1)*B*P)=v1*B*B*P-(2*v1+2-B)*(B*P):=by grind
  have r:0<=(2*v1+2-B)*(B*P):=aG (by omega) (aG (by omega) (by omega))
  omega
 ·rw [Int.sub_add_cancel,aO];exact d
structure LS (F S first second u0 v0 u1 v1 u2 v2:Int) (odd:Bool):Prop where
 hF:F=v2*first+v1*second
 hS:S=u2*first+u1*second
 det:u1*v2-u2*v1=if odd then -1 else 1
 ord:0<=second/\second<=first
 st:(u0=0/\v0=0/\u1=1/\v1=0/\u2=0/\v2=1)\/
  (((u0=1/\v0=0/\u1=0/\v1=1/\0<=u2/\u2<=v2/\1<=u2)\/(0<=u0/\u0<=v0/\1<=v0/\1<=u1/\u1<=v1/\1<=u2/\u2<=v2))/\
   (u0*v1-u1*v0=if odd then 1 else -1)/\∃ f0,F=v1*f0+v0*first/\S=u1*f0+u0*first/\v0+v1<=f0-first/\v1<=first)
def LS.init{F S:Int}(h0:0<=S)(h:S<=F):LS F S F S 0 0 1 0 0 1 false:=
 ⟨by omega,by omega,by simp,⟨h0,h⟩,.inl ⟨rfl,rfl,rfl,rfl,rfl,rfl⟩⟩
def LS.v2pos{F S first second u0 v0 u1 v1 u2 v2:Int}{odd:Bool}(l:LS F S first second u0 v0 u1 v1 u2 v2 odd):1<=v2/\0<=v1/\0<=u1/\0<=u2/\0<=u0/\0<=v0:=by
 obtain ⟨d,e,b,c,a⟩:=l
 rcases a with a|⟨a,_⟩<;>omega
def LS.step{F S first second u0 v0 u1 v1 u2 v2:Int}{odd:Bool}(l:LS F S first second u0 v0 u1 v1 u2 v2 odd)(h1:v2<=second)(h2:v1+v2<=first-second):
 LS F S second (first%second) u1 v1 u2 v2 (u1+first/second*u2) (v1+first/second*v2) (!odd):=by
 have n:=l.v2pos
 obtain ⟨f,g,a,k,c⟩:=l
 have e:0<second:=by omega
 have i:1<=first/second:=by
  rw [Int.le_ediv_iff_mul_le e];omega
 have b:=aS first second
 have d:=aY first (show second≠0 by omega)
 have j:=aT first e
 have p:u2<=first/second*u2:=by
  have:=aC i (show 0<=u2 by omega);omega
 have o:v2<=first/second*v2:=by
  have:=aC i (show 0<=v2 by omega);omega
 have m:first/second*u2<=first/second*v2:=aE (by omega) (by omega)
 refine ⟨?_,?_,?_,⟨d,by omega⟩,.inr ⟨?_,?_,first,?_,?_,by omega,h1⟩⟩
 ·rw [f]
  generalize hq':first/second=q at *
  generalize first%second=r at *
  subst b
  grind
 ·rw [g]
  generalize hq':first/second=q at *
  generalize first%second=r at *
  subst b
  grind
 ·cases odd<;>simp at a ⊢ <;> grind
 ·rcases c with c|⟨c,_⟩
  ·left
   obtain ⟨rfl,rfl,rfl,rfl,rfl,rfl⟩:=c
   omega
  ·right;omega
 ·cases odd<;>simp at a ⊢ <;> omega
 ·rw [f]
 ·rw [g]
def LS.bound{F S first second u0 v0 u1 v1 u2 v2:Int}{odd:Bool}(l:LS F S first second u0 v0 u1 v1 u2 v2 odd)(hf:1<=first):v2<=F/\u2<=F/\u2<=v2:=by
 have f:=l.v2pos
 obtain ⟨e,d,a,c,b⟩:=l
 have g:v2*1<=v2*first:=aE hf (by omega)
 have i:0<=v1*second:=aG (by omega) (by omega)
 clear a d
 rcases b with b|⟨b,_⟩<;>omega
def LS.bound2{F S first second u0 v0 u1 v1 u2 v2:Int}{odd:Bool}(l:LS F S first second u0 v0 u1 v1 u2 v2 odd)(hs:1<=second):v1+v2<=F:=by
 have e:=l.v2pos
 obtain ⟨d,f,a,b,c⟩:=l
 have g:v2*1<=v2*first:=aE (by omega) (by omega)
 have i:v1*1<=v1*second:=aE hs (by omega)
 clear c
 omega
structure Leh (a b u0 v0 u1 v1 X0 X1:Int):Prop where
 ord:0<=X1/\X1<X0
 ha:a=v1*X0+v0*X1
 hb:b=u1*X0+u0*X1
 le:X0<=b
def Ls(a b u0 v0:Int)(odd:Bool):Int:=if odd then u0*a-v0*b else v0*b-u0*a
def Lr(a b u1 v1:Int)(odd:Bool):Int:=if odd then v1*b-u1*a else u1*a-v1*b
def LS.leh{F S first second u0 v0 u1 v1 u2 v2 a b al bl W:Int}{odd:Bool}(l:LS F S first second u0 v0 u1 v1 u2 v2 odd)(hv0:v0≠0)(hW:0<W)(ha:a=F*W+al)(hb:b=S*W+bl)(hal:0<=al/\al<W)(hbl:0<=bl/\bl<W):
 Leh a b u0 v0 u1 v1 (Ls a b u0 v0 odd) (Lr a b u1 v1 odd):=by
 have hp:=l.v2pos
 obtain ⟨L,Q,A,x,t⟩:=l
 rcases t with t|⟨t,c,i,j,m,B,r⟩
 ·omega
 have y:0<=u0/\u0<=v0/\1<=v0/\1<=u1/\u1<=v1:=by omega
 have q:u0*F-v0*S=(u0*v1-u1*v0)*i:=by rw [j,m];grind
 have u:u1*F-v1*S=(u1*v0-u0*v1)*first:=by rw [j,m];grind
 have E:first*W>=v1*W:=aC r (by omega)
 have T:(i-first)*W>=(v0+v1)*W:=aC B (by omega)
 have M:v1*bl<=v1*W:=aE (by omega) (by omega)
 have J:u1*al<=u1*W:=aE (by omega) (by omega)
 have Z:u1*W<=v1*W:=aC (by omega) (by omega)
 have V:0<=u1*al:=aG (by omega) (by omega)
 have q5:0<=v1*bl:=aG (by omega) (by omega)
 have N:(v0+v1)*(bl+1)<=(v0+v1)*W:=aE (by omega) (by omega)
 have G:(u0+u1)*(al+1)<=(u0+u1)*W:=aE (by omega) (by omega)
 have H:(u0+u1)*W<=(v0+v1)*W:=aC (by omega) (by omega)
 have R:0<=(u0+u1)*al:=aG (by omega) (by omega)
 have C:0<=(v0+v1)*bl:=aG (by omega) (by omega)
 have k:∀ X0 X1:Int,0<=X1->X1<X0->b=u1*X0+u0*X1->X0<=b:=by
  intro X0 X1 z O e
  have X:1*X0<=u1*X0:=aC (by omega) (by omega)
  have r2:0<=u0*X1:=aG (by omega) z
  omega
 cases odd with
 | true=>
  simp only [Ls,Lr,if_true] at c ⊢
  have D:v1*b-u1*a=first*W+v1*bl-u1*al:=by
   rw [c.symm.symm] at q
   have:v1*S-u1*F=first:=by
    have:u1*v0-u0*v1= -1:=by omega
    rw [this] at u;omega
   rw [ha,hb,<- this];grind
  have w:u0*a-v0*b-(v1*b-u1*a)=(i-first)*W+(u0+u1)*al-(v0+v1)*bl:=by
   have p:u0*F-v0*S=i:=by rw [c] at q;omega
   have o:v1*S-u1*F=first:=by
    have:u1*v0-u0*v1= -1:=by omega
    rw [this] at u;omega
   rw [ha,hb,<- p,<- o];grind
  have g:0<=v1*b-u1*a:=by omega
  have f:v1*b-u1*a<u0*a-v0*b:=by
   have:(v0+v1)*(bl+1)=(v0+v1)*bl+(v0+v1):=by grind
   omega
  have s:a=v1*(u0*a-v0*b)+v0*(v1*b-u1*a):=by
   have:v1*(u0*a-v0*b)+v0*(v1*b-u1*a)=(u0*v1-u1*v0)*a:=by grind
   rw [this,c];omega
  have n:b=u1*(u0*a-v0*b)+u0*(v1*b-u1*a):=by
   have:u1*(u0*a-v0*b)+u0*(v1*b-u1*a)=(u0*v1-u1*v0)*b:=by grind
   rw [this,c];omega
  exact ⟨⟨g,f⟩,s,n,k _ _ g f n⟩
 | false=>
  simp only [Ls,Lr,Bool.false_eq_true,if_false] at c ⊢
  have p:v0*S-u0*F=i:=by rw [c] at q;omega
  have o:u1*F-v1*S=first:=by
   have:u1*v0-u0*v1=1:=by omega
   rw [this] at u;omega
  have D:u1*a-v1*b=first*W+u1*al-v1*bl:=by
   rw [ha,hb,<- o];grind
  have w:v0*b-u0*a-(u1*a-v1*b)=(i-first)*W+(v0+v1)*bl-(u0+u1)*al:=by
   rw [ha,hb,<- p,<- o];grind
  have g:0<=u1*a-v1*b:=by omega
  have f:u1*a-v1*b<v0*b-u0*a:=by
   have:(u0+u1)*(al+1)=(u0+u1)*al+(u0+u1):=by grind
   omega
  have s:a=v1*(v0*b-u0*a)+v0*(u1*a-v1*b):=by
   have:v1*(v0*b-u0*a)+v0*(u1*a-v1*b)=(u1*v0-u0*v1)*a:=by grind
   have d:u1*v0-u0*v1=1:=by omega
   rw [this,d];omega
  have n:b=u1*(v0*b-u0*a)+u0*(u1*a-v1*b):=by
   have:u1*(v0*b-u0*a)+u0*(u1*a-v1*b)=(u1*v0-u0*v1)*b:=by grind
   have d:u1*v0-u0*v1=1:=by omega
   rw [this,d];omega
  exact ⟨⟨g,f⟩,s,n,k _ _ g f n⟩
def Leh.gcd{a b u0 v0 u1 v1:Int}{odd:Bool}(l:Leh a b u0 v0 u1 v1 (Ls a b u0 v0 odd) (Lr a b u1 v1 odd)):bK (Ls a b u0 v0 odd) (Lr a b u1 v1 odd)=bK a b:=by
 apply Nat.dvd_antisymm
 ·have g:=l.ha
  have f:=l.hb
  generalize Ls a b u0 v0 odd=p at *
  generalize Lr a b u1 v1 odd=q at *
  have dp:(bK p q:Int)∣p:=Int.gcd_dvd_left p q
  have e:(bK p q:Int)∣q:=Int.gcd_dvd_right p q
  rw [<- Int.ofNat_dvd]
  apply Int.dvd_coe_gcd
  ·rw [g];exact Int.dvd_add (aF dp) (aF e)
  ·rw [f];exact Int.dvd_add (aF dp) (aF e)
 ·have c:(bK a b:Int)∣a:=Int.gcd_dvd_left a b
  have d:(bK a b:Int)∣b:=Int.gcd_dvd_right a b
  rw [<- Int.ofNat_dvd]
  apply Int.dvd_coe_gcd
  ·unfold Ls;split
   ·exact bJ (aF c) (aF d)
   ·exact bJ (aF d) (aF c)
  ·unfold Lr;split
   ·exact bJ (aF d) (aF c)
   ·exact bJ (aF c) (aF d)
def Gj(pre ws:List Int)(i:Nat):(pre++ws).getD (i+pre.length) 0=ws.getD i 0:=by
 simp [aP,List.getElem?_append_right (Nat.le_add_left pre.length i)]
def Lm(pre ws:List Int)(i:Nat)(v:Int):(pre++ws).set (i+pre.length) v=pre++ws.set i v:=by
 rw [List.set_append_right _ _ (by omega),Nat.add_sub_cancel]
def Dy{B:Int}(hB:0<B){ws:List Int}{n:Nat}(d:Dig B ws)(h:val B ws<B^n):val B (ws.drop n)=0:=by
 by_cases b:n<=ws.length
 ·have c:=F4 B ws b
  have e:=C7 hB (d.take n)
  have f:=C7 hB (d.drop n)
  by_cases a:val B (ws.drop n)=0
  ·exact a
  ·have:B^n*1<=B^n*val B (ws.drop n):=aE (by omega) (aL (D6 hB n))
   omega
 ·rw [bC (by omega)];rfl
section
variable {g:Heap} {bu bq:Nat} {pre qs:List Int} {VA:Option Addr} {vs:List Int}
def B56{n N:Nat}{ws:List Int}{q:Int}{J:LP}(hu:g bu=none)(hq:g bq=none)(hne:bu≠bq)(sv:SlI .u32 g VA vs)(dv:Dig b32 vs)(hn:n=vs.length)(dw:Dig b32 ws)(hN:N=(pre++ws).length)(hl:n<ws.length)(hbig:N<=200000000)
 (hD:val b32 (ws.take n)+val b32 vs<2*b32^n) (hD0:b32^n<=val b32 (ws.take n)+val b32 vs) (htop:ws.getD n 0=4294967295)
 (hJ:∀ ws',ws'.length=ws.length->Dig b32 ws'->ws'.drop (n+1)=ws.drop (n+1)->ws'.getD n 0=0->val b32 (ws'.take n)=val b32 (ws.take n)+val b32 vs-b32^n->J [U (C0 (q-1))] (Au .u32 C4 g bu (pre++ws') bq qs)):
 Re prog VA n (some ⟨bu,0,none⟩) N (pre.length:Int) q J (Au .u32 C4 g bu (pre++ws) bq qs):=by
 unfold Re
 refine ⟨fun l F=>∃ (k:Nat) (c:Int) (zs:List Int),l=[U c,I k]/\k<=n/\zs.length=ws.length/\Dig b32 zs/\(0<=c/\c<=1)/\F=Au .u32 C4 g bu (pre++zs) bq qs/\zs.drop k=ws.drop k/\val b32 (zs.take k)+c*b32^k=val b32 (ws.take k)+val b32 (vs.take k),fun l _=>n-(iAt l 1).toNat,⟨0,0,ws,rfl,by omega,rfl,dw,by omega,rfl,rfl,by simp [val]⟩,?_⟩
 rintro c i R ⟨k,y,zs,j,L,d,f,O,rfl,a,B⟩
 obtain ⟨rfl,rfl⟩:c=y/\i=(k:Int):=by simpa using j
 have w:g.le (Au .u32 C4 g bu (pre++zs) bq qs):=Ra hu hq hne
 have x:SlI .u32 (Au .u32 C4 g bu (pre++zs) bq qs) (some ⟨bu,0,none⟩) (pre++zs):=Vz hne
 have b:N=(pre++zs).length:=by rw [hN,aK,aK,d]
 have E:N=pre.length+zs.length:=by rw [b,aK]
 have m:B5 ((k:Int)+pre.length)=((k+pre.length:Nat):Int):=by rw [B7 (by omega) (by omega)];omega
 have u:B5 ((pre.length:Int)+n)=((n+pre.length:Nat):Int):=by rw [B7 (by omega) (by omega)];omega
 refine B6 (fun C=>?_) (fun C=>?_)
 ·have Q:=Cf dv k
  have M:=Cf f k
  have e:=E7 a
  have D:=C5 b32 vs k
  have G:=C5 b32 ws k
  rw [m]
  refine x.load b (by omega) (by omega) ?_
  refine (sv.mono w).load hn (by omega) (by omega) ?_
  simp only [aD,Gj]
  have z:C0 (c+C0 (C0 (zs.getD k 0)+C0 (vs.getD k 0)))=c+zs.getD k 0+vs.getD k 0:=by
   rw [C3 (n:=zs.getD k 0) (by omega) (by omega),C3 (n:=vs.getD k 0) (by omega) (by omega),C3 (n:=zs.getD k 0+vs.getD k 0) (by omega) (by omega),C3 (by omega) (by omega)];omega
  rw [z]
  refine ⟨_,rfl,by omega,by omega,?_⟩
  refine P0 (us:=pre++zs) (i:=((k+pre.length:Nat):Int)) K3 hne (by rw [aD];omega) ?_
  rw [aD,Lm,Z5,Xd,B7 (n:=(k:Int)+1) (by omega) (by omega)]
  refine ⟨⟨k+1,_,zs.set k ((c+zs.getD k 0+vs.getD k 0)%4294967296),rfl,by omega,by simpa using d,f.set (A3w _),by omega,rfl,?_,?_⟩,by simp only [iAt,aH,aR];omega⟩
  ·rw [D5 (by omega)];exact D7 a
  ·rw [C9 (by omega),F0,aI,aJ (by omega),aQ,Co,D,G,<- e]
   grind
 ·have o:k=n:=by omega
  subst o
  have e:=E7 a
  rw [u]
  refine x.load b (by omega) (by omega) ?_
  rw [aD,Gj,e,htop]
  refine ⟨_,rfl,by omega,by omega,?_⟩
  refine P0 (us:=pre++zs) (i:=((k+pre.length:Nat):Int)) K3 hne (by rw [aD];omega) ?_
  rw [aD,Lm]
  have s:vs.take k=vs:=by rw [hn,aM]
  rw [s] at B
  have r:=L6 (by decide) (f.take k)
  rw [aI,aJ (by omega)] at r
  have H:=C7 (by decide) (f.take k)
  have t:c=1:=by
   by_cases p:c=0
   ·subst p;omega
   ·omega
  subst t
  have A:F7 (4294967295+F7 1)=0:=by rw [O4 (n:=1) (by omega) (by omega),Z5];omega
  rw [A]
  refine hJ (zs.set k 0) (by simpa using d) (f.set (by decide)) (by rw [D5 (by omega)];exact D7 a) (by simp [aP,show k<zs.length by omega]) ?_
  rw [bG (by omega)]
  omega
def B0s{n N nq:Nat}{ws:List Int}{q X Y:Int}{J:LP}(hu:g bu=none)(hq:g bq=none)(hne:bu≠bq)(sv:SlI .u32 g VA vs)(dv:Dig b32 vs)(hn:n=vs.length)(dw:Dig b32 ws)(hN:N=(pre++ws).length)(hl:n<ws.length)(hbig:N<=200000000)
 (hnq:nq=qs.length) (hjq:pre.length<qs.length)
 (hX:X=val b32 (ws.take n)+b32^n*ws.getD n 0) (hY:Y=val b32 vs) (hq0:0<=q) (hq1:q<=4294967296) (hlt:X<(q+1)*Y) (hge:(q-1)*Y<=X) (hXB:X<Y*4294967296)
 (hJ:∀ ws' q',ws'.length=ws.length->Dig b32 ws'->ws'.drop (n+1)=ws.drop (n+1)->ws'.getD n 0=0->val b32 (ws'.take n)=X-q'*Y->0<=X-q'*Y->X-q'*Y<Y->0<=q'->q'<4294967296->J [] (Au .u32 C4 g bu (pre++ws') bq (qs.set pre.length q'))):
 Rf prog VA n (some ⟨bu,0,none⟩) N (some ⟨bq,0,none⟩) nq (pre.length:Int) J q (Au .u32 C4 g bu (pre++ws) bq qs):=by
 have af:Y<b32^n:=by rw [hY,hn];exact L6 (by decide) dv
 have ai:0<=X:=by
  have y:=C7 (by decide) (dw.take n)
  have S:=aG (aL (D6 (B:=b32) (by decide) n)) (Cf dw n).1
  omega
 have W:0<Y:=by
  by_cases h0:0<Y
  ·exact h0
  ·have:Y=0:=by have:=C7 (by decide) dv;omega
   rw [this] at hXB;omega
 have O:∀ ws' q',ws'.length=ws.length->Dig b32 ws'->ws'.drop (n+1)=ws.drop (n+1)->ws'.getD n 0=0->val b32 (ws'.take n)=X-q'*Y->0<=X-q'*Y->X-q'*Y<Y->0<=q'->Ri prog (some ⟨bq,0,none⟩) nq (pre.length:Int) J q' (Au .u32 C4 g bu (pre++ws') bq qs):=by
  intro ws' q' y S h3 h4 h5 h6 h7 h8
  have u:q'<4294967296:=by
   by_cases m:q'<4294967296
   ·exact m
   ·have:=aC (show 4294967296<=q' by omega) (aL W)
    rw [aO Y] at hXB;omega
  unfold Ri
  refine ⟨_,rfl,by omega,by omega,?_⟩
  refine Wa (i:=(pre.length:Int)) K3 (by rw [aD];omega) ?_
  rw [aD,O4 h8 (by omega)]
  exact hJ ws' q' y S h3 h4 h5 h6 h7 h8 u
 unfold Rf
 refine ⟨fun l h'=>∃ (k:Nat) (c b:Int) (zs:List Int),l=[U c,U b,I k]/\k<=n/\zs.length=ws.length/\Dig b32 zs/\(0<=c/\c<4294967296)/\(0<=b/\b<=1)/\h'=Au .u32 C4 g bu (pre++zs) bq qs/\zs.drop k=ws.drop k/\val b32 (zs.take k)=val b32 (ws.take k)-q*val b32 (vs.take k)+(c+b)*b32^k,fun l _=>n-(iAt l 2).toNat,⟨0,0,0,ws,rfl,by omega,rfl,dw,by omega,by omega,rfl,rfl,by simp [val]⟩,?_⟩
 rintro c b i hp ⟨k,c',b',zs,z,hk,j,o,m,hb,rfl,d,L⟩
 obtain ⟨rfl,rfl,rfl⟩:c=c'/\b=b'/\i=(k:Int):=by simpa using z
 have ad:g.le (Au .u32 C4 g bu (pre++zs) bq qs):=Ra hu hq hne
 have su:SlI .u32 (Au .u32 C4 g bu (pre++zs) bq qs) (some ⟨bu,0,none⟩) (pre++zs):=Vz hne
 have f:N=(pre++zs).length:=by rw [hN,aK,aK,j]
 have ak:N=pre.length+zs.length:=by rw [f,aK]
 have A:B5 ((k:Int)+pre.length)=((k+pre.length:Nat):Int):=by rw [B7 (by omega) (by omega)];omega
 have ac:B5 ((pre.length:Int)+n)=((n+pre.length:Nat):Int):=by rw [B7 (by omega) (by omega)];omega
 refine B6 (fun y=>?_) (fun y=>?_)
 ·have gv:=Cf dv k
  have gz:=Cf o k
  have r:=E7 d
  have vv:=C5 b32 vs k
  have vw:=C5 b32 ws k
  refine (sv.mono ad).load hn (by omega) (by omega) ?_
  rw [A]
  refine su.load f (by omega) (by omega) ?_
  simp only [aD,Gj]
  have hm:0<=q*vs.getD k 0/\q*vs.getD k 0<=4294967296*4294967295:=⟨aG hq0 gv.1,bO hq1 (by omega) gv.1 (by decide)⟩
  have ep:C0 (C0 (q*C0 (vs.getD k 0))+c)=q*vs.getD k 0+c:=by
   rw [C3 (n:=vs.getD k 0) (by omega) (by omega),C3 (n:=q*vs.getD k 0) (by omega) (by omega),C3 (by omega) (by omega)]
  rw [ep,Cp (by omega),Xd,Xd,C3 (n:=zs.getD k 0) (by omega) (by omega)]
  generalize w:q*vs.getD k 0+c=p at *
  have aj:0<=p/\p<18446744073709551616:=by omega
  have D:C0 (C0 (zs.getD k 0-p%4294967296)-b)=(zs.getD k 0-p%4294967296-b)%18446744073709551616:=by
   rw [E6,E6];omega
  rw [D,Zd (by omega)]
  refine ⟨_,rfl,by omega,by omega,?_⟩
  refine P0 (us:=pre++zs) (i:=((k+pre.length:Nat):Int)) K3 hne (by rw [aD];omega) ?_
  rw [aD,Lm,Z5,B7 (n:=(k:Int)+1) (by omega) (by omega)]
  refine ⟨⟨k+1,_,_,zs.set k ((zs.getD k 0-p%4294967296-b)%18446744073709551616%4294967296),rfl,by omega,by simpa using j,o.set (A3w _),by omega,by omega,rfl,?_,?_⟩,by simp only [iAt,aH,aR];omega⟩
  ·rw [D5 (by omega)];exact D7 d
  ·rw [C9 (by omega),F0,aI,aJ (by omega),aQ,vv,vw,<- r,L]
   have key:(zs.getD k 0-p%4294967296-b)%18446744073709551616%4294967296=zs.getD k 0-p-b+4294967296*(p/4294967296+(zs.getD k 0-p%4294967296-b)%18446744073709551616/4294967296%2):=by omega
   rw [key,<- w]
   grind
 ·have C:k=n:=by omega
  subst C
  have r:=E7 d
  have gz:=Cf o k
  have Q:vs.take k=vs:=by rw [hn,aM]
  rw [Q,<- hY] at L
  have G:=L6 (by decide) (o.take k)
  rw [aI,aJ (by omega)] at G
  have ah:=C7 (by decide) (o.take k)
  rw [ac]
  refine su.load f (by omega) (by omega) ?_
  rw [aD,Gj]
  have hD:X-q*Y=val b32 (zs.take k)+(zs.getD k 0-c-b)*b32^k:=by
   rw [L,hX,r];grind
  have s:X-q*Y<Y:=by
   have:(q+1)*Y=q*Y+Y:=by grind
   omega
  have ag: -Y<=X-q*Y:=by
   have:(q-1)*Y=q*Y-Y:=by grind
   omega
  have w:0<b32^k:=D6 (by decide) k
  have a:zs.getD k 0-c-b=0\/zs.getD k 0-c-b= -1:=by
   have S:zs.getD k 0-c-b<1:=by
    by_cases m:zs.getD k 0-c-b<1
    ·exact m
    ·have:=aC (show 1<=zs.getD k 0-c-b by omega) (aL w);omega
   have h3: -2<zs.getD k 0-c-b:=by
    by_cases m: -2<zs.getD k 0-c-b
    ·exact m
    ·have:=aC (show zs.getD k 0-c-b <= -2 by omega) (aL w);omega
   omega
  have D:C0 (C0 (C0 (zs.getD k 0)-c)-b)=(zs.getD k 0-c-b)%18446744073709551616:=by
   rw [C3 (n:=zs.getD k 0) (by omega) (by omega),E6,E6];omega
  rw [D]
  have aa:∀ x:Int,Int.fdiv x (2^(min ((63:Int)).toNat 64))=x/9223372036854775808:=by
   intro x;rw [show (2:Int)^(min ((63:Int)).toNat 64)=9223372036854775808 by decide];exact bU x (by decide)
  refine ⟨_,rfl,by omega,by omega,?_⟩
  refine P0 (us:=pre++zs) (i:=((k+pre.length:Nat):Int)) K3 hne (by rw [aD];omega) ?_
  rw [aD,Lm,Z5,aa]
  have t:∀ v,(zs.set k v).getD k 0=v:=by intro v;simp [aP,show k<zs.length by omega]
  refine ⟨fun l h'=>∃ ws' q',l=[U q']/\h'=Au .u32 C4 g bu (pre++ws') bq qs/\ws'.length=ws.length/\Dig b32 ws'/\ws'.drop (k+1)=ws.drop (k+1)/\ws'.getD k 0=0/\val b32 (ws'.take k)=X-q'*Y/\0<=X-q'*Y/\X-q'*Y<Y/\0<=q',?_,?_⟩
  ·rcases a with a|a
   ·rw [a] at hD ⊢
    refine D9 (fun e=>absurd e (by decide)) (fun _=>?_)
    refine ⟨zs.set k (0%18446744073709551616%4294967296),q,rfl,rfl,by simpa using j,o.set (by decide),by rw [D5 (by omega)];exact D7 d,t _,?_,by omega,s,hq0⟩
    rw [bG (by omega)];omega
   ·rw [a] at hD ⊢
    refine D9 (fun _=>?_) (fun e=>absurd (by decide) e)
    have T:1<=q:=by
     by_cases m:1<=q
     ·exact m
     ·have:q=0:=by omega
      subst this;omega
    have E:(zs.set k (-1%18446744073709551616%4294967296)).take k=zs.take k:=bG (by omega)
    have e1:(q-1)*Y=q*Y-Y:=by grind
    refine B56 (ws:=zs.set k (-1%18446744073709551616%4294967296)) hu hq hne sv dv hn (o.set (by decide)) (by rw [f];simp) (by simpa using (show k<zs.length by omega)) hbig ?_ ?_ (t _) ?_
    ·rw [E,<- hY];omega
    ·rw [E,<- hY];omega
    ·intro ws' V R Z H F
     rw [E,<- hY] at F
     rw [C3 (n:=q-1) (by omega) (by omega)]
     refine ⟨ws',q-1,rfl,rfl,by rw [V];simpa using j,R,?_,H,by omega,by omega,by omega,by omega⟩
     rw [Z,D5 (by omega)];exact D7 d
  ·rintro q2 ae ⟨ws',q',M,rfl,V,R,Z,H,F,g6,g7,g8⟩
   obtain rfl:q2=q':=by simpa using M
   exact O ws' q2 V R Z H F g6 g7 g8
end
def A2u(B:Int)(xs:List Int)(i:Nat):val B (xs.drop i)=xs.getD i 0+B*val B (xs.drop (i+1)):=by
 by_cases a:i<xs.length
 ·exact Nj B a
 ·rw [bC (by omega),bC (by omega)]
  simp [val,aP,aU (Nat.le_of_not_lt a)]
def Nm{s:Nat}(hs:s<=32):(2:Int)^s*2^(32-s)=4294967296:=by
 rw [<- Int.pow_add,show s+(32-s)=32 by omega];decide
section
variable {h g:Heap} {K:VP} {A B:Option Addr} {ac bc:Nat} {bu bq:Nat} {VA:Option Addr} {vs us0:List Int}
def B2y{s nq cq rn cr:Nat}{rs tl qs:List Int}{Q R:Int}(hu:g bu=none)(hq:g bq=none)(hne:bu≠bq)(hs:s<32)(hrn:rn=rs.length)(hcr:rn<=cr)(hnq:nq=qs.length)(hcq:nq<=cq)(dq:Dig b32 qs)(dr:Dig b32 rs)(hb1:nq<=200000000)(hb2:rn<=200000000)(hQ:val b32 qs=Q)(hR:val b32 rs=R*2^s)
 (hK:∀ A1 m1 c1 A2 m2 c2 h',g.le h'->m1<=c1->m2<=c2->Mg h' A1 m1 Q->Mg h' A2 m2 R->K (.tuple #[.slice A1 m1 c1,.slice A2 m2 c2]) h'):
 Kt prog K (s:Int) (some ⟨bq,0,none⟩) nq cq (some ⟨bu,0,none⟩) rn cr (Au .u32 C4 g bu (rs++tl) bq qs):=by
 have q:0<(2:Int)^s:=aX (by decide)
 have b:=Nm (Nat.le_of_lt hs)
 have p:0<(2:Int)^(32-s):=aX (by decide)
 unfold Kt
 refine ⟨fun l h'=>∃ (k:Nat) (zs:List Int),l=[I k]/\k<=rn/\zs.length=rs.length/\Dig b32 zs/\h'=Au .u32 C4 g bu (zs++tl) bq qs/\zs.drop k=rs.drop k/\2^s*val b32 (zs.take k)+rs.getD 0 0%2^s=val b32 (rs.take k)+b32^k*(rs.getD k 0%2^s),fun l _=>rn-(iAt l 0).toNat,⟨0,rs,rfl,by omega,rfl,dr,rfl,rfl,by simp [val]⟩,?_⟩
 rintro i W ⟨k,zs,A,hk,a,x,rfl,d,w⟩
 obtain rfl:=sI1 A
 have y:∀ zs:List Int,SlI .u32 (Au .u32 C4 g bu (zs++tl) bq qs) (some ⟨bu,0,none⟩) zs:=by
  intro zs
  have:=(Vz (g:=g) (k:=.u32) (e:=C4) (us:=zs++tl) (qs:=qs) hne).cut (c:=(zs++tl).length) (l:=0) (m:=zs.length) (by omega) (by simp) (aW _)
  simpa [H9] using this
 have H:B5 ((k:Int)+1)=((k+1:Nat):Int):=by rw [B7 (by omega) (by omega)];omega
 have N:=Cf x k
 have u:=E7 d
 refine B6 (fun M=>?_) (fun M=>?_)
 ·refine (y zs).load (by omega) (by omega) (by omega) ?_
  refine B6 (fun e=>absurd e (by omega)) (fun _=>?_)
  refine ⟨_,rfl,by omega,by omega,?_⟩
  simp only [aD]
  rw [aJ (by omega),bU _ (aL q)]
  refine P0 (us:=zs++tl) (i:=(k:Int)) K3 hne (by rw [aD,aK];omega) ?_
  rw [aD,List.set_append_left _ _ (by omega),H]
  have f:0<=zs.getD k 0/2^s:=aZ N.1 (by omega)
  have G:zs.getD k 0/2^s<2^(32-s):=by
   apply aV q
   rw [aO,b];exact N.2
  have j:(2:Int)^(32-s)<=4294967296:=by
   rw [<- b]
   have:=aC (show 1<=(2:Int)^s by omega) (aL p);omega
  have d1:Dig b32 (zs.set k (zs.getD k 0/2^s)):=x.set ⟨f,by show _<(4294967296:Int);omega⟩
  have l1:(zs.set k (zs.getD k 0/2^s)).length=rs.length:=by rw [bD];exact a
  have g1:(zs.set k (zs.getD k 0/2^s)).getD k 0=zs.getD k 0/2^s:=by simp [aP,show k<zs.length by omega]
  have g2:(zs.set k (zs.getD k 0/2^s)).getD (k+1) 0=rs.getD (k+1) 0:=by
   rw [A6b (by omega)];exact E7 (D7 d)
  have vr:=C5 b32 rs k
  have o:∀ z:Int,(0<=z/\z<4294967296)->2^s*z=zs.getD k 0-zs.getD k 0%2^s+4294967296*(rs.getD (k+1) 0%2^s)->
   2^s*val b32 ((zs.set k z).take (k+1))+rs.getD 0 0%2^s=val b32 (rs.take (k+1))+b32^(k+1)*(rs.getD (k+1) 0%2^s):=by
   intro z hz ez
   rw [C9 (by omega),F0,aI,aJ (by omega),vr,aQ,<- u]
   rw [<- u] at w
   have V:2^s*(val b32 (zs.take k)+b32^k*z)=2^s*val b32 (zs.take k)+b32^k*(2^s*z):=by grind
   rw [V,ez]
   grind
  have ac:=aS (zs.getD k 0) (2^s)
  refine B6 (fun h2=>?_) (fun h2=>?_)
  ·refine (y _).load (by omega) (by omega) (by omega) ?_
   refine (y _).load (by omega) (by omega) (by omega) ?_
   simp only [aD,g1,g2]
   have Z:C0 ((32:Int)-s)=((32-s:Nat):Int):=by rw [C3 (by omega) (by omega)];omega
   rw [Z]
   refine B6 (fun e=>absurd e (by omega)) (fun _=>?_)
   refine ⟨_,rfl,by omega,by omega,?_⟩
   have S:=Cf dr (k+1)
   have L:0<=rs.getD (k+1) 0*2^(32-s):=aG S.1 (by omega)
   have J:rs.getD (k+1) 0*2^(32-s)<18446744073709551616:=by
    have:=bO (show rs.getD (k+1) 0<=4294967295 by omega) j (by omega) (by decide)
    omega
   rw [aD,aJ (show 32-s<=64 by omega),C3 (n:=rs.getD (k+1) 0) (by omega) (by omega),C3 L J,Z5]
   obtain ⟨T,O⟩:=A8k (s:=32-s) (by omega) S ⟨f,G⟩
   rw [T]
   refine P0 (us:=zs.set k (zs.getD k 0/2^s)++tl) (i:=(k:Int)) K3 hne (by rw [aD,aK];omega) ?_
   rw [aD,List.set_append_left _ _ (by omega),List.set_set]
   have ad:=A3w (rs.getD (k+1) 0*2^(32-s))
   refine ⟨⟨k+1,zs.set k (zs.getD k 0/2^s+rs.getD (k+1) 0*2^(32-s)%4294967296),rfl,by omega,by simpa using a,x.set ⟨by omega,O⟩,rfl,by rw [D5 (by omega)];exact D7 d,o _ ⟨by omega,O⟩ ?_⟩,by simp only [iAt,aH];omega⟩
   have em:rs.getD (k+1) 0*2^(32-s)%4294967296=2^(32-s)*(rs.getD (k+1) 0%2^s):=by
    rw [<- b,aO (2^s),aO (rs.getD (k+1) 0),bW _ _ p]
   rw [em,Int.mul_add,<- Int.mul_assoc,b]
   omega
  ·have F:k+1=rs.length:=by omega
   have B:rs.getD (k+1) 0=0:=by simp [aP,aU (show rs.length<=k+1 by omega)]
   refine ⟨⟨k+1,zs.set k (zs.getD k 0/2^s),rfl,by omega,l1,d1,rfl,by rw [D5 (by omega)];exact D7 d,o _ ⟨f,by omega⟩ ?_⟩,by simp only [iAt,aH];omega⟩
   rw [B,Int.zero_emod,bH,bY];omega
 ·have C:k=rs.length:=by omega
  subst C
  have B:rs.getD rs.length 0=0:=by simp [aP]
  rw [aM,<- a,aM,a,B] at w
  have E:val b32 zs=R:=by
   have h0:=aY (rs.getD 0 0) (show (2:Int)^s≠0 by omega)
   have M:=aT (rs.getD 0 0) q
   rw [hR] at w
   simp at w
   have:2^s*(R-val b32 zs)=rs.getD 0 0%2^s:=by
    have:2^s*(R-val b32 zs)=R*2^s-2^s*val b32 zs:=by grind
    simp only [aP] at *
    omega
   have hz:R-val b32 zs=0:=by
    by_cases hc:R-val b32 zs<=0
    ·by_cases D:R-val b32 zs=0
     ·exact D
     ·have:=aE (show R-val b32 zs <= -1 by omega) (aL q);omega
    ·have:=aE (show 1<=R-val b32 zs by omega) (aL q);omega
   omega
  rw [hnq]
  refine Z8 C08 dq (by omega) (by omega) ?_
  intro m1 X r
  refine ⟨_,_,_,rfl,?_⟩
  rw [hrn,<- a]
  refine Z8 (y zs) x (by omega) (by omega) ?_
  intro m2 aa t
  rw [hQ] at r
  rw [E] at t
  exact ⟨_,_,_,rfl,hK _ _ _ _ _ _ _ (Ra hu hq hne) (by omega) (by omega) r t⟩
def B0z{s mm N nq:Nat}{us0:List Int}{a b Y:Int}(hu:g bu=none)(hq:g bq=none)(hne:bu≠bq)(sv:SlI .u32 g VA vs)(dv:Dig b32 vs)(hn:vs.length=mm+2)(hv1:4294967296<=2*vs.getD (mm+1) 0)(hs:s<32)(hY:val b32 vs=Y)(hYb:Y=b*2^s)(du:Dig b32 us0)(hN:us0.length=N)(hua:val b32 us0=a*2^s)(hnq:N=nq+(mm+2))(hnq1:1<=nq)(hbig:N<=200000000)(htop:val b32 (us0.drop nq)<Y)
 (hK:∀ A1 m1 c1 A2 m2 c2 h',g.le h'->m1<=c1->m2<=c2->Mg h' A1 m1 (a/b)->Mg h' A2 m2 (a%b)->K (.tuple #[.slice A1 m1 c1,.slice A2 m2 c2]) h'):
 Rh prog K (s:Int) VA (mm+2) (some ⟨bu,0,none⟩) N N (some ⟨bq,0,none⟩) nq nq (Au .u32 C4 g bu us0 bq (bL nq 0)):=by
 have hp:0<(2:Int)^s:=aX (by decide)
 have ar:Y<b32^(mm+2):=by rw [<- hY,<- hn];exact L6 (by decide) dv
 have ax:0<Y:=by have:=C7 (by decide) (du.drop nq);omega
 have e0:B5 (B5 ((N:Int)-((mm+2:Nat):Int))-1)=(nq:Int)-1:=by rw [B7 (n:=(N:Int)-((mm+2:Nat):Int)) (by omega) (by omega),B7 (by omega) (by omega)];omega
 unfold Rh
 refine ⟨fun l h'=>∃ (k:Nat) (us qs:List Int),l=[I ((k:Int)-1)]/\k<=nq/\us.length=N/\qs.length=nq/\Dig b32 us/\Dig b32 qs/\h'=Au .u32 C4 g bu us bq qs/\val b32 (us.drop k)<Y/\val b32 us0=val b32 (qs.drop k)*Y*b32^k+val b32 us,fun l _=>(iAt l 0+1).toNat,⟨nq,us0,_,by rw [e0],by omega,hN,by simp,du,I0 (by decide) _,rfl,htop,by simp [val]⟩,?_⟩
 rintro j ap ⟨k,us,qs,aj,hk,p,A,f,Q,rfl,ag,hv⟩
 obtain rfl:j=(k:Int)-1:=by simpa using aj
 have z:g.le (Au .u32 C4 g bu us bq qs):=Ra hu hq hne
 have S:SlI .u32 (Au .u32 C4 g bu us bq qs) (some ⟨bu,0,none⟩) us:=Vz hne
 unfold Zt
 refine B6 (fun h1=>?_) (fun h1=>?_)
 ·obtain ⟨j,rfl⟩:∃ j,k=j+1:=⟨k-1,by omega⟩
  have ej:((j+1:Nat):Int)-1=(j:Int):=by omega
  rw [ej]
  have e1:B5 ((j:Int)+((mm+2:Nat):Int))=((j+(mm+2):Nat):Int):=by rw [B7 (by omega) (by omega)];omega
  have e2:B5 (((j+(mm+2):Nat):Int)-1)=((j+(mm+1):Nat):Int):=by rw [B7 (by omega) (by omega)];omega
  have e3:B5 (((mm+2:Nat):Int)-1)=((mm+1:Nat):Int):=by rw [B7 (by omega) (by omega)];omega
  rw [e1,e2,e3]
  have M:=f.drop j
  have L:(us.drop j).length=N-j:=by rw [List.length_drop,p]
  have W:∀ i,(us.drop j).getD i 0=us.getD (j+i) 0:=fun i=>A43
  have t:val b32 ((us.drop j).drop (mm+3))=0:=by
   have:=Dy (B:=b32) (by decide) (n:=mm+2) (f.drop (j+1)) (by omega)
   rw [bB] at this ⊢
   rw [show j+(mm+3)=j+1+(mm+2) by omega];exact this
  have am:=A2u b32 us j
  have O:val b32 (us.drop j)<Y*4294967296:=by
   have:=Cf f j
   rw [am]
   have:b32*(val b32 (us.drop (j+1))+1)<=b32*Y:=aE (by omega) (by decide)
   have e:b32*(val b32 (us.drop (j+1))+1)=b32*val b32 (us.drop (j+1))+4294967296:=by show (4294967296:Int)*_=_;grind
   have e':Y*4294967296=b32*Y:=aO _ _
   omega
  have u:=F4 b32 (us.drop j) (i:=mm+3) (by omega)
  rw [t,bH,bY] at u
  have af:=G7 b32 (us.drop j) (mm+2)
  have hX:val b32 (us.drop j)=val b32 ((us.drop j).take (mm+2))+b32^(mm+2)*(us.drop j).getD (mm+2) 0:=by rw [u];exact af
  have es:=C04 (B:=b32) (by decide) (us:=(us.drop j).take (mm+3)) (m:=mm) (M.take _) dv (by rw [aI,L];omega) hn hv1 (by rw [<- u,hY];exact O)
  have gt:∀ i,i<mm+3->((us.drop j).take (mm+3)).getD i 0=us.getD (j+i) 0:=by
   intro i hi
   rw [<- W];simp [aP,hi]
  rw [gt (mm+2) (by omega),gt (mm+1) (by omega),gt mm (by omega),<- u,hY] at es
  refine ⟨fun l h'=>∃ d r,l=[]/\h'=Au .u32 C4 g bu d bq (qs.set j r)/\d.length=N/\Dig b32 d/\(0<=r/\r<4294967296)/\val b32 (d.drop j)<Y/\val b32 (d.drop j)=val b32 (us.drop j)-r*Y/\d.take j=us.take j,?_,?_⟩
  ·refine S.load p.symm (by omega) (by omega) ?_
   refine S.load p.symm (by omega) (by omega) ?_
   refine (sv.mono z).load hn.symm (by omega) (by omega) ?_
   simp only [aD]
   have aq:=Cf dv (mm+1)
   have ew:C0 (vs.getD (mm+1) 0)=vs.getD (mm+1) 0:=C3 (by omega) (by omega)
   refine B6 (fun e=>absurd (ew.symm.trans e) (by omega)) (fun _=>?_)
   refine (sv.mono z).load hn.symm (by omega) (by omega) ?_
   simp only [aD]
   refine B6 (fun e=>absurd (ew.symm.trans e) (by omega)) (fun _=>?_)
   refine ⟨fun l h'=>∃ q,l=[U q]/\h'=Au .u32 C4 g bu us bq qs/\0<=q/\q<=4294967296/\val b32 (us.drop j)<(q+1)*Y/\(q-1)*Y<=val b32 (us.drop j),?_,?_⟩
   ·have:=B87 (us:=us) (vs:=vs) (n:=mm+2) (j:=j) (J:=fun l h'=>∃ q,l=[U q]/\h'=Au .u32 C4 g bu us bq qs/\0<=q/\q<=4294967296/\val b32 (us.drop j)<(q+1)*Y/\(q-1)*Y<=val b32 (us.drop j)) es (sv.mono z) S hn.symm (by omega) (by omega) (by omega) rfl rfl (by rw [show j+(mm+2)-2=j+mm by omega]) (Cf f (j+(mm+2))) (Cf f (j+(mm+1))) rfl (fun q q0 q1 q2 q3=>⟨q,rfl,rfl,q0,q1,q2,q3⟩)
    rw [p] at this
    exact this
   ·rintro q ao ⟨r,ae,rfl,T,al,F,R⟩
    obtain rfl:q=r:=by simpa using ae
    unfold Zr
    have o:(us.take j).length=j:=by rw [aI,p];omega
    have:=B0s (g:=g) (bu:=bu) (bq:=bq) (pre:=us.take j) (qs:=qs) (VA:=VA) (vs:=vs) (n:=mm+2) (N:=N) (nq:=nq) (ws:=us.drop j) (q:=q) (X:=val b32 (us.drop j)) (Y:=Y)
     (J:=fun l h'=>∃ d r,l=[]/\h'=Au .u32 C4 g bu d bq (qs.set j r)/\d.length=N/\Dig b32 d/\(0<=r/\r<4294967296)/\val b32 (d.drop j)<Y/\val b32 (d.drop j)=val b32 (us.drop j)-r*Y/\d.take j=us.take j)
     hu hq hne sv dv hn.symm M (by rw [bF,p]) (by omega) hbig A.symm (by omega) hX hY.symm T al F R O ?_
    ·rw [bF,o] at this
     exact this
    ·intro G r w1 w2 w3 w4 w5 w6 w7 w8 w9
     refine ⟨us.take j++G,r,rfl,by rw [o],by rw [aK,w1,L,o];omega,Dig.append (f.take j) w2,⟨w8,w9⟩,?_,?_,?_⟩
     all_goals first|(rw [List.drop_left' o])|(rw [List.take_left' o])
     all_goals
      have z1:=F4 b32 G (i:=mm+3) (by omega)
      rw [w3,t,G7,w4,w5] at z1
      simp at z1
      omega
  ·rintro an ⟨d,r,_,rfl,u1,u2,u3,u4,u5,u6⟩
   unfold Zs
   have ad:B5 ((j:Int)-1)=(j:Int)-1:=B7 (by omega) (by omega)
   rw [ad]
   refine ⟨⟨j,d,qs.set j r,rfl,by omega,u1,by simpa using A,u2,Q.set u3,rfl,u4,?_⟩,by simp only [iAt,aH];omega⟩
   have ak:=F4 b32 d (i:=j) (by omega)
   have Z:=F4 b32 us (i:=j) (by omega)
   rw [hv,W8 (by omega),ak,Z,u5,u6,aQ]
   simp only [val]
   grind
 ·have V:k=0:=by omega
  subst V
  simp at ag hv
  have av:0<b:=by
   by_cases H:0<b
   ·exact H
   ·have:=aC (show b<=0 by omega) (aL hp);omega
  have au:=C7 (by decide) f
  have hR:val b32 us=(a-val b32 qs*b)*2^s:=by
   rw [hua,hYb] at hv
   grind
  have ah:0<=a-val b32 qs*b:=by
   by_cases H:0<=a-val b32 qs*b
   ·exact H
   ·have:=aC (show a-val b32 qs*b <= -1 by omega) (aL hp);omega
  have aa:a-val b32 qs*b<b:=by
   by_cases H:a-val b32 qs*b<b
   ·exact H
   ·have:=aC (show b<=a-val b32 qs*b by omega) (aL hp);omega
  have y:a/b=val b32 qs:=by
   have:a=(a-val b32 qs*b)+val b32 qs*b:=by omega
   rw [this,bZ _ _ (by omega),bX ah aa,Int.zero_add]
  have D:a%b=a-val b32 qs*b:=by
   have:=Int.emod_def a b
   rw [this,y,aO]
  rw [y,D] at hK
  have hz:=Dy (B:=b32) (by decide) (n:=mm+2) f (by omega)
  have x:=F4 b32 us (i:=mm+2) (by omega)
  rw [hz,bH,bY] at x
  refine ⟨⟨by omega,by omega⟩,?_⟩
  rw [H9,aD,Nat.sub_zero,Nat.sub_zero]
  have w:(us.take (mm+2)).length=mm+2:=by rw [aI,p];omega
  have st:SlI .u32 (Au .u32 C4 g bu us bq qs) (some ⟨bu,0,none⟩) (us.take (mm+2)):=by
   have:=S.cut (c:=N) (l:=0) (m:=mm+2) (by omega) (by omega) (by omega)
   simpa [H9] using this
  have tr:=A2y (K:=fun r7 E=>∃ (t259A:Option Addr) (t259n:Nat) (t259c:Nat),r7= .slice t259A t259n t259c/\Kt prog K (s:Int) (some ⟨bq,0,none⟩) nq nq t259A t259n t259c E) (ac:=N) st (by omega) (by omega) ?_
  ·rw [w] at tr;exact tr
  ·intro m hm aw C
   rw [w] at hm
   rw [List.take_take,aJ hm] at C
   refine ⟨_,_,_,rfl,?_⟩
   have ai:us=us.take m++us.drop m:=(bF m us).symm
   rw [ai]
   refine B2y (rs:=us.take m) (tl:=us.drop m) (qs:=qs) hu hq hne hs (by rw [aI,p];omega) (by omega) A.symm (aW _) Q (f.take m) (by omega) (by omega) rfl ?_ hK
   rw [C,<- x,hR]
end
