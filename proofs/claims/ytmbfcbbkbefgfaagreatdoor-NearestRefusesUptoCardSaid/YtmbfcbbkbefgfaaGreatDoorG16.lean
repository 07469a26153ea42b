/- A part. -/
import Derived.Test.YtmbfcbbkbefgfaaGreatDoorG14
import Derived.Test.YtmbfcbbkbefgfaaGreatDoorG15
open Go.Proofs.Tryz
set_option linter.all false
open Int renaming mul_le_mul_of_nonneg_right->aC,toNat_natCast->aD,mul_le_mul_of_nonneg_left->aE,dvd_mul_of_dvd_right->aF,mul_nonneg->aG,le_of_lt->aL,mul_comm->aO,pow_succ->aQ,mul_ediv_add_emod->aS,emod_lt_of_pos->aT,ediv_lt_of_lt_mul->aV,pow_pos->aX,emod_nonneg->aY,ediv_nonneg->aZ,mul_zero->bH,mul_pos->bI,dvd_sub->bJ,gcd->bK,tmod_eq_emod_of_nonneg->bM,tdiv_eq_ediv_of_nonneg->bN,mul_le_mul->bO,fdiv_eq_ediv_of_nonneg->bU,mul_emod_mul_of_pos->bW,ediv_eq_zero_of_lt->bX,add_zero->bY,add_mul_ediv_right->bZ
open List renaming getElem?_cons_zero->aH,length_take->aI,length_append->aK,take_length->aM,take_of_length_le->aN,getD->aP,getElem?_cons_succ->aR,getElem?_eq_none->aU,drop_drop->bB,drop_of_length_le->bC,length_set->bD,take_append_drop->bF,take_set_of_le->bG,replicate->bL,drop_eq_getElem_cons->bV
open Nat renaming min_eq_left->aJ,le_refl->aW
namespace Go.Proofs.YtmbfcbbkbefgfaaGreatDoor
set_option maxRecDepth 20000
open Go
section
variable {h g:Heap} {K:VP} {A B:Option Addr} {ac bc:Nat}
def Ui{x y:Int}{an bn:Nat}(ma:Mg h A an x)(mb:Mg h B bn y)(hxy:y<=x)(hl:an<=100000000)(hK:∀ A' m c' h',h.le h'->m<=c'->Mg h' A' m (x-y)->K (.slice A' m c') h'):FCall prog Oh #[.slice A an ac,.slice B bn bc] h K:=by
 have O:bn<=an:=by
  have j:=ma.lt (by decide)
  exact mb.len_le (by decide) (Int.lt_of_le_of_lt hxy j)
 obtain ⟨a,rfl,M,Q,W,rfl⟩:=ma
 obtain ⟨f,rfl,J,G,S,rfl⟩:=mb
 refine B0z _ _ _ _ _ _ ?_
 unfold B5i
 refine J7 Pv (by omega) (by omega) (by omega) ?_
 intro b z
 rw [aD]
 refine ⟨_,_,_,rfl,?_⟩
 refine ⟨fun l h'=>∃ (k:Nat) (c:Int) (zs:List Int),l=[U c,I k]/\k<=a.length/\zs.length=a.length/\Dig b32 zs/\(0<=c/\c<=1)/\h'=blk .u32 C3 h b zs/\val b32 (zs.take k)=val b32 (a.take k)-val b32 (f.take k)+c*b32^k,fun l _=>a.length-(iAt l 1).toNat,⟨0,0,_,rfl,by omega,by simp,I0 (by decide) _,by omega,rfl,by simp [val]⟩,?_⟩
 rintro c i hp ⟨k,c',zs,s,T,g,t,V,rfl,u⟩
 obtain ⟨rfl,rfl⟩:c=c'/\i=(k:Int):=by simpa using s
 have o:=V8 (k:=.u32) (e:=C3) z zs
 refine B6 (fun j=>?_) (fun j=>?_)
 ·have X:=Bv Q k
  have Z:=Bv G k
  have H:=C4 b32 a k
  have L:=C4 b32 f k
  refine (M.mono o).load rfl (by omega) (by omega) ?_
  rw [aD]
  refine ⟨fun l h'=>l=[U (C0 (a.getD k 0-c-f.getD k 0))]/\h'=blk .u32 C3 h b zs,B6 (fun C=>?_) (fun C=>?_),?_⟩
  ·refine (J.mono o).load rfl (by omega) (by omega) ?_
   rw [aD]
   refine ⟨?_,rfl⟩
   rw [C2 (n:=a.getD k 0) (by omega) (by omega),C2 (n:=f.getD k 0) (by omega) (by omega),E4,E4,E4]
   have F:((a.getD k 0-c)%18446744073709551616-f.getD k 0)%18446744073709551616=(a.getD k 0-c-f.getD k 0)%18446744073709551616:=by omega
   rw [F]
  ·refine ⟨?_,rfl⟩
   have D:f.getD k 0=0:=by simp [aP,aU (show f.length<=k by omega)]
   rw [D,C2 (n:=a.getD k 0) (by omega) (by omega),Int.sub_zero]
  ·rintro d R ⟨q,rfl⟩
   obtain rfl:d=C0 (a.getD k 0-c-f.getD k 0):=by simpa using q
   refine ⟨_,rfl,by omega,by omega,?_⟩
   refine R1 (k:=.u32) (zs:=zs) (i:=(k:Int)) K5 (by rw [aD];omega) ?_
   rw [aD,Y5,Xf,E4,B7 (n:=(k:Int)+1) (by omega) (by omega),Zb (by omega)]
   refine ⟨⟨k+1,_,zs.set k ((a.getD k 0-c-f.getD k 0)%18446744073709551616%4294967296),rfl,by omega,by simpa using g,t.set (A3s _),by omega,rfl,?_⟩,by simp only [iAt,aH,aR];omega⟩
   rw [C7 (by omega),F0,aI,aJ (by omega),aQ,H,L,u]
   have key:(a.getD k 0-c-f.getD k 0)%18446744073709551616%4294967296=a.getD k 0-c-f.getD k 0+4294967296*((a.getD k 0-c-f.getD k 0)%18446744073709551616/4294967296%2):=by omega
   rw [key]
   grind
 ·have p:k=a.length:=by omega
  subst p
  rw [aM,aN (show f.length<=a.length by omega),aN (show zs.length<=a.length by omega)] at u
  have r:c=0:=by
   have j:=L5 (by decide) t
   rw [g] at j
   by_cases E:c=0
   ·exact E
   ·have:c=1:=by omega
    subst this
    omega
  subst r
  rw [<- g]
  refine Y8 (Dl _ _ _ _ _) t (aW _) (by omega) ?_
  intro m N w
  have e:val b32 zs=val b32 a-val b32 f:=by omega
  rw [e] at w
  exact ⟨_,_,_,rfl,hK _ _ _ _ (V8 z _) N w⟩
def B44{xs:List Int}{i:Nat}(hi:i<xs.length):xs.drop i=xs.getD i 0::xs.drop (i+1):=by
 rw [bV hi];simp [aP,hi]
def Mq(B:Int){xs:List Int}{i:Nat}(hi:i<xs.length):val B (xs.drop i)=xs.getD i 0+B*val B (xs.drop (i+1)):=by
 rw [B44 hi];rfl
def V7{xs:List Int}{i:Nat}{v:Int}(hi:i<xs.length):(xs.set i v).drop i=v::xs.drop (i+1):=by
 rw [bV (by simpa using hi)]
 simp [List.drop_set_of_lt]
def Nf{x d:Int}{an:Nat}(ma:Mg h A an x)(hd0:0<d/\d<4294967296)(hl:an<=100000000)(hK:∀ A' m c' h',h.le h'->m<=c'->m<=an->Mg h' A' m (x/d)->K (.tuple #[.slice A' m c',U32 (x%d)]) h'):FCall prog Gg #[.slice A an ac,U32 d] h K:=by
 obtain ⟨a,rfl,H,M,O,rfl⟩:=ma
 refine A54 _ _ _ _ ?_
 unfold A55
 refine J7 Pv (by omega) (by omega) (by omega) ?_
 intro b y
 rw [aD]
 refine ⟨_,_,_,rfl,?_⟩
 refine ⟨fun l h'=>∃ (k:Nat) (r:Int) (zs:List Int),l=[U r,I ((k:Int)-1)]/\k<=a.length/\zs.length=a.length/\Dig b32 zs/\(0<=r/\r<d)/\h'=blk .u32 C3 h b zs/\val b32 (a.drop k)=val b32 (zs.drop k)*d+r,fun l _=>(iAt l 1+1).toNat,⟨a.length,0,_,by rw [B7 (by omega) (by omega)],by omega,by simp,I0 (by decide) _,by omega,rfl,by simp [val]⟩,?_⟩
 rintro r i Q ⟨k,L,zs,u,N,c,z,g,rfl,f⟩
 obtain ⟨rfl,rfl⟩:r=L/\i=(k:Int)-1:=by simpa using u
 have t:=V8 (k:=.u32) (e:=C3) y zs
 refine B6 (fun E=>?_) (fun E=>?_)
 ·obtain ⟨j,rfl⟩:∃ j,k=j+1:=⟨k-1,by omega⟩
  have e:((j+1:Nat):Int)-1=(j:Int):=by omega
  rw [e]
  have F:=Bv M j
  refine (H.mono t).load rfl (by omega) (by omega) ?_
  rw [aD]
  have G:C0 d=d:=C2 (by omega) (by omega)
  have B:bor .u64 (C0 (r*2^(min ((32:Int)).toNat 64))) (C0 (a.getD j 0))=r*4294967296+a.getD j 0:=by
   rw [show (2:Int)^(min ((32:Int)).toNat 64)=4294967296 by decide,C2 (n:=a.getD j 0) (by omega) (by omega),C2 (n:=r*4294967296) (by omega) (by omega)]
   exact A1t (by omega) F
  rw [G,B]
  have o:0<=r*4294967296+a.getD j 0:=by omega
  have C:Int.tdiv (r*4294967296+a.getD j 0) d=(r*4294967296+a.getD j 0)/d:=bN o
  have D:Int.tmod (r*4294967296+a.getD j 0) d=(r*4294967296+a.getD j 0)%d:=bM o
  rw [C,D]
  have q:0<=(r*4294967296+a.getD j 0)/d/\(r*4294967296+a.getD j 0)/d<4294967296:=by
   constructor
   ·exact aZ o (by omega)
   ·apply aV (by omega)
    have:(r+1)*4294967296<=d*4294967296:=aC (by omega) (by decide)
    omega
  refine B6 (fun e=>absurd e (by omega)) (fun _=>?_)
  refine ⟨_,rfl,by omega,by omega,?_⟩
  refine R1 (k:=.u32) (zs:=zs) (i:=(j:Int)) K5 (by rw [aD];omega) ?_
  rw [aD,C2 (by omega) (by omega),O1 (by omega) (by omega),B7 (by omega) (by omega)]
  refine B6 (fun e=>absurd e (by omega)) (fun _=>?_)
  refine ⟨⟨j,_,zs.set j ((r*4294967296+a.getD j 0)/d),rfl,by omega,by simpa using c,z.set q,⟨aY _ (by omega),aT _ (by omega)⟩,rfl,?_⟩,by simp only [iAt,aH,aR];omega⟩
  rw [V7 (by omega),Mq b32 (by omega),f]
  have:=aS (r*4294967296+a.getD j 0) d
  simp only [val]
  grind
 ·have p:k=0:=by omega
  subst p
  rw [List.drop_zero,List.drop_zero] at f
  rw [<- c]
  refine Y8 (Dl _ _ _ _ _) z (aW _) (by omega) ?_
  intro m J w
  have q:val b32 a/d=val b32 zs:=by
   rw [f,Int.add_comm,bZ _ _ (by omega),bX g.1 g.2,Int.zero_add]
  have s:val b32 a%d=r:=by
   rw [f,Int.add_comm,Int.add_mul_emod_self_right,Int.emod_eq_of_lt g.1 g.2]
  rw [<- q] at w
  rw [O1 (by omega) (by omega),<- s]
  exact ⟨_,_,_,rfl,hK _ _ _ _ (V8 y _) J (by omega) w⟩
end
def C3g{a b:Int}(ha:0<=a/\a<4294967296)(hb:0<=b/\b<4294967296):0<=a*b/\a*b<=18446744065119617025:=by
 refine ⟨aG ha.1 hb.1,?_⟩
 have:=bO (show a<=4294967295 by omega) (show b<=4294967295 by omega) hb.1 (by decide)
 omega
def E5{xs ys:List Int}{i:Nat}(h:xs.drop i=ys.drop i):xs.getD i 0=ys.getD i 0:=by
 have a:(xs.drop i)[0]? = (ys.drop i)[0]? :=by rw [h]
 simp at a
 simp [aP,a]
def D6{xs ys:List Int}{i:Nat}(h:xs.drop i=ys.drop i):xs.drop (i+1)=ys.drop (i+1):=by
 rw [<- bB,<- bB,h]
def D3{xs:List Int}{i j:Nat}{v:Int}(h:i<j):(xs.set i v).drop j=xs.drop j:=List.drop_set_of_lt h
section
variable {h g:Heap} {K:VP} {A B:Option Addr} {ac bc:Nat}
def Uz{x y:Int}{an bn:Nat}(ma:Mg h A an x)(mb:Mg h B bn y)(hl:an<=100000000)(hl2:bn<=100000000)(hK:∀ A' m c' h',h.le h'->m<=c'->Mg h' A' m (x*y)->K (.slice A' m c') h'):FCall prog Oj #[.slice A an ac,.slice B bn bc] h K:=by
 have D:=ma.len_zero (by decide)
 have z:=mb.len_zero (by decide)
 obtain ⟨d,rfl,sx,dx,nx,rfl⟩:=ma
 obtain ⟨a,rfl,sy,X,ny,rfl⟩:=mb
 refine B11 _ _ _ _ _ _ ?_
 unfold B5m
 refine D8 (fun S=>?_) (fun hx=>D8 (fun S=>?_) (fun hy=>?_))
 ·have:=hK none 0 0 h (B3 h) (aW _) (by rw [D.2 (by omega),Int.zero_mul];exact Mag.zero)
  exact this
 ·have:=hK none 0 0 h (B3 h) (aW _) (by rw [z.2 (by omega),bH];exact Mag.zero)
  exact this
 have e1:B4 ((d.length:Int)+a.length)=((d.length+a.length:Nat):Int):=by rw [B7 (by omega) (by omega)];omega
 rw [e1]
 refine J7 Pv (by omega) (by omega) (by omega) ?_
 intro b M
 rw [aD]
 refine ⟨_,_,_,rfl,?_⟩
 refine ⟨fun l h'=>∃ (k:Nat) (zs:List Int),l=[I k]/\k<=d.length/\zs.length=d.length+a.length/\Dig b32 zs/\h'=blk .u32 C3 h b zs/\zs.drop (k+a.length)=bL (d.length-k) 0/\val b32 (zs.take (k+a.length))=val b32 (d.take k)*val b32 a,fun l _=>d.length-(iAt l 0).toNat,⟨0,_,rfl,by omega,by simp,I0 (by decide) _,rfl,by simp,?_⟩,?_⟩
 ·rw [List.take_replicate,Cl];simp [val]
 rintro i hp ⟨k,f,C,hk,g,s,rfl,r,u⟩
 obtain rfl:=sI1 C
 refine B6 (fun V=>?_) (fun V=>?_)
 ·have W:=Bv dx k
  have vx:=C4 b32 d k
  refine ⟨fun l h'=>∃ (m:Nat) (c:Int) (zs:List Int),l=[U c,I m]/\m<=a.length/\zs.length=d.length+a.length/\Dig b32 zs/\(0<=c/\c<4294967296)/\h'=blk .u32 C3 h b zs/\zs.drop (k+m)=f.drop (k+m)/\val b32 (zs.take (k+m))+c*b32^(k+m)=val b32 (f.take (k+m))+b32^k*(d.getD k 0*val b32 (a.take m)),fun l _=>a.length-(iAt l 1).toNat,⟨0,0,f,rfl,by omega,g,s,by omega,rfl,rfl,by simp [val]⟩,?_⟩
  rintro c j T ⟨m,c',zs,H,N,p,E,Q,rfl,q,O⟩
  obtain ⟨rfl,rfl⟩:c=c'/\j=(m:Int):=by simpa using H
  have t:=V8 (k:=.u32) (e:=C3) M zs
  refine B6 (fun R=>?_) (fun R=>?_)
  ·have gy:=Bv X m
   have vy:=C4 b32 a m
   have gz:=Bv E (k+m)
   have G:=E5 q
   have Z:=C4 b32 f (k+m)
   have o:B4 ((k:Int)+m)=((k+m:Nat):Int):=by rw [B7 (by omega) (by omega)];omega
   rw [o]
   refine (sx.mono t).load rfl (by omega) (by omega) ?_
   refine (sy.mono t).load rfl (by omega) (by omega) ?_
   refine (Dl .u32 C3 h b zs).load p.symm (by omega) (by omega) ?_
   simp only [aD]
   have hp:=C3g W gy
   have ec:C0 (c+C0 (C0 (C0 (d.getD k 0)*C0 (a.getD m 0))+C0 (zs.getD (k+m) 0)))=c+(d.getD k 0*a.getD m 0+zs.getD (k+m) 0):=by
    rw [C2 (n:=d.getD k 0) (by omega) (by omega),C2 (n:=a.getD m 0) (by omega) (by omega),C2 (n:=zs.getD (k+m) 0) (by omega) (by omega),C2 (n:=d.getD k 0*a.getD m 0) (by omega) (by omega),C2 (n:=d.getD k 0*a.getD m 0+zs.getD (k+m) 0) (by omega) (by omega),C2 (by omega) (by omega)]
   rw [ec]
   refine ⟨_,rfl,by omega,by omega,?_⟩
   refine R1 (k:=.u32) (zs:=zs) (i:=((k+m:Nat):Int)) K5 (by rw [aD];omega) ?_
   rw [aD,Y5,Xf,B7 (n:=(m:Int)+1) (by omega) (by omega)]
   refine ⟨⟨m+1,_,zs.set (k+m) ((c+(d.getD k 0*a.getD m 0+zs.getD (k+m) 0))%4294967296),rfl,by omega,by simpa using p,E.set (A3s _),by omega,rfl,?_,?_⟩,by simp only [iAt,aH,aR];omega⟩
   ·rw [D3 (by omega)];exact D6 q
   ·rw [<- Nat.add_assoc,C7 (by omega),F0,aI,aJ (by omega),aQ,Cf,vy,Z,<- G]
    have:b32^(k+m)=b32^k*b32^m:=Int.pow_add _ _ _
    grind
  ·have F:m=a.length:=by omega
   subst F
   have o:B4 ((k:Int)+a.length)=((k+a.length:Nat):Int):=by rw [B7 (by omega) (by omega)];omega
   rw [o]
   refine ⟨_,rfl,by omega,by omega,?_⟩
   refine R1 (k:=.u32) (zs:=zs) (i:=((k+a.length:Nat):Int)) K5 (by rw [aD];omega) ?_
   rw [aD,O1 (by omega) (by omega),B7 (n:=(k:Int)+1) (by omega) (by omega)]
   have J:k+1+a.length=k+a.length+1:=by omega
   refine ⟨⟨k+1,zs.set (k+a.length) c,rfl,by omega,by simpa using p,E.set Q,rfl,?_,?_⟩,by simp only [iAt,aH];omega⟩
   ·rw [J,D3 (by omega),D6 q,<- bB,r,List.drop_replicate]
    congr 1
   ·rw [J,C7 (by omega),F0,aI,aJ (by omega)]
    rw [aM] at O
    rw [vx]
    grind
 ·have w:k=d.length:=by omega
  subst w
  rw [aM,aN (show f.length<=d.length+a.length by omega)] at u
  rw [<- g]
  refine Y8 (Dl _ _ _ _ _) s (aW _) (by omega) ?_
  intro m N L
  rw [u] at L
  exact ⟨_,_,_,rfl,hK _ _ _ _ (V8 M _) N L⟩
def A8d{x z:Int}{s:Nat}(hs:s<=32)(_hx:0<=x/\x<4294967296)(hz:0<=z/\z<(2:Int)^s):
 bor .u32 z (x*2^s%4294967296)=z+x*2^s%4294967296/\z+x*2^s%4294967296<4294967296:=by
 have j:(2:Int)^s*2^(32-s)=4294967296:=by
  rw [<- Int.pow_add,show s+(32-s)=32 by omega];decide
 have c:0<(2:Int)^s:=aX (by decide)
 have i:0<(2:Int)^(32-s):=aX (by decide)
 have a:z<4294967296:=by
  have:(2:Int)^s*1<=2^s*2^(32-s):=aE (by omega) (by omega)
  omega
 have k:x*2^s%4294967296=2^s*(x%2^(32-s)):=by
  rw [<- j,aO x,bW _ _ c]
 have d:=A3s (x*2^s)
 have b:bor .u32 z (x*2^s%4294967296)=z+x*2^s%4294967296:=by
  rw [C3w ⟨hz.1,a⟩ d]
  have f:0<=x%2^(32-s):=aY _ (by omega)
  have g:(x*2^s%4294967296).toNat=2^s*(x%2^(32-s)).toNat:=by
   rw [k,Int.toNat_mul (by omega) f]
   rw [Int.toNat_pow_of_nonneg (by decide)];rfl
  have e:z.toNat<2^s:=by
   have:((2^s:Nat):Int)=(2:Int)^s:=by simp
   omega
  rw [g,Nat.or_comm,A8e e,<- g]
  omega
 refine ⟨b,?_⟩
 rw [<- b,C3w ⟨hz.1,a⟩ d]
 have:z.toNat ||| (x*2^s%4294967296).toNat<2^32:=Nat.or_lt_two_pow (by omega) (by have:=d.2;show _<_;omega)
 omega
def Ki{xs:List Int}{s:Nat}(sx:SlI .u32 h A xs)(dx:Dig b32 xs)(hs:s<32)(hl:xs.length<=100000000)(hK:∀ b zs,h b=none->zs.length=xs.length+1->Dig b32 zs->val b32 zs=val b32 xs*2^s->K (.slice (some ⟨b,0,none⟩) (xs.length+1) (xs.length+1)) (blk .u32 C3 h b zs)):FCall prog De #[.slice A xs.length ac,U s] h K:=by
 refine A28 _ _ _ _ ?_
 unfold Zo
 have G:B4 ((xs.length:Int)+1)=((xs.length+1:Nat):Int):=by rw [B7 (by omega) (by omega)];omega
 rw [G]
 refine J7 Pv (by omega) (by omega) (by omega) ?_
 intro b t
 rw [aD]
 refine ⟨_,_,_,rfl,?_⟩
 have c:0<(2:Int)^s:=aX (by decide)
 have w:(2:Int)^s<=2147483648:=by
  have:=C8 (B:=2) (by decide) (show s<=31 by omega)
  have e:(2:Int)^31=2147483648:=by decide
  omega
 refine ⟨fun l J=>∃ (k:Nat) (zs:List Int),l=[I k]/\k<=xs.length/\zs.length=xs.length+1/\Dig b32 zs/\J=blk .u32 C3 h b zs/\zs.drop (k+1)=bL (xs.length-k) 0/\zs.getD k 0<2^s/\val b32 (zs.take (k+1))=val b32 (xs.take k)*2^s,fun l _=>xs.length-(iAt l 0).toNat,⟨0,_,rfl,by omega,by simp,I0 (by decide) _,rfl,by simp,by simpa using c,by simp [val]⟩,?_⟩
 rintro i N ⟨k,zs,q,M,a,r,rfl,p,x,d⟩
 obtain rfl:=sI1 q
 have m:=V8 (k:=.u32) (e:=C3) t zs
 refine B6 (fun C=>?_) (fun C=>?_)
 ·have j:=Bv dx k
  have z:=Bv r k
  have H:=C4 b32 xs k
  have F:=C4 b32 zs k
  refine (sx.mono m).load rfl (by omega) (by omega) ?_
  refine B6 (fun e=>absurd e (by omega)) (fun _=>?_)
  refine (Dl .u32 C3 h b zs).load a.symm (by omega) (by omega) ?_
  simp only [aD]
  obtain ⟨D,E⟩:=A8d (Nat.le_of_lt hs) j ⟨z.1,x⟩
  have o:0<=xs.getD k 0*2^s:=aG j.1 (by omega)
  have f:xs.getD k 0*2^s<4294967296*2^s:=Int.mul_lt_mul_of_pos_right j.2 c
  have ev:C0 (C0 (xs.getD k 0)*2^(min s 64))=xs.getD k 0*2^s:=by
   rw [C2 (n:=xs.getD k 0) (by omega) (by omega),aJ (by omega),C2 (by omega) (by omega)]
  rw [ev]
  refine ⟨_,rfl,by omega,by omega,?_⟩
  refine R1 (k:=.u32) (zs:=zs) (i:=(k:Int)) K5 (by rw [aD];omega) ?_
  rw [aD,Y5 (xs.getD k 0*2^s),D,Xf]
  have y:B4 ((k:Int)+1)=((k+1:Nat):Int):=by rw [B7 (by omega) (by omega)];omega
  rw [y]
  have u:0<=xs.getD k 0*2^s/4294967296/\xs.getD k 0*2^s/4294967296<2^s:=⟨aZ o (by decide),aV (by decide) (by rw [aO (2^s)];exact f)⟩
  refine ⟨_,rfl,by omega,by omega,?_⟩
  refine R1 (k:=.u32) (zs:=zs.set k (zs.getD k 0+xs.getD k 0*2^s%4294967296)) (i:=((k+1:Nat):Int)) K5 (by rw [aD,bD];omega) ?_
  rw [aD,O1 (by omega) (by omega)]
  have L:=A3s (xs.getD k 0*2^s)
  refine ⟨⟨k+1,(zs.set k (zs.getD k 0+xs.getD k 0*2^s%4294967296)).set (k+1) (xs.getD k 0*2^s/4294967296),rfl,by omega,by simpa using a,(r.set ⟨by omega,E⟩).set ⟨u.1,by show _<(4294967296:Int);omega⟩,rfl,?_,?_,?_⟩,by simp only [iAt,aH];omega⟩
  ·rw [D3 (by omega),D3 (by omega),<- bB,p,List.drop_replicate]
   congr 1
  ·have:((zs.set k (zs.getD k 0+xs.getD k 0*2^s%4294967296)).set (k+1) (xs.getD k 0*2^s/4294967296)).getD (k+1) 0=xs.getD k 0*2^s/4294967296:=by
    rw [aP,List.getElem?_set_self (by rw [bD];omega)];rfl
   rw [this];exact u.2
  ·rw [C7 (by rw [bD];omega),F0,C7 (by omega),F0]
   simp only [aI,aK,List.length_singleton]
   rw [aJ (show k<=zs.length by omega),aQ,H]
   have:=Int.emod_add_mul_ediv (xs.getD k 0*2^s) 4294967296
   rw [F] at d
   grind
 ·have g:k=xs.length:=by omega
  subst g
  rw [aM,aN (by omega)] at d
  exact hK b zs t a r d
end
structure Est (B P top u2 ul v1 v2 vl U V:Int):Prop where
 hB:1<B
 hP:0<P
 hU:U=(top*B+u2)*P+ul
 hV:V=(v1*B+v2)*P+vl
 u2r:0<=u2/\u2<B
 ulr:0<=ul/\ul<P
 v2r:0<=v2/\v2<B
 vlr:0<=vl/\vl<P
 top0:0<=top
 v1r:B<=2*v1/\v1<B
 lt:U<V*B
section
variable {B P top u2 ul v1 v2 vl U V:Int}
def Est.U0(e:Est B P top u2 ul v1 v2 vl U V):0<=U:=by
 obtain ⟨i,j,k,l,d,g,f,b,a,c,lt⟩:=e
 have m:0<=top*B:=aG a (by omega)
 have:0<=(top*B+u2)*P:=aG (by omega) (by omega)
 omega
def Est.V0(e:Est B P top u2 ul v1 v2 vl U V):0<V:=by
 obtain ⟨j,c,k,l,f,i,g,b,a,d,lt⟩:=e
 have m:0<v1*B:=bI (by omega) (by omega)
 have:0<(v1*B+v2)*P:=bI (by omega) c
 omega
def Est.V2(e:Est B P top u2 ul v1 v2 vl U V):B<=v1*B+v2:=by
 obtain ⟨i,j,k,l,d,g,f,b,a,c,lt⟩:=e
 have:1*B<=v1*B:=aC (by omega) (by omega)
 omega
def Est.low(e:Est B P top u2 ul v1 v2 vl U V){q:Int}(h0:0<=q)(h:top*B+u2<q*(v1*B+v2)):U<q*V:=by
 obtain ⟨j,k,l,d,f,i,g,a,b,c,lt⟩:=e
 have p:(top*B+u2+1)*P<=q*(v1*B+v2)*P:=aC (by omega) (by omega)
 have n:0<=q*vl:=aG h0 a.1
 have m:q*V=q*(v1*B+v2)*P+q*vl:=by rw [d];grind
 have o:(top*B+u2+1)*P=(top*B+u2)*P+P:=by grind
 omega
def Est.big(e:Est B P top u2 ul v1 v2 vl U V){q:Int}(h:B<=q):U<q*V:=by
 have:=aC h (aL e.V0)
 have:=e.lt
 rw [aO V] at this
 omega
def Est.init(e:Est B P top u2 ul v1 v2 vl U V):U<(top/v1+1)*V:=by
 obtain ⟨n,c,k,l,m,g,b,i,a,d,lt⟩:=e
 have r:0<=top/v1:=aZ a (by omega)
 have j:top+1<=(top/v1+1)*v1:=by
  have:=aS top v1
  have:=aT top (show 0<v1 by omega)
  grind
 have f:0<B*P:=bI (by omega) c
 have p:(top+1)*(B*P)<=(top/v1+1)*v1*(B*P):=aC j (by omega)
 have t:0<=(top/v1+1)*(v2*P+vl):=aG (by omega) (by have:=aG b.1 (aL c);omega)
 have u:(top/v1+1)*V=(top/v1+1)*v1*(B*P)+(top/v1+1)*(v2*P+vl):=by rw [l];grind
 have w:(top+1)*(B*P)=top*B*P+B*P:=by grind
 have s:(u2+1)*P<=B*P:=aC (by omega) (by omega)
 have o:U=top*B*P+u2*P+ul:=by rw [k];grind
 have q:(u2+1)*P=u2*P+P:=by grind
 omega
def Est.up(e:Est B P top u2 ul v1 v2 vl U V){q:Int}(hq:q<=B)(h:q*(v1*B+v2)<=top*B+u2):(q-1)*V<=U:=by
 have k:=e.V2
 have c:=e.V0
 have i:=e.U0
 obtain ⟨m,n,o,f,j,l,g,b,a,d,lt⟩:=e
 by_cases u:q<=0
 ·have:(q-1)*V<=0:=Int.mul_nonpos_of_nonpos_of_nonneg (by omega) (by omega)
  omega
 ·have p:(q-1)*vl<=(q-1)*P:=aE (by omega) (by omega)
  have r:(q*(v1*B+v2))*P<=(top*B+u2)*P:=aC h (by omega)
  have s:(q-1)*V=(q*(v1*B+v2))*P-(v1*B+v2)*P+(q-1)*vl:=by rw [f];grind
  have t:(q-1)*P<=(v1*B+v2)*P:=aC (by omega) (by omega)
  omega
def Est.first(e:Est B P top u2 ul v1 v2 vl U V):top<(v1+1)*B/\top/v1<=B+1:=by
 obtain ⟨p,d,f,j,a,o,k,c,b,g,lt⟩:=e
 have l:0<B*P:=bI (by omega) d
 have r:top*(B*P)<=U:=by
  have:0<=u2*P:=aG a.1 (by omega)
  have:U=top*(B*P)+u2*P+ul:=by rw [f];grind
  omega
 have q:V<(v1+1)*(B*P):=by
  have i:(v2+1)*P<=B*P:=aC (by omega) (by omega)
  have:V=v1*(B*P)+v2*P+vl:=by rw [j];grind
  have:(v1+1)*(B*P)=v1*(B*P)+B*P:=by grind
  have:(v2+1)*P=v2*P+P:=by grind
  omega
 have i:V*B<=(v1+1)*(B*P)*B:=aC (by omega) (by omega)
 have m:top*(B*P)<(v1+1)*B*(B*P):=by
  have:(v1+1)*(B*P)*B=(v1+1)*B*(B*P):=by grind
  omega
 have n:top<(v1+1)*B:=Int.lt_of_mul_lt_mul_right m (by omega)
 refine ⟨n,?_⟩
 have:top/v1<B+2:=by
  apply aV (by omega)
  have:(v1+1)*B=v1*B+B:=by grind
  have:v1*(B+2)=v1*B+2*v1:=by grind
  have:(B+2)*v1=v1*B+2*v1:=by grind
  omega
 omega
end
def Ak(k:IntKind)(e:TypeId)(g:Heap)(bu:Nat)(us:List Int)(bq:Nat)(qs:List Int):Heap:=blk k e (blk k e g bu us) bq qs
section
variable {k:IntKind} {e:TypeId} {g:Heap} {bu bq:Nat} {us qs:List Int}
def Rd(hu:g bu=none)(hq:g bq=none)(hne:bu≠bq):g.le (Ak k e g bu us bq qs):=
 Heap.le_trans (V8 hu us) (V8 (by unfold blk;rw [B8 _ _ hne.symm];exact hq) qs)
def Iu(hne:bu≠bq):Ak k e g bu us bq qs=blk k e (blk k e g bq qs) bu us:=by
 unfold Ak blk;exact Heap.put_comm g _ _ hne
def Wa(hne:bu≠bq):SlI k (Ak k e g bu us bq qs) (some ⟨bu,0,none⟩) us:=by
 rw [Iu hne];exact Dl k e _ bu us
def B9j:SlI k (Ak k e g bu us bq qs) (some ⟨bq,0,none⟩) qs:=Dl k e _ bq qs
def O7{P:Program}{t:TypeId}(one:P.cellsOf t=1/\(P.info? t).isSome=true)(hne:bu≠bq){n i:Int}(hi:i.toNat<us.length){K:Unit->Heap->Prop}
 (x:K () (Ak k e g bu (us.set i.toNat n) bq qs)):wpH P (Instr.storeAt t (.pointer (some (Addr.add ⟨bu,0,none⟩ (i.toNat*1)))) (.int k n)) K (Ak k e g bu us bq qs):=by
 rw [Iu hne]
 rw [Iu hne] at x
 exact R1 one hi x
def Wb{P:Program}{t:TypeId}(one:P.cellsOf t=1/\(P.info? t).isSome=true){n i:Int}(hi:i.toNat<qs.length){K:Unit->Heap->Prop}
 (x:K () (Ak k e g bu us bq (qs.set i.toNat n))):wpH P (Instr.storeAt t (.pointer (some (Addr.add ⟨bq,0,none⟩ (i.toNat*1)))) (.int k n)) K (Ak k e g bu us bq qs):=
 R1 one hi x
end
def A41{xs:List Int}{j i:Nat}:(xs.drop j).getD i 0=xs.getD (j+i) 0:=by simp [aP]
section
variable {g:Heap} {bu bq:Nat} {us qs:List Int} {VA:Option Addr} {vs:List Int}
def B7k{n j:Nat}{J:LP}{hp:Heap}{UA:Option Addr}{top u2 ul v1 v2 vl X Y P:Int}{t87 t96:Int}(es:Est 4294967296 P top u2 ul v1 v2 vl X Y)(sv:SlI .u32 hp VA vs)(su:SlI .u32 hp UA us)(hn:n=vs.length)(hn2:2<=n)(hul:j+n<us.length)(hbig:us.length<=200000000)
 (hv1:vs.getD (n-1) 0=v1) (hv2:vs.getD (n-2) 0=v2) (hu2:us.getD (j+n-2) 0=u2) (h87:0<=t87/\t87<4294967296) (h96:0<=t96/\t96<4294967296) (htop:top=t87*4294967296+t96)
 (hJ:∀ q,0<=q->q<=4294967296->X<(q+1)*Y->(q-1)*Y<=X->J [U q] hp):Rj prog VA n UA us.length j t87 t96 v1 v1 J hp:=by
 obtain ⟨f1,f2⟩:=es.first
 have u:=es.init
 have T:=es.V0
 have O:=es.U0
 have L:=es.v1r
 have g:=es.v2r
 have D:=es.u2r
 have c:=es.top0
 have z:bor .u64 (C0 (C0 t87*2^(min ((32:Int)).toNat 64))) (C0 t96)=top:=by
  rw [show (2:Int)^(min ((32:Int)).toNat 64)=4294967296 by decide,C2 (n:=t87) (by omega) (by omega),C2 (n:=t96) (by omega) (by omega),C2 (n:=t87*4294967296) (by omega) (by omega),A1t h87 h96,htop]
 have i:C0 v1=v1:=C2 (by omega) (by omega)
 unfold Rj
 rw [z,i,bN c,bM c]
 have E:0<=top/v1:=aZ c (by omega)
 have w:=aS top v1
 have B:=aY top (show v1≠0 by omega)
 have aa:=aT top (show 0<v1 by omega)
 refine ⟨fun l x=>∃ q r:Int,l=[U q,U r]/\x=hp/\0<=q/\q<=4294967297/\0<=r/\r<4294967296/\q*v1+r=top/\X<(q+1)*Y,fun l _=>match l with|[.int _ q,_]=>q.toNat|_=>0,⟨_,_,rfl,rfl,?_,?_,B,by omega,?_,?_⟩,?_⟩
 ·rw [C2 (by omega) (by omega)];exact E
 ·rw [C2 (by omega) (by omega)];omega
 ·rw [C2 (by omega) (by omega),aO];exact w
 ·rw [C2 (by omega) (by omega)];exact u
 rintro q r f ⟨V,Z,S,rfl,G,R,N,o,k,y⟩
 obtain ⟨rfl,rfl⟩:q=V/\r=Z:=by simpa using S
 have m:B4 ((n:Int)-1)=((n-1:Nat):Int):=by rw [B7 (by omega) (by omega)];omega
 have C:B4 ((n:Int)-2)=((n-2:Nat):Int):=by rw [B7 (by omega) (by omega)];omega
 have s:B4 (B4 ((j:Int)+(n:Int))-2)=((j+n-2:Nat):Int):=by rw [B7 (n:=(j:Int)+n) (by omega) (by omega),B7 (by omega) (by omega)];omega
 refine ⟨fun l x=>l=[]/\x=f/\X<q*Y,?_,?_⟩
 ·refine B6 (fun F=>⟨rfl,rfl,es.big F⟩) (fun F=>?_)
  rw [C,s]
  refine sv.load hn (by omega) (by omega) ?_
  refine su.load rfl (by omega) (by omega) ?_
  rw [aD,aD,hv2,hu2]
  have hp:=C3g (a:=q) (b:=v2) (by omega) g
  have t:C0 (q*C0 v2)=q*v2:=by rw [C2 (n:=v2) (by omega) (by omega),C2 (by omega) (by omega)]
  have A:bor .u64 (C0 (r*2^(min ((32:Int)).toNat 64))) (C0 u2)=r*4294967296+u2:=by
   rw [show (2:Int)^(min ((32:Int)).toNat 64)=4294967296 by decide,C2 (n:=u2) (by omega) (by omega),C2 (n:=r*4294967296) (by omega) (by omega),A1t ⟨N,o⟩ D]
  rw [t,A]
  have key:q*(v1*4294967296+v2)=(top-r)*4294967296+q*v2:=by rw [<- k];grind
  refine B6 (fun M=>⟨rfl,rfl,es.low G (by omega)⟩) (fun M=>?_)
  refine hJ q G (by omega) y (es.up (by omega) (by omega))
 ·rintro H ⟨_,rfl,p⟩
  have W:1<=q:=by
   by_cases Q:1<=q
   ·exact Q
   ·have:q=0:=by omega
    subst this;omega
  rw [m]
  refine sv.load hn (by omega) (by omega) ?_
  rw [aD,hv1,i,C2 (n:=r+v1) (by omega) (by omega),C2 (n:=q-1) (by omega) (by omega)]
  have e:X<(q-1+1)*Y:=by rw [Int.sub_add_cancel];exact p
  have d:(q-1)*v1+(r+v1)=top:=by grind
  refine B6 (fun h3=>?_) (fun h3=>?_)
  ·have key:(q-1)*(v1*4294967296+v2)=(top-(r+v1))*4294967296+(q-1)*v2:=by rw [<- d];grind
   have hb:(q-1)*v2<=4294967296*v2:=aC (by omega) g.1
   exact hJ (q-1) (by omega) (by omega) e (es.up (by omega) (by omega))
  ·exact ⟨⟨q-1,r+v1,rfl,rfl,by omega,by omega,by omega,by omega,d,e⟩,by simp only;omega⟩
end
def G1(B:Int)(xs:List Int)(i:Nat):val B (xs.take (i+1))=val B (xs.take i)+B^i*xs.getD i 0:=by
 by_cases a:i<xs.length
 ·exact O3 B a
 ·rw [aN (by omega),aN (by omega)]
  simp [aP,aU (Nat.le_of_not_lt a)]
def B6h(B:Int){vs:List Int}{m:Nat}(hn:vs.length=m+2):val B vs=(vs.getD (m+1) 0*B+vs.getD m 0)*B^m+val B (vs.take m):=by
 have a:=G1 B vs (m+1)
 have b:=G1 B vs m
 rw [show m+1+1=vs.length by omega,aM] at a
 rw [a,b,aQ]
 grind
def B6g(B:Int){us:List Int}{m:Nat}(hn:us.length=m+3):val B us=((us.getD (m+2) 0*B+us.getD (m+1) 0)*B+us.getD m 0)*B^m+val B (us.take m):=by
 have a:=G1 B us (m+2)
 have c:=G1 B us (m+1)
 have b:=G1 B us m
 rw [show m+2+1=us.length by omega,aM] at a
 rw [show m+2=m+1+1 by omega] at a
 rw [a,c,b,aQ,aQ]
 grind
def B9e{B:Int}(hB:1<B){us vs:List Int}{m:Nat}(du:Dig B us)(dv:Dig B vs)(hu:us.length=m+3)(hv:vs.length=m+2)(h1:B<=2*vs.getD (m+1) 0)(hlt:val B us<val B vs*B):
 Est B (B^m) (us.getD (m+2) 0*B+us.getD (m+1) 0) (us.getD m 0) (val B (us.take m)) (vs.getD (m+1) 0) (vs.getD m 0) (val B (vs.take m)) (val B us) (val B vs):=by
 have a:0<B:=by omega
 have c:=L5 a (du.take m)
 have b:=L5 a (dv.take m)
 rw [aI,aJ (by omega)] at c b
 refine ⟨hB,aX a,B6g B hu,B6h B hv,du.getD a _,⟨C6 a (du.take m),c⟩,dv.getD a _,⟨C6 a (dv.take m),b⟩,?_,⟨h1,(dv.getD a _).2⟩,hlt⟩
 have:=aG (du.getD a (m+2)).1 (aL a)
 have:=(du.getD a (m+1)).1
 omega
def Est.top{B P top u2 ul v1 v2 vl U V:Int}(e:Est B P top u2 ul v1 v2 vl U V)(h:v1*B<=top):(B-1-1)*V<=U/\U<(B-1+1)*V:=by
 have k:=e.lt
 obtain ⟨m,n,o,g,i,l,j,d,a,f,lt⟩:=e
 constructor
 ·have r:v1*B*B*P<=U:=by
   have c:v1*B*B<=top*B:=aC h (by omega)
   have b:v1*B*B*P<=(top*B+u2)*P:=aC (by omega) (by omega)
   omega
  have c:V<=(v1+1)*B*P:=by
   have b:(v2+1)*P<=B*P:=aC (by omega) (by omega)
   have:V=v1*B*P+v2*P+vl:=by rw [g];grind
   have:(v1+1)*B*P=v1*B*P+B*P:=by grind
   have:(v2+1)*P=v2*P+P:=by grind
   omega
  have b:(B-1-1)*V<=(B-1-1)*((v1+1)*B*P):=aE c (by omega)
  have p:(B-1-1)*((v1+1)*B*P)=v1*B*B*P-(2*v1+2-B)*(B*P):=by grind
  have q:0<=(2*v1+2-B)*(B*P):=aG (by omega) (aG (by omega) (by omega))
  omega
 ·rw [Int.sub_add_cancel,aO];exact k
structure LS (F S first second u0 v0 u1 v1 u2 v2:Int) (odd:Bool):Prop where
 hF:F=v2*first+v1*second
 hS:S=u2*first+u1*second
 det:u1*v2-u2*v1=if odd then -1 else 1
 ord:0<=second/\second<=first
 st:(u0=0/\v0=0/\u1=1/\v1=0/\u2=0/\v2=1)\/
  (((u0=1/\v0=0/\u1=0/\v1=1/\0<=u2/\u2<=v2/\1<=u2)\/(0<=u0/\u0<=v0/\1<=v0/\1<=u1/\u1<=v1/\1<=u2/\u2<=v2))/\
   (u0*v1-u1*v0=if odd then 1 else -1)/\∃ f0,F=v1*f0+v0*first/\S=u1*f0+u0*first/\v0+v1<=f0-first/\v1<=first)
def LS.init{F S:Int}(h0:0<=S)(h:S<=F):LS F S F S 0 0 1 0 0 1 false:=
 ⟨by omega,by omega,by simp,⟨h0,h⟩,.inl ⟨rfl,rfl,rfl,rfl,rfl,rfl⟩⟩
def LS.v2pos{F S first second u0 v0 u1 v1 u2 v2:Int}{odd:Bool}(l:LS F S first second u0 v0 u1 v1 u2 v2 odd):1<=v2/\0<=v1/\0<=u1/\0<=u2/\0<=u0/\0<=v0:=by
 obtain ⟨d,e,b,c,a⟩:=l
 rcases a with a|⟨a,_⟩<;>omega
def LS.step{F S first second u0 v0 u1 v1 u2 v2:Int}{odd:Bool}(l:LS F S first second u0 v0 u1 v1 u2 v2 odd)(h1:v2<=second)(h2:v1+v2<=first-second):
 LS F S second (first%second) u1 v1 u2 v2 (u1+first/second*u2) (v1+first/second*v2) (!odd):=by
 have p:=l.v2pos
 obtain ⟨g,i,a,m,c⟩:=l
 have f:0<second:=by omega
 have e:1<=first/second:=by
  rw [Int.le_ediv_iff_mul_le f];omega
 have b:=aS first second
 have d:=aY first (show second≠0 by omega)
 have k:=aT first f
 have n:u2<=first/second*u2:=by
  have:=aC e (show 0<=u2 by omega);omega
 have o:v2<=first/second*v2:=by
  have:=aC e (show 0<=v2 by omega);omega
 have j:first/second*u2<=first/second*v2:=aE (by omega) (by omega)
 refine ⟨?_,?_,?_,⟨d,by omega⟩,.inr ⟨?_,?_,first,?_,?_,by omega,h1⟩⟩
 ·rw [g]
  generalize hq':first/second=q at *
  generalize first%second=r at *
  subst b
  grind
 ·rw [i]
  generalize hq':first/second=q at *
  generalize first%second=r at *
  subst b
  grind
 ·cases odd<;>simp at a ⊢ <;> grind
 ·rcases c with c|⟨c,_⟩
  ·left
   obtain ⟨rfl,rfl,rfl,rfl,rfl,rfl⟩:=c
   omega
  ·right;omega
 ·cases odd<;>simp at a ⊢ <;> omega
 ·rw [g]
 ·rw [i]
def LS.bound{F S first second u0 v0 u1 v1 u2 v2:Int}{odd:Bool}(l:LS F S first second u0 v0 u1 v1 u2 v2 odd)(hf:1<=first):v2<=F/\u2<=F/\u2<=v2:=by
 have f:=l.v2pos
 obtain ⟨g,d,a,c,b⟩:=l
 have i:v2*1<=v2*first:=aE hf (by omega)
 have e:0<=v1*second:=aG (by omega) (by omega)
 clear a d
 rcases b with b|⟨b,_⟩<;>omega
def LS.bound2{F S first second u0 v0 u1 v1 u2 v2:Int}{odd:Bool}(l:LS F S first second u0 v0 u1 v1 u2 v2 odd)(hs:1<=second):v1+v2<=F:=by
 have e:=l.v2pos
 obtain ⟨f,g,a,b,c⟩:=l
 have i:v2*1<=v2*first:=aE (by omega) (by omega)
 have d:v1*1<=v1*second:=aE hs (by omega)
 clear c
 omega
structure Leh (a b u0 v0 u1 v1 X0 X1:Int):Prop where
 ord:0<=X1/\X1<X0
 ha:a=v1*X0+v0*X1
 hb:b=u1*X0+u0*X1
 le:X0<=b
def Lc(a b u0 v0:Int)(odd:Bool):Int:=if odd then u0*a-v0*b else v0*b-u0*a
def Lb(a b u1 v1:Int)(odd:Bool):Int:=if odd then v1*b-u1*a else u1*a-v1*b
def LS.leh{F S first second u0 v0 u1 v1 u2 v2 a b al bl W:Int}{odd:Bool}(l:LS F S first second u0 v0 u1 v1 u2 v2 odd)(hv0:v0≠0)(hW:0<W)(ha:a=F*W+al)(hb:b=S*W+bl)(hal:0<=al/\al<W)(hbl:0<=bl/\bl<W):
 Leh a b u0 v0 u1 v1 (Lc a b u0 v0 odd) (Lb a b u1 v1 odd):=by
 have V:=l.v2pos
 obtain ⟨hF,hS,y,A,w⟩:=l
 rcases w with w|⟨w,c,i,n,k,D,p⟩
 ·omega
 have B:0<=u0/\u0<=v0/\1<=v0/\1<=u1/\u1<=v1:=by omega
 have t:u0*F-v0*S=(u0*v1-u1*v0)*i:=by rw [n,k];grind
 have s:u1*F-v1*S=(u1*v0-u0*v1)*first:=by rw [n,k];grind
 have O:first*W>=v1*W:=aC p (by omega)
 have N:(i-first)*W>=(v0+v1)*W:=aC D (by omega)
 have X:v1*bl<=v1*W:=aE (by omega) (by omega)
 have G:u1*al<=u1*W:=aE (by omega) (by omega)
 have T:u1*W<=v1*W:=aC (by omega) (by omega)
 have H:0<=u1*al:=aG (by omega) (by omega)
 have R:0<=v1*bl:=aG (by omega) (by omega)
 have M:(v0+v1)*(bl+1)<=(v0+v1)*W:=aE (by omega) (by omega)
 have Z:(u0+u1)*(al+1)<=(u0+u1)*W:=aE (by omega) (by omega)
 have J:(u0+u1)*W<=(v0+v1)*W:=aC (by omega) (by omega)
 have q9:0<=(u0+u1)*al:=aG (by omega) (by omega)
 have x:0<=(v0+v1)*bl:=aG (by omega) (by omega)
 have j:∀ X0 X1:Int,0<=X1->X1<X0->b=u1*X0+u0*X1->X0<=b:=by
  intro X0 X1 z L e
  have E:1*X0<=u1*X0:=aC (by omega) (by omega)
  have Q:0<=u0*X1:=aG (by omega) z
  omega
 cases odd with
 | true=>
  simp only [Lc,Lb,if_true] at c ⊢
  have C:v1*b-u1*a=first*W+v1*bl-u1*al:=by
   rw [c.symm.symm] at t
   have:v1*S-u1*F=first:=by
    have:u1*v0-u0*v1= -1:=by omega
    rw [this] at s;omega
   rw [ha,hb,<- this];grind
  have q:u0*a-v0*b-(v1*b-u1*a)=(i-first)*W+(u0+u1)*al-(v0+v1)*bl:=by
   have u:u0*F-v0*S=i:=by rw [c] at t;omega
   have o:v1*S-u1*F=first:=by
    have:u1*v0-u0*v1= -1:=by omega
    rw [this] at s;omega
   rw [ha,hb,<- u,<- o];grind
  have g:0<=v1*b-u1*a:=by omega
  have f:v1*b-u1*a<u0*a-v0*b:=by
   have:(v0+v1)*(bl+1)=(v0+v1)*bl+(v0+v1):=by grind
   omega
  have r:a=v1*(u0*a-v0*b)+v0*(v1*b-u1*a):=by
   have:v1*(u0*a-v0*b)+v0*(v1*b-u1*a)=(u0*v1-u1*v0)*a:=by grind
   rw [this,c];omega
  have m:b=u1*(u0*a-v0*b)+u0*(v1*b-u1*a):=by
   have:u1*(u0*a-v0*b)+u0*(v1*b-u1*a)=(u0*v1-u1*v0)*b:=by grind
   rw [this,c];omega
  exact ⟨⟨g,f⟩,r,m,j _ _ g f m⟩
 | false=>
  simp only [Lc,Lb,Bool.false_eq_true,if_false] at c ⊢
  have u:v0*S-u0*F=i:=by rw [c] at t;omega
  have o:u1*F-v1*S=first:=by
   have:u1*v0-u0*v1=1:=by omega
   rw [this] at s;omega
  have C:u1*a-v1*b=first*W+u1*al-v1*bl:=by
   rw [ha,hb,<- o];grind
  have q:v0*b-u0*a-(u1*a-v1*b)=(i-first)*W+(v0+v1)*bl-(u0+u1)*al:=by
   rw [ha,hb,<- u,<- o];grind
  have g:0<=u1*a-v1*b:=by omega
  have f:u1*a-v1*b<v0*b-u0*a:=by
   have:(u0+u1)*(al+1)=(u0+u1)*al+(u0+u1):=by grind
   omega
  have r:a=v1*(v0*b-u0*a)+v0*(u1*a-v1*b):=by
   have:v1*(v0*b-u0*a)+v0*(u1*a-v1*b)=(u1*v0-u0*v1)*a:=by grind
   have d:u1*v0-u0*v1=1:=by omega
   rw [this,d];omega
  have m:b=u1*(v0*b-u0*a)+u0*(u1*a-v1*b):=by
   have:u1*(v0*b-u0*a)+u0*(u1*a-v1*b)=(u1*v0-u0*v1)*b:=by grind
   have d:u1*v0-u0*v1=1:=by omega
   rw [this,d];omega
  exact ⟨⟨g,f⟩,r,m,j _ _ g f m⟩
def Leh.gcd{a b u0 v0 u1 v1:Int}{odd:Bool}(l:Leh a b u0 v0 u1 v1 (Lc a b u0 v0 odd) (Lb a b u1 v1 odd)):bK (Lc a b u0 v0 odd) (Lb a b u1 v1 odd)=bK a b:=by
 apply Nat.dvd_antisymm
 ·have g:=l.ha
  have f:=l.hb
  generalize Lc a b u0 v0 odd=p at *
  generalize Lb a b u1 v1 odd=q at *
  have dp:(bK p q:Int)∣p:=Int.gcd_dvd_left p q
  have e:(bK p q:Int)∣q:=Int.gcd_dvd_right p q
  rw [<- Int.ofNat_dvd]
  apply Int.dvd_coe_gcd
  ·rw [g];exact Int.dvd_add (aF dp) (aF e)
  ·rw [f];exact Int.dvd_add (aF dp) (aF e)
 ·have c:(bK a b:Int)∣a:=Int.gcd_dvd_left a b
  have d:(bK a b:Int)∣b:=Int.gcd_dvd_right a b
  rw [<- Int.ofNat_dvd]
  apply Int.dvd_coe_gcd
  ·unfold Lc;split
   ·exact bJ (aF c) (aF d)
   ·exact bJ (aF d) (aF c)
  ·unfold Lb;split
   ·exact bJ (aF d) (aF c)
   ·exact bJ (aF c) (aF d)
def Ga(pre ws:List Int)(i:Nat):(pre++ws).getD (i+pre.length) 0=ws.getD i 0:=by
 simp [aP,List.getElem?_append_right (Nat.le_add_left pre.length i)]
def Kw(pre ws:List Int)(i:Nat)(v:Int):(pre++ws).set (i+pre.length) v=pre++ws.set i v:=by
 rw [List.set_append_right _ _ (by omega),Nat.add_sub_cancel]
def Dq{B:Int}(hB:0<B){ws:List Int}{n:Nat}(d:Dig B ws)(h:val B ws<B^n):val B (ws.drop n)=0:=by
 by_cases b:n<=ws.length
 ·have f:=F3 B ws b
  have e:=C6 hB (d.take n)
  have c:=C6 hB (d.drop n)
  by_cases a:val B (ws.drop n)=0
  ·exact a
  ·have:B^n*1<=B^n*val B (ws.drop n):=aE (by omega) (aL (D5 hB n))
   omega
 ·rw [bC (by omega)];rfl
section
variable {g:Heap} {bu bq:Nat} {pre qs:List Int} {VA:Option Addr} {vs:List Int}
def B4l{n N:Nat}{ws:List Int}{q:Int}{J:LP}(hu:g bu=none)(hq:g bq=none)(hne:bu≠bq)(sv:SlI .u32 g VA vs)(dv:Dig b32 vs)(hn:n=vs.length)(dw:Dig b32 ws)(hN:N=(pre++ws).length)(hl:n<ws.length)(hbig:N<=200000000)
 (hD:val b32 (ws.take n)+val b32 vs<2*b32^n) (hD0:b32^n<=val b32 (ws.take n)+val b32 vs) (htop:ws.getD n 0=4294967295)
 (hJ:∀ ws',ws'.length=ws.length->Dig b32 ws'->ws'.drop (n+1)=ws.drop (n+1)->ws'.getD n 0=0->val b32 (ws'.take n)=val b32 (ws.take n)+val b32 vs-b32^n->J [U (C0 (q-1))] (Ak .u32 C3 g bu (pre++ws') bq qs)):
 Rh prog VA n (some ⟨bu,0,none⟩) N (pre.length:Int) q J (Ak .u32 C3 g bu (pre++ws) bq qs):=by
 unfold Rh
 refine ⟨fun l E=>∃ (k:Nat) (c:Int) (zs:List Int),l=[U c,I k]/\k<=n/\zs.length=ws.length/\Dig b32 zs/\(0<=c/\c<=1)/\E=Ak .u32 C3 g bu (pre++zs) bq qs/\zs.drop k=ws.drop k/\val b32 (zs.take k)+c*b32^k=val b32 (ws.take k)+val b32 (vs.take k),fun l _=>n-(iAt l 1).toNat,⟨0,0,ws,rfl,by omega,rfl,dw,by omega,rfl,rfl,by simp [val]⟩,?_⟩
 rintro c i R ⟨k,z,zs,u,H,b,f,L,rfl,a,y⟩
 obtain ⟨rfl,rfl⟩:c=z/\i=(k:Int):=by simpa using u
 have p:g.le (Ak .u32 C3 g bu (pre++zs) bq qs):=Rd hu hq hne
 have x:SlI .u32 (Ak .u32 C3 g bu (pre++zs) bq qs) (some ⟨bu,0,none⟩) (pre++zs):=Wa hne
 have d:N=(pre++zs).length:=by rw [hN,aK,aK,b]
 have F:N=pre.length+zs.length:=by rw [d,aK]
 have w:B4 ((k:Int)+pre.length)=((k+pre.length:Nat):Int):=by rw [B7 (by omega) (by omega)];omega
 have m:B4 ((pre.length:Int)+n)=((n+pre.length:Nat):Int):=by rw [B7 (by omega) (by omega)];omega
 refine B6 (fun D=>?_) (fun D=>?_)
 ·have Q:=Bv dv k
  have M:=Bv f k
  have e:=E5 a
  have C:=C4 b32 vs k
  have G:=C4 b32 ws k
  rw [w]
  refine x.load d (by omega) (by omega) ?_
  refine (sv.mono p).load hn (by omega) (by omega) ?_
  simp only [aD,Ga]
  have A:C0 (c+C0 (C0 (zs.getD k 0)+C0 (vs.getD k 0)))=c+zs.getD k 0+vs.getD k 0:=by
   rw [C2 (n:=zs.getD k 0) (by omega) (by omega),C2 (n:=vs.getD k 0) (by omega) (by omega),C2 (n:=zs.getD k 0+vs.getD k 0) (by omega) (by omega),C2 (by omega) (by omega)];omega
  rw [A]
  refine ⟨_,rfl,by omega,by omega,?_⟩
  refine O7 (us:=pre++zs) (i:=((k+pre.length:Nat):Int)) K5 hne (by rw [aD];omega) ?_
  rw [aD,Kw,Y5,Xf,B7 (n:=(k:Int)+1) (by omega) (by omega)]
  refine ⟨⟨k+1,_,zs.set k ((c+zs.getD k 0+vs.getD k 0)%4294967296),rfl,by omega,by simpa using b,f.set (A3s _),by omega,rfl,?_,?_⟩,by simp only [iAt,aH,aR];omega⟩
  ·rw [D3 (by omega)];exact D6 a
  ·rw [C7 (by omega),F0,aI,aJ (by omega),aQ,Cf,C,G,<- e]
   grind
 ·have t:k=n:=by omega
  subst t
  have e:=E5 a
  rw [m]
  refine x.load d (by omega) (by omega) ?_
  rw [aD,Ga,e,htop]
  refine ⟨_,rfl,by omega,by omega,?_⟩
  refine O7 (us:=pre++zs) (i:=((k+pre.length:Nat):Int)) K5 hne (by rw [aD];omega) ?_
  rw [aD,Kw]
  have j:vs.take k=vs:=by rw [hn,aM]
  rw [j] at y
  have s:=L5 (by decide) (f.take k)
  rw [aI,aJ (by omega)] at s
  have O:=C6 (by decide) (f.take k)
  have r:c=1:=by
   by_cases o:c=0
   ·subst o;omega
   ·omega
  subst r
  have B:F6 (4294967295+F6 1)=0:=by rw [O1 (n:=1) (by omega) (by omega),Y5];omega
  rw [B]
  refine hJ (zs.set k 0) (by simpa using b) (f.set (by decide)) (by rw [D3 (by omega)];exact D6 a) (by simp [aP,show k<zs.length by omega]) ?_
  rw [bG (by omega)]
  omega
def B0g{n N nq:Nat}{ws:List Int}{q X Y:Int}{J:LP}(hu:g bu=none)(hq:g bq=none)(hne:bu≠bq)(sv:SlI .u32 g VA vs)(dv:Dig b32 vs)(hn:n=vs.length)(dw:Dig b32 ws)(hN:N=(pre++ws).length)(hl:n<ws.length)(hbig:N<=200000000)
 (hnq:nq=qs.length) (hjq:pre.length<qs.length)
 (hX:X=val b32 (ws.take n)+b32^n*ws.getD n 0) (hY:Y=val b32 vs) (hq0:0<=q) (hq1:q<=4294967296) (hlt:X<(q+1)*Y) (hge:(q-1)*Y<=X) (hXB:X<Y*4294967296)
 (hJ:∀ ws' q',ws'.length=ws.length->Dig b32 ws'->ws'.drop (n+1)=ws.drop (n+1)->ws'.getD n 0=0->val b32 (ws'.take n)=X-q'*Y->0<=X-q'*Y->X-q'*Y<Y->0<=q'->q'<4294967296->J [] (Ak .u32 C3 g bu (pre++ws') bq (qs.set pre.length q'))):
 Ri prog VA n (some ⟨bu,0,none⟩) N (some ⟨bq,0,none⟩) nq (pre.length:Int) J q (Ak .u32 C3 g bu (pre++ws) bq qs):=by
 have ad:Y<b32^n:=by rw [hY,hn];exact L5 (by decide) dv
 have ai:0<=X:=by
  have w:=C6 (by decide) (dw.take n)
  have G:=aG (aL (D5 (B:=b32) (by decide) n)) (Bv dw n).1
  omega
 have A:0<Y:=by
  by_cases h0:0<Y
  ·exact h0
  ·have:Y=0:=by have:=C6 (by decide) dv;omega
   rw [this] at hXB;omega
 have E:∀ ws' q',ws'.length=ws.length->Dig b32 ws'->ws'.drop (n+1)=ws.drop (n+1)->ws'.getD n 0=0->val b32 (ws'.take n)=X-q'*Y->0<=X-q'*Y->X-q'*Y<Y->0<=q'->Rl prog (some ⟨bq,0,none⟩) nq (pre.length:Int) J q' (Ak .u32 C3 g bu (pre++ws') bq qs):=by
  intro ws' q' w G h3 h4 h5 h6 h7 h8
  have u:q'<4294967296:=by
   by_cases m:q'<4294967296
   ·exact m
   ·have:=aC (show 4294967296<=q' by omega) (aL A)
    rw [aO Y] at hXB;omega
  unfold Rl
  refine ⟨_,rfl,by omega,by omega,?_⟩
  refine Wb (i:=(pre.length:Int)) K5 (by rw [aD];omega) ?_
  rw [aD,O1 h8 (by omega)]
  exact hJ ws' q' w G h3 h4 h5 h6 h7 h8 u
 unfold Ri
 refine ⟨fun l V=>∃ (k:Nat) (c b:Int) (zs:List Int),l=[U c,U b,I k]/\k<=n/\zs.length=ws.length/\Dig b32 zs/\(0<=c/\c<4294967296)/\(0<=b/\b<=1)/\V=Ak .u32 C3 g bu (pre++zs) bq qs/\zs.drop k=ws.drop k/\val b32 (zs.take k)=val b32 (ws.take k)-q*val b32 (vs.take k)+(c+b)*b32^k,fun l _=>n-(iAt l 2).toNat,⟨0,0,0,ws,rfl,by omega,rfl,dw,by omega,by omega,rfl,rfl,by simp [val]⟩,?_⟩
 rintro c b i hp ⟨k,c',b',zs,Z,hk,f,o,m,hb,rfl,d,C⟩
 obtain ⟨rfl,rfl,rfl⟩:c=c'/\b=b'/\i=(k:Int):=by simpa using Z
 have R:g.le (Ak .u32 C3 g bu (pre++zs) bq qs):=Rd hu hq hne
 have su:SlI .u32 (Ak .u32 C3 g bu (pre++zs) bq qs) (some ⟨bu,0,none⟩) (pre++zs):=Wa hne
 have j:N=(pre++zs).length:=by rw [hN,aK,aK,f]
 have ah:N=pre.length+zs.length:=by rw [j,aK]
 have aa:B4 ((k:Int)+pre.length)=((k+pre.length:Nat):Int):=by rw [B7 (by omega) (by omega)];omega
 have H:B4 ((pre.length:Int)+n)=((n+pre.length:Nat):Int):=by rw [B7 (by omega) (by omega)];omega
 refine B6 (fun w=>?_) (fun w=>?_)
 ·have gv:=Bv dv k
  have gz:=Bv o k
  have r:=E5 d
  have vv:=C4 b32 vs k
  have vw:=C4 b32 ws k
  refine (sv.mono R).load hn (by omega) (by omega) ?_
  rw [aa]
  refine su.load j (by omega) (by omega) ?_
  simp only [aD,Ga]
  have hm:0<=q*vs.getD k 0/\q*vs.getD k 0<=4294967296*4294967295:=⟨aG hq0 gv.1,bO hq1 (by omega) gv.1 (by decide)⟩
  have ep:C0 (C0 (q*C0 (vs.getD k 0))+c)=q*vs.getD k 0+c:=by
   rw [C2 (n:=vs.getD k 0) (by omega) (by omega),C2 (n:=q*vs.getD k 0) (by omega) (by omega),C2 (by omega) (by omega)]
  rw [ep,Cg (by omega),Xf,Xf,C2 (n:=zs.getD k 0) (by omega) (by omega)]
  generalize y:q*vs.getD k 0+c=p at *
  have ag:0<=p/\p<18446744073709551616:=by omega
  have Q:C0 (C0 (zs.getD k 0-p%4294967296)-b)=(zs.getD k 0-p%4294967296-b)%18446744073709551616:=by
   rw [E4,E4];omega
  rw [Q,Zb (by omega)]
  refine ⟨_,rfl,by omega,by omega,?_⟩
  refine O7 (us:=pre++zs) (i:=((k+pre.length:Nat):Int)) K5 hne (by rw [aD];omega) ?_
  rw [aD,Kw,Y5,B7 (n:=(k:Int)+1) (by omega) (by omega)]
  refine ⟨⟨k+1,_,_,zs.set k ((zs.getD k 0-p%4294967296-b)%18446744073709551616%4294967296),rfl,by omega,by simpa using f,o.set (A3s _),by omega,by omega,rfl,?_,?_⟩,by simp only [iAt,aH,aR];omega⟩
  ·rw [D3 (by omega)];exact D6 d
  ·rw [C7 (by omega),F0,aI,aJ (by omega),aQ,vv,vw,<- r,C]
   have key:(zs.getD k 0-p%4294967296-b)%18446744073709551616%4294967296=zs.getD k 0-p-b+4294967296*(p/4294967296+(zs.getD k 0-p%4294967296-b)%18446744073709551616/4294967296%2):=by omega
   rw [key,<- y]
   grind
 ·have W:k=n:=by omega
  subst W
  have r:=E5 d
  have gz:=Bv o k
  have D:vs.take k=vs:=by rw [hn,aM]
  rw [D,<- hY] at C
  have T:=L5 (by decide) (o.take k)
  rw [aI,aJ (by omega)] at T
  have aj:=C6 (by decide) (o.take k)
  rw [H]
  refine su.load j (by omega) (by omega) ?_
  rw [aD,Ga]
  have hD:X-q*Y=val b32 (zs.take k)+(zs.getD k 0-c-b)*b32^k:=by
   rw [C,hX,r];grind
  have t:X-q*Y<Y:=by
   have:(q+1)*Y=q*Y+Y:=by grind
   omega
  have af: -Y<=X-q*Y:=by
   have:(q-1)*Y=q*Y-Y:=by grind
   omega
  have y:0<b32^k:=D5 (by decide) k
  have a:zs.getD k 0-c-b=0\/zs.getD k 0-c-b= -1:=by
   have G:zs.getD k 0-c-b<1:=by
    by_cases m:zs.getD k 0-c-b<1
    ·exact m
    ·have:=aC (show 1<=zs.getD k 0-c-b by omega) (aL y);omega
   have h3: -2<zs.getD k 0-c-b:=by
    by_cases m: -2<zs.getD k 0-c-b
    ·exact m
    ·have:=aC (show zs.getD k 0-c-b <= -2 by omega) (aL y);omega
   omega
  have Q:C0 (C0 (C0 (zs.getD k 0)-c)-b)=(zs.getD k 0-c-b)%18446744073709551616:=by
   rw [C2 (n:=zs.getD k 0) (by omega) (by omega),E4,E4];omega
  rw [Q]
  have z:∀ x:Int,Int.fdiv x (2^(min ((63:Int)).toNat 64))=x/9223372036854775808:=by
   intro x;rw [show (2:Int)^(min ((63:Int)).toNat 64)=9223372036854775808 by decide];exact bU x (by decide)
  refine ⟨_,rfl,by omega,by omega,?_⟩
  refine O7 (us:=pre++zs) (i:=((k+pre.length:Nat):Int)) K5 hne (by rw [aD];omega) ?_
  rw [aD,Kw,Y5,z]
  have s:∀ v,(zs.set k v).getD k 0=v:=by intro v;simp [aP,show k<zs.length by omega]
  refine ⟨fun l V=>∃ ws' q',l=[U q']/\V=Ak .u32 C3 g bu (pre++ws') bq qs/\ws'.length=ws.length/\Dig b32 ws'/\ws'.drop (k+1)=ws.drop (k+1)/\ws'.getD k 0=0/\val b32 (ws'.take k)=X-q'*Y/\0<=X-q'*Y/\X-q'*Y<Y/\0<=q',?_,?_⟩
  ·rcases a with a|a
   ·rw [a] at hD ⊢
    refine D8 (fun e=>absurd e (by decide)) (fun _=>?_)
    refine ⟨zs.set k (0%18446744073709551616%4294967296),q,rfl,rfl,by simpa using f,o.set (by decide),by rw [D3 (by omega)];exact D6 d,s _,?_,by omega,t,hq0⟩
    rw [bG (by omega)];omega
   ·rw [a] at hD ⊢
    refine D8 (fun _=>?_) (fun e=>absurd (by decide) e)
    have ac:1<=q:=by
     by_cases m:1<=q
     ·exact m
     ·have:q=0:=by omega
      subst this;omega
    have O:(zs.set k (-1%18446744073709551616%4294967296)).take k=zs.take k:=bG (by omega)
    have e1:(q-1)*Y=q*Y-Y:=by grind
    refine B4l (ws:=zs.set k (-1%18446744073709551616%4294967296)) hu hq hne sv dv hn (o.set (by decide)) (by rw [j];simp) (by simpa using (show k<zs.length by omega)) hbig ?_ ?_ (s _) ?_
    ·rw [O,<- hY];omega
    ·rw [O,<- hY];omega
    ·intro ws' g1 F g3 S L
     rw [O,<- hY] at L
     rw [C2 (n:=q-1) (by omega) (by omega)]
     refine ⟨ws',q-1,rfl,rfl,by rw [g1];simpa using f,F,?_,S,by omega,by omega,by omega,by omega⟩
     rw [g3,D3 (by omega)];exact D6 d
  ·rintro q2 ae ⟨ws',q',M,rfl,g1,F,g3,S,L,g6,g7,g8⟩
   obtain rfl:q2=q':=by simpa using M
   exact E ws' q2 g1 F g3 S L g6 g7 g8
end
def A2o(B:Int)(xs:List Int)(i:Nat):val B (xs.drop i)=xs.getD i 0+B*val B (xs.drop (i+1)):=by
 by_cases a:i<xs.length
 ·exact Mq B a
 ·rw [bC (by omega),bC (by omega)]
  simp [val,aP,aU (Nat.le_of_not_lt a)]
def Na{s:Nat}(hs:s<=32):(2:Int)^s*2^(32-s)=4294967296:=by
 rw [<- Int.pow_add,show s+(32-s)=32 by omega];decide
section
variable {h g:Heap} {K:VP} {A B:Option Addr} {ac bc:Nat} {bu bq:Nat} {VA:Option Addr} {vs us0:List Int}
def B2j{s nq cq rn cr:Nat}{rs tl qs:List Int}{Q R:Int}(hu:g bu=none)(hq:g bq=none)(hne:bu≠bq)(hs:s<32)(hrn:rn=rs.length)(hcr:rn<=cr)(hnq:nq=qs.length)(hcq:nq<=cq)(dq:Dig b32 qs)(dr:Dig b32 rs)(hb1:nq<=200000000)(hb2:rn<=200000000)(hQ:val b32 qs=Q)(hR:val b32 rs=R*2^s)
 (hK:∀ A1 m1 c1 A2 m2 c2 h',g.le h'->m1<=c1->m2<=c2->Mg h' A1 m1 Q->Mg h' A2 m2 R->K (.tuple #[.slice A1 m1 c1,.slice A2 m2 c2]) h'):
 Ke prog K (s:Int) (some ⟨bq,0,none⟩) nq cq (some ⟨bu,0,none⟩) rn cr (Ak .u32 C3 g bu (rs++tl) bq qs):=by
 have t:0<(2:Int)^s:=aX (by decide)
 have d:=Na (Nat.le_of_lt hs)
 have r:0<(2:Int)^(32-s):=aX (by decide)
 unfold Ke
 refine ⟨fun l h'=>∃ (k:Nat) (zs:List Int),l=[I k]/\k<=rn/\zs.length=rs.length/\Dig b32 zs/\h'=Ak .u32 C3 g bu (zs++tl) bq qs/\zs.drop k=rs.drop k/\2^s*val b32 (zs.take k)+rs.getD 0 0%2^s=val b32 (rs.take k)+b32^k*(rs.getD k 0%2^s),fun l _=>rn-(iAt l 0).toNat,⟨0,rs,rfl,by omega,rfl,dr,rfl,rfl,by simp [val]⟩,?_⟩
 rintro i ac ⟨k,zs,J,hk,a,y,rfl,b,x⟩
 obtain rfl:=sI1 J
 have w:∀ zs:List Int,SlI .u32 (Ak .u32 C3 g bu (zs++tl) bq qs) (some ⟨bu,0,none⟩) zs:=by
  intro zs
  have:=(Wa (g:=g) (k:=.u32) (e:=C3) (us:=zs++tl) (qs:=qs) hne).cut (c:=(zs++tl).length) (l:=0) (m:=zs.length) (by omega) (by simp) (aW _)
  simpa [H8] using this
 have G:B4 ((k:Int)+1)=((k+1:Nat):Int):=by rw [B7 (by omega) (by omega)];omega
 have M:=Bv y k
 have u:=E5 b
 refine B6 (fun N=>?_) (fun N=>?_)
 ·refine (w zs).load (by omega) (by omega) (by omega) ?_
  refine B6 (fun e=>absurd e (by omega)) (fun _=>?_)
  refine ⟨_,rfl,by omega,by omega,?_⟩
  simp only [aD]
  rw [aJ (by omega),bU _ (aL t)]
  refine O7 (us:=zs++tl) (i:=(k:Int)) K5 hne (by rw [aD,aK];omega) ?_
  rw [aD,List.set_append_left _ _ (by omega),G]
  have f:0<=zs.getD k 0/2^s:=aZ M.1 (by omega)
  have H:zs.getD k 0/2^s<2^(32-s):=by
   apply aV t
   rw [aO,d];exact M.2
  have q:(2:Int)^(32-s)<=4294967296:=by
   rw [<- d]
   have:=aC (show 1<=(2:Int)^s by omega) (aL r);omega
  have d1:Dig b32 (zs.set k (zs.getD k 0/2^s)):=y.set ⟨f,by show _<(4294967296:Int);omega⟩
  have l1:(zs.set k (zs.getD k 0/2^s)).length=rs.length:=by rw [bD];exact a
  have g1:(zs.set k (zs.getD k 0/2^s)).getD k 0=zs.getD k 0/2^s:=by simp [aP,show k<zs.length by omega]
  have V:(zs.set k (zs.getD k 0/2^s)).getD (k+1) 0=rs.getD (k+1) 0:=by
   rw [A64 (by omega)];exact E5 (D6 b)
  have X:=C4 b32 rs k
  have j:∀ z:Int,(0<=z/\z<4294967296)->2^s*z=zs.getD k 0-zs.getD k 0%2^s+4294967296*(rs.getD (k+1) 0%2^s)->
   2^s*val b32 ((zs.set k z).take (k+1))+rs.getD 0 0%2^s=val b32 (rs.take (k+1))+b32^(k+1)*(rs.getD (k+1) 0%2^s):=by
   intro z hz ez
   rw [C7 (by omega),F0,aI,aJ (by omega),X,aQ,<- u]
   rw [<- u] at x
   have e1:2^s*(val b32 (zs.take k)+b32^k*z)=2^s*val b32 (zs.take k)+b32^k*(2^s*z):=by grind
   rw [e1,ez]
   grind
  have ad:=aS (zs.getD k 0) (2^s)
  refine B6 (fun T=>?_) (fun T=>?_)
  ·refine (w _).load (by omega) (by omega) (by omega) ?_
   refine (w _).load (by omega) (by omega) (by omega) ?_
   simp only [aD,g1,V]
   have W:C0 ((32:Int)-s)=((32-s:Nat):Int):=by rw [C2 (by omega) (by omega)];omega
   rw [W]
   refine B6 (fun e=>absurd e (by omega)) (fun _=>?_)
   refine ⟨_,rfl,by omega,by omega,?_⟩
   have S:=Bv dr (k+1)
   have L:0<=rs.getD (k+1) 0*2^(32-s):=aG S.1 (by omega)
   have B:rs.getD (k+1) 0*2^(32-s)<18446744073709551616:=by
    have:=bO (show rs.getD (k+1) 0<=4294967295 by omega) q (by omega) (by decide)
    omega
   rw [aD,aJ (show 32-s<=64 by omega),C2 (n:=rs.getD (k+1) 0) (by omega) (by omega),C2 L B,Y5]
   obtain ⟨o1,O⟩:=A8d (s:=32-s) (by omega) S ⟨f,H⟩
   rw [o1]
   refine O7 (us:=zs.set k (zs.getD k 0/2^s)++tl) (i:=(k:Int)) K5 hne (by rw [aD,aK];omega) ?_
   rw [aD,List.set_append_left _ _ (by omega),List.set_set]
   have ae:=A3s (rs.getD (k+1) 0*2^(32-s))
   refine ⟨⟨k+1,zs.set k (zs.getD k 0/2^s+rs.getD (k+1) 0*2^(32-s)%4294967296),rfl,by omega,by simpa using a,y.set ⟨by omega,O⟩,rfl,by rw [D3 (by omega)];exact D6 b,j _ ⟨by omega,O⟩ ?_⟩,by simp only [iAt,aH];omega⟩
   have Z:rs.getD (k+1) 0*2^(32-s)%4294967296=2^(32-s)*(rs.getD (k+1) 0%2^s):=by
    rw [<- d,aO (2^s),aO (rs.getD (k+1) 0),bW _ _ r]
   rw [Z,Int.mul_add,<- Int.mul_assoc,d]
   omega
  ·have E:k+1=rs.length:=by omega
   have D:rs.getD (k+1) 0=0:=by simp [aP,aU (show rs.length<=k+1 by omega)]
   refine ⟨⟨k+1,zs.set k (zs.getD k 0/2^s),rfl,by omega,l1,d1,rfl,by rw [D3 (by omega)];exact D6 b,j _ ⟨f,by omega⟩ ?_⟩,by simp only [iAt,aH];omega⟩
   rw [D,Int.zero_emod,bH,bY];omega
 ·have F:k=rs.length:=by omega
  subst F
  have D:rs.getD rs.length 0=0:=by simp [aP]
  rw [aM,<- a,aM,a,D] at x
  have A:val b32 zs=R:=by
   have h0:=aY (rs.getD 0 0) (show (2:Int)^s≠0 by omega)
   have N:=aT (rs.getD 0 0) t
   rw [hR] at x
   simp at x
   have:2^s*(R-val b32 zs)=rs.getD 0 0%2^s:=by
    have:2^s*(R-val b32 zs)=R*2^s-2^s*val b32 zs:=by grind
    simp only [aP] at *
    omega
   have hz:R-val b32 zs=0:=by
    by_cases hc:R-val b32 zs<=0
    ·by_cases C:R-val b32 zs=0
     ·exact C
     ·have:=aE (show R-val b32 zs <= -1 by omega) (aL t);omega
    ·have:=aE (show 1<=R-val b32 zs by omega) (aL t);omega
   omega
  rw [hnq]
  refine Y8 B9j dq (by omega) (by omega) ?_
  intro m1 af o
  refine ⟨_,_,_,rfl,?_⟩
  rw [hrn,<- a]
  refine Y8 (w zs) y (by omega) (by omega) ?_
  intro m2 aa p
  rw [hQ] at o
  rw [A] at p
  exact ⟨_,_,_,rfl,hK _ _ _ _ _ _ _ (Rd hu hq hne) (by omega) (by omega) o p⟩
def B0n{s mm N nq:Nat}{us0:List Int}{a b Y:Int}(hu:g bu=none)(hq:g bq=none)(hne:bu≠bq)(sv:SlI .u32 g VA vs)(dv:Dig b32 vs)(hn:vs.length=mm+2)(hv1:4294967296<=2*vs.getD (mm+1) 0)(hs:s<32)(hY:val b32 vs=Y)(hYb:Y=b*2^s)(du:Dig b32 us0)(hN:us0.length=N)(hua:val b32 us0=a*2^s)(hnq:N=nq+(mm+2))(hnq1:1<=nq)(hbig:N<=200000000)(htop:val b32 (us0.drop nq)<Y)
 (hK:∀ A1 m1 c1 A2 m2 c2 h',g.le h'->m1<=c1->m2<=c2->Mg h' A1 m1 (a/b)->Mg h' A2 m2 (a%b)->K (.tuple #[.slice A1 m1 c1,.slice A2 m2 c2]) h'):
 Rk prog K (s:Int) VA (mm+2) (some ⟨bu,0,none⟩) N N (some ⟨bq,0,none⟩) nq nq (Ak .u32 C3 g bu us0 bq (bL nq 0)):=by
 have hp:0<(2:Int)^s:=aX (by decide)
 have aq:Y<b32^(mm+2):=by rw [<- hY,<- hn];exact L5 (by decide) dv
 have av:0<Y:=by have:=C6 (by decide) (du.drop nq);omega
 have e0:B4 (B4 ((N:Int)-((mm+2:Nat):Int))-1)=(nq:Int)-1:=by rw [B7 (n:=(N:Int)-((mm+2:Nat):Int)) (by omega) (by omega),B7 (by omega) (by omega)];omega
 unfold Rk
 refine ⟨fun l h'=>∃ (k:Nat) (us qs:List Int),l=[I ((k:Int)-1)]/\k<=nq/\us.length=N/\qs.length=nq/\Dig b32 us/\Dig b32 qs/\h'=Ak .u32 C3 g bu us bq qs/\val b32 (us.drop k)<Y/\val b32 us0=val b32 (qs.drop k)*Y*b32^k+val b32 us,fun l _=>(iAt l 0+1).toNat,⟨nq,us0,_,by rw [e0],by omega,hN,by simp,du,I0 (by decide) _,rfl,htop,by simp [val]⟩,?_⟩
 rintro j ar ⟨k,us,qs,am,hk,o,A,f,L,rfl,ag,hv⟩
 obtain rfl:j=(k:Int)-1:=by simpa using am
 have z:g.le (Ak .u32 C3 g bu us bq qs):=Rd hu hq hne
 have S:SlI .u32 (Ak .u32 C3 g bu us bq qs) (some ⟨bu,0,none⟩) us:=Wa hne
 unfold Zr
 refine B6 (fun h1=>?_) (fun h1=>?_)
 ·obtain ⟨j,rfl⟩:∃ j,k=j+1:=⟨k-1,by omega⟩
  have ej:((j+1:Nat):Int)-1=(j:Int):=by omega
  rw [ej]
  have e1:B4 ((j:Int)+((mm+2:Nat):Int))=((j+(mm+2):Nat):Int):=by rw [B7 (by omega) (by omega)];omega
  have e2:B4 (((j+(mm+2):Nat):Int)-1)=((j+(mm+1):Nat):Int):=by rw [B7 (by omega) (by omega)];omega
  have e3:B4 (((mm+2:Nat):Int)-1)=((mm+1:Nat):Int):=by rw [B7 (by omega) (by omega)];omega
  rw [e1,e2,e3]
  have M:=f.drop j
  have E:(us.drop j).length=N-j:=by rw [List.length_drop,o]
  have ae:∀ i,(us.drop j).getD i 0=us.getD (j+i) 0:=fun i=>A41
  have t:val b32 ((us.drop j).drop (mm+3))=0:=by
   have:=Dq (B:=b32) (by decide) (n:=mm+2) (f.drop (j+1)) (by omega)
   rw [bB] at this ⊢
   rw [show j+(mm+3)=j+1+(mm+2) by omega];exact this
  have aj:=A2o b32 us j
  have C:val b32 (us.drop j)<Y*4294967296:=by
   have:=Bv f j
   rw [aj]
   have:b32*(val b32 (us.drop (j+1))+1)<=b32*Y:=aE (by omega) (by decide)
   have e:b32*(val b32 (us.drop (j+1))+1)=b32*val b32 (us.drop (j+1))+4294967296:=by show (4294967296:Int)*_=_;grind
   have e':Y*4294967296=b32*Y:=aO _ _
   omega
  have u:=F3 b32 (us.drop j) (i:=mm+3) (by omega)
  rw [t,bH,bY] at u
  have ah:=G1 b32 (us.drop j) (mm+2)
  have hX:val b32 (us.drop j)=val b32 ((us.drop j).take (mm+2))+b32^(mm+2)*(us.drop j).getD (mm+2) 0:=by rw [u];exact ah
  have es:=B9e (B:=b32) (by decide) (us:=(us.drop j).take (mm+3)) (m:=mm) (M.take _) dv (by rw [aI,E];omega) hn hv1 (by rw [<- u,hY];exact C)
  have gt:∀ i,i<mm+3->((us.drop j).take (mm+3)).getD i 0=us.getD (j+i) 0:=by
   intro i hi
   rw [<- ae];simp [aP,hi]
  rw [gt (mm+2) (by omega),gt (mm+1) (by omega),gt mm (by omega),<- u,hY] at es
  refine ⟨fun l h'=>∃ d r,l=[]/\h'=Ak .u32 C3 g bu d bq (qs.set j r)/\d.length=N/\Dig b32 d/\(0<=r/\r<4294967296)/\val b32 (d.drop j)<Y/\val b32 (d.drop j)=val b32 (us.drop j)-r*Y/\d.take j=us.take j,?_,?_⟩
  ·refine S.load o.symm (by omega) (by omega) ?_
   refine S.load o.symm (by omega) (by omega) ?_
   refine (sv.mono z).load hn.symm (by omega) (by omega) ?_
   simp only [aD]
   have ap:=Bv dv (mm+1)
   have ew:C0 (vs.getD (mm+1) 0)=vs.getD (mm+1) 0:=C2 (by omega) (by omega)
   refine B6 (fun e=>absurd (ew.symm.trans e) (by omega)) (fun _=>?_)
   refine (sv.mono z).load hn.symm (by omega) (by omega) ?_
   simp only [aD]
   refine B6 (fun e=>absurd (ew.symm.trans e) (by omega)) (fun _=>?_)
   refine ⟨fun l h'=>∃ q,l=[U q]/\h'=Ak .u32 C3 g bu us bq qs/\0<=q/\q<=4294967296/\val b32 (us.drop j)<(q+1)*Y/\(q-1)*Y<=val b32 (us.drop j),?_,?_⟩
   ·have:=B7k (us:=us) (vs:=vs) (n:=mm+2) (j:=j) (J:=fun l h'=>∃ q,l=[U q]/\h'=Ak .u32 C3 g bu us bq qs/\0<=q/\q<=4294967296/\val b32 (us.drop j)<(q+1)*Y/\(q-1)*Y<=val b32 (us.drop j)) es (sv.mono z) S hn.symm (by omega) (by omega) (by omega) rfl rfl (by rw [show j+(mm+2)-2=j+mm by omega]) (Bv f (j+(mm+2))) (Bv f (j+(mm+1))) rfl (fun q q0 q1 q2 q3=>⟨q,rfl,rfl,q0,q1,q2,q3⟩)
    rw [o] at this
    exact this
   ·rintro q au ⟨r,ad,rfl,ai,af,R,Q⟩
    obtain rfl:q=r:=by simpa using ad
    unfold Zp
    have p:(us.take j).length=j:=by rw [aI,o];omega
    have:=B0g (g:=g) (bu:=bu) (bq:=bq) (pre:=us.take j) (qs:=qs) (VA:=VA) (vs:=vs) (n:=mm+2) (N:=N) (nq:=nq) (ws:=us.drop j) (q:=q) (X:=val b32 (us.drop j)) (Y:=Y)
     (J:=fun l h'=>∃ d r,l=[]/\h'=Ak .u32 C3 g bu d bq (qs.set j r)/\d.length=N/\Dig b32 d/\(0<=r/\r<4294967296)/\val b32 (d.drop j)<Y/\val b32 (d.drop j)=val b32 (us.drop j)-r*Y/\d.take j=us.take j)
     hu hq hne sv dv hn.symm M (by rw [bF,o]) (by omega) hbig A.symm (by omega) hX hY.symm ai af R Q C ?_
    ·rw [bF,p] at this
     exact this
    ·intro F r w1 w2 w3 w4 w5 w6 w7 w8 w9
     refine ⟨us.take j++F,r,rfl,by rw [p],by rw [aK,w1,E,p];omega,Dig.append (f.take j) w2,⟨w8,w9⟩,?_,?_,?_⟩
     all_goals first|(rw [List.drop_left' p])|(rw [List.take_left' p])
     all_goals
      have z1:=F3 b32 F (i:=mm+3) (by omega)
      rw [w3,t,G1,w4,w5] at z1
      simp at z1
      omega
  ·rintro ao ⟨d,r,_,rfl,u1,u2,u3,u4,u5,u6⟩
   unfold Zq
   have ak:B4 ((j:Int)-1)=(j:Int)-1:=B7 (by omega) (by omega)
   rw [ak]
   refine ⟨⟨j,d,qs.set j r,rfl,by omega,u1,by simpa using A,u2,L.set u3,rfl,u4,?_⟩,by simp only [iAt,aH];omega⟩
   have V:=F3 b32 d (i:=j) (by omega)
   have W:=F3 b32 us (i:=j) (by omega)
   rw [hv,V7 (by omega),V,W,u5,u6,aQ]
   simp only [val]
   grind
 ·have T:k=0:=by omega
  subst T
  simp at ag hv
  have ax:0<b:=by
   by_cases H:0<b
   ·exact H
   ·have:=aC (show b<=0 by omega) (aL hp);omega
  have an:=C6 (by decide) f
  have hR:val b32 us=(a-val b32 qs*b)*2^s:=by
   rw [hua,hYb] at hv
   grind
  have al:0<=a-val b32 qs*b:=by
   by_cases H:0<=a-val b32 qs*b
   ·exact H
   ·have:=aC (show a-val b32 qs*b <= -1 by omega) (aL hp);omega
  have Z:a-val b32 qs*b<b:=by
   by_cases H:a-val b32 qs*b<b
   ·exact H
   ·have:=aC (show b<=a-val b32 qs*b by omega) (aL hp);omega
  have x:a/b=val b32 qs:=by
   have:a=(a-val b32 qs*b)+val b32 qs*b:=by omega
   rw [this,bZ _ _ (by omega),bX al Z,Int.zero_add]
  have G:a%b=a-val b32 qs*b:=by
   have:=Int.emod_def a b
   rw [this,x,aO]
  rw [x,G] at hK
  have hz:=Dq (B:=b32) (by decide) (n:=mm+2) f (by omega)
  have w:=F3 b32 us (i:=mm+2) (by omega)
  rw [hz,bH,bY] at w
  refine ⟨⟨by omega,by omega⟩,?_⟩
  rw [H8,aD,Nat.sub_zero,Nat.sub_zero]
  have y:(us.take (mm+2)).length=mm+2:=by rw [aI,o];omega
  have st:SlI .u32 (Ak .u32 C3 g bu us bq qs) (some ⟨bu,0,none⟩) (us.take (mm+2)):=by
   have:=S.cut (c:=N) (l:=0) (m:=mm+2) (by omega) (by omega) (by omega)
   simpa [H8] using this
  have tr:=A2s (K:=fun r7 D=>∃ (t259A:Option Addr) (t259n:Nat) (t259c:Nat),r7= .slice t259A t259n t259c/\Ke prog K (s:Int) (some ⟨bq,0,none⟩) nq nq t259A t259n t259c D) (ac:=N) st (by omega) (by omega) ?_
  ·rw [y] at tr;exact tr
  ·intro m hm aw O
   rw [y] at hm
   rw [List.take_take,aJ hm] at O
   refine ⟨_,_,_,rfl,?_⟩
   have aa:us=us.take m++us.drop m:=(bF m us).symm
   rw [aa]
   refine B2j (rs:=us.take m) (tl:=us.drop m) (qs:=qs) hu hq hne hs (by rw [aI,o];omega) (by omega) A.symm (aW _) L (f.take m) (by omega) (by omega) rfl ?_ hK
   rw [O,<- w,hR]
end
