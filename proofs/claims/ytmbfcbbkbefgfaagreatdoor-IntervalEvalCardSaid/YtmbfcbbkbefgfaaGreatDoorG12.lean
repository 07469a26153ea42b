/- A part. -/
import Derived.Test.YtmbfcbbkbefgfaaGreatDoorG10
import Derived.Test.YtmbfcbbkbefgfaaGreatDoorG11
open Go.Proofs.Tryz
set_option linter.all false
open Int renaming mul_le_mul_of_nonneg_right->aC,toNat_natCast->aD,mul_le_mul_of_nonneg_left->aE,dvd_mul_of_dvd_right->aF,mul_nonneg->aG,le_of_lt->aL,mul_comm->aO,pow_succ->aQ,mul_ediv_add_emod->aS,emod_lt_of_pos->aT,ediv_lt_of_lt_mul->aV,pow_pos->aX,emod_nonneg->aY,ediv_nonneg->aZ,mul_zero->bG,mul_pos->bH,dvd_sub->bI,gcd->bJ,tmod_eq_emod_of_nonneg->bL,tdiv_eq_ediv_of_nonneg->bM,mul_le_mul->bN,fdiv_eq_ediv_of_nonneg->bO,mul_emod_mul_of_pos->bV,ediv_eq_zero_of_lt->bW,add_zero->bX,add_mul_ediv_right->bY
open List renaming getElem?_cons_zero->aH,length_take->aI,length_append->aK,take_length->aM,take_of_length_le->aN,getD->aP,getElem?_cons_succ->aR,getElem?_eq_none->aU,drop_drop->bA,drop_of_length_le->bB,length_set->bC,take_append_drop->bD,take_set_of_le->bF,replicate->bK,drop_eq_getElem_cons->bU
open Nat renaming min_eq_left->aJ,le_refl->aW
namespace Go.Proofs.YtmbfcbbkbefgfaaGreatDoor
set_option maxRecDepth 20000
open Go
section
variable {h g:Heap} {K:VP} {A B:Option Addr} {ac bc:Nat}
def Qs{x y:Int}{an bn:Nat}(ma:Mg h A an x)(mb:Mg h B bn y)(hxy:y<=x)(hl:an<=100000000)(hK:∀ A' m c' h',h.le h'->m<=c'->Mg h' A' m (x-y)->K (.slice A' m c') h'):FCall prog Kt #[.slice A an ac,.slice B bn bc] h K:=by
 have R:bn<=an:=by
  have p:=ma.lt (by decide)
  exact mb.len_le (by decide) (Int.lt_of_le_of_lt hxy p)
 obtain ⟨a,rfl,Q,L,V,rfl⟩:=ma
 obtain ⟨g,rfl,M,G,ny,rfl⟩:=mb
 refine A7j _ _ _ _ _ _ ?_
 unfold B1m
 refine I3 Mm (by omega) (by omega) (by omega) ?_
 intro b D
 rw [aD]
 refine ⟨_,_,_,rfl,?_⟩
 refine ⟨fun l h'=>∃ (k:Nat) (c:Int) (zs:List Int),l=[U c,I k]/\k<=a.length/\zs.length=a.length/\Dig b32 zs/\(0<=c/\c<=1)/\h'=blk .u32 C1 h b zs/\val b32 (zs.take k)=val b32 (a.take k)-val b32 (g.take k)+c*b32^k,fun l _=>a.length-(iAt l 1).toNat,⟨0,0,_,rfl,by omega,by simp,G4 (by decide) _,by omega,rfl,by simp [val]⟩,?_⟩
 rintro c i hp ⟨k,c',zs,w,Z,j,u,X,rfl,C⟩
 obtain ⟨rfl,rfl⟩:c=c'/\i=(k:Int):=by simpa using w
 have o:=S3 (k:=.u32) (e:=C1) D zs
 refine B4 (fun p=>?_) (fun p=>?_)
 ·have gx:=Aj L k
  have W:=Aj G k
  have S:=C2 b32 a k
  have F:=C2 b32 g k
  refine (Q.mono o).load rfl (by omega) (by omega) ?_
  rw [aD]
  refine ⟨fun l h'=>l=[U (B8 (a.getD k 0-c-g.getD k 0))]/\h'=blk .u32 C1 h b zs,B4 (fun N=>?_) (fun N=>?_),?_⟩
  ·refine (M.mono o).load rfl (by omega) (by omega) ?_
   rw [aD]
   refine ⟨?_,rfl⟩
   rw [B9 (n:=a.getD k 0) (by omega) (by omega),B9 (n:=g.getD k 0) (by omega) (by omega),D8,D8,D8]
   have T:((a.getD k 0-c)%18446744073709551616-g.getD k 0)%18446744073709551616=(a.getD k 0-c-g.getD k 0)%18446744073709551616:=by omega
   rw [T]
  ·refine ⟨?_,rfl⟩
   have H:g.getD k 0=0:=by simp [aP,aU (show g.length<=k by omega)]
   rw [H,B9 (n:=a.getD k 0) (by omega) (by omega),Int.sub_zero]
  ·rintro d J ⟨s,rfl⟩
   obtain rfl:d=B8 (a.getD k 0-c-g.getD k 0):=by simpa using s
   refine ⟨_,rfl,by omega,by omega,?_⟩
   refine N7 (k:=.u32) (zs:=zs) (i:=(k:Int)) H8 (by rw [aD];omega) ?_
   rw [aD,U7,Tz,D8,B6 (n:=(k:Int)+1) (by omega) (by omega),Hw (by omega)]
   refine ⟨⟨k+1,_,zs.set k ((a.getD k 0-c-g.getD k 0)%18446744073709551616%4294967296),rfl,by omega,by simpa using j,u.set (A12 _),by omega,rfl,?_⟩,by simp only [iAt,aH,aR];omega⟩
   rw [C6 (by omega),E5,aI,aJ (by omega),aQ,S,F,C]
   have key:(a.getD k 0-c-g.getD k 0)%18446744073709551616%4294967296=a.getD k 0-c-g.getD k 0+4294967296*((a.getD k 0-c-g.getD k 0)%18446744073709551616/4294967296%2):=by omega
   rw [key]
   grind
 ·have r:k=a.length:=by omega
  subst r
  rw [aM,aN (show g.length<=a.length by omega),aN (show zs.length<=a.length by omega)] at C
  have q:c=0:=by
   have p:=I5 (by decide) u
   rw [j] at p
   by_cases E:c=0
   ·exact E
   ·have:c=1:=by omega
    subst this
    omega
  subst q
  rw [<- j]
  refine U8 (Cd _ _ _ _ _) u (aW _) (by omega) ?_
  intro m O z
  have e:val b32 zs=val b32 a-val b32 g:=by omega
  rw [e] at z
  exact ⟨_,_,_,rfl,hK _ _ _ _ (S3 D _) O z⟩
def B01{xs:List Int}{i:Nat}(hi:i<xs.length):xs.drop i=xs.getD i 0::xs.drop (i+1):=by
 rw [bU hi];simp [aP,hi]
def Js(B:Int){xs:List Int}{i:Nat}(hi:i<xs.length):val B (xs.drop i)=xs.getD i 0+B*val B (xs.drop (i+1)):=by
 rw [B01 hi];rfl
def S2{xs:List Int}{i:Nat}{v:Int}(hi:i<xs.length):(xs.set i v).drop i=v::xs.drop (i+1):=by
 rw [bU (by simpa using hi)]
 simp [List.drop_set_of_lt]
def Jx{x d:Int}{an:Nat}(ma:Mg h A an x)(hd0:0<d/\d<4294967296)(hl:an<=100000000)(hK:∀ A' m c' h',h.le h'->m<=c'->m<=an->Mg h' A' m (x/d)->K (.tuple #[.slice A' m c',U32 (x%d)]) h'):FCall prog Eg #[.slice A an ac,U32 d] h K:=by
 obtain ⟨a,rfl,M,G,Q,rfl⟩:=ma
 refine A2c _ _ _ _ ?_
 unfold A2d
 refine I3 Mm (by omega) (by omega) (by omega) ?_
 intro b C
 rw [aD]
 refine ⟨_,_,_,rfl,?_⟩
 refine ⟨fun l h'=>∃ (k:Nat) (r:Int) (zs:List Int),l=[U r,I ((k:Int)-1)]/\k<=a.length/\zs.length=a.length/\Dig b32 zs/\(0<=r/\r<d)/\h'=blk .u32 C1 h b zs/\val b32 (a.drop k)=val b32 (zs.drop k)*d+r,fun l _=>(iAt l 1+1).toNat,⟨a.length,0,_,by rw [B6 (by omega) (by omega)],by omega,by simp,G4 (by decide) _,by omega,rfl,by simp [val]⟩,?_⟩
 rintro r i S ⟨k,N,zs,w,R,c,B,o,rfl,g⟩
 obtain ⟨rfl,rfl⟩:r=N/\i=(k:Int)-1:=by simpa using w
 have p:=S3 (k:=.u32) (e:=C1) C zs
 refine B4 (fun H=>?_) (fun H=>?_)
 ·obtain ⟨j,rfl⟩:∃ j,k=j+1:=⟨k-1,by omega⟩
  have e:((j+1:Nat):Int)-1=(j:Int):=by omega
  rw [e]
  have J:=Aj G j
  refine (M.mono p).load rfl (by omega) (by omega) ?_
  rw [aD]
  have D:B8 d=d:=B9 (by omega) (by omega)
  have E:bor .u64 (B8 (r*2^(min ((32:Int)).toNat 64))) (B8 (a.getD j 0))=r*4294967296+a.getD j 0:=by
   rw [show (2:Int)^(min ((32:Int)).toNat 64)=4294967296 by decide,B9 (n:=a.getD j 0) (by omega) (by omega),B9 (n:=r*4294967296) (by omega) (by omega)]
   exact Yy (by omega) J
  rw [D,E]
  have q:0<=r*4294967296+a.getD j 0:=by omega
  have F:Int.tdiv (r*4294967296+a.getD j 0) d=(r*4294967296+a.getD j 0)/d:=bM q
  have O:Int.tmod (r*4294967296+a.getD j 0) d=(r*4294967296+a.getD j 0)%d:=bL q
  rw [F,O]
  have y:0<=(r*4294967296+a.getD j 0)/d/\(r*4294967296+a.getD j 0)/d<4294967296:=by
   constructor
   ·exact aZ q (by omega)
   ·apply aV (by omega)
    have:(r+1)*4294967296<=d*4294967296:=aC (by omega) (by decide)
    omega
  refine B4 (fun e=>absurd e (by omega)) (fun _=>?_)
  refine ⟨_,rfl,by omega,by omega,?_⟩
  refine N7 (k:=.u32) (zs:=zs) (i:=(j:Int)) H8 (by rw [aD];omega) ?_
  rw [aD,B9 (by omega) (by omega),K5 (by omega) (by omega),B6 (by omega) (by omega)]
  refine B4 (fun e=>absurd e (by omega)) (fun _=>?_)
  refine ⟨⟨j,_,zs.set j ((r*4294967296+a.getD j 0)/d),rfl,by omega,by simpa using c,B.set y,⟨aY _ (by omega),aT _ (by omega)⟩,rfl,?_⟩,by simp only [iAt,aH,aR];omega⟩
  rw [S2 (by omega),Js b32 (by omega),g]
  have:=aS (r*4294967296+a.getD j 0) d
  simp only [val]
  grind
 ·have s:k=0:=by omega
  subst s
  rw [List.drop_zero,List.drop_zero] at g
  rw [<- c]
  refine U8 (Cd _ _ _ _ _) B (aW _) (by omega) ?_
  intro m L z
  have y:val b32 a/d=val b32 zs:=by
   rw [g,Int.add_comm,bY _ _ (by omega),bW o.1 o.2,Int.zero_add]
  have u:val b32 a%d=r:=by
   rw [g,Int.add_comm,Int.add_mul_emod_self_right,Int.emod_eq_of_lt o.1 o.2]
  rw [<- y] at z
  rw [K5 (by omega) (by omega),<- u]
  exact ⟨_,_,_,rfl,hK _ _ _ _ (S3 C _) L (by omega) z⟩
end
def B9c{a b:Int}(ha:0<=a/\a<4294967296)(hb:0<=b/\b<4294967296):0<=a*b/\a*b<=18446744065119617025:=by
 refine ⟨aG ha.1 hb.1,?_⟩
 have:=bN (show a<=4294967295 by omega) (show b<=4294967295 by omega) hb.1 (by decide)
 omega
def E2{xs ys:List Int}{i:Nat}(h:xs.drop i=ys.drop i):xs.getD i 0=ys.getD i 0:=by
 have a:(xs.drop i)[0]? = (ys.drop i)[0]? :=by rw [h]
 simp at a
 simp [aP,a]
def D7{xs ys:List Int}{i:Nat}(h:xs.drop i=ys.drop i):xs.drop (i+1)=ys.drop (i+1):=by
 rw [<- bA,<- bA,h]
def D3{xs:List Int}{i j:Nat}{v:Int}(h:i<j):(xs.set i v).drop j=xs.drop j:=List.drop_set_of_lt h
section
variable {h g:Heap} {K:VP} {A B:Option Addr} {ac bc:Nat}
def Rd{x y:Int}{an bn:Nat}(ma:Mg h A an x)(mb:Mg h B bn y)(hl:an<=100000000)(hl2:bn<=100000000)(hK:∀ A' m c' h',h.le h'->m<=c'->Mg h' A' m (x*y)->K (.slice A' m c') h'):FCall prog Kv #[.slice A an ac,.slice B bn bc] h K:=by
 have C:=ma.len_zero (by decide)
 have D:=mb.len_zero (by decide)
 obtain ⟨d,rfl,sx,dx,nx,rfl⟩:=ma
 obtain ⟨a,rfl,sy,V,ny,rfl⟩:=mb
 refine A7l _ _ _ _ _ _ ?_
 unfold B1q
 refine D9 (fun R=>?_) (fun hx=>D9 (fun R=>?_) (fun hy=>?_))
 ·have:=hK none 0 0 h (B3 h) (aW _) (by rw [C.2 (by omega),Int.zero_mul];exact Mag.zero)
  exact this
 ·have:=hK none 0 0 h (B3 h) (aW _) (by rw [D.2 (by omega),bG];exact Mag.zero)
  exact this
 have T:B5 ((d.length:Int)+a.length)=((d.length+a.length:Nat):Int):=by rw [B6 (by omega) (by omega)];omega
 rw [T]
 refine I3 Mm (by omega) (by omega) (by omega) ?_
 intro b Q
 rw [aD]
 refine ⟨_,_,_,rfl,?_⟩
 refine ⟨fun l h'=>∃ (k:Nat) (zs:List Int),l=[I k]/\k<=d.length/\zs.length=d.length+a.length/\Dig b32 zs/\h'=blk .u32 C1 h b zs/\zs.drop (k+a.length)=bK (d.length-k) 0/\val b32 (zs.take (k+a.length))=val b32 (d.take k)*val b32 a,fun l _=>d.length-(iAt l 0).toNat,⟨0,_,rfl,by omega,by simp,G4 (by decide) _,rfl,by simp,?_⟩,?_⟩
 ·rw [List.take_replicate,Au];simp [val]
 rintro i hp ⟨k,g,L,hk,o,z,rfl,w,u⟩
 obtain rfl:=sI1 L
 refine B4 (fun h1=>?_) (fun h1=>?_)
 ·have gx:=Aj dx k
  have vx:=C2 b32 d k
  refine ⟨fun l h'=>∃ (m:Nat) (c:Int) (zs:List Int),l=[U c,I m]/\m<=a.length/\zs.length=d.length+a.length/\Dig b32 zs/\(0<=c/\c<4294967296)/\h'=blk .u32 C1 h b zs/\zs.drop (k+m)=g.drop (k+m)/\val b32 (zs.take (k+m))+c*b32^(k+m)=val b32 (g.take (k+m))+b32^k*(d.getD k 0*val b32 (a.take m)),fun l _=>a.length-(iAt l 1).toNat,⟨0,0,g,rfl,by omega,o,z,by omega,rfl,rfl,by simp [val]⟩,?_⟩
  rintro c j aa ⟨m,c',zs,J,O,p,G,X,rfl,q,Z⟩
  obtain ⟨rfl,rfl⟩:c=c'/\j=(m:Int):=by simpa using J
  have s:=S3 (k:=.u32) (e:=C1) Q zs
  refine B4 (fun h2=>?_) (fun h2=>?_)
  ·have W:=Aj V m
   have S:=C2 b32 a m
   have gz:=Aj G (k+m)
   have F:=E2 q
   have vz:=C2 b32 g (k+m)
   have r:B5 ((k:Int)+m)=((k+m:Nat):Int):=by rw [B6 (by omega) (by omega)];omega
   rw [r]
   refine (sx.mono s).load rfl (by omega) (by omega) ?_
   refine (sy.mono s).load rfl (by omega) (by omega) ?_
   refine (Cd .u32 C1 h b zs).load p.symm (by omega) (by omega) ?_
   simp only [aD]
   have hp:=B9c gx W
   have ec:B8 (c+B8 (B8 (B8 (d.getD k 0)*B8 (a.getD m 0))+B8 (zs.getD (k+m) 0)))=c+(d.getD k 0*a.getD m 0+zs.getD (k+m) 0):=by
    rw [B9 (n:=d.getD k 0) (by omega) (by omega),B9 (n:=a.getD m 0) (by omega) (by omega),B9 (n:=zs.getD (k+m) 0) (by omega) (by omega),B9 (n:=d.getD k 0*a.getD m 0) (by omega) (by omega),B9 (n:=d.getD k 0*a.getD m 0+zs.getD (k+m) 0) (by omega) (by omega),B9 (by omega) (by omega)]
   rw [ec]
   refine ⟨_,rfl,by omega,by omega,?_⟩
   refine N7 (k:=.u32) (zs:=zs) (i:=((k+m:Nat):Int)) H8 (by rw [aD];omega) ?_
   rw [aD,U7,Tz,B6 (n:=(m:Int)+1) (by omega) (by omega)]
   refine ⟨⟨m+1,_,zs.set (k+m) ((c+(d.getD k 0*a.getD m 0+zs.getD (k+m) 0))%4294967296),rfl,by omega,by simpa using p,G.set (A12 _),by omega,rfl,?_,?_⟩,by simp only [iAt,aH,aR];omega⟩
   ·rw [D3 (by omega)];exact D7 q
   ·rw [<- Nat.add_assoc,C6 (by omega),E5,aI,aJ (by omega),aQ,Ao,S,vz,<- F]
    have:b32^(k+m)=b32^k*b32^m:=Int.pow_add _ _ _
    grind
  ·have H:m=a.length:=by omega
   subst H
   have r:B5 ((k:Int)+a.length)=((k+a.length:Nat):Int):=by rw [B6 (by omega) (by omega)];omega
   rw [r]
   refine ⟨_,rfl,by omega,by omega,?_⟩
   refine N7 (k:=.u32) (zs:=zs) (i:=((k+a.length:Nat):Int)) H8 (by rw [aD];omega) ?_
   rw [aD,K5 (by omega) (by omega),B6 (n:=(k:Int)+1) (by omega) (by omega)]
   have N:k+1+a.length=k+a.length+1:=by omega
   refine ⟨⟨k+1,zs.set (k+a.length) c,rfl,by omega,by simpa using p,G.set X,rfl,?_,?_⟩,by simp only [iAt,aH];omega⟩
   ·rw [N,D3 (by omega),D7 q,<- bA,w,List.drop_replicate]
    congr 1
   ·rw [N,C6 (by omega),E5,aI,aJ (by omega)]
    rw [aM] at Z
    rw [vx]
    grind
 ·have E:k=d.length:=by omega
  subst E
  rw [aM,aN (show g.length<=d.length+a.length by omega)] at u
  rw [<- o]
  refine U8 (Cd _ _ _ _ _) z (aW _) (by omega) ?_
  intro m O M
  rw [u] at M
  exact ⟨_,_,_,rfl,hK _ _ _ _ (S3 Q _) O M⟩
def A4z{x z:Int}{s:Nat}(hs:s<=32)(_hx:0<=x/\x<4294967296)(hz:0<=z/\z<(2:Int)^s):
 bor .u32 z (x*2^s%4294967296)=z+x*2^s%4294967296/\z+x*2^s%4294967296<4294967296:=by
 have j:(2:Int)^s*2^(32-s)=4294967296:=by
  rw [<- Int.pow_add,show s+(32-s)=32 by omega];decide
 have g:0<(2:Int)^s:=aX (by decide)
 have k:0<(2:Int)^(32-s):=aX (by decide)
 have a:z<4294967296:=by
  have:(2:Int)^s*1<=2^s*2^(32-s):=aE (by omega) (by omega)
  omega
 have l:x*2^s%4294967296=2^s*(x%2^(32-s)):=by
  rw [<- j,aO x,bV _ _ g]
 have e:=A12 (x*2^s)
 have b:bor .u32 z (x*2^s%4294967296)=z+x*2^s%4294967296:=by
  rw [B9v ⟨hz.1,a⟩ e]
  have c:0<=x%2^(32-s):=aY _ (by omega)
  have i:(x*2^s%4294967296).toNat=2^s*(x%2^(32-s)).toNat:=by
   rw [l,Int.toNat_mul (by omega) c]
   rw [Int.toNat_pow_of_nonneg (by decide)];rfl
  have d:z.toNat<2^s:=by
   have:((2^s:Nat):Int)=(2:Int)^s:=by simp
   omega
  rw [i,Nat.or_comm,A50 d,<- i]
  omega
 refine ⟨b,?_⟩
 rw [<- b,B9v ⟨hz.1,a⟩ e]
 have:z.toNat ||| (x*2^s%4294967296).toNat<2^32:=Nat.or_lt_two_pow (by omega) (by have:=e.2;show _<_;omega)
 omega
def Id{xs:List Int}{s:Nat}(sx:SlI .u32 h A xs)(dx:Dig b32 xs)(hs:s<32)(hl:xs.length<=100000000)(hK:∀ b zs,h b=none->zs.length=xs.length+1->Dig b32 zs->val b32 zs=val b32 xs*2^s->K (.slice (some ⟨b,0,none⟩) (xs.length+1) (xs.length+1)) (blk .u32 C1 h b zs)):FCall prog Bv #[.slice A xs.length ac,U s] h K:=by
 refine Zn _ _ _ _ ?_
 unfold Wl
 have D:B5 ((xs.length:Int)+1)=((xs.length+1:Nat):Int):=by rw [B6 (by omega) (by omega)];omega
 rw [D]
 refine I3 Mm (by omega) (by omega) (by omega) ?_
 intro b w
 rw [aD]
 refine ⟨_,_,_,rfl,?_⟩
 have c:0<(2:Int)^s:=aX (by decide)
 have x:(2:Int)^s<=2147483648:=by
  have:=D5 (B:=2) (by decide) (show s<=31 by omega)
  have e:(2:Int)^31=2147483648:=by decide
  omega
 refine ⟨fun l H=>∃ (k:Nat) (zs:List Int),l=[I k]/\k<=xs.length/\zs.length=xs.length+1/\Dig b32 zs/\H=blk .u32 C1 h b zs/\zs.drop (k+1)=bK (xs.length-k) 0/\zs.getD k 0<2^s/\val b32 (zs.take (k+1))=val b32 (xs.take k)*2^s,fun l _=>xs.length-(iAt l 0).toNat,⟨0,_,rfl,by omega,by simp,G4 (by decide) _,rfl,by simp,by simpa using c,by simp [val]⟩,?_⟩
 rintro i Q ⟨k,zs,u,O,a,q,rfl,p,F,m⟩
 obtain rfl:=sI1 u
 have d:=S3 (k:=.u32) (e:=C1) w zs
 refine B4 (fun J=>?_) (fun J=>?_)
 ·have r:=Aj dx k
  have z:=Aj q k
  have N:=C2 b32 xs k
  have M:=C2 b32 zs k
  refine (sx.mono d).load rfl (by omega) (by omega) ?_
  refine B4 (fun e=>absurd e (by omega)) (fun _=>?_)
  refine (Cd .u32 C1 h b zs).load a.symm (by omega) (by omega) ?_
  simp only [aD]
  obtain ⟨E,G⟩:=A4z (Nat.le_of_lt hs) r ⟨z.1,F⟩
  have g:0<=xs.getD k 0*2^s:=aG r.1 (by omega)
  have j:xs.getD k 0*2^s<4294967296*2^s:=Int.mul_lt_mul_of_pos_right r.2 c
  have ev:B8 (B8 (xs.getD k 0)*2^(min s 64))=xs.getD k 0*2^s:=by
   rw [B9 (n:=xs.getD k 0) (by omega) (by omega),aJ (by omega),B9 (by omega) (by omega)]
  rw [ev]
  refine ⟨_,rfl,by omega,by omega,?_⟩
  refine N7 (k:=.u32) (zs:=zs) (i:=(k:Int)) H8 (by rw [aD];omega) ?_
  rw [aD,U7 (xs.getD k 0*2^s),E,Tz]
  have L:B5 ((k:Int)+1)=((k+1:Nat):Int):=by rw [B6 (by omega) (by omega)];omega
  rw [L]
  have y:0<=xs.getD k 0*2^s/4294967296/\xs.getD k 0*2^s/4294967296<2^s:=⟨aZ g (by decide),aV (by decide) (by rw [aO (2^s)];exact j)⟩
  refine ⟨_,rfl,by omega,by omega,?_⟩
  refine N7 (k:=.u32) (zs:=zs.set k (zs.getD k 0+xs.getD k 0*2^s%4294967296)) (i:=((k+1:Nat):Int)) H8 (by rw [aD,bC];omega) ?_
  rw [aD,K5 (by omega) (by omega)]
  have C:=A12 (xs.getD k 0*2^s)
  refine ⟨⟨k+1,(zs.set k (zs.getD k 0+xs.getD k 0*2^s%4294967296)).set (k+1) (xs.getD k 0*2^s/4294967296),rfl,by omega,by simpa using a,(q.set ⟨by omega,G⟩).set ⟨y.1,by show _<(4294967296:Int);omega⟩,rfl,?_,?_,?_⟩,by simp only [iAt,aH];omega⟩
  ·rw [D3 (by omega),D3 (by omega),<- bA,p,List.drop_replicate]
   congr 1
  ·have:((zs.set k (zs.getD k 0+xs.getD k 0*2^s%4294967296)).set (k+1) (xs.getD k 0*2^s/4294967296)).getD (k+1) 0=xs.getD k 0*2^s/4294967296:=by
    rw [aP,List.getElem?_set_self (by rw [bC];omega)];rfl
   rw [this];exact y.2
  ·rw [C6 (by rw [bC];omega),E5,C6 (by omega),E5]
   simp only [aI,aK,List.length_singleton]
   rw [aJ (show k<=zs.length by omega),aQ,N]
   have:=Int.emod_add_mul_ediv (xs.getD k 0*2^s) 4294967296
   rw [M] at m
   grind
 ·have o:k=xs.length:=by omega
  subst o
  rw [aM,aN (by omega)] at m
  exact hK b zs w a q m
end
structure Est (B P top u2 ul v1 v2 vl U V:Int):Prop where
 hB:1<B
 hP:0<P
 hU:U=(top*B+u2)*P+ul
 hV:V=(v1*B+v2)*P+vl
 u2r:0<=u2/\u2<B
 ulr:0<=ul/\ul<P
 v2r:0<=v2/\v2<B
 vlr:0<=vl/\vl<P
 top0:0<=top
 v1r:B<=2*v1/\v1<B
 lt:U<V*B
section
variable {B P top u2 ul v1 v2 vl U V:Int}
def Est.U0(e:Est B P top u2 ul v1 v2 vl U V):0<=U:=by
 obtain ⟨n,k,l,m,c,g,b,i,a,d,lt⟩:=e
 have j:0<=top*B:=aG a (by omega)
 have:0<=(top*B+u2)*P:=aG (by omega) (by omega)
 omega
def Est.V0(e:Est B P top u2 ul v1 v2 vl U V):0<V:=by
 obtain ⟨n,d,l,m,c,i,b,j,a,g,lt⟩:=e
 have k:0<v1*B:=bH (by omega) (by omega)
 have:0<(v1*B+v2)*P:=bH (by omega) d
 omega
def Est.V2(e:Est B P top u2 ul v1 v2 vl U V):B<=v1*B+v2:=by
 obtain ⟨m,j,k,l,c,g,b,i,a,d,lt⟩:=e
 have:1*B<=v1*B:=aC (by omega) (by omega)
 omega
def Est.low(e:Est B P top u2 ul v1 v2 vl U V){q:Int}(h0:0<=q)(h:top*B+u2<q*(v1*B+v2)):U<q*V:=by
 obtain ⟨p,m,o,i,d,j,c,a,b,g,lt⟩:=e
 have k:(top*B+u2+1)*P<=q*(v1*B+v2)*P:=aC (by omega) (by omega)
 have l:0<=q*vl:=aG h0 a.1
 have r:q*V=q*(v1*B+v2)*P+q*vl:=by rw [i];grind
 have n:(top*B+u2+1)*P=(top*B+u2)*P+P:=by grind
 omega
def Est.big(e:Est B P top u2 ul v1 v2 vl U V){q:Int}(h:B<=q):U<q*V:=by
 have:=aC h (aL e.V0)
 have:=e.lt
 rw [aO V] at this
 omega
def Est.init(e:Est B P top u2 ul v1 v2 vl U V):U<(top/v1+1)*V:=by
 obtain ⟨p,c,g,j,l,n,b,d,a,i,lt⟩:=e
 have w:0<=top/v1:=aZ a (by omega)
 have k:top+1<=(top/v1+1)*v1:=by
  have:=aS top v1
  have:=aT top (show 0<v1 by omega)
  grind
 have m:0<B*P:=bH (by omega) c
 have s:(top+1)*(B*P)<=(top/v1+1)*v1*(B*P):=aC k (by omega)
 have x:0<=(top/v1+1)*(v2*P+vl):=aG (by omega) (by have:=aG b.1 (aL c);omega)
 have u:(top/v1+1)*V=(top/v1+1)*v1*(B*P)+(top/v1+1)*(v2*P+vl):=by rw [j];grind
 have q:(top+1)*(B*P)=top*B*P+B*P:=by grind
 have o:(u2+1)*P<=B*P:=aC (by omega) (by omega)
 have r:U=top*B*P+u2*P+ul:=by rw [g];grind
 have y:(u2+1)*P=u2*P+P:=by grind
 omega
def Est.up(e:Est B P top u2 ul v1 v2 vl U V){q:Int}(hq:q<=B)(h:q*(v1*B+v2)<=top*B+u2):(q-1)*V<=U:=by
 have b:=e.V2
 have i:=e.V0
 have d:=e.U0
 obtain ⟨u,r,s,k,g,l,c,m,a,j,lt⟩:=e
 by_cases n:q<=0
 ·have:(q-1)*V<=0:=Int.mul_nonpos_of_nonpos_of_nonneg (by omega) (by omega)
  omega
 ·have p:(q-1)*vl<=(q-1)*P:=aE (by omega) (by omega)
  have x:(q*(v1*B+v2))*P<=(top*B+u2)*P:=aC h (by omega)
  have w:(q-1)*V=(q*(v1*B+v2))*P-(v1*B+v2)*P+(q-1)*vl:=by rw [k];grind
  have o:(q-1)*P<=(v1*B+v2)*P:=aC (by omega) (by omega)
  omega
def Est.first(e:Est B P top u2 ul v1 v2 vl U V):top<(v1+1)*B/\top/v1<=B+1:=by
 obtain ⟨s,g,j,l,a,m,d,p,b,n,lt⟩:=e
 have k:0<B*P:=bH (by omega) g
 have q:top*(B*P)<=U:=by
  have:0<=u2*P:=aG a.1 (by omega)
  have:U=top*(B*P)+u2*P+ul:=by rw [j];grind
  omega
 have r:V<(v1+1)*(B*P):=by
  have o:(v2+1)*P<=B*P:=aC (by omega) (by omega)
  have:V=v1*(B*P)+v2*P+vl:=by rw [l];grind
  have:(v1+1)*(B*P)=v1*(B*P)+B*P:=by grind
  have:(v2+1)*P=v2*P+P:=by grind
  omega
 have o:V*B<=(v1+1)*(B*P)*B:=aC (by omega) (by omega)
 have i:top*(B*P)<(v1+1)*B*(B*P):=by
  have:(v1+1)*(B*P)*B=(v1+1)*B*(B*P):=by grind
  omega
 have c:top<(v1+1)*B:=Int.lt_of_mul_lt_mul_right i (by omega)
 refine ⟨c,?_⟩
 have:top/v1<B+2:=by
  apply aV (by omega)
  have:(v1+1)*B=v1*B+B:=by grind
  have:v1*(B+2)=v1*B+2*v1:=by grind
  have:(B+2)*v1=v1*B+2*v1:=by grind
  omega
 omega
end
def X8(k:IntKind)(e:TypeId)(g:Heap)(bu:Nat)(us:List Int)(bq:Nat)(qs:List Int):Heap:=blk k e (blk k e g bu us) bq qs
section
variable {k:IntKind} {e:TypeId} {g:Heap} {bu bq:Nat} {us qs:List Int}
def Ns(hu:g bu=none)(hq:g bq=none)(hne:bu≠bq):g.le (X8 k e g bu us bq qs):=
 A0 (S3 hu us) (S3 (by unfold blk;rw [B7 _ _ hne.symm];exact hq) qs)
def Gs(hne:bu≠bq):X8 k e g bu us bq qs=blk k e (blk k e g bq qs) bu us:=by
 unfold X8 blk;exact Heap.put_comm g _ _ hne
def Su(hne:bu≠bq):SlI k (X8 k e g bu us bq qs) (some ⟨bu,0,none⟩) us:=by
 rw [Gs hne];exact Cd k e _ bu us
def B5k:SlI k (X8 k e g bu us bq qs) (some ⟨bq,0,none⟩) qs:=Cd k e _ bq qs
def L5{P:Program}{t:TypeId}(one:P.cellsOf t=1/\(P.info? t).isSome=true)(hne:bu≠bq){n i:Int}(hi:i.toNat<us.length){K:Unit->Heap->Prop}
 (x:K () (X8 k e g bu (us.set i.toNat n) bq qs)):wpH P (Instr.storeAt t (.pointer (some (Addr.add ⟨bu,0,none⟩ (i.toNat*1)))) (.int k n)) K (X8 k e g bu us bq qs):=by
 rw [Gs hne]
 rw [Gs hne] at x
 exact N7 one hi x
def Sv{P:Program}{t:TypeId}(one:P.cellsOf t=1/\(P.info? t).isSome=true){n i:Int}(hi:i.toNat<qs.length){K:Unit->Heap->Prop}
 (x:K () (X8 k e g bu us bq (qs.set i.toNat n))):wpH P (Instr.storeAt t (.pointer (some (Addr.add ⟨bq,0,none⟩ (i.toNat*1)))) (.int k n)) K (X8 k e g bu us bq qs):=
 N7 one hi x
end
def A1e{xs:List Int}{j i:Nat}:(xs.drop j).getD i 0=xs.getD (j+i) 0:=by simp [aP]
section
variable {g:Heap} {bu bq:Nat} {us qs:List Int} {VA:Option Addr} {vs:List Int}
def B3s{n j:Nat}{J:LP}{hp:Heap}{UA:Option Addr}{top u2 ul v1 v2 vl X Y P:Int}{t87 t96:Int}(es:Est 4294967296 P top u2 ul v1 v2 vl X Y)(sv:SlI .u32 hp VA vs)(su:SlI .u32 hp UA us)(hn:n=vs.length)(hn2:2<=n)(hul:j+n<us.length)(hbig:us.length<=200000000)
 (hv1:vs.getD (n-1) 0=v1) (hv2:vs.getD (n-2) 0=v2) (hu2:us.getD (j+n-2) 0=u2) (h87:0<=t87/\t87<4294967296) (h96:0<=t96/\t96<4294967296) (htop:top=t87*4294967296+t96)
 (hJ:∀ q,0<=q->q<=4294967296->X<(q+1)*Y->(q-1)*Y<=X->J [U q] hp):Nx prog VA n UA us.length j t87 t96 v1 v1 J hp:=by
 obtain ⟨f1,f2⟩:=es.first
 have B:=es.init
 have N:=es.V0
 have W:=es.U0
 have T:=es.v1r
 have k:=es.v2r
 have A:=es.u2r
 have c:=es.top0
 have F:bor .u64 (B8 (B8 t87*2^(min ((32:Int)).toNat 64))) (B8 t96)=top:=by
  rw [show (2:Int)^(min ((32:Int)).toNat 64)=4294967296 by decide,B9 (n:=t87) (by omega) (by omega),B9 (n:=t96) (by omega) (by omega),B9 (n:=t87*4294967296) (by omega) (by omega),Yy h87 h96,htop]
 have g:B8 v1=v1:=B9 (by omega) (by omega)
 unfold Nx
 rw [F,g,bM c,bL c]
 have D:0<=top/v1:=aZ c (by omega)
 have o:=aS top v1
 have m:=aY top (show v1≠0 by omega)
 have S:=aT top (show 0<v1 by omega)
 refine ⟨fun l y=>∃ q r:Int,l=[U q,U r]/\y=hp/\0<=q/\q<=4294967297/\0<=r/\r<4294967296/\q*v1+r=top/\X<(q+1)*Y,fun l _=>match l with|[.int _ q,_]=>q.toNat|_=>0,⟨_,_,rfl,rfl,?_,?_,m,by omega,?_,?_⟩,?_⟩
 ·rw [B9 (by omega) (by omega)];exact D
 ·rw [B9 (by omega) (by omega)];omega
 ·rw [B9 (by omega) (by omega),aO];exact o
 ·rw [B9 (by omega) (by omega)];exact B
 rintro q r i ⟨q',Z,O,rfl,L,R,hr,p,u,w⟩
 obtain ⟨rfl,rfl⟩:q=q'/\r=Z:=by simpa using O
 have E:B5 ((n:Int)-1)=((n-1:Nat):Int):=by rw [B6 (by omega) (by omega)];omega
 have s:B5 ((n:Int)-2)=((n-2:Nat):Int):=by rw [B6 (by omega) (by omega)];omega
 have C:B5 (B5 ((j:Int)+(n:Int))-2)=((j+n-2:Nat):Int):=by rw [B6 (n:=(j:Int)+n) (by omega) (by omega),B6 (by omega) (by omega)];omega
 refine ⟨fun l y=>l=[]/\y=i/\X<q*Y,?_,?_⟩
 ·refine B4 (fun G=>⟨rfl,rfl,es.big G⟩) (fun G=>?_)
  rw [s,C]
  refine sv.load hn (by omega) (by omega) ?_
  refine su.load rfl (by omega) (by omega) ?_
  rw [aD,aD,hv2,hu2]
  have hp:=B9c (a:=q) (b:=v2) (by omega) k
  have eq2:B8 (q*B8 v2)=q*v2:=by rw [B9 (n:=v2) (by omega) (by omega),B9 (by omega) (by omega)]
  have z:bor .u64 (B8 (r*2^(min ((32:Int)).toNat 64))) (B8 u2)=r*4294967296+u2:=by
   rw [show (2:Int)^(min ((32:Int)).toNat 64)=4294967296 by decide,B9 (n:=u2) (by omega) (by omega),B9 (n:=r*4294967296) (by omega) (by omega),Yy ⟨hr,p⟩ A]
  rw [eq2,z]
  have key:q*(v1*4294967296+v2)=(top-r)*4294967296+q*v2:=by rw [<- u];grind
  refine B4 (fun V=>⟨rfl,rfl,es.low L (by omega)⟩) (fun V=>?_)
  refine hJ q L (by omega) w (es.up (by omega) (by omega))
 ·rintro H ⟨_,rfl,x⟩
  have Q:1<=q:=by
   by_cases M:1<=q
   ·exact M
   ·have:q=0:=by omega
    subst this;omega
  rw [E]
  refine sv.load hn (by omega) (by omega) ?_
  rw [aD,hv1,g,B9 (n:=r+v1) (by omega) (by omega),B9 (n:=q-1) (by omega) (by omega)]
  have d:X<(q-1+1)*Y:=by rw [Int.sub_add_cancel];exact x
  have e:(q-1)*v1+(r+v1)=top:=by grind
  refine B4 (fun h3=>?_) (fun h3=>?_)
  ·have key:(q-1)*(v1*4294967296+v2)=(top-(r+v1))*4294967296+(q-1)*v2:=by rw [<- e];grind
   have hb:(q-1)*v2<=4294967296*v2:=aC (by omega) k.1
   exact hJ (q-1) (by omega) (by omega) d (es.up (by omega) (by omega))
  ·exact ⟨⟨q-1,r+v1,rfl,rfl,by omega,by omega,by omega,by omega,e,d⟩,by simp only;omega⟩
end
def F2(B:Int)(xs:List Int)(i:Nat):val B (xs.take (i+1))=val B (xs.take i)+B^i*xs.getD i 0:=by
 by_cases a:i<xs.length
 ·exact K8 B a
 ·rw [aN (by omega),aN (by omega)]
  simp [aP,aU (Nat.le_of_not_lt a)]
def B2n(B:Int){vs:List Int}{m:Nat}(hn:vs.length=m+2):val B vs=(vs.getD (m+1) 0*B+vs.getD m 0)*B^m+val B (vs.take m):=by
 have a:=F2 B vs (m+1)
 have b:=F2 B vs m
 rw [show m+1+1=vs.length by omega,aM] at a
 rw [a,b,aQ]
 grind
def B2m(B:Int){us:List Int}{m:Nat}(hn:us.length=m+3):val B us=((us.getD (m+2) 0*B+us.getD (m+1) 0)*B+us.getD m 0)*B^m+val B (us.take m):=by
 have a:=F2 B us (m+2)
 have b:=F2 B us (m+1)
 have c:=F2 B us m
 rw [show m+2+1=us.length by omega,aM] at a
 rw [show m+2=m+1+1 by omega] at a
 rw [a,b,c,aQ,aQ]
 grind
def B5h{B:Int}(hB:1<B){us vs:List Int}{m:Nat}(du:Dig B us)(dv:Dig B vs)(hu:us.length=m+3)(hv:vs.length=m+2)(h1:B<=2*vs.getD (m+1) 0)(hlt:val B us<val B vs*B):
 Est B (B^m) (us.getD (m+2) 0*B+us.getD (m+1) 0) (us.getD m 0) (val B (us.take m)) (vs.getD (m+1) 0) (vs.getD m 0) (val B (vs.take m)) (val B us) (val B vs):=by
 have a:0<B:=by omega
 have c:=I5 a (du.take m)
 have b:=I5 a (dv.take m)
 rw [aI,aJ (by omega)] at c b
 refine ⟨hB,aX a,B2m B hu,B2n B hv,du.getD a _,⟨C5 a (du.take m),c⟩,dv.getD a _,⟨C5 a (dv.take m),b⟩,?_,⟨h1,(dv.getD a _).2⟩,hlt⟩
 have:=aG (du.getD a (m+2)).1 (aL a)
 have:=(du.getD a (m+1)).1
 omega
def Est.top{B P top u2 ul v1 v2 vl U V:Int}(e:Est B P top u2 ul v1 v2 vl U V)(h:v1*B<=top):(B-1-1)*V<=U/\U<(B-1+1)*V:=by
 have l:=e.lt
 obtain ⟨s,p,r,j,g,k,d,m,b,i,lt⟩:=e
 constructor
 ·have o:v1*B*B*P<=U:=by
   have a:v1*B*B<=top*B:=aC h (by omega)
   have c:v1*B*B*P<=(top*B+u2)*P:=aC (by omega) (by omega)
   omega
  have a:V<=(v1+1)*B*P:=by
   have c:(v2+1)*P<=B*P:=aC (by omega) (by omega)
   have:V=v1*B*P+v2*P+vl:=by rw [j];grind
   have:(v1+1)*B*P=v1*B*P+B*P:=by grind
   have:(v2+1)*P=v2*P+P:=by grind
   omega
  have c:(B-1-1)*V<=(B-1-1)*((v1+1)*B*P):=aE a (by omega)
  have q:(B-1-1)*((v1+1)*B*P)=v1*B*B*P-(2*v1+2-B)*(B*P):=by grind
  have n:0<=(2*v1+2-B)*(B*P):=aG (by omega) (aG (by omega) (by omega))
  omega
 ·rw [Int.sub_add_cancel,aO];exact l
structure LS (F S first second u0 v0 u1 v1 u2 v2:Int) (odd:Bool):Prop where
 hF:F=v2*first+v1*second
 hS:S=u2*first+u1*second
 det:u1*v2-u2*v1=if odd then -1 else 1
 ord:0<=second/\second<=first
 st:(u0=0/\v0=0/\u1=1/\v1=0/\u2=0/\v2=1)\/
  (((u0=1/\v0=0/\u1=0/\v1=1/\0<=u2/\u2<=v2/\1<=u2)\/(0<=u0/\u0<=v0/\1<=v0/\1<=u1/\u1<=v1/\1<=u2/\u2<=v2))/\
   (u0*v1-u1*v0=if odd then 1 else -1)/\∃ f0,F=v1*f0+v0*first/\S=u1*f0+u0*first/\v0+v1<=f0-first/\v1<=first)
def LS.init{F S:Int}(h0:0<=S)(h:S<=F):LS F S F S 0 0 1 0 0 1 false:=
 ⟨by omega,by omega,by simp,⟨h0,h⟩,.inl ⟨rfl,rfl,rfl,rfl,rfl,rfl⟩⟩
def LS.v2pos{F S first second u0 v0 u1 v1 u2 v2:Int}{odd:Bool}(l:LS F S first second u0 v0 u1 v1 u2 v2 odd):1<=v2/\0<=v1/\0<=u1/\0<=u2/\0<=u0/\0<=v0:=by
 obtain ⟨d,e,b,c,a⟩:=l
 rcases a with a|⟨a,_⟩<;>omega
def LS.step{F S first second u0 v0 u1 v1 u2 v2:Int}{odd:Bool}(l:LS F S first second u0 v0 u1 v1 u2 v2 odd)(h1:v2<=second)(h2:v1+v2<=first-second):
 LS F S second (first%second) u1 v1 u2 v2 (u1+first/second*u2) (v1+first/second*v2) (!odd):=by
 have p:=l.v2pos
 obtain ⟨e,i,b,n,c⟩:=l
 have g:0<second:=by omega
 have j:1<=first/second:=by
  rw [Int.le_ediv_iff_mul_le g];omega
 have a:=aS first second
 have d:=aY first (show second≠0 by omega)
 have m:=aT first g
 have o:u2<=first/second*u2:=by
  have:=aC j (show 0<=u2 by omega);omega
 have s:v2<=first/second*v2:=by
  have:=aC j (show 0<=v2 by omega);omega
 have k:first/second*u2<=first/second*v2:=aE (by omega) (by omega)
 refine ⟨?_,?_,?_,⟨d,by omega⟩,.inr ⟨?_,?_,first,?_,?_,by omega,h1⟩⟩
 ·rw [e]
  generalize hq':first/second=q at *
  generalize first%second=r at *
  subst a
  grind
 ·rw [i]
  generalize hq':first/second=q at *
  generalize first%second=r at *
  subst a
  grind
 ·cases odd<;>simp at b ⊢ <;> grind
 ·rcases c with c|⟨c,_⟩
  ·left
   obtain ⟨rfl,rfl,rfl,rfl,rfl,rfl⟩:=c
   omega
  ·right;omega
 ·cases odd<;>simp at b ⊢ <;> omega
 ·rw [e]
 ·rw [i]
def LS.bound{F S first second u0 v0 u1 v1 u2 v2:Int}{odd:Bool}(l:LS F S first second u0 v0 u1 v1 u2 v2 odd)(hf:1<=first):v2<=F/\u2<=F/\u2<=v2:=by
 have g:=l.v2pos
 obtain ⟨e,c,a,d,b⟩:=l
 have j:v2*1<=v2*first:=aE hf (by omega)
 have i:0<=v1*second:=aG (by omega) (by omega)
 clear a c
 rcases b with b|⟨b,_⟩<;>omega
def LS.bound2{F S first second u0 v0 u1 v1 u2 v2:Int}{odd:Bool}(l:LS F S first second u0 v0 u1 v1 u2 v2 odd)(hs:1<=second):v1+v2<=F:=by
 have e:=l.v2pos
 obtain ⟨d,i,a,b,c⟩:=l
 have j:v2*1<=v2*first:=aE (by omega) (by omega)
 have g:v1*1<=v1*second:=aE hs (by omega)
 clear c
 omega
structure Leh (a b u0 v0 u1 v1 X0 X1:Int):Prop where
 ord:0<=X1/\X1<X0
 ha:a=v1*X0+v0*X1
 hb:b=u1*X0+u0*X1
 le:X0<=b
def Ix(a b u0 v0:Int)(odd:Bool):Int:=if odd then u0*a-v0*b else v0*b-u0*a
def Iw(a b u1 v1:Int)(odd:Bool):Int:=if odd then v1*b-u1*a else u1*a-v1*b
def LS.leh{F S first second u0 v0 u1 v1 u2 v2 a b al bl W:Int}{odd:Bool}(l:LS F S first second u0 v0 u1 v1 u2 v2 odd)(hv0:v0≠0)(hW:0<W)(ha:a=F*W+al)(hb:b=S*W+bl)(hal:0<=al/\al<W)(hbl:0<=bl/\bl<W):
 Leh a b u0 v0 u1 v1 (Ix a b u0 v0 odd) (Iw a b u1 v1 odd):=by
 have X:=l.v2pos
 obtain ⟨J,Z,B,G,w⟩:=l
 rcases w with w|⟨w,c,j,n,o,C,y⟩
 ·omega
 have A:0<=u0/\u0<=v0/\1<=v0/\1<=u1/\u1<=v1:=by omega
 have q:u0*F-v0*S=(u0*v1-u1*v0)*j:=by rw [n,o];grind
 have r:u1*F-v1*S=(u1*v0-u0*v1)*first:=by rw [n,o];grind
 have O:first*W>=v1*W:=aC y (by omega)
 have M:(j-first)*W>=(v0+v1)*W:=aC C (by omega)
 have H:v1*bl<=v1*W:=aE (by omega) (by omega)
 have L:u1*al<=u1*W:=aE (by omega) (by omega)
 have q3:u1*W<=v1*W:=aC (by omega) (by omega)
 have V:0<=u1*al:=aG (by omega) (by omega)
 have q5:0<=v1*bl:=aG (by omega) (by omega)
 have q6:(v0+v1)*(bl+1)<=(v0+v1)*W:=aE (by omega) (by omega)
 have q7:(u0+u1)*(al+1)<=(u0+u1)*W:=aE (by omega) (by omega)
 have Q:(u0+u1)*W<=(v0+v1)*W:=aC (by omega) (by omega)
 have R:0<=(u0+u1)*al:=aG (by omega) (by omega)
 have D:0<=(v0+v1)*bl:=aG (by omega) (by omega)
 have k:∀ X0 X1:Int,0<=X1->X1<X0->b=u1*X0+u0*X1->X0<=b:=by
  intro X0 X1 z T e
  have N:1*X0<=u1*X0:=aC (by omega) (by omega)
  have r2:0<=u0*X1:=aG (by omega) z
  omega
 cases odd with
 | true=>
  simp only [Ix,Iw,if_true] at c ⊢
  have E:v1*b-u1*a=first*W+v1*bl-u1*al:=by
   rw [c.symm.symm] at q
   have:v1*S-u1*F=first:=by
    have:u1*v0-u0*v1= -1:=by omega
    rw [this] at r;omega
   rw [ha,hb,<- this];grind
  have s:u0*a-v0*b-(v1*b-u1*a)=(j-first)*W+(u0+u1)*al-(v0+v1)*bl:=by
   have x:u0*F-v0*S=j:=by rw [c] at q;omega
   have p:v1*S-u1*F=first:=by
    have:u1*v0-u0*v1= -1:=by omega
    rw [this] at r;omega
   rw [ha,hb,<- x,<- p];grind
  have i:0<=v1*b-u1*a:=by omega
  have g:v1*b-u1*a<u0*a-v0*b:=by
   have:(v0+v1)*(bl+1)=(v0+v1)*bl+(v0+v1):=by grind
   omega
  have u:a=v1*(u0*a-v0*b)+v0*(v1*b-u1*a):=by
   have:v1*(u0*a-v0*b)+v0*(v1*b-u1*a)=(u0*v1-u1*v0)*a:=by grind
   rw [this,c];omega
  have m:b=u1*(u0*a-v0*b)+u0*(v1*b-u1*a):=by
   have:u1*(u0*a-v0*b)+u0*(v1*b-u1*a)=(u0*v1-u1*v0)*b:=by grind
   rw [this,c];omega
  exact ⟨⟨i,g⟩,u,m,k _ _ i g m⟩
 | false=>
  simp only [Ix,Iw,Bool.false_eq_true,if_false] at c ⊢
  have x:v0*S-u0*F=j:=by rw [c] at q;omega
  have p:u1*F-v1*S=first:=by
   have:u1*v0-u0*v1=1:=by omega
   rw [this] at r;omega
  have E:u1*a-v1*b=first*W+u1*al-v1*bl:=by
   rw [ha,hb,<- p];grind
  have s:v0*b-u0*a-(u1*a-v1*b)=(j-first)*W+(v0+v1)*bl-(u0+u1)*al:=by
   rw [ha,hb,<- x,<- p];grind
  have i:0<=u1*a-v1*b:=by omega
  have g:u1*a-v1*b<v0*b-u0*a:=by
   have:(u0+u1)*(al+1)=(u0+u1)*al+(u0+u1):=by grind
   omega
  have u:a=v1*(v0*b-u0*a)+v0*(u1*a-v1*b):=by
   have:v1*(v0*b-u0*a)+v0*(u1*a-v1*b)=(u1*v0-u0*v1)*a:=by grind
   have d:u1*v0-u0*v1=1:=by omega
   rw [this,d];omega
  have m:b=u1*(v0*b-u0*a)+u0*(u1*a-v1*b):=by
   have:u1*(v0*b-u0*a)+u0*(u1*a-v1*b)=(u1*v0-u0*v1)*b:=by grind
   have d:u1*v0-u0*v1=1:=by omega
   rw [this,d];omega
  exact ⟨⟨i,g⟩,u,m,k _ _ i g m⟩
def Leh.gcd{a b u0 v0 u1 v1:Int}{odd:Bool}(l:Leh a b u0 v0 u1 v1 (Ix a b u0 v0 odd) (Iw a b u1 v1 odd)):bJ (Ix a b u0 v0 odd) (Iw a b u1 v1 odd)=bJ a b:=by
 apply Nat.dvd_antisymm
 ·have g:=l.ha
  have i:=l.hb
  generalize Ix a b u0 v0 odd=p at *
  generalize Iw a b u1 v1 odd=q at *
  have dp:(bJ p q:Int)∣p:=Int.gcd_dvd_left p q
  have e:(bJ p q:Int)∣q:=Int.gcd_dvd_right p q
  rw [<- Int.ofNat_dvd]
  apply Int.dvd_coe_gcd
  ·rw [g];exact Int.dvd_add (aF dp) (aF e)
  ·rw [i];exact Int.dvd_add (aF dp) (aF e)
 ·have d:(bJ a b:Int)∣a:=Int.gcd_dvd_left a b
  have c:(bJ a b:Int)∣b:=Int.gcd_dvd_right a b
  rw [<- Int.ofNat_dvd]
  apply Int.dvd_coe_gcd
  ·unfold Ix;split
   ·exact bI (aF d) (aF c)
   ·exact bI (aF c) (aF d)
  ·unfold Iw;split
   ·exact bI (aF c) (aF d)
   ·exact bI (aF d) (aF c)
def Dy(pre ws:List Int)(i:Nat):(pre++ws).getD (i+pre.length) 0=ws.getD i 0:=by
 simp [aP,List.getElem?_append_right (Nat.le_add_left pre.length i)]
def Ir(pre ws:List Int)(i:Nat)(v:Int):(pre++ws).set (i+pre.length) v=pre++ws.set i v:=by
 rw [List.set_append_right _ _ (by omega),Nat.add_sub_cancel]
def Cf{B:Int}(hB:0<B){ws:List Int}{n:Nat}(d:Dig B ws)(h:val B ws<B^n):val B (ws.drop n)=0:=by
 by_cases b:n<=ws.length
 ·have g:=E7 B ws b
  have c:=C5 hB (d.take n)
  have e:=C5 hB (d.drop n)
  by_cases a:val B (ws.drop n)=0
  ·exact a
  ·have:B^n*1<=B^n*val B (ws.drop n):=aE (by omega) (aL (D6 hB n))
   omega
 ·rw [bB (by omega)];rfl
section
variable {g:Heap} {bu bq:Nat} {pre qs:List Int} {VA:Option Addr} {vs:List Int}
def B0h{n N:Nat}{ws:List Int}{q:Int}{J:LP}(hu:g bu=none)(hq:g bq=none)(hne:bu≠bq)(sv:SlI .u32 g VA vs)(dv:Dig b32 vs)(hn:n=vs.length)(dw:Dig b32 ws)(hN:N=(pre++ws).length)(hl:n<ws.length)(hbig:N<=200000000)
 (hD:val b32 (ws.take n)+val b32 vs<2*b32^n) (hD0:b32^n<=val b32 (ws.take n)+val b32 vs) (htop:ws.getD n 0=4294967295)
 (hJ:∀ ws',ws'.length=ws.length->Dig b32 ws'->ws'.drop (n+1)=ws.drop (n+1)->ws'.getD n 0=0->val b32 (ws'.take n)=val b32 (ws.take n)+val b32 vs-b32^n->J [U (B8 (q-1))] (X8 .u32 C1 g bu (pre++ws') bq qs)):
 Nv prog VA n (some ⟨bu,0,none⟩) N (pre.length:Int) q J (X8 .u32 C1 g bu (pre++ws) bq qs):=by
 unfold Nv
 refine ⟨fun l D=>∃ (k:Nat) (c:Int) (zs:List Int),l=[U c,I k]/\k<=n/\zs.length=ws.length/\Dig b32 zs/\(0<=c/\c<=1)/\D=X8 .u32 C1 g bu (pre++zs) bq qs/\zs.drop k=ws.drop k/\val b32 (zs.take k)+c*b32^k=val b32 (ws.take k)+val b32 (vs.take k),fun l _=>n-(iAt l 1).toNat,⟨0,0,ws,rfl,by omega,rfl,dw,by omega,rfl,rfl,by simp [val]⟩,?_⟩
 rintro c i S ⟨k,L,zs,y,R,d,j,Q,rfl,a,C⟩
 obtain ⟨rfl,rfl⟩:c=L/\i=(k:Int):=by simpa using y
 have o:g.le (X8 .u32 C1 g bu (pre++zs) bq qs):=Ns hu hq hne
 have z:SlI .u32 (X8 .u32 C1 g bu (pre++zs) bq qs) (some ⟨bu,0,none⟩) (pre++zs):=Su hne
 have b:N=(pre++zs).length:=by rw [hN,aK,aK,d]
 have H:N=pre.length+zs.length:=by rw [b,aK]
 have x:B5 ((k:Int)+pre.length)=((k+pre.length:Nat):Int):=by rw [B6 (by omega) (by omega)];omega
 have m:B5 ((pre.length:Int)+n)=((n+pre.length:Nat):Int):=by rw [B6 (by omega) (by omega)];omega
 refine B4 (fun E=>?_) (fun E=>?_)
 ·have T:=Aj dv k
  have O:=Aj j k
  have e:=E2 a
  have F:=C2 b32 vs k
  have G:=C2 b32 ws k
  rw [x]
  refine z.load b (by omega) (by omega) ?_
  refine (sv.mono o).load hn (by omega) (by omega) ?_
  simp only [aD,Dy]
  have B:B8 (c+B8 (B8 (zs.getD k 0)+B8 (vs.getD k 0)))=c+zs.getD k 0+vs.getD k 0:=by
   rw [B9 (n:=zs.getD k 0) (by omega) (by omega),B9 (n:=vs.getD k 0) (by omega) (by omega),B9 (n:=zs.getD k 0+vs.getD k 0) (by omega) (by omega),B9 (by omega) (by omega)];omega
  rw [B]
  refine ⟨_,rfl,by omega,by omega,?_⟩
  refine L5 (us:=pre++zs) (i:=((k+pre.length:Nat):Int)) H8 hne (by rw [aD];omega) ?_
  rw [aD,Ir,U7,Tz,B6 (n:=(k:Int)+1) (by omega) (by omega)]
  refine ⟨⟨k+1,_,zs.set k ((c+zs.getD k 0+vs.getD k 0)%4294967296),rfl,by omega,by simpa using d,j.set (A12 _),by omega,rfl,?_,?_⟩,by simp only [iAt,aH,aR];omega⟩
  ·rw [D3 (by omega)];exact D7 a
  ·rw [C6 (by omega),E5,aI,aJ (by omega),aQ,Ao,F,G,<- e]
   grind
 ·have r:k=n:=by omega
  subst r
  have e:=E2 a
  rw [m]
  refine z.load b (by omega) (by omega) ?_
  rw [aD,Dy,e,htop]
  refine ⟨_,rfl,by omega,by omega,?_⟩
  refine L5 (us:=pre++zs) (i:=((k+pre.length:Nat):Int)) H8 hne (by rw [aD];omega) ?_
  rw [aD,Ir]
  have u:vs.take k=vs:=by rw [hn,aM]
  rw [u] at C
  have s:=I5 (by decide) (j.take k)
  rw [aI,aJ (by omega)] at s
  have M:=C5 (by decide) (j.take k)
  have w:c=1:=by
   by_cases p:c=0
   ·subst p;omega
   ·omega
  subst w
  have A:E9 (4294967295+E9 1)=0:=by rw [K5 (n:=1) (by omega) (by omega),U7];omega
  rw [A]
  refine hJ (zs.set k 0) (by simpa using d) (j.set (by decide)) (by rw [D3 (by omega)];exact D7 a) (by simp [aP,show k<zs.length by omega]) ?_
  rw [bF (by omega)]
  omega
def A6s{n N nq:Nat}{ws:List Int}{q X Y:Int}{J:LP}(hu:g bu=none)(hq:g bq=none)(hne:bu≠bq)(sv:SlI .u32 g VA vs)(dv:Dig b32 vs)(hn:n=vs.length)(dw:Dig b32 ws)(hN:N=(pre++ws).length)(hl:n<ws.length)(hbig:N<=200000000)
 (hnq:nq=qs.length) (hjq:pre.length<qs.length)
 (hX:X=val b32 (ws.take n)+b32^n*ws.getD n 0) (hY:Y=val b32 vs) (hq0:0<=q) (hq1:q<=4294967296) (hlt:X<(q+1)*Y) (hge:(q-1)*Y<=X) (hXB:X<Y*4294967296)
 (hJ:∀ ws' q',ws'.length=ws.length->Dig b32 ws'->ws'.drop (n+1)=ws.drop (n+1)->ws'.getD n 0=0->val b32 (ws'.take n)=X-q'*Y->0<=X-q'*Y->X-q'*Y<Y->0<=q'->q'<4294967296->J [] (X8 .u32 C1 g bu (pre++ws') bq (qs.set pre.length q'))):
 Nw prog VA n (some ⟨bu,0,none⟩) N (some ⟨bq,0,none⟩) nq (pre.length:Int) J q (X8 .u32 C1 g bu (pre++ws) bq qs):=by
 have af:Y<b32^n:=by rw [hY,hn];exact I5 (by decide) dv
 have ag:0<=X:=by
  have A:=C5 (by decide) (dw.take n)
  have W:=aG (aL (D6 (B:=b32) (by decide) n)) (Aj dw n).1
  omega
 have D:0<Y:=by
  by_cases h0:0<Y
  ·exact h0
  ·have:Y=0:=by have:=C5 (by decide) dv;omega
   rw [this] at hXB;omega
 have E:∀ ws' q',ws'.length=ws.length->Dig b32 ws'->ws'.drop (n+1)=ws.drop (n+1)->ws'.getD n 0=0->val b32 (ws'.take n)=X-q'*Y->0<=X-q'*Y->X-q'*Y<Y->0<=q'->Nz prog (some ⟨bq,0,none⟩) nq (pre.length:Int) J q' (X8 .u32 C1 g bu (pre++ws') bq qs):=by
  intro ws' q' A W h3 h4 h5 h6 h7 h8
  have u:q'<4294967296:=by
   by_cases o:q'<4294967296
   ·exact o
   ·have:=aC (show 4294967296<=q' by omega) (aL D)
    rw [aO Y] at hXB;omega
  unfold Nz
  refine ⟨_,rfl,by omega,by omega,?_⟩
  refine Sv (i:=(pre.length:Int)) H8 (by rw [aD];omega) ?_
  rw [aD,K5 h8 (by omega)]
  exact hJ ws' q' A W h3 h4 h5 h6 h7 h8 u
 unfold Nw
 refine ⟨fun l Q=>∃ (k:Nat) (c b:Int) (zs:List Int),l=[U c,U b,I k]/\k<=n/\zs.length=ws.length/\Dig b32 zs/\(0<=c/\c<4294967296)/\(0<=b/\b<=1)/\Q=X8 .u32 C1 g bu (pre++zs) bq qs/\zs.drop k=ws.drop k/\val b32 (zs.take k)=val b32 (ws.take k)-q*val b32 (vs.take k)+(c+b)*b32^k,fun l _=>n-(iAt l 2).toNat,⟨0,0,0,ws,rfl,by omega,rfl,dw,by omega,by omega,rfl,rfl,by simp [val]⟩,?_⟩
 rintro c b i hp ⟨k,c',b',zs,ac,hk,m,s,o,hb,rfl,d,M⟩
 obtain ⟨rfl,rfl,rfl⟩:c=c'/\b=b'/\i=(k:Int):=by simpa using ac
 have F:g.le (X8 .u32 C1 g bu (pre++zs) bq qs):=Ns hu hq hne
 have su:SlI .u32 (X8 .u32 C1 g bu (pre++zs) bq qs) (some ⟨bu,0,none⟩) (pre++zs):=Su hne
 have j:N=(pre++zs).length:=by rw [hN,aK,aK,m]
 have ai:N=pre.length+zs.length:=by rw [j,aK]
 have ab:B5 ((k:Int)+pre.length)=((k+pre.length:Nat):Int):=by rw [B6 (by omega) (by omega)];omega
 have C:B5 ((pre.length:Int)+n)=((n+pre.length:Nat):Int):=by rw [B6 (by omega) (by omega)];omega
 refine B4 (fun A=>?_) (fun A=>?_)
 ·have gv:=Aj dv k
  have gz:=Aj s k
  have r:=E2 d
  have vv:=C2 b32 vs k
  have vw:=C2 b32 ws k
  refine (sv.mono F).load hn (by omega) (by omega) ?_
  rw [ab]
  refine su.load j (by omega) (by omega) ?_
  simp only [aD,Dy]
  have hm:0<=q*vs.getD k 0/\q*vs.getD k 0<=4294967296*4294967295:=⟨aG hq0 gv.1,bN hq1 (by omega) gv.1 (by decide)⟩
  have ep:B8 (B8 (q*B8 (vs.getD k 0))+c)=q*vs.getD k 0+c:=by
   rw [B9 (n:=vs.getD k 0) (by omega) (by omega),B9 (n:=q*vs.getD k 0) (by omega) (by omega),B9 (by omega) (by omega)]
  rw [ep,As (by omega),Tz,Tz,B9 (n:=zs.getD k 0) (by omega) (by omega)]
  generalize z:q*vs.getD k 0+c=p at *
  have ah:0<=p/\p<18446744073709551616:=by omega
  have G:B8 (B8 (zs.getD k 0-p%4294967296)-b)=(zs.getD k 0-p%4294967296-b)%18446744073709551616:=by
   rw [D8,D8];omega
  rw [G,Hw (by omega)]
  refine ⟨_,rfl,by omega,by omega,?_⟩
  refine L5 (us:=pre++zs) (i:=((k+pre.length:Nat):Int)) H8 hne (by rw [aD];omega) ?_
  rw [aD,Ir,U7,B6 (n:=(k:Int)+1) (by omega) (by omega)]
  refine ⟨⟨k+1,_,_,zs.set k ((zs.getD k 0-p%4294967296-b)%18446744073709551616%4294967296),rfl,by omega,by simpa using m,s.set (A12 _),by omega,by omega,rfl,?_,?_⟩,by simp only [iAt,aH,aR];omega⟩
  ·rw [D3 (by omega)];exact D7 d
  ·rw [C6 (by omega),E5,aI,aJ (by omega),aQ,vv,vw,<- r,M]
   have key:(zs.getD k 0-p%4294967296-b)%18446744073709551616%4294967296=zs.getD k 0-p-b+4294967296*(p/4294967296+(zs.getD k 0-p%4294967296-b)%18446744073709551616/4294967296%2):=by omega
   rw [key,<- z]
   grind
 ·have L:k=n:=by omega
  subst L
  have r:=E2 d
  have gz:=Aj s k
  have S:vs.take k=vs:=by rw [hn,aM]
  rw [S,<- hY] at M
  have aa:=I5 (by decide) (s.take k)
  rw [aI,aJ (by omega)] at aa
  have aj:=C5 (by decide) (s.take k)
  rw [C]
  refine su.load j (by omega) (by omega) ?_
  rw [aD,Dy]
  have hD:X-q*Y=val b32 (zs.take k)+(zs.getD k 0-c-b)*b32^k:=by
   rw [M,hX,r];grind
  have w:X-q*Y<Y:=by
   have:(q+1)*Y=q*Y+Y:=by grind
   omega
  have ae: -Y<=X-q*Y:=by
   have:(q-1)*Y=q*Y-Y:=by grind
   omega
  have z:0<b32^k:=D6 (by decide) k
  have a:zs.getD k 0-c-b=0\/zs.getD k 0-c-b= -1:=by
   have W:zs.getD k 0-c-b<1:=by
    by_cases o:zs.getD k 0-c-b<1
    ·exact o
    ·have:=aC (show 1<=zs.getD k 0-c-b by omega) (aL z);omega
   have h3: -2<zs.getD k 0-c-b:=by
    by_cases o: -2<zs.getD k 0-c-b
    ·exact o
    ·have:=aC (show zs.getD k 0-c-b <= -2 by omega) (aL z);omega
   omega
  have G:B8 (B8 (B8 (zs.getD k 0)-c)-b)=(zs.getD k 0-c-b)%18446744073709551616:=by
   rw [B9 (n:=zs.getD k 0) (by omega) (by omega),D8,D8];omega
  rw [G]
  have T:∀ x:Int,Int.fdiv x (2^(min ((63:Int)).toNat 64))=x/9223372036854775808:=by
   intro x;rw [show (2:Int)^(min ((63:Int)).toNat 64)=9223372036854775808 by decide];exact bO x (by decide)
  refine ⟨_,rfl,by omega,by omega,?_⟩
  refine L5 (us:=pre++zs) (i:=((k+pre.length:Nat):Int)) H8 hne (by rw [aD];omega) ?_
  rw [aD,Ir,U7,T]
  have y:∀ v,(zs.set k v).getD k 0=v:=by intro v;simp [aP,show k<zs.length by omega]
  refine ⟨fun l Q=>∃ ws' q',l=[U q']/\Q=X8 .u32 C1 g bu (pre++ws') bq qs/\ws'.length=ws.length/\Dig b32 ws'/\ws'.drop (k+1)=ws.drop (k+1)/\ws'.getD k 0=0/\val b32 (ws'.take k)=X-q'*Y/\0<=X-q'*Y/\X-q'*Y<Y/\0<=q',?_,?_⟩
  ·rcases a with a|a
   ·rw [a] at hD ⊢
    refine D9 (fun e=>absurd e (by decide)) (fun _=>?_)
    refine ⟨zs.set k (0%18446744073709551616%4294967296),q,rfl,rfl,by simpa using m,s.set (by decide),by rw [D3 (by omega)];exact D7 d,y _,?_,by omega,w,hq0⟩
    rw [bF (by omega)];omega
   ·rw [a] at hD ⊢
    refine D9 (fun _=>?_) (fun e=>absurd (by decide) e)
    have Z:1<=q:=by
     by_cases o:1<=q
     ·exact o
     ·have:q=0:=by omega
      subst this;omega
    have R:(zs.set k (-1%18446744073709551616%4294967296)).take k=zs.take k:=bF (by omega)
    have e1:(q-1)*Y=q*Y-Y:=by grind
    refine B0h (ws:=zs.set k (-1%18446744073709551616%4294967296)) hu hq hne sv dv hn (s.set (by decide)) (by rw [j];simp) (by simpa using (show k<zs.length by omega)) hbig ?_ ?_ (y _) ?_
    ·rw [R,<- hY];omega
    ·rw [R,<- hY];omega
    ·intro ws' g1 H O g4 g5
     rw [R,<- hY] at g5
     rw [B9 (n:=q-1) (by omega) (by omega)]
     refine ⟨ws',q-1,rfl,rfl,by rw [g1];simpa using m,H,?_,g4,by omega,by omega,by omega,by omega⟩
     rw [O,D3 (by omega)];exact D7 d
  ·rintro q2 ad ⟨ws',q',V,rfl,g1,H,O,g4,g5,g6,g7,g8⟩
   obtain rfl:q2=q':=by simpa using V
   exact E ws' q2 g1 H O g4 g5 g6 g7 g8
end
def A04(B:Int)(xs:List Int)(i:Nat):val B (xs.drop i)=xs.getD i 0+B*val B (xs.drop (i+1)):=by
 by_cases a:i<xs.length
 ·exact Js B a
 ·rw [bB (by omega),bB (by omega)]
  simp [val,aP,aU (Nat.le_of_not_lt a)]
def Jv{s:Nat}(hs:s<=32):(2:Int)^s*2^(32-s)=4294967296:=by
 rw [<- Int.pow_add,show s+(32-s)=32 by omega];decide
section
variable {h g:Heap} {K:VP} {A B:Option Addr} {ac bc:Nat} {bu bq:Nat} {VA:Option Addr} {vs us0:List Int}
def A8t{s nq cq rn cr:Nat}{rs tl qs:List Int}{Q R:Int}(hu:g bu=none)(hq:g bq=none)(hne:bu≠bq)(hs:s<32)(hrn:rn=rs.length)(hcr:rn<=cr)(hnq:nq=qs.length)(hcq:nq<=cq)(dq:Dig b32 qs)(dr:Dig b32 rs)(hb1:nq<=200000000)(hb2:rn<=200000000)(hQ:val b32 qs=Q)(hR:val b32 rs=R*2^s)
 (hK:∀ A1 m1 c1 A2 m2 c2 h',g.le h'->m1<=c1->m2<=c2->Mg h' A1 m1 Q->Mg h' A2 m2 R->K (.tuple #[.slice A1 m1 c1,.slice A2 m2 c2]) h'):
 Hy prog K (s:Int) (some ⟨bq,0,none⟩) nq cq (some ⟨bu,0,none⟩) rn cr (X8 .u32 C1 g bu (rs++tl) bq qs):=by
 have r:0<(2:Int)^s:=aX (by decide)
 have d:=Jv (Nat.le_of_lt hs)
 have w:0<(2:Int)^(32-s):=aX (by decide)
 unfold Hy
 refine ⟨fun l h'=>∃ (k:Nat) (zs:List Int),l=[I k]/\k<=rn/\zs.length=rs.length/\Dig b32 zs/\h'=X8 .u32 C1 g bu (zs++tl) bq qs/\zs.drop k=rs.drop k/\2^s*val b32 (zs.take k)+rs.getD 0 0%2^s=val b32 (rs.take k)+b32^k*(rs.getD k 0%2^s),fun l _=>rn-(iAt l 0).toNat,⟨0,rs,rfl,by omega,rfl,dr,rfl,rfl,by simp [val]⟩,?_⟩
 rintro i ad ⟨k,zs,N,hk,a,A,rfl,b,y⟩
 obtain rfl:=sI1 N
 have B:∀ zs:List Int,SlI .u32 (X8 .u32 C1 g bu (zs++tl) bq qs) (some ⟨bu,0,none⟩) zs:=by
  intro zs
  have:=(Su (g:=g) (k:=.u32) (e:=C1) (us:=zs++tl) (qs:=qs) hne).cut (c:=(zs++tl).length) (l:=0) (m:=zs.length) (by omega) (by simp) (aW _)
  simpa [H1] using this
 have C:B5 ((k:Int)+1)=((k+1:Nat):Int):=by rw [B6 (by omega) (by omega)];omega
 have O:=Aj A k
 have q:=E2 b
 refine B4 (fun T=>?_) (fun T=>?_)
 ·refine (B zs).load (by omega) (by omega) (by omega) ?_
  refine B4 (fun e=>absurd e (by omega)) (fun _=>?_)
  refine ⟨_,rfl,by omega,by omega,?_⟩
  simp only [aD]
  rw [aJ (by omega),bO _ (aL r)]
  refine L5 (us:=zs++tl) (i:=(k:Int)) H8 hne (by rw [aD,aK];omega) ?_
  rw [aD,List.set_append_left _ _ (by omega),C]
  have j:0<=zs.getD k 0/2^s:=aZ O.1 (by omega)
  have F:zs.getD k 0/2^s<2^(32-s):=by
   apply aV r
   rw [aO,d];exact O.2
  have x:(2:Int)^(32-s)<=4294967296:=by
   rw [<- d]
   have:=aC (show 1<=(2:Int)^s by omega) (aL w);omega
  have d1:Dig b32 (zs.set k (zs.getD k 0/2^s)):=A.set ⟨j,by show _<(4294967296:Int);omega⟩
  have l1:(zs.set k (zs.getD k 0/2^s)).length=rs.length:=by rw [bC];exact a
  have g1:(zs.set k (zs.getD k 0/2^s)).getD k 0=zs.getD k 0/2^s:=by simp [aP,show k<zs.length by omega]
  have g2:(zs.set k (zs.getD k 0/2^s)).getD (k+1) 0=rs.getD (k+1) 0:=by
   rw [A35 (by omega)];exact E2 (D7 b)
  have W:=C2 b32 rs k
  have p:∀ z:Int,(0<=z/\z<4294967296)->2^s*z=zs.getD k 0-zs.getD k 0%2^s+4294967296*(rs.getD (k+1) 0%2^s)->
   2^s*val b32 ((zs.set k z).take (k+1))+rs.getD 0 0%2^s=val b32 (rs.take (k+1))+b32^(k+1)*(rs.getD (k+1) 0%2^s):=by
   intro z hz ez
   rw [C6 (by omega),E5,aI,aJ (by omega),W,aQ,<- q]
   rw [<- q] at y
   have Z:2^s*(val b32 (zs.take k)+b32^k*z)=2^s*val b32 (zs.take k)+b32^k*(2^s*z):=by grind
   rw [Z,ez]
   grind
  have ab:=aS (zs.getD k 0) (2^s)
  refine B4 (fun h2=>?_) (fun h2=>?_)
  ·refine (B _).load (by omega) (by omega) (by omega) ?_
   refine (B _).load (by omega) (by omega) (by omega) ?_
   simp only [aD,g1,g2]
   have es:B8 ((32:Int)-s)=((32-s:Nat):Int):=by rw [B9 (by omega) (by omega)];omega
   rw [es]
   refine B4 (fun e=>absurd e (by omega)) (fun _=>?_)
   refine ⟨_,rfl,by omega,by omega,?_⟩
   have V:=Aj dr (k+1)
   have D:0<=rs.getD (k+1) 0*2^(32-s):=aG V.1 (by omega)
   have L:rs.getD (k+1) 0*2^(32-s)<18446744073709551616:=by
    have:=bN (show rs.getD (k+1) 0<=4294967295 by omega) x (by omega) (by decide)
    omega
   rw [aD,aJ (show 32-s<=64 by omega),B9 (n:=rs.getD (k+1) 0) (by omega) (by omega),B9 D L,U7]
   obtain ⟨o1,S⟩:=A4z (s:=32-s) (by omega) V ⟨j,F⟩
   rw [o1]
   refine L5 (us:=zs.set k (zs.getD k 0/2^s)++tl) (i:=(k:Int)) H8 hne (by rw [aD,aK];omega) ?_
   rw [aD,List.set_append_left _ _ (by omega),List.set_set]
   have X:=A12 (rs.getD (k+1) 0*2^(32-s))
   refine ⟨⟨k+1,zs.set k (zs.getD k 0/2^s+rs.getD (k+1) 0*2^(32-s)%4294967296),rfl,by omega,by simpa using a,A.set ⟨by omega,S⟩,rfl,by rw [D3 (by omega)];exact D7 b,p _ ⟨by omega,S⟩ ?_⟩,by simp only [iAt,aH];omega⟩
   have em:rs.getD (k+1) 0*2^(32-s)%4294967296=2^(32-s)*(rs.getD (k+1) 0%2^s):=by
    rw [<- d,aO (2^s),aO (rs.getD (k+1) 0),bV _ _ w]
   rw [em,Int.mul_add,<- Int.mul_assoc,d]
   omega
  ·have M:k+1=rs.length:=by omega
   have G:rs.getD (k+1) 0=0:=by simp [aP,aU (show rs.length<=k+1 by omega)]
   refine ⟨⟨k+1,zs.set k (zs.getD k 0/2^s),rfl,by omega,l1,d1,rfl,by rw [D3 (by omega)];exact D7 b,p _ ⟨j,by omega⟩ ?_⟩,by simp only [iAt,aH];omega⟩
   rw [G,Int.zero_emod,bG,bX];omega
 ·have H:k=rs.length:=by omega
  subst H
  have G:rs.getD rs.length 0=0:=by simp [aP]
  rw [aM,<- a,aM,a,G] at y
  have E:val b32 zs=R:=by
   have h0:=aY (rs.getD 0 0) (show (2:Int)^s≠0 by omega)
   have T:=aT (rs.getD 0 0) r
   rw [hR] at y
   simp at y
   have:2^s*(R-val b32 zs)=rs.getD 0 0%2^s:=by
    have:2^s*(R-val b32 zs)=R*2^s-2^s*val b32 zs:=by grind
    simp only [aP] at *
    omega
   have hz:R-val b32 zs=0:=by
    by_cases hc:R-val b32 zs<=0
    ·by_cases J:R-val b32 zs=0
     ·exact J
     ·have:=aE (show R-val b32 zs <= -1 by omega) (aL r);omega
    ·have:=aE (show 1<=R-val b32 zs by omega) (aL r);omega
   omega
  rw [hnq]
  refine U8 B5k dq (by omega) (by omega) ?_
  intro m1 ac u
  refine ⟨_,_,_,rfl,?_⟩
  rw [hrn,<- a]
  refine U8 (B zs) A (by omega) (by omega) ?_
  intro m2 aa o
  rw [hQ] at u
  rw [E] at o
  exact ⟨_,_,_,rfl,hK _ _ _ _ _ _ _ (Ns hu hq hne) (by omega) (by omega) u o⟩
def A6z{s mm N nq:Nat}{us0:List Int}{a b Y:Int}(hu:g bu=none)(hq:g bq=none)(hne:bu≠bq)(sv:SlI .u32 g VA vs)(dv:Dig b32 vs)(hn:vs.length=mm+2)(hv1:4294967296<=2*vs.getD (mm+1) 0)(hs:s<32)(hY:val b32 vs=Y)(hYb:Y=b*2^s)(du:Dig b32 us0)(hN:us0.length=N)(hua:val b32 us0=a*2^s)(hnq:N=nq+(mm+2))(hnq1:1<=nq)(hbig:N<=200000000)(htop:val b32 (us0.drop nq)<Y)
 (hK:∀ A1 m1 c1 A2 m2 c2 h',g.le h'->m1<=c1->m2<=c2->Mg h' A1 m1 (a/b)->Mg h' A2 m2 (a%b)->K (.tuple #[.slice A1 m1 c1,.slice A2 m2 c2]) h'):
 Ny prog K (s:Int) VA (mm+2) (some ⟨bu,0,none⟩) N N (some ⟨bq,0,none⟩) nq nq (X8 .u32 C1 g bu us0 bq (bK nq 0)):=by
 have hp:0<(2:Int)^s:=aX (by decide)
 have ap:Y<b32^(mm+2):=by rw [<- hY,<- hn];exact I5 (by decide) dv
 have aw:0<Y:=by have:=C5 (by decide) (du.drop nq);omega
 have e0:B5 (B5 ((N:Int)-((mm+2:Nat):Int))-1)=(nq:Int)-1:=by rw [B6 (n:=(N:Int)-((mm+2:Nat):Int)) (by omega) (by omega),B6 (by omega) (by omega)];omega
 unfold Ny
 refine ⟨fun l h'=>∃ (k:Nat) (us qs:List Int),l=[I ((k:Int)-1)]/\k<=nq/\us.length=N/\qs.length=nq/\Dig b32 us/\Dig b32 qs/\h'=X8 .u32 C1 g bu us bq qs/\val b32 (us.drop k)<Y/\val b32 us0=val b32 (qs.drop k)*Y*b32^k+val b32 us,fun l _=>(iAt l 0+1).toNat,⟨nq,us0,_,by rw [e0],by omega,hN,by simp,du,G4 (by decide) _,rfl,htop,by simp [val]⟩,?_⟩
 rintro j ar ⟨k,us,qs,ai,hk,p,C,o,S,rfl,ag,hv⟩
 obtain rfl:j=(k:Int)-1:=by simpa using ai
 have D:g.le (X8 .u32 C1 g bu us bq qs):=Ns hu hq hne
 have V:SlI .u32 (X8 .u32 C1 g bu us bq qs) (some ⟨bu,0,none⟩) us:=Su hne
 unfold Wo
 refine B4 (fun h1=>?_) (fun h1=>?_)
 ·obtain ⟨j,rfl⟩:∃ j,k=j+1:=⟨k-1,by omega⟩
  have ej:((j+1:Nat):Int)-1=(j:Int):=by omega
  rw [ej]
  have e1:B5 ((j:Int)+((mm+2:Nat):Int))=((j+(mm+2):Nat):Int):=by rw [B6 (by omega) (by omega)];omega
  have e2:B5 (((j+(mm+2):Nat):Int)-1)=((j+(mm+1):Nat):Int):=by rw [B6 (by omega) (by omega)];omega
  have e3:B5 (((mm+2:Nat):Int)-1)=((mm+1:Nat):Int):=by rw [B6 (by omega) (by omega)];omega
  rw [e1,e2,e3]
  have R:=o.drop j
  have E:(us.drop j).length=N-j:=by rw [List.length_drop,p]
  have aa:∀ i,(us.drop j).getD i 0=us.getD (j+i) 0:=fun i=>A1e
  have w:val b32 ((us.drop j).drop (mm+3))=0:=by
   have:=Cf (B:=b32) (by decide) (n:=mm+2) (o.drop (j+1)) (by omega)
   rw [bA] at this ⊢
   rw [show j+(mm+3)=j+1+(mm+2) by omega];exact this
  have ae:=A04 b32 us j
  have Q:val b32 (us.drop j)<Y*4294967296:=by
   have:=Aj o j
   rw [ae]
   have:b32*(val b32 (us.drop (j+1))+1)<=b32*Y:=aE (by omega) (by decide)
   have e:b32*(val b32 (us.drop (j+1))+1)=b32*val b32 (us.drop (j+1))+4294967296:=by show (4294967296:Int)*_=_;grind
   have e':Y*4294967296=b32*Y:=aO _ _
   omega
  have x:=E7 b32 (us.drop j) (i:=mm+3) (by omega)
  rw [w,bG,bX] at x
  have Z:=F2 b32 (us.drop j) (mm+2)
  have hX:val b32 (us.drop j)=val b32 ((us.drop j).take (mm+2))+b32^(mm+2)*(us.drop j).getD (mm+2) 0:=by rw [x];exact Z
  have es:=B5h (B:=b32) (by decide) (us:=(us.drop j).take (mm+3)) (m:=mm) (R.take _) dv (by rw [aI,E];omega) hn hv1 (by rw [<- x,hY];exact Q)
  have gt:∀ i,i<mm+3->((us.drop j).take (mm+3)).getD i 0=us.getD (j+i) 0:=by
   intro i hi
   rw [<- aa];simp [aP,hi]
  rw [gt (mm+2) (by omega),gt (mm+1) (by omega),gt mm (by omega),<- x,hY] at es
  refine ⟨fun l h'=>∃ d u,l=[]/\h'=X8 .u32 C1 g bu d bq (qs.set j u)/\d.length=N/\Dig b32 d/\(0<=u/\u<4294967296)/\val b32 (d.drop j)<Y/\val b32 (d.drop j)=val b32 (us.drop j)-u*Y/\d.take j=us.take j,?_,?_⟩
  ·refine V.load p.symm (by omega) (by omega) ?_
   refine V.load p.symm (by omega) (by omega) ?_
   refine (sv.mono D).load hn.symm (by omega) (by omega) ?_
   simp only [aD]
   have av:=Aj dv (mm+1)
   have ew:B8 (vs.getD (mm+1) 0)=vs.getD (mm+1) 0:=B9 (by omega) (by omega)
   refine B4 (fun e=>absurd (ew.symm.trans e) (by omega)) (fun _=>?_)
   refine (sv.mono D).load hn.symm (by omega) (by omega) ?_
   simp only [aD]
   refine B4 (fun e=>absurd (ew.symm.trans e) (by omega)) (fun _=>?_)
   refine ⟨fun l h'=>∃ q,l=[U q]/\h'=X8 .u32 C1 g bu us bq qs/\0<=q/\q<=4294967296/\val b32 (us.drop j)<(q+1)*Y/\(q-1)*Y<=val b32 (us.drop j),?_,?_⟩
   ·have:=B3s (us:=us) (vs:=vs) (n:=mm+2) (j:=j) (J:=fun l h'=>∃ q,l=[U q]/\h'=X8 .u32 C1 g bu us bq qs/\0<=q/\q<=4294967296/\val b32 (us.drop j)<(q+1)*Y/\(q-1)*Y<=val b32 (us.drop j)) es (sv.mono D) V hn.symm (by omega) (by omega) (by omega) rfl rfl (by rw [show j+(mm+2)-2=j+mm by omega]) (Aj o (j+(mm+2))) (Aj o (j+(mm+1))) rfl (fun q q0 q1 q2 q3=>⟨q,rfl,rfl,q0,q1,q2,q3⟩)
    rw [p] at this
    exact this
   ·rintro q ao ⟨u,ah,rfl,am,ak,H,M⟩
    obtain rfl:q=u:=by simpa using ah
    unfold Wm
    have r:(us.take j).length=j:=by rw [aI,p];omega
    have:=A6s (g:=g) (bu:=bu) (bq:=bq) (pre:=us.take j) (qs:=qs) (VA:=VA) (vs:=vs) (n:=mm+2) (N:=N) (nq:=nq) (ws:=us.drop j) (q:=q) (X:=val b32 (us.drop j)) (Y:=Y)
     (J:=fun l h'=>∃ d u,l=[]/\h'=X8 .u32 C1 g bu d bq (qs.set j u)/\d.length=N/\Dig b32 d/\(0<=u/\u<4294967296)/\val b32 (d.drop j)<Y/\val b32 (d.drop j)=val b32 (us.drop j)-u*Y/\d.take j=us.take j)
     hu hq hne sv dv hn.symm R (by rw [bD,p]) (by omega) hbig C.symm (by omega) hX hY.symm am ak H M Q ?_
    ·rw [bD,r] at this
     exact this
    ·intro O u w1 w2 w3 w4 w5 w6 w7 w8 w9
     refine ⟨us.take j++O,u,rfl,by rw [r],by rw [aK,w1,E,r];omega,Dig.append (o.take j) w2,⟨w8,w9⟩,?_,?_,?_⟩
     all_goals first|(rw [List.drop_left' r])|(rw [List.take_left' r])
     all_goals
      have z1:=E7 b32 O (i:=mm+3) (by omega)
      rw [w3,w,F2,w4,w5] at z1
      simp at z1
      omega
  ·rintro aq ⟨d,u,_,rfl,u1,u2,u3,u4,u5,u6⟩
   unfold Wn
   have aj:B5 ((j:Int)-1)=(j:Int)-1:=B6 (by omega) (by omega)
   rw [aj]
   refine ⟨⟨j,d,qs.set j u,rfl,by omega,u1,by simpa using C,u2,S.set u3,rfl,u4,?_⟩,by simp only [iAt,aH];omega⟩
   have af:=E7 b32 d (i:=j) (by omega)
   have al:=E7 b32 us (i:=j) (by omega)
   rw [hv,S2 (by omega),af,al,u5,u6,aQ]
   simp only [val]
   grind
 ·have ab:k=0:=by omega
  subst ab
  simp at ag hv
  have ay:0<b:=by
   by_cases L:0<b
   ·exact L
   ·have:=aC (show b<=0 by omega) (aL hp);omega
  have au:=C5 (by decide) o
  have hR:val b32 us=(a-val b32 qs*b)*2^s:=by
   rw [hua,hYb] at hv
   grind
  have ad:0<=a-val b32 qs*b:=by
   by_cases L:0<=a-val b32 qs*b
   ·exact L
   ·have:=aC (show a-val b32 qs*b <= -1 by omega) (aL hp);omega
  have an:a-val b32 qs*b<b:=by
   by_cases L:a-val b32 qs*b<b
   ·exact L
   ·have:=aC (show b<=a-val b32 qs*b by omega) (aL hp);omega
  have y:a/b=val b32 qs:=by
   have:a=(a-val b32 qs*b)+val b32 qs*b:=by omega
   rw [this,bY _ _ (by omega),bW ad an,Int.zero_add]
  have G:a%b=a-val b32 qs*b:=by
   have:=Int.emod_def a b
   rw [this,y,aO]
  rw [y,G] at hK
  have hz:=Cf (B:=b32) (by decide) (n:=mm+2) o (by omega)
  have A:=E7 b32 us (i:=mm+2) (by omega)
  rw [hz,bG,bX] at A
  refine ⟨⟨by omega,by omega⟩,?_⟩
  rw [H1,aD,Nat.sub_zero,Nat.sub_zero]
  have z:(us.take (mm+2)).length=mm+2:=by rw [aI,p];omega
  have st:SlI .u32 (X8 .u32 C1 g bu us bq qs) (some ⟨bu,0,none⟩) (us.take (mm+2)):=by
   have:=V.cut (c:=N) (l:=0) (m:=mm+2) (by omega) (by omega) (by omega)
   simpa [H1] using this
  have tr:=A08 (K:=fun r7 F=>∃ (t259A:Option Addr) (t259n:Nat) (t259c:Nat),r7= .slice t259A t259n t259c/\Hy prog K (s:Int) (some ⟨bq,0,none⟩) nq nq t259A t259n t259c F) (ac:=N) st (by omega) (by omega) ?_
  ·rw [z] at tr;exact tr
  ·intro m hm ax T
   rw [z] at hm
   rw [List.take_take,aJ hm] at T
   refine ⟨_,_,_,rfl,?_⟩
   have W:us=us.take m++us.drop m:=(bD m us).symm
   rw [W]
   refine A8t (rs:=us.take m) (tl:=us.drop m) (qs:=qs) hu hq hne hs (by rw [aI,p];omega) (by omega) C.symm (aW _) S (o.take m) (by omega) (by omega) rfl ?_ hK
   rw [T,<- A,hR]
end
