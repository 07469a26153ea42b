/- A part. -/
import Derived.Test.YtmbfcbbkbefgfaaGreatDoorG14
import Derived.Test.YtmbfcbbkbefgfaaGreatDoorG15
open Go.Proofs.Tryz
set_option linter.all false
open Int renaming mul_le_mul_of_nonneg_right->aC,toNat_natCast->aD,mul_le_mul_of_nonneg_left->aE,dvd_mul_of_dvd_right->aF,mul_nonneg->aG,le_of_lt->aL,mul_comm->aO,pow_succ->aQ,mul_ediv_add_emod->aS,emod_lt_of_pos->aT,ediv_lt_of_lt_mul->aV,pow_pos->aX,emod_nonneg->aY,ediv_nonneg->aZ,mul_zero->bH,mul_pos->bI,dvd_sub->bJ,gcd->bK,tmod_eq_emod_of_nonneg->bM,tdiv_eq_ediv_of_nonneg->bN,mul_le_mul->bO,fdiv_eq_ediv_of_nonneg->bU,mul_emod_mul_of_pos->bW,ediv_eq_zero_of_lt->bX,add_zero->bY,add_mul_ediv_right->bZ
open List renaming getElem?_cons_zero->aH,length_take->aI,length_append->aK,take_length->aM,take_of_length_le->aN,getD->aP,getElem?_cons_succ->aR,getElem?_eq_none->aU,drop_drop->bB,drop_of_length_le->bC,length_set->bD,take_append_drop->bF,take_set_of_le->bG,replicate->bL,drop_eq_getElem_cons->bV
open Nat renaming min_eq_left->aJ,le_refl->aW
namespace Go.Proofs.YtmbfcbbkbefgfaaGreatDoor
set_option maxRecDepth 20000
open Go
section
variable {h g:Heap} {K:VP} {A B:Option Addr} {ac bc:Nat}
def Ui{x y:Int}{an bn:Nat}(ma:Mg h A an x)(mb:Mg h B bn y)(hxy:y<=x)(hl:an<=100000000)(hK:∀ A' m c' h',h.le h'->m<=c'->Mg h' A' m (x-y)->K (.slice A' m c') h'):FCall prog Oj #[.slice A an ac,.slice B bn bc] h K:=by
 have Q:bn<=an:=by
  have j:=ma.lt (by decide)
  exact mb.len_le (by decide) (Int.lt_of_le_of_lt hxy j)
 obtain ⟨a,rfl,D,L,X,rfl⟩:=ma
 obtain ⟨f,rfl,J,N,ny,rfl⟩:=mb
 refine B0z _ _ _ _ _ _ ?_
 unfold B5l
 refine K3 Uh (by omega) (by omega) (by omega) ?_
 intro b u
 rw [aD]
 refine ⟨_,_,_,rfl,?_⟩
 refine ⟨fun l h'=>∃ (k:Nat) (c:Int) (zs:List Int),l=[U c,I k]/\k<=a.length/\zs.length=a.length/\Dig b32 zs/\(0<=c/\c<=1)/\h'=blk .u32 C6 h b zs/\val b32 (zs.take k)=val b32 (a.take k)-val b32 (f.take k)+c*b32^k,fun l _=>a.length-(iAt l 1).toNat,⟨0,0,_,rfl,by omega,by simp,I3 (by decide) _,by omega,rfl,by simp [val]⟩,?_⟩
 rintro c i W ⟨k,c',zs,q,S,g,p,T,rfl,w⟩
 obtain ⟨rfl,rfl⟩:c=c'/\i=(k:Int):=by simpa using q
 have o:=W8 (k:=.u32) (e:=C6) u zs
 refine B7 (fun j=>?_) (fun j=>?_)
 ·have Z:=Cb L k
  have V:=Cb N k
  have G:=C4 b32 a k
  have H:=C4 b32 f k
  refine (D.mono o).load rfl (by omega) (by omega) ?_
  rw [aD]
  refine ⟨fun l h'=>l=[U (C1 (a.getD k 0-c-f.getD k 0))]/\h'=blk .u32 C6 h b zs,B7 (fun C=>?_) (fun C=>?_),?_⟩
  ·refine (J.mono o).load rfl (by omega) (by omega) ?_
   rw [aD]
   refine ⟨?_,rfl⟩
   rw [C3 (n:=a.getD k 0) (by omega) (by omega),C3 (n:=f.getD k 0) (by omega) (by omega),E7,E7,E7]
   have E:((a.getD k 0-c)%18446744073709551616-f.getD k 0)%18446744073709551616=(a.getD k 0-c-f.getD k 0)%18446744073709551616:=by omega
   rw [E]
  ·refine ⟨?_,rfl⟩
   have M:f.getD k 0=0:=by simp [aP,aU (show f.length<=k by omega)]
   rw [M,C3 (n:=a.getD k 0) (by omega) (by omega),Int.sub_zero]
  ·rintro d R ⟨r,rfl⟩
   obtain rfl:d=C1 (a.getD k 0-c-f.getD k 0):=by simpa using r
   refine ⟨_,rfl,by omega,by omega,?_⟩
   refine R1 (k:=.u32) (zs:=zs) (i:=(k:Int)) K7 (by rw [aD];omega) ?_
   rw [aD,Z1,Xc,E7,B8 (n:=(k:Int)+1) (by omega) (by omega),Yx (by omega)]
   refine ⟨⟨k+1,_,zs.set k ((a.getD k 0-c-f.getD k 0)%18446744073709551616%4294967296),rfl,by omega,by simpa using g,p.set (A3j _),by omega,rfl,?_⟩,by simp only [iAt,aH,aR];omega⟩
   rw [C8 (by omega),F1,aI,aJ (by omega),aQ,G,H,w]
   have key:(a.getD k 0-c-f.getD k 0)%18446744073709551616%4294967296=a.getD k 0-c-f.getD k 0+4294967296*((a.getD k 0-c-f.getD k 0)%18446744073709551616/4294967296%2):=by omega
   rw [key]
   grind
 ·have s:k=a.length:=by omega
  subst s
  rw [aM,aN (show f.length<=a.length by omega),aN (show zs.length<=a.length by omega)] at w
  have t:c=0:=by
   have j:=L5 (by decide) p
   rw [g] at j
   by_cases O:c=0
   ·exact O
   ·have:c=1:=by omega
    subst this
    omega
  subst t
  rw [<- g]
  refine Bo (Dn _ _ _ _ _) p (aW _) (by omega) ?_
  intro m F z
  have e:val b32 zs=val b32 a-val b32 f:=by omega
  rw [e] at z
  exact ⟨_,_,_,rfl,hK _ _ _ _ (W8 u _) F z⟩
def B48{xs:List Int}{i:Nat}(hi:i<xs.length):xs.drop i=xs.getD i 0::xs.drop (i+1):=by
 rw [bV hi];simp [aP,hi]
def My(B:Int){xs:List Int}{i:Nat}(hi:i<xs.length):val B (xs.drop i)=xs.getD i 0+B*val B (xs.drop (i+1)):=by
 rw [B48 hi];rfl
def W7{xs:List Int}{i:Nat}{v:Int}(hi:i<xs.length):(xs.set i v).drop i=v::xs.drop (i+1):=by
 rw [bV (by simpa using hi)]
 simp [List.drop_set_of_lt]
def Ni{x d:Int}{an:Nat}(ma:Mg h A an x)(hd0:0<d/\d<4294967296)(hl:an<=100000000)(hK:∀ A' m c' h',h.le h'->m<=c'->m<=an->Mg h' A' m (x/d)->K (.tuple #[.slice A' m c',U32 (x%d)]) h'):FCall prog Gn #[.slice A an ac,U32 d] h K:=by
 obtain ⟨a,rfl,B,J,Q,rfl⟩:=ma
 refine A4z _ _ _ _ ?_
 unfold A50
 refine K3 Uh (by omega) (by omega) (by omega) ?_
 intro b w
 rw [aD]
 refine ⟨_,_,_,rfl,?_⟩
 refine ⟨fun l h'=>∃ (k:Nat) (r:Int) (zs:List Int),l=[U r,I ((k:Int)-1)]/\k<=a.length/\zs.length=a.length/\Dig b32 zs/\(0<=r/\r<d)/\h'=blk .u32 C6 h b zs/\val b32 (a.drop k)=val b32 (zs.drop k)*d+r,fun l _=>(iAt l 1+1).toNat,⟨a.length,0,_,by rw [B8 (by omega) (by omega)],by omega,by simp,I3 (by decide) _,by omega,rfl,by simp [val]⟩,?_⟩
 rintro r i O ⟨k,F,zs,o,N,c,y,g,rfl,f⟩
 obtain ⟨rfl,rfl⟩:r=F/\i=(k:Int)-1:=by simpa using o
 have s:=W8 (k:=.u32) (e:=C6) w zs
 refine B7 (fun C=>?_) (fun C=>?_)
 ·obtain ⟨j,rfl⟩:∃ j,k=j+1:=⟨k-1,by omega⟩
  have e:((j+1:Nat):Int)-1=(j:Int):=by omega
  rw [e]
  have L:=Cb J j
  refine (B.mono s).load rfl (by omega) (by omega) ?_
  rw [aD]
  have H:C1 d=d:=C3 (by omega) (by omega)
  have G:bor .u64 (C1 (r*2^(min ((32:Int)).toNat 64))) (C1 (a.getD j 0))=r*4294967296+a.getD j 0:=by
   rw [show (2:Int)^(min ((32:Int)).toNat 64)=4294967296 by decide,C3 (n:=a.getD j 0) (by omega) (by omega),C3 (n:=r*4294967296) (by omega) (by omega)]
   exact A1l (by omega) L
  rw [H,G]
  have u:0<=r*4294967296+a.getD j 0:=by omega
  have M:Int.tdiv (r*4294967296+a.getD j 0) d=(r*4294967296+a.getD j 0)/d:=bN u
  have D:Int.tmod (r*4294967296+a.getD j 0) d=(r*4294967296+a.getD j 0)%d:=bM u
  rw [M,D]
  have t:0<=(r*4294967296+a.getD j 0)/d/\(r*4294967296+a.getD j 0)/d<4294967296:=by
   constructor
   ·exact aZ u (by omega)
   ·apply aV (by omega)
    have:(r+1)*4294967296<=d*4294967296:=aC (by omega) (by decide)
    omega
  refine B7 (fun e=>absurd e (by omega)) (fun _=>?_)
  refine ⟨_,rfl,by omega,by omega,?_⟩
  refine R1 (k:=.u32) (zs:=zs) (i:=(j:Int)) K7 (by rw [aD];omega) ?_
  rw [aD,C3 (by omega) (by omega),S9 (by omega) (by omega),B8 (by omega) (by omega)]
  refine B7 (fun e=>absurd e (by omega)) (fun _=>?_)
  refine ⟨⟨j,_,zs.set j ((r*4294967296+a.getD j 0)/d),rfl,by omega,by simpa using c,y.set t,⟨aY _ (by omega),aT _ (by omega)⟩,rfl,?_⟩,by simp only [iAt,aH,aR];omega⟩
  rw [W7 (by omega),My b32 (by omega),f]
  have:=aS (r*4294967296+a.getD j 0) d
  simp only [val]
  grind
 ·have p:k=0:=by omega
  subst p
  rw [List.drop_zero,List.drop_zero] at f
  rw [<- c]
  refine Bo (Dn _ _ _ _ _) y (aW _) (by omega) ?_
  intro m E z
  have t:val b32 a/d=val b32 zs:=by
   rw [f,Int.add_comm,bZ _ _ (by omega),bX g.1 g.2,Int.zero_add]
  have q:val b32 a%d=r:=by
   rw [f,Int.add_comm,Int.add_mul_emod_self_right,Int.emod_eq_of_lt g.1 g.2]
  rw [<- t] at z
  rw [S9 (by omega) (by omega),<- q]
  exact ⟨_,_,_,rfl,hK _ _ _ _ (W8 w _) E (by omega) z⟩
end
def C3o{a b:Int}(ha:0<=a/\a<4294967296)(hb:0<=b/\b<4294967296):0<=a*b/\a*b<=18446744065119617025:=by
 refine ⟨aG ha.1 hb.1,?_⟩
 have:=bO (show a<=4294967295 by omega) (show b<=4294967295 by omega) hb.1 (by decide)
 omega
def E8{xs ys:List Int}{i:Nat}(h:xs.drop i=ys.drop i):xs.getD i 0=ys.getD i 0:=by
 have a:(xs.drop i)[0]? = (ys.drop i)[0]? :=by rw [h]
 simp at a
 simp [aP,a]
def D8{xs ys:List Int}{i:Nat}(h:xs.drop i=ys.drop i):xs.drop (i+1)=ys.drop (i+1):=by
 rw [<- bB,<- bB,h]
def D5{xs:List Int}{i j:Nat}{v:Int}(h:i<j):(xs.set i v).drop j=xs.drop j:=List.drop_set_of_lt h
section
variable {h g:Heap} {K:VP} {A B:Option Addr} {ac bc:Nat}
def A6d{x y:Int}{an bn:Nat}(ma:Mg h A an x)(mb:Mg h B bn y)(hl:an<=100000000)(hl2:bn<=100000000)(hK:∀ A' m c' h',h.le h'->m<=c'->Mg h' A' m (x*y)->K (.slice A' m c') h'):FCall prog Vl #[.slice A an ac,.slice B bn bc] h K:=by
 have E:=ma.len_zero (by decide)
 have G:=mb.len_zero (by decide)
 obtain ⟨d,rfl,R,dx,nx,rfl⟩:=ma
 obtain ⟨a,rfl,Z,dy,ny,rfl⟩:=mb
 refine B11 _ _ _ _ _ _ ?_
 unfold B5p
 refine E4 (fun h0=>?_) (fun hx=>E4 (fun h0=>?_) (fun hy=>?_))
 ·have:=hK none 0 0 h (B4 h) (aW _) (by rw [E.2 (by omega),Int.zero_mul];exact Mag.zero)
  exact this
 ·have:=hK none 0 0 h (B4 h) (aW _) (by rw [G.2 (by omega),bH];exact Mag.zero)
  exact this
 have e1:B6 ((d.length:Int)+a.length)=((d.length+a.length:Nat):Int):=by rw [B8 (by omega) (by omega)];omega
 rw [e1]
 refine K3 Uh (by omega) (by omega) (by omega) ?_
 intro b J
 rw [aD]
 refine ⟨_,_,_,rfl,?_⟩
 refine ⟨fun l h'=>∃ (k:Nat) (zs:List Int),l=[I k]/\k<=d.length/\zs.length=d.length+a.length/\Dig b32 zs/\h'=blk .u32 C6 h b zs/\zs.drop (k+a.length)=bL (d.length-k) 0/\val b32 (zs.take (k+a.length))=val b32 (d.take k)*val b32 a,fun l _=>d.length-(iAt l 0).toNat,⟨0,_,rfl,by omega,by simp,I3 (by decide) _,rfl,by simp,?_⟩,?_⟩
 ·rw [List.take_replicate,Cn];simp [val]
 rintro i hp ⟨k,f,D,hk,g,r,rfl,t,u⟩
 obtain rfl:=sI1 D
 refine B7 (fun S=>?_) (fun S=>?_)
 ·have gx:=Cb dx k
  have T:=C4 b32 d k
  refine ⟨fun l h'=>∃ (m:Nat) (c:Int) (zs:List Int),l=[U c,I m]/\m<=a.length/\zs.length=d.length+a.length/\Dig b32 zs/\(0<=c/\c<4294967296)/\h'=blk .u32 C6 h b zs/\zs.drop (k+m)=f.drop (k+m)/\val b32 (zs.take (k+m))+c*b32^(k+m)=val b32 (f.take (k+m))+b32^k*(d.getD k 0*val b32 (a.take m)),fun l _=>a.length-(iAt l 1).toNat,⟨0,0,f,rfl,by omega,g,r,by omega,rfl,rfl,by simp [val]⟩,?_⟩
  rintro c j aa ⟨m,c',zs,C,L,o,z,W,rfl,q,hv⟩
  obtain ⟨rfl,rfl⟩:c=c'/\j=(m:Int):=by simpa using C
  have s:=W8 (k:=.u32) (e:=C6) J zs
  refine B7 (fun O=>?_) (fun O=>?_)
  ·have gy:=Cb dy m
   have X:=C4 b32 a m
   have gz:=Cb z (k+m)
   have F:=E8 q
   have Q:=C4 b32 f (k+m)
   have p:B6 ((k:Int)+m)=((k+m:Nat):Int):=by rw [B8 (by omega) (by omega)];omega
   rw [p]
   refine (R.mono s).load rfl (by omega) (by omega) ?_
   refine (Z.mono s).load rfl (by omega) (by omega) ?_
   refine (Dn .u32 C6 h b zs).load o.symm (by omega) (by omega) ?_
   simp only [aD]
   have hp:=C3o gx gy
   have V:C1 (c+C1 (C1 (C1 (d.getD k 0)*C1 (a.getD m 0))+C1 (zs.getD (k+m) 0)))=c+(d.getD k 0*a.getD m 0+zs.getD (k+m) 0):=by
    rw [C3 (n:=d.getD k 0) (by omega) (by omega),C3 (n:=a.getD m 0) (by omega) (by omega),C3 (n:=zs.getD (k+m) 0) (by omega) (by omega),C3 (n:=d.getD k 0*a.getD m 0) (by omega) (by omega),C3 (n:=d.getD k 0*a.getD m 0+zs.getD (k+m) 0) (by omega) (by omega),C3 (by omega) (by omega)]
   rw [V]
   refine ⟨_,rfl,by omega,by omega,?_⟩
   refine R1 (k:=.u32) (zs:=zs) (i:=((k+m:Nat):Int)) K7 (by rw [aD];omega) ?_
   rw [aD,Z1,Xc,B8 (n:=(m:Int)+1) (by omega) (by omega)]
   refine ⟨⟨m+1,_,zs.set (k+m) ((c+(d.getD k 0*a.getD m 0+zs.getD (k+m) 0))%4294967296),rfl,by omega,by simpa using o,z.set (A3j _),by omega,rfl,?_,?_⟩,by simp only [iAt,aH,aR];omega⟩
   ·rw [D5 (by omega)];exact D8 q
   ·rw [<- Nat.add_assoc,C8 (by omega),F1,aI,aJ (by omega),aQ,Cj,X,Q,<- F]
    have:b32^(k+m)=b32^k*b32^m:=Int.pow_add _ _ _
    grind
  ·have w:m=a.length:=by omega
   subst w
   have p:B6 ((k:Int)+a.length)=((k+a.length:Nat):Int):=by rw [B8 (by omega) (by omega)];omega
   rw [p]
   refine ⟨_,rfl,by omega,by omega,?_⟩
   refine R1 (k:=.u32) (zs:=zs) (i:=((k+a.length:Nat):Int)) K7 (by rw [aD];omega) ?_
   rw [aD,S9 (by omega) (by omega),B8 (n:=(k:Int)+1) (by omega) (by omega)]
   have M:k+1+a.length=k+a.length+1:=by omega
   refine ⟨⟨k+1,zs.set (k+a.length) c,rfl,by omega,by simpa using o,z.set W,rfl,?_,?_⟩,by simp only [iAt,aH];omega⟩
   ·rw [M,D5 (by omega),D8 q,<- bB,t,List.drop_replicate]
    congr 1
   ·rw [M,C8 (by omega),F1,aI,aJ (by omega)]
    rw [aM] at hv
    rw [T]
    grind
 ·have H:k=d.length:=by omega
  subst H
  rw [aM,aN (show f.length<=d.length+a.length by omega)] at u
  rw [<- g]
  refine Bo (Dn _ _ _ _ _) r (aW _) (by omega) ?_
  intro m L N
  rw [u] at N
  exact ⟨_,_,_,rfl,hK _ _ _ _ (W8 J _) L N⟩
def A8c{x z:Int}{s:Nat}(hs:s<=32)(_hx:0<=x/\x<4294967296)(hz:0<=z/\z<(2:Int)^s):
 bor .u32 z (x*2^s%4294967296)=z+x*2^s%4294967296/\z+x*2^s%4294967296<4294967296:=by
 have j:(2:Int)^s*2^(32-s)=4294967296:=by
  rw [<- Int.pow_add,show s+(32-s)=32 by omega];decide
 have c:0<(2:Int)^s:=aX (by decide)
 have i:0<(2:Int)^(32-s):=aX (by decide)
 have a:z<4294967296:=by
  have:(2:Int)^s*1<=2^s*2^(32-s):=aE (by omega) (by omega)
  omega
 have k:x*2^s%4294967296=2^s*(x%2^(32-s)):=by
  rw [<- j,aO x,bW _ _ c]
 have d:=A3j (x*2^s)
 have b:bor .u32 z (x*2^s%4294967296)=z+x*2^s%4294967296:=by
  rw [C45 ⟨hz.1,a⟩ d]
  have f:0<=x%2^(32-s):=aY _ (by omega)
  have g:(x*2^s%4294967296).toNat=2^s*(x%2^(32-s)).toNat:=by
   rw [k,Int.toNat_mul (by omega) f]
   rw [Int.toNat_pow_of_nonneg (by decide)];rfl
  have e:z.toNat<2^s:=by
   have:((2^s:Nat):Int)=(2:Int)^s:=by simp
   omega
  rw [g,Nat.or_comm,A8d e,<- g]
  omega
 refine ⟨b,?_⟩
 rw [<- b,C45 ⟨hz.1,a⟩ d]
 have:z.toNat ||| (x*2^s%4294967296).toNat<2^32:=Nat.or_lt_two_pow (by omega) (by have:=d.2;show _<_;omega)
 omega
def Kl{xs:List Int}{s:Nat}(sx:SlI .u32 h A xs)(dx:Dig b32 xs)(hs:s<32)(hl:xs.length<=100000000)(hK:∀ b zs,h b=none->zs.length=xs.length+1->Dig b32 zs->val b32 zs=val b32 xs*2^s->K (.slice (some ⟨b,0,none⟩) (xs.length+1) (xs.length+1)) (blk .u32 C6 h b zs)):FCall prog Dg #[.slice A xs.length ac,U s] h K:=by
 refine A20 _ _ _ _ ?_
 unfold Zk
 have H:B6 ((xs.length:Int)+1)=((xs.length+1:Nat):Int):=by rw [B8 (by omega) (by omega)];omega
 rw [H]
 refine K3 Uh (by omega) (by omega) (by omega) ?_
 intro b t
 rw [aD]
 refine ⟨_,_,_,rfl,?_⟩
 have c:0<(2:Int)^s:=aX (by decide)
 have w:(2:Int)^s<=2147483648:=by
  have:=C9 (B:=2) (by decide) (show s<=31 by omega)
  have e:(2:Int)^31=2147483648:=by decide
  omega
 refine ⟨fun l C=>∃ (k:Nat) (zs:List Int),l=[I k]/\k<=xs.length/\zs.length=xs.length+1/\Dig b32 zs/\C=blk .u32 C6 h b zs/\zs.drop (k+1)=bL (xs.length-k) 0/\zs.getD k 0<2^s/\val b32 (zs.take (k+1))=val b32 (xs.take k)*2^s,fun l _=>xs.length-(iAt l 0).toNat,⟨0,_,rfl,by omega,by simp,I3 (by decide) _,rfl,by simp,by simpa using c,by simp [val]⟩,?_⟩
 rintro i N ⟨k,zs,j,M,a,f,rfl,g,L,o⟩
 obtain rfl:=sI1 j
 have m:=W8 (k:=.u32) (e:=C6) t zs
 refine B7 (fun D=>?_) (fun D=>?_)
 ·have p:=Cb dx k
  have G:=Cb f k
  have F:=C4 b32 xs k
  have z:=C4 b32 zs k
  refine (sx.mono m).load rfl (by omega) (by omega) ?_
  refine B7 (fun e=>absurd e (by omega)) (fun _=>?_)
  refine (Dn .u32 C6 h b zs).load a.symm (by omega) (by omega) ?_
  simp only [aD]
  obtain ⟨y,x⟩:=A8c (Nat.le_of_lt hs) p ⟨G.1,L⟩
  have r:0<=xs.getD k 0*2^s:=aG p.1 (by omega)
  have d:xs.getD k 0*2^s<4294967296*2^s:=Int.mul_lt_mul_of_pos_right p.2 c
  have ev:C1 (C1 (xs.getD k 0)*2^(min s 64))=xs.getD k 0*2^s:=by
   rw [C3 (n:=xs.getD k 0) (by omega) (by omega),aJ (by omega),C3 (by omega) (by omega)]
  rw [ev]
  refine ⟨_,rfl,by omega,by omega,?_⟩
  refine R1 (k:=.u32) (zs:=zs) (i:=(k:Int)) K7 (by rw [aD];omega) ?_
  rw [aD,Z1 (xs.getD k 0*2^s),y,Xc]
  have J:B6 ((k:Int)+1)=((k+1:Nat):Int):=by rw [B8 (by omega) (by omega)];omega
  rw [J]
  have u:0<=xs.getD k 0*2^s/4294967296/\xs.getD k 0*2^s/4294967296<2^s:=⟨aZ r (by decide),aV (by decide) (by rw [aO (2^s)];exact d)⟩
  refine ⟨_,rfl,by omega,by omega,?_⟩
  refine R1 (k:=.u32) (zs:=zs.set k (zs.getD k 0+xs.getD k 0*2^s%4294967296)) (i:=((k+1:Nat):Int)) K7 (by rw [aD,bD];omega) ?_
  rw [aD,S9 (by omega) (by omega)]
  have E:=A3j (xs.getD k 0*2^s)
  refine ⟨⟨k+1,(zs.set k (zs.getD k 0+xs.getD k 0*2^s%4294967296)).set (k+1) (xs.getD k 0*2^s/4294967296),rfl,by omega,by simpa using a,(f.set ⟨by omega,x⟩).set ⟨u.1,by show _<(4294967296:Int);omega⟩,rfl,?_,?_,?_⟩,by simp only [iAt,aH];omega⟩
  ·rw [D5 (by omega),D5 (by omega),<- bB,g,List.drop_replicate]
   congr 1
  ·have:((zs.set k (zs.getD k 0+xs.getD k 0*2^s%4294967296)).set (k+1) (xs.getD k 0*2^s/4294967296)).getD (k+1) 0=xs.getD k 0*2^s/4294967296:=by
    rw [aP,List.getElem?_set_self (by rw [bD];omega)];rfl
   rw [this];exact u.2
  ·rw [C8 (by rw [bD];omega),F1,C8 (by omega),F1]
   simp only [aI,aK,List.length_singleton]
   rw [aJ (show k<=zs.length by omega),aQ,F]
   have:=Int.emod_add_mul_ediv (xs.getD k 0*2^s) 4294967296
   rw [z] at o
   grind
 ·have q:k=xs.length:=by omega
  subst q
  rw [aM,aN (by omega)] at o
  exact hK b zs t a f o
end
structure Est (B P top u2 ul v1 v2 vl U V:Int):Prop where
 hB:1<B
 hP:0<P
 hU:U=(top*B+u2)*P+ul
 hV:V=(v1*B+v2)*P+vl
 u2r:0<=u2/\u2<B
 ulr:0<=ul/\ul<P
 v2r:0<=v2/\v2<B
 vlr:0<=vl/\vl<P
 top0:0<=top
 v1r:B<=2*v1/\v1<B
 lt:U<V*B
section
variable {B P top u2 ul v1 v2 vl U V:Int}
def Est.U0(e:Est B P top u2 ul v1 v2 vl U V):0<=U:=by
 obtain ⟨m,j,i,k,d,c,b,g,a,f,lt⟩:=e
 have l:0<=top*B:=aG a (by omega)
 have:0<=(top*B+u2)*P:=aG (by omega) (by omega)
 omega
def Est.V0(e:Est B P top u2 ul v1 v2 vl U V):0<V:=by
 obtain ⟨m,g,j,k,d,c,b,i,a,f,lt⟩:=e
 have l:0<v1*B:=bI (by omega) (by omega)
 have:0<(v1*B+v2)*P:=bI (by omega) g
 omega
def Est.V2(e:Est B P top u2 ul v1 v2 vl U V):B<=v1*B+v2:=by
 obtain ⟨l,j,i,k,d,c,b,g,a,f,lt⟩:=e
 have:1*B<=v1*B:=aC (by omega) (by omega)
 omega
def Est.low(e:Est B P top u2 ul v1 v2 vl U V){q:Int}(h0:0<=q)(h:top*B+u2<q*(v1*B+v2)):U<q*V:=by
 obtain ⟨p,m,k,i,f,d,c,a,b,g,lt⟩:=e
 have o:(top*B+u2+1)*P<=q*(v1*B+v2)*P:=aC (by omega) (by omega)
 have j:0<=q*vl:=aG h0 a.1
 have l:q*V=q*(v1*B+v2)*P+q*vl:=by rw [i];grind
 have n:(top*B+u2+1)*P=(top*B+u2)*P+P:=by grind
 omega
def Est.big(e:Est B P top u2 ul v1 v2 vl U V){q:Int}(h:B<=q):U<q*V:=by
 have:=aC h (aL e.V0)
 have:=e.lt
 rw [aO V] at this
 omega
def Est.init(e:Est B P top u2 ul v1 v2 vl U V):U<(top/v1+1)*V:=by
 obtain ⟨p,c,d,k,f,j,b,l,a,g,lt⟩:=e
 have t:0<=top/v1:=aZ a (by omega)
 have i:top+1<=(top/v1+1)*v1:=by
  have:=aS top v1
  have:=aT top (show 0<v1 by omega)
  grind
 have m:0<B*P:=bI (by omega) c
 have n:(top+1)*(B*P)<=(top/v1+1)*v1*(B*P):=aC i (by omega)
 have u:0<=(top/v1+1)*(v2*P+vl):=aG (by omega) (by have:=aG b.1 (aL c);omega)
 have q:(top/v1+1)*V=(top/v1+1)*v1*(B*P)+(top/v1+1)*(v2*P+vl):=by rw [k];grind
 have o:(top+1)*(B*P)=top*B*P+B*P:=by grind
 have w:(u2+1)*P<=B*P:=aC (by omega) (by omega)
 have r:U=top*B*P+u2*P+ul:=by rw [d];grind
 have s:(u2+1)*P=u2*P+P:=by grind
 omega
def Est.up(e:Est B P top u2 ul v1 v2 vl U V){q:Int}(hq:q<=B)(h:q*(v1*B+v2)<=top*B+u2):(q-1)*V<=U:=by
 have i:=e.V2
 have l:=e.V0
 have d:=e.U0
 obtain ⟨u,r,o,j,f,c,b,k,a,g,lt⟩:=e
 by_cases t:q<=0
 ·have:(q-1)*V<=0:=Int.mul_nonpos_of_nonpos_of_nonneg (by omega) (by omega)
  omega
 ·have m:(q-1)*vl<=(q-1)*P:=aE (by omega) (by omega)
  have p:(q*(v1*B+v2))*P<=(top*B+u2)*P:=aC h (by omega)
  have s:(q-1)*V=(q*(v1*B+v2))*P-(v1*B+v2)*P+(q-1)*vl:=by rw [j];grind
  have n:(q-1)*P<=(v1*B+v2)*P:=aC (by omega) (by omega)
  omega
def Est.first(e:Est B P top u2 ul v1 v2 vl U V):top<(v1+1)*B/\top/v1<=B+1:=by
 obtain ⟨r,l,i,n,a,d,c,o,b,k,lt⟩:=e
 have f:0<B*P:=bI (by omega) l
 have q:top*(B*P)<=U:=by
  have:0<=u2*P:=aG a.1 (by omega)
  have:U=top*(B*P)+u2*P+ul:=by rw [i];grind
  omega
 have p:V<(v1+1)*(B*P):=by
  have j:(v2+1)*P<=B*P:=aC (by omega) (by omega)
  have:V=v1*(B*P)+v2*P+vl:=by rw [n];grind
  have:(v1+1)*(B*P)=v1*(B*P)+B*P:=by grind
  have:(v2+1)*P=v2*P+P:=by grind
  omega
 have j:V*B<=(v1+1)*(B*P)*B:=aC (by omega) (by omega)
 have m:top*(B*P)<(v1+1)*B*(B*P):=by
  have:(v1+1)*(B*P)*B=(v1+1)*B*(B*P):=by grind
  omega
 have g:top<(v1+1)*B:=Int.lt_of_mul_lt_mul_right m (by omega)
 refine ⟨g,?_⟩
 have:top/v1<B+2:=by
  apply aV (by omega)
  have:(v1+1)*B=v1*B+B:=by grind
  have:v1*(B+2)=v1*B+2*v1:=by grind
  have:(B+2)*v1=v1*B+2*v1:=by grind
  omega
 omega
end
def Am(k:IntKind)(e:TypeId)(g:Heap)(bu:Nat)(us:List Int)(bq:Nat)(qs:List Int):Heap:=blk k e (blk k e g bu us) bq qs
section
variable {k:IntKind} {e:TypeId} {g:Heap} {bu bq:Nat} {us qs:List Int}
def Re(hu:g bu=none)(hq:g bq=none)(hne:bu≠bq):g.le (Am k e g bu us bq qs):=
 B0 (W8 hu us) (W8 (by unfold blk;rw [B9 _ _ hne.symm];exact hq) qs)
def Ix(hne:bu≠bq):Am k e g bu us bq qs=blk k e (blk k e g bq qs) bu us:=by
 unfold Am blk;exact Heap.put_comm g _ _ hne
def Wa(hne:bu≠bq):SlI k (Am k e g bu us bq qs) (some ⟨bu,0,none⟩) us:=by
 rw [Ix hne];exact Dn k e _ bu us
def B9o:SlI k (Am k e g bu us bq qs) (some ⟨bq,0,none⟩) qs:=Dn k e _ bq qs
def O5{P:Program}{t:TypeId}(one:P.cellsOf t=1/\(P.info? t).isSome=true)(hne:bu≠bq){n i:Int}(hi:i.toNat<us.length){K:Unit->Heap->Prop}
 (x:K () (Am k e g bu (us.set i.toNat n) bq qs)):wpH P (Instr.storeAt t (.pointer (some (Addr.add ⟨bu,0,none⟩ (i.toNat*1)))) (.int k n)) K (Am k e g bu us bq qs):=by
 rw [Ix hne]
 rw [Ix hne] at x
 exact R1 one hi x
def Wb{P:Program}{t:TypeId}(one:P.cellsOf t=1/\(P.info? t).isSome=true){n i:Int}(hi:i.toNat<qs.length){K:Unit->Heap->Prop}
 (x:K () (Am k e g bu us bq (qs.set i.toNat n))):wpH P (Instr.storeAt t (.pointer (some (Addr.add ⟨bq,0,none⟩ (i.toNat*1)))) (.int k n)) K (Am k e g bu us bq qs):=
 R1 one hi x
end
def A3s{xs:List Int}{j i:Nat}:(xs.drop j).getD i 0=xs.getD (j+i) 0:=by simp [aP]
section
variable {g:Heap} {bu bq:Nat} {us qs:List Int} {VA:Option Addr} {vs:List Int}
def B7p{n j:Nat}{J:LP}{hp:Heap}{UA:Option Addr}{top u2 ul v1 v2 vl X Y P:Int}{t87 t96:Int}(es:Est 4294967296 P top u2 ul v1 v2 vl X Y)(sv:SlI .u32 hp VA vs)(su:SlI .u32 hp UA us)(hn:n=vs.length)(hn2:2<=n)(hul:j+n<us.length)(hbig:us.length<=200000000)
 (hv1:vs.getD (n-1) 0=v1) (hv2:vs.getD (n-2) 0=v2) (hu2:us.getD (j+n-2) 0=u2) (h87:0<=t87/\t87<4294967296) (h96:0<=t96/\t96<4294967296) (htop:top=t87*4294967296+t96)
 (hJ:∀ q,0<=q->q<=4294967296->X<(q+1)*Y->(q-1)*Y<=X->J [U q] hp):Rk prog VA n UA us.length j t87 t96 v1 v1 J hp:=by
 obtain ⟨f1,f2⟩:=es.first
 have u:=es.init
 have aa:=es.V0
 have S:=es.U0
 have O:=es.v1r
 have g:=es.v2r
 have k:=es.u2r
 have c:=es.top0
 have w:bor .u64 (C1 (C1 t87*2^(min ((32:Int)).toNat 64))) (C1 t96)=top:=by
  rw [show (2:Int)^(min ((32:Int)).toNat 64)=4294967296 by decide,C3 (n:=t87) (by omega) (by omega),C3 (n:=t96) (by omega) (by omega),C3 (n:=t87*4294967296) (by omega) (by omega),A1l h87 h96,htop]
 have i:C1 v1=v1:=C3 (by omega) (by omega)
 unfold Rk
 rw [w,i,bN c,bM c]
 have x:0<=top/v1:=aZ c (by omega)
 have A:=aS top v1
 have p:=aY top (show v1≠0 by omega)
 have L:=aT top (show 0<v1 by omega)
 refine ⟨fun l o=>∃ q r:Int,l=[U q,U r]/\o=hp/\0<=q/\q<=4294967297/\0<=r/\r<4294967296/\q*v1+r=top/\X<(q+1)*Y,fun l _=>match l with|[.int _ q,_]=>q.toNat|_=>0,⟨_,_,rfl,rfl,?_,?_,p,by omega,?_,?_⟩,?_⟩
 ·rw [C3 (by omega) (by omega)];exact x
 ·rw [C3 (by omega) (by omega)];omega
 ·rw [C3 (by omega) (by omega),aO];exact A
 ·rw [C3 (by omega) (by omega)];exact u
 rintro q r f ⟨V,R,T,rfl,H,M,W,t,m,D⟩
 obtain ⟨rfl,rfl⟩:q=V/\r=R:=by simpa using T
 have B:B6 ((n:Int)-1)=((n-1:Nat):Int):=by rw [B8 (by omega) (by omega)];omega
 have E:B6 ((n:Int)-2)=((n-2:Nat):Int):=by rw [B8 (by omega) (by omega)];omega
 have s:B6 (B6 ((j:Int)+(n:Int))-2)=((j+n-2:Nat):Int):=by rw [B8 (n:=(j:Int)+n) (by omega) (by omega),B8 (by omega) (by omega)];omega
 refine ⟨fun l o=>l=[]/\o=f/\X<q*Y,?_,?_⟩
 ·refine B7 (fun F=>⟨rfl,rfl,es.big F⟩) (fun F=>?_)
  rw [E,s]
  refine sv.load hn (by omega) (by omega) ?_
  refine su.load rfl (by omega) (by omega) ?_
  rw [aD,aD,hv2,hu2]
  have hp:=C3o (a:=q) (b:=v2) (by omega) g
  have z:C1 (q*C1 v2)=q*v2:=by rw [C3 (n:=v2) (by omega) (by omega),C3 (by omega) (by omega)]
  have C:bor .u64 (C1 (r*2^(min ((32:Int)).toNat 64))) (C1 u2)=r*4294967296+u2:=by
   rw [show (2:Int)^(min ((32:Int)).toNat 64)=4294967296 by decide,C3 (n:=u2) (by omega) (by omega),C3 (n:=r*4294967296) (by omega) (by omega),A1l ⟨W,t⟩ k]
  rw [z,C]
  have key:q*(v1*4294967296+v2)=(top-r)*4294967296+q*v2:=by rw [<- m];grind
  refine B7 (fun N=>⟨rfl,rfl,es.low H (by omega)⟩) (fun N=>?_)
  refine hJ q H (by omega) D (es.up (by omega) (by omega))
 ·rintro G ⟨_,rfl,y⟩
  have Q:1<=q:=by
   by_cases Z:1<=q
   ·exact Z
   ·have:q=0:=by omega
    subst this;omega
  rw [B]
  refine sv.load hn (by omega) (by omega) ?_
  rw [aD,hv1,i,C3 (n:=r+v1) (by omega) (by omega),C3 (n:=q-1) (by omega) (by omega)]
  have e:X<(q-1+1)*Y:=by rw [Int.sub_add_cancel];exact y
  have d:(q-1)*v1+(r+v1)=top:=by grind
  refine B7 (fun h3=>?_) (fun h3=>?_)
  ·have key:(q-1)*(v1*4294967296+v2)=(top-(r+v1))*4294967296+(q-1)*v2:=by rw [<- d];grind
   have hb:(q-1)*v2<=4294967296*v2:=aC (by omega) g.1
   exact hJ (q-1) (by omega) (by omega) e (es.up (by omega) (by omega))
  ·exact ⟨⟨q-1,r+v1,rfl,rfl,by omega,by omega,by omega,by omega,d,e⟩,by simp only;omega⟩
end
def G7(B:Int)(xs:List Int)(i:Nat):val B (xs.take (i+1))=val B (xs.take i)+B^i*xs.getD i 0:=by
 by_cases a:i<xs.length
 ·exact O1 B a
 ·rw [aN (by omega),aN (by omega)]
  simp [aP,aU (Nat.le_of_not_lt a)]
def B6k(B:Int){vs:List Int}{m:Nat}(hn:vs.length=m+2):val B vs=(vs.getD (m+1) 0*B+vs.getD m 0)*B^m+val B (vs.take m):=by
 have a:=G7 B vs (m+1)
 have b:=G7 B vs m
 rw [show m+1+1=vs.length by omega,aM] at a
 rw [a,b,aQ]
 grind
def B6j(B:Int){us:List Int}{m:Nat}(hn:us.length=m+3):val B us=((us.getD (m+2) 0*B+us.getD (m+1) 0)*B+us.getD m 0)*B^m+val B (us.take m):=by
 have a:=G7 B us (m+2)
 have c:=G7 B us (m+1)
 have b:=G7 B us m
 rw [show m+2+1=us.length by omega,aM] at a
 rw [show m+2=m+1+1 by omega] at a
 rw [a,c,b,aQ,aQ]
 grind
def B9j{B:Int}(hB:1<B){us vs:List Int}{m:Nat}(du:Dig B us)(dv:Dig B vs)(hu:us.length=m+3)(hv:vs.length=m+2)(h1:B<=2*vs.getD (m+1) 0)(hlt:val B us<val B vs*B):
 Est B (B^m) (us.getD (m+2) 0*B+us.getD (m+1) 0) (us.getD m 0) (val B (us.take m)) (vs.getD (m+1) 0) (vs.getD m 0) (val B (vs.take m)) (val B us) (val B vs):=by
 have a:0<B:=by omega
 have b:=L5 a (du.take m)
 have c:=L5 a (dv.take m)
 rw [aI,aJ (by omega)] at b c
 refine ⟨hB,aX a,B6j B hu,B6k B hv,du.getD a _,⟨C7 a (du.take m),b⟩,dv.getD a _,⟨C7 a (dv.take m),c⟩,?_,⟨h1,(dv.getD a _).2⟩,hlt⟩
 have:=aG (du.getD a (m+2)).1 (aL a)
 have:=(du.getD a (m+1)).1
 omega
def Est.top{B P top u2 ul v1 v2 vl U V:Int}(e:Est B P top u2 ul v1 v2 vl U V)(h:v1*B<=top):(B-1-1)*V<=U/\U<(B-1+1)*V:=by
 have g:=e.lt
 obtain ⟨r,o,n,k,i,f,d,l,c,j,lt⟩:=e
 constructor
 ·have q:v1*B*B*P<=U:=by
   have a:v1*B*B<=top*B:=aC h (by omega)
   have b:v1*B*B*P<=(top*B+u2)*P:=aC (by omega) (by omega)
   omega
  have a:V<=(v1+1)*B*P:=by
   have b:(v2+1)*P<=B*P:=aC (by omega) (by omega)
   have:V=v1*B*P+v2*P+vl:=by rw [k];grind
   have:(v1+1)*B*P=v1*B*P+B*P:=by grind
   have:(v2+1)*P=v2*P+P:=by grind
   omega
  have b:(B-1-1)*V<=(B-1-1)*((v1+1)*B*P):=aE a (by omega)
  have p:(B-1-1)*((v1+1)*B*P)=v1*B*B*P-(2*v1+2-B)*(B*P):=by grind
  have m:0<=(2*v1+2-B)*(B*P):=aG (by omega) (aG (by omega) (by omega))
  omega
 ·rw [Int.sub_add_cancel,aO];exact g
structure LS (F S first second u0 v0 u1 v1 u2 v2:Int) (odd:Bool):Prop where
 hF:F=v2*first+v1*second
 hS:S=u2*first+u1*second
 det:u1*v2-u2*v1=if odd then -1 else 1
 ord:0<=second/\second<=first
 st:(u0=0/\v0=0/\u1=1/\v1=0/\u2=0/\v2=1)\/
  (((u0=1/\v0=0/\u1=0/\v1=1/\0<=u2/\u2<=v2/\1<=u2)\/(0<=u0/\u0<=v0/\1<=v0/\1<=u1/\u1<=v1/\1<=u2/\u2<=v2))/\
   (u0*v1-u1*v0=if odd then 1 else -1)/\∃ f0,F=v1*f0+v0*first/\S=u1*f0+u0*first/\v0+v1<=f0-first/\v1<=first)
def LS.init{F S:Int}(h0:0<=S)(h:S<=F):LS F S F S 0 0 1 0 0 1 false:=
 ⟨by omega,by omega,by simp,⟨h0,h⟩,.inl ⟨rfl,rfl,rfl,rfl,rfl,rfl⟩⟩
def LS.v2pos{F S first second u0 v0 u1 v1 u2 v2:Int}{odd:Bool}(l:LS F S first second u0 v0 u1 v1 u2 v2 odd):1<=v2/\0<=v1/\0<=u1/\0<=u2/\0<=u0/\0<=v0:=by
 obtain ⟨e,d,c,b,a⟩:=l
 rcases a with a|⟨a,_⟩<;>omega
def LS.step{F S first second u0 v0 u1 v1 u2 v2:Int}{odd:Bool}(l:LS F S first second u0 v0 u1 v1 u2 v2 odd)(h1:v2<=second)(h2:v1+v2<=first-second):
 LS F S second (first%second) u1 v1 u2 v2 (u1+first/second*u2) (v1+first/second*v2) (!odd):=by
 have n:=l.v2pos
 obtain ⟨i,e,b,k,c⟩:=l
 have g:0<second:=by omega
 have f:1<=first/second:=by
  rw [Int.le_ediv_iff_mul_le g];omega
 have a:=aS first second
 have d:=aY first (show second≠0 by omega)
 have j:=aT first g
 have p:u2<=first/second*u2:=by
  have:=aC f (show 0<=u2 by omega);omega
 have o:v2<=first/second*v2:=by
  have:=aC f (show 0<=v2 by omega);omega
 have m:first/second*u2<=first/second*v2:=aE (by omega) (by omega)
 refine ⟨?_,?_,?_,⟨d,by omega⟩,.inr ⟨?_,?_,first,?_,?_,by omega,h1⟩⟩
 ·rw [i]
  generalize hq':first/second=q at *
  generalize first%second=r at *
  subst a
  grind
 ·rw [e]
  generalize hq':first/second=q at *
  generalize first%second=r at *
  subst a
  grind
 ·cases odd<;>simp at b ⊢ <;> grind
 ·rcases c with c|⟨c,_⟩
  ·left
   obtain ⟨rfl,rfl,rfl,rfl,rfl,rfl⟩:=c
   omega
  ·right;omega
 ·cases odd<;>simp at b ⊢ <;> omega
 ·rw [i]
 ·rw [e]
def LS.bound{F S first second u0 v0 u1 v1 u2 v2:Int}{odd:Bool}(l:LS F S first second u0 v0 u1 v1 u2 v2 odd)(hf:1<=first):v2<=F/\u2<=F/\u2<=v2:=by
 have f:=l.v2pos
 obtain ⟨i,c,b,d,a⟩:=l
 have g:v2*1<=v2*first:=aE hf (by omega)
 have e:0<=v1*second:=aG (by omega) (by omega)
 clear b c
 rcases a with a|⟨a,_⟩<;>omega
def LS.bound2{F S first second u0 v0 u1 v1 u2 v2:Int}{odd:Bool}(l:LS F S first second u0 v0 u1 v1 u2 v2 odd)(hs:1<=second):v1+v2<=F:=by
 have f:=l.v2pos
 obtain ⟨i,d,c,a,b⟩:=l
 have g:v2*1<=v2*first:=aE (by omega) (by omega)
 have e:v1*1<=v1*second:=aE hs (by omega)
 clear b
 omega
structure Leh (a b u0 v0 u1 v1 X0 X1:Int):Prop where
 ord:0<=X1/\X1<X0
 ha:a=v1*X0+v0*X1
 hb:b=u1*X0+u0*X1
 le:X0<=b
def Lc(a b u0 v0:Int)(odd:Bool):Int:=if odd then u0*a-v0*b else v0*b-u0*a
def Lb(a b u1 v1:Int)(odd:Bool):Int:=if odd then v1*b-u1*a else u1*a-v1*b
def LS.leh{F S first second u0 v0 u1 v1 u2 v2 a b al bl W:Int}{odd:Bool}(l:LS F S first second u0 v0 u1 v1 u2 v2 odd)(hv0:v0≠0)(hW:0<W)(ha:a=F*W+al)(hb:b=S*W+bl)(hal:0<=al/\al<W)(hbl:0<=bl/\bl<W):
 Leh a b u0 v0 u1 v1 (Lc a b u0 v0 odd) (Lb a b u1 v1 odd):=by
 have X:=l.v2pos
 obtain ⟨O,E,A,D,q⟩:=l
 rcases q with q|⟨q,c,i,k,n,x,w⟩
 ·omega
 have B:0<=u0/\u0<=v0/\1<=v0/\1<=u1/\u1<=v1:=by omega
 have t:u0*F-v0*S=(u0*v1-u1*v0)*i:=by rw [k,n];grind
 have r:u1*F-v1*S=(u1*v0-u0*v1)*first:=by rw [k,n];grind
 have T:first*W>=v1*W:=aC w (by omega)
 have Z:(i-first)*W>=(v0+v1)*W:=aC x (by omega)
 have V:v1*bl<=v1*W:=aE (by omega) (by omega)
 have q2:u1*al<=u1*W:=aE (by omega) (by omega)
 have J:u1*W<=v1*W:=aC (by omega) (by omega)
 have G:0<=u1*al:=aG (by omega) (by omega)
 have R:0<=v1*bl:=aG (by omega) (by omega)
 have q6:(v0+v1)*(bl+1)<=(v0+v1)*W:=aE (by omega) (by omega)
 have Q:(u0+u1)*(al+1)<=(u0+u1)*W:=aE (by omega) (by omega)
 have H:(u0+u1)*W<=(v0+v1)*W:=aC (by omega) (by omega)
 have q9:0<=(u0+u1)*al:=aG (by omega) (by omega)
 have z:0<=(v0+v1)*bl:=aG (by omega) (by omega)
 have m:∀ X0 X1:Int,0<=X1->X1<X0->b=u1*X0+u0*X1->X0<=b:=by
  intro X0 X1 C N e
  have L:1*X0<=u1*X0:=aC (by omega) (by omega)
  have M:0<=u0*X1:=aG (by omega) C
  omega
 cases odd with
 | true=>
  simp only [Lc,Lb,if_true] at c ⊢
  have y:v1*b-u1*a=first*W+v1*bl-u1*al:=by
   rw [c.symm.symm] at t
   have:v1*S-u1*F=first:=by
    have:u1*v0-u0*v1= -1:=by omega
    rw [this] at r;omega
   rw [ha,hb,<- this];grind
  have p:u0*a-v0*b-(v1*b-u1*a)=(i-first)*W+(u0+u1)*al-(v0+v1)*bl:=by
   have u:u0*F-v0*S=i:=by rw [c] at t;omega
   have o:v1*S-u1*F=first:=by
    have:u1*v0-u0*v1= -1:=by omega
    rw [this] at r;omega
   rw [ha,hb,<- u,<- o];grind
  have g:0<=v1*b-u1*a:=by omega
  have f:v1*b-u1*a<u0*a-v0*b:=by
   have:(v0+v1)*(bl+1)=(v0+v1)*bl+(v0+v1):=by grind
   omega
  have s:a=v1*(u0*a-v0*b)+v0*(v1*b-u1*a):=by
   have:v1*(u0*a-v0*b)+v0*(v1*b-u1*a)=(u0*v1-u1*v0)*a:=by grind
   rw [this,c];omega
  have j:b=u1*(u0*a-v0*b)+u0*(v1*b-u1*a):=by
   have:u1*(u0*a-v0*b)+u0*(v1*b-u1*a)=(u0*v1-u1*v0)*b:=by grind
   rw [this,c];omega
  exact ⟨⟨g,f⟩,s,j,m _ _ g f j⟩
 | false=>
  simp only [Lc,Lb,Bool.false_eq_true,if_false] at c ⊢
  have u:v0*S-u0*F=i:=by rw [c] at t;omega
  have o:u1*F-v1*S=first:=by
   have:u1*v0-u0*v1=1:=by omega
   rw [this] at r;omega
  have y:u1*a-v1*b=first*W+u1*al-v1*bl:=by
   rw [ha,hb,<- o];grind
  have p:v0*b-u0*a-(u1*a-v1*b)=(i-first)*W+(v0+v1)*bl-(u0+u1)*al:=by
   rw [ha,hb,<- u,<- o];grind
  have g:0<=u1*a-v1*b:=by omega
  have f:u1*a-v1*b<v0*b-u0*a:=by
   have:(u0+u1)*(al+1)=(u0+u1)*al+(u0+u1):=by grind
   omega
  have s:a=v1*(v0*b-u0*a)+v0*(u1*a-v1*b):=by
   have:v1*(v0*b-u0*a)+v0*(u1*a-v1*b)=(u1*v0-u0*v1)*a:=by grind
   have d:u1*v0-u0*v1=1:=by omega
   rw [this,d];omega
  have j:b=u1*(v0*b-u0*a)+u0*(u1*a-v1*b):=by
   have:u1*(v0*b-u0*a)+u0*(u1*a-v1*b)=(u1*v0-u0*v1)*b:=by grind
   have d:u1*v0-u0*v1=1:=by omega
   rw [this,d];omega
  exact ⟨⟨g,f⟩,s,j,m _ _ g f j⟩
def Leh.gcd{a b u0 v0 u1 v1:Int}{odd:Bool}(l:Leh a b u0 v0 u1 v1 (Lc a b u0 v0 odd) (Lb a b u1 v1 odd)):bK (Lc a b u0 v0 odd) (Lb a b u1 v1 odd)=bK a b:=by
 apply Nat.dvd_antisymm
 ·have f:=l.ha
  have g:=l.hb
  generalize Lc a b u0 v0 odd=p at *
  generalize Lb a b u1 v1 odd=q at *
  have dp:(bK p q:Int)∣p:=Int.gcd_dvd_left p q
  have e:(bK p q:Int)∣q:=Int.gcd_dvd_right p q
  rw [<- Int.ofNat_dvd]
  apply Int.dvd_coe_gcd
  ·rw [f];exact Int.dvd_add (aF dp) (aF e)
  ·rw [g];exact Int.dvd_add (aF dp) (aF e)
 ·have d:(bK a b:Int)∣a:=Int.gcd_dvd_left a b
  have c:(bK a b:Int)∣b:=Int.gcd_dvd_right a b
  rw [<- Int.ofNat_dvd]
  apply Int.dvd_coe_gcd
  ·unfold Lc;split
   ·exact bJ (aF d) (aF c)
   ·exact bJ (aF c) (aF d)
  ·unfold Lb;split
   ·exact bJ (aF c) (aF d)
   ·exact bJ (aF d) (aF c)
def Gf(pre ws:List Int)(i:Nat):(pre++ws).getD (i+pre.length) 0=ws.getD i 0:=by
 simp [aP,List.getElem?_append_right (Nat.le_add_left pre.length i)]
def Kx(pre ws:List Int)(i:Nat)(v:Int):(pre++ws).set (i+pre.length) v=pre++ws.set i v:=by
 rw [List.set_append_right _ _ (by omega),Nat.add_sub_cancel]
def Dt{B:Int}(hB:0<B){ws:List Int}{n:Nat}(d:Dig B ws)(h:val B ws<B^n):val B (ws.drop n)=0:=by
 by_cases a:n<=ws.length
 ·have f:=F5 B ws a
  have c:=C7 hB (d.take n)
  have e:=C7 hB (d.drop n)
  by_cases b:val B (ws.drop n)=0
  ·exact b
  ·have:B^n*1<=B^n*val B (ws.drop n):=aE (by omega) (aL (D7 hB n))
   omega
 ·rw [bC (by omega)];rfl
section
variable {g:Heap} {bu bq:Nat} {pre qs:List Int} {VA:Option Addr} {vs:List Int}
def B4o{n N:Nat}{ws:List Int}{q:Int}{J:LP}(hu:g bu=none)(hq:g bq=none)(hne:bu≠bq)(sv:SlI .u32 g VA vs)(dv:Dig b32 vs)(hn:n=vs.length)(dw:Dig b32 ws)(hN:N=(pre++ws).length)(hl:n<ws.length)(hbig:N<=200000000)
 (hD:val b32 (ws.take n)+val b32 vs<2*b32^n) (hD0:b32^n<=val b32 (ws.take n)+val b32 vs) (htop:ws.getD n 0=4294967295)
 (hJ:∀ ws',ws'.length=ws.length->Dig b32 ws'->ws'.drop (n+1)=ws.drop (n+1)->ws'.getD n 0=0->val b32 (ws'.take n)=val b32 (ws.take n)+val b32 vs-b32^n->J [U (C1 (q-1))] (Am .u32 C6 g bu (pre++ws') bq qs)):
 Ri prog VA n (some ⟨bu,0,none⟩) N (pre.length:Int) q J (Am .u32 C6 g bu (pre++ws) bq qs):=by
 unfold Ri
 refine ⟨fun l z=>∃ (k:Nat) (c:Int) (zs:List Int),l=[U c,I k]/\k<=n/\zs.length=ws.length/\Dig b32 zs/\(0<=c/\c<=1)/\z=Am .u32 C6 g bu (pre++zs) bq qs/\zs.drop k=ws.drop k/\val b32 (zs.take k)+c*b32^k=val b32 (ws.take k)+val b32 (vs.take k),fun l _=>n-(iAt l 1).toNat,⟨0,0,ws,rfl,by omega,rfl,dw,by omega,rfl,rfl,by simp [val]⟩,?_⟩
 rintro c i Q ⟨k,B,zs,j,H,b,f,O,rfl,a,E⟩
 obtain ⟨rfl,rfl⟩:c=B/\i=(k:Int):=by simpa using j
 have p:g.le (Am .u32 C6 g bu (pre++zs) bq qs):=Re hu hq hne
 have x:SlI .u32 (Am .u32 C6 g bu (pre++zs) bq qs) (some ⟨bu,0,none⟩) (pre++zs):=Wa hne
 have e:N=(pre++zs).length:=by rw [hN,aK,aK,b]
 have y:N=pre.length+zs.length:=by rw [e,aK]
 have r:B6 ((k:Int)+pre.length)=((k+pre.length:Nat):Int):=by rw [B8 (by omega) (by omega)];omega
 have t:B6 ((pre.length:Int)+n)=((n+pre.length:Nat):Int):=by rw [B8 (by omega) (by omega)];omega
 refine B7 (fun A=>?_) (fun A=>?_)
 ·have L:=Cb dv k
  have M:=Cb f k
  have d:=E8 a
  have F:=C4 b32 vs k
  have G:=C4 b32 ws k
  rw [r]
  refine x.load e (by omega) (by omega) ?_
  refine (sv.mono p).load hn (by omega) (by omega) ?_
  simp only [aD,Gf]
  have C:C1 (c+C1 (C1 (zs.getD k 0)+C1 (vs.getD k 0)))=c+zs.getD k 0+vs.getD k 0:=by
   rw [C3 (n:=zs.getD k 0) (by omega) (by omega),C3 (n:=vs.getD k 0) (by omega) (by omega),C3 (n:=zs.getD k 0+vs.getD k 0) (by omega) (by omega),C3 (by omega) (by omega)];omega
  rw [C]
  refine ⟨_,rfl,by omega,by omega,?_⟩
  refine O5 (us:=pre++zs) (i:=((k+pre.length:Nat):Int)) K7 hne (by rw [aD];omega) ?_
  rw [aD,Kx,Z1,Xc,B8 (n:=(k:Int)+1) (by omega) (by omega)]
  refine ⟨⟨k+1,_,zs.set k ((c+zs.getD k 0+vs.getD k 0)%4294967296),rfl,by omega,by simpa using b,f.set (A3j _),by omega,rfl,?_,?_⟩,by simp only [iAt,aH,aR];omega⟩
  ·rw [D5 (by omega)];exact D8 a
  ·rw [C8 (by omega),F1,aI,aJ (by omega),aQ,Cj,F,G,<- d]
   grind
 ·have s:k=n:=by omega
  subst s
  have d:=E8 a
  rw [t]
  refine x.load e (by omega) (by omega) ?_
  rw [aD,Gf,d,htop]
  refine ⟨_,rfl,by omega,by omega,?_⟩
  refine O5 (us:=pre++zs) (i:=((k+pre.length:Nat):Int)) K7 hne (by rw [aD];omega) ?_
  rw [aD,Kx]
  have m:vs.take k=vs:=by rw [hn,aM]
  rw [m] at E
  have u:=L5 (by decide) (f.take k)
  rw [aI,aJ (by omega)] at u
  have R:=C7 (by decide) (f.take k)
  have o:c=1:=by
   by_cases w:c=0
   ·subst w;omega
   ·omega
  subst o
  have D:G8 (4294967295+G8 1)=0:=by rw [S9 (n:=1) (by omega) (by omega),Z1];omega
  rw [D]
  refine hJ (zs.set k 0) (by simpa using b) (f.set (by decide)) (by rw [D5 (by omega)];exact D8 a) (by simp [aP,show k<zs.length by omega]) ?_
  rw [bG (by omega)]
  omega
def B0g{n N nq:Nat}{ws:List Int}{q X Y:Int}{J:LP}(hu:g bu=none)(hq:g bq=none)(hne:bu≠bq)(sv:SlI .u32 g VA vs)(dv:Dig b32 vs)(hn:n=vs.length)(dw:Dig b32 ws)(hN:N=(pre++ws).length)(hl:n<ws.length)(hbig:N<=200000000)
 (hnq:nq=qs.length) (hjq:pre.length<qs.length)
 (hX:X=val b32 (ws.take n)+b32^n*ws.getD n 0) (hY:Y=val b32 vs) (hq0:0<=q) (hq1:q<=4294967296) (hlt:X<(q+1)*Y) (hge:(q-1)*Y<=X) (hXB:X<Y*4294967296)
 (hJ:∀ ws' q',ws'.length=ws.length->Dig b32 ws'->ws'.drop (n+1)=ws.drop (n+1)->ws'.getD n 0=0->val b32 (ws'.take n)=X-q'*Y->0<=X-q'*Y->X-q'*Y<Y->0<=q'->q'<4294967296->J [] (Am .u32 C6 g bu (pre++ws') bq (qs.set pre.length q'))):
 Rj prog VA n (some ⟨bu,0,none⟩) N (some ⟨bq,0,none⟩) nq (pre.length:Int) J q (Am .u32 C6 g bu (pre++ws) bq qs):=by
 have ad:Y<b32^n:=by rw [hY,hn];exact L5 (by decide) dv
 have ah:0<=X:=by
  have w:=C7 (by decide) (dw.take n)
  have A:=aG (aL (D7 (B:=b32) (by decide) n)) (Cb dw n).1
  omega
 have L:0<Y:=by
  by_cases h0:0<Y
  ·exact h0
  ·have:Y=0:=by have:=C7 (by decide) dv;omega
   rw [this] at hXB;omega
 have W:∀ ws' q',ws'.length=ws.length->Dig b32 ws'->ws'.drop (n+1)=ws.drop (n+1)->ws'.getD n 0=0->val b32 (ws'.take n)=X-q'*Y->0<=X-q'*Y->X-q'*Y<Y->0<=q'->Rm prog (some ⟨bq,0,none⟩) nq (pre.length:Int) J q' (Am .u32 C6 g bu (pre++ws') bq qs):=by
  intro ws' q' w A h3 h4 h5 h6 h7 h8
  have s:q'<4294967296:=by
   by_cases m:q'<4294967296
   ·exact m
   ·have:=aC (show 4294967296<=q' by omega) (aL L)
    rw [aO Y] at hXB;omega
  unfold Rm
  refine ⟨_,rfl,by omega,by omega,?_⟩
  refine Wb (i:=(pre.length:Int)) K7 (by rw [aD];omega) ?_
  rw [aD,S9 h8 (by omega)]
  exact hJ ws' q' w A h3 h4 h5 h6 h7 h8 s
 unfold Rj
 refine ⟨fun l F=>∃ (k:Nat) (c b:Int) (zs:List Int),l=[U c,U b,I k]/\k<=n/\zs.length=ws.length/\Dig b32 zs/\(0<=c/\c<4294967296)/\(0<=b/\b<=1)/\F=Am .u32 C6 g bu (pre++zs) bq qs/\zs.drop k=ws.drop k/\val b32 (zs.take k)=val b32 (ws.take k)-q*val b32 (vs.take k)+(c+b)*b32^k,fun l _=>n-(iAt l 2).toNat,⟨0,0,0,ws,rfl,by omega,rfl,dw,by omega,by omega,rfl,rfl,by simp [val]⟩,?_⟩
 rintro c b i hp ⟨k,c',b',zs,H,hk,f,o,m,hb,rfl,d,S⟩
 obtain ⟨rfl,rfl,rfl⟩:c=c'/\b=b'/\i=(k:Int):=by simpa using H
 have Q:g.le (Am .u32 C6 g bu (pre++zs) bq qs):=Re hu hq hne
 have su:SlI .u32 (Am .u32 C6 g bu (pre++zs) bq qs) (some ⟨bu,0,none⟩) (pre++zs):=Wa hne
 have j:N=(pre++zs).length:=by rw [hN,aK,aK,f]
 have ag:N=pre.length+zs.length:=by rw [j,aK]
 have T:B6 ((k:Int)+pre.length)=((k+pre.length:Nat):Int):=by rw [B8 (by omega) (by omega)];omega
 have aa:B6 ((pre.length:Int)+n)=((n+pre.length:Nat):Int):=by rw [B8 (by omega) (by omega)];omega
 refine B7 (fun w=>?_) (fun w=>?_)
 ·have gv:=Cb dv k
  have gz:=Cb o k
  have r:=E8 d
  have vv:=C4 b32 vs k
  have vw:=C4 b32 ws k
  refine (sv.mono Q).load hn (by omega) (by omega) ?_
  rw [T]
  refine su.load j (by omega) (by omega) ?_
  simp only [aD,Gf]
  have hm:0<=q*vs.getD k 0/\q*vs.getD k 0<=4294967296*4294967295:=⟨aG hq0 gv.1,bO hq1 (by omega) gv.1 (by decide)⟩
  have ep:C1 (C1 (q*C1 (vs.getD k 0))+c)=q*vs.getD k 0+c:=by
   rw [C3 (n:=vs.getD k 0) (by omega) (by omega),C3 (n:=q*vs.getD k 0) (by omega) (by omega),C3 (by omega) (by omega)]
  rw [ep,Ck (by omega),Xc,Xc,C3 (n:=zs.getD k 0) (by omega) (by omega)]
  generalize y:q*vs.getD k 0+c=p at *
  have aj:0<=p/\p<18446744073709551616:=by omega
  have D:C1 (C1 (zs.getD k 0-p%4294967296)-b)=(zs.getD k 0-p%4294967296-b)%18446744073709551616:=by
   rw [E7,E7];omega
  rw [D,Yx (by omega)]
  refine ⟨_,rfl,by omega,by omega,?_⟩
  refine O5 (us:=pre++zs) (i:=((k+pre.length:Nat):Int)) K7 hne (by rw [aD];omega) ?_
  rw [aD,Kx,Z1,B8 (n:=(k:Int)+1) (by omega) (by omega)]
  refine ⟨⟨k+1,_,_,zs.set k ((zs.getD k 0-p%4294967296-b)%18446744073709551616%4294967296),rfl,by omega,by simpa using f,o.set (A3j _),by omega,by omega,rfl,?_,?_⟩,by simp only [iAt,aH,aR];omega⟩
  ·rw [D5 (by omega)];exact D8 d
  ·rw [C8 (by omega),F1,aI,aJ (by omega),aQ,vv,vw,<- r,S]
   have key:(zs.getD k 0-p%4294967296-b)%18446744073709551616%4294967296=zs.getD k 0-p-b+4294967296*(p/4294967296+(zs.getD k 0-p%4294967296-b)%18446744073709551616/4294967296%2):=by omega
   rw [key,<- y]
   grind
 ·have Z:k=n:=by omega
  subst Z
  have r:=E8 d
  have gz:=Cb o k
  have G:vs.take k=vs:=by rw [hn,aM]
  rw [G,<- hY] at S
  have ac:=L5 (by decide) (o.take k)
  rw [aI,aJ (by omega)] at ac
  have ai:=C7 (by decide) (o.take k)
  rw [aa]
  refine su.load j (by omega) (by omega) ?_
  rw [aD,Gf]
  have hD:X-q*Y=val b32 (zs.take k)+(zs.getD k 0-c-b)*b32^k:=by
   rw [S,hX,r];grind
  have t:X-q*Y<Y:=by
   have:(q+1)*Y=q*Y+Y:=by grind
   omega
  have ae: -Y<=X-q*Y:=by
   have:(q-1)*Y=q*Y-Y:=by grind
   omega
  have y:0<b32^k:=D7 (by decide) k
  have a:zs.getD k 0-c-b=0\/zs.getD k 0-c-b= -1:=by
   have A:zs.getD k 0-c-b<1:=by
    by_cases m:zs.getD k 0-c-b<1
    ·exact m
    ·have:=aC (show 1<=zs.getD k 0-c-b by omega) (aL y);omega
   have h3: -2<zs.getD k 0-c-b:=by
    by_cases m: -2<zs.getD k 0-c-b
    ·exact m
    ·have:=aC (show zs.getD k 0-c-b <= -2 by omega) (aL y);omega
   omega
  have D:C1 (C1 (C1 (zs.getD k 0)-c)-b)=(zs.getD k 0-c-b)%18446744073709551616:=by
   rw [C3 (n:=zs.getD k 0) (by omega) (by omega),E7,E7];omega
  rw [D]
  have z:∀ x:Int,Int.fdiv x (2^(min ((63:Int)).toNat 64))=x/9223372036854775808:=by
   intro x;rw [show (2:Int)^(min ((63:Int)).toNat 64)=9223372036854775808 by decide];exact bU x (by decide)
  refine ⟨_,rfl,by omega,by omega,?_⟩
  refine O5 (us:=pre++zs) (i:=((k+pre.length:Nat):Int)) K7 hne (by rw [aD];omega) ?_
  rw [aD,Kx,Z1,z]
  have u:∀ v,(zs.set k v).getD k 0=v:=by intro v;simp [aP,show k<zs.length by omega]
  refine ⟨fun l F=>∃ ws' q',l=[U q']/\F=Am .u32 C6 g bu (pre++ws') bq qs/\ws'.length=ws.length/\Dig b32 ws'/\ws'.drop (k+1)=ws.drop (k+1)/\ws'.getD k 0=0/\val b32 (ws'.take k)=X-q'*Y/\0<=X-q'*Y/\X-q'*Y<Y/\0<=q',?_,?_⟩
  ·rcases a with a|a
   ·rw [a] at hD ⊢
    refine E4 (fun e=>absurd e (by decide)) (fun _=>?_)
    refine ⟨zs.set k (0%18446744073709551616%4294967296),q,rfl,rfl,by simpa using f,o.set (by decide),by rw [D5 (by omega)];exact D8 d,u _,?_,by omega,t,hq0⟩
    rw [bG (by omega)];omega
   ·rw [a] at hD ⊢
    refine E4 (fun _=>?_) (fun e=>absurd (by decide) e)
    have E:1<=q:=by
     by_cases m:1<=q
     ·exact m
     ·have:q=0:=by omega
      subst this;omega
    have C:(zs.set k (-1%18446744073709551616%4294967296)).take k=zs.take k:=bG (by omega)
    have e1:(q-1)*Y=q*Y-Y:=by grind
    refine B4o (ws:=zs.set k (-1%18446744073709551616%4294967296)) hu hq hne sv dv hn (o.set (by decide)) (by rw [j];simp) (by simpa using (show k<zs.length by omega)) hbig ?_ ?_ (u _) ?_
    ·rw [C,<- hY];omega
    ·rw [C,<- hY];omega
    ·intro ws' M g2 g3 R O
     rw [C,<- hY] at O
     rw [C3 (n:=q-1) (by omega) (by omega)]
     refine ⟨ws',q-1,rfl,rfl,by rw [M];simpa using f,g2,?_,R,by omega,by omega,by omega,by omega⟩
     rw [g3,D5 (by omega)];exact D8 d
  ·rintro q2 af ⟨ws',q',V,rfl,M,g2,g3,R,O,g6,g7,g8⟩
   obtain rfl:q2=q':=by simpa using V
   exact W ws' q2 M g2 g3 R O g6 g7 g8
end
def A2h(B:Int)(xs:List Int)(i:Nat):val B (xs.drop i)=xs.getD i 0+B*val B (xs.drop (i+1)):=by
 by_cases a:i<xs.length
 ·exact My B a
 ·rw [bC (by omega),bC (by omega)]
  simp [val,aP,aU (Nat.le_of_not_lt a)]
def Nc{s:Nat}(hs:s<=32):(2:Int)^s*2^(32-s)=4294967296:=by
 rw [<- Int.pow_add,show s+(32-s)=32 by omega];decide
section
variable {h g:Heap} {K:VP} {A B:Option Addr} {ac bc:Nat} {bu bq:Nat} {VA:Option Addr} {vs us0:List Int}
def B2l{s nq cq rn cr:Nat}{rs tl qs:List Int}{Q R:Int}(hu:g bu=none)(hq:g bq=none)(hne:bu≠bq)(hs:s<32)(hrn:rn=rs.length)(hcr:rn<=cr)(hnq:nq=qs.length)(hcq:nq<=cq)(dq:Dig b32 qs)(dr:Dig b32 rs)(hb1:nq<=200000000)(hb2:rn<=200000000)(hQ:val b32 qs=Q)(hR:val b32 rs=R*2^s)
 (hK:∀ A1 m1 c1 A2 m2 c2 h',g.le h'->m1<=c1->m2<=c2->Mg h' A1 m1 Q->Mg h' A2 m2 R->K (.tuple #[.slice A1 m1 c1,.slice A2 m2 c2]) h'):
 Kh prog K (s:Int) (some ⟨bq,0,none⟩) nq cq (some ⟨bu,0,none⟩) rn cr (Am .u32 C6 g bu (rs++tl) bq qs):=by
 have r:0<(2:Int)^s:=aX (by decide)
 have d:=Nc (Nat.le_of_lt hs)
 have q:0<(2:Int)^(32-s):=aX (by decide)
 unfold Kh
 refine ⟨fun l h'=>∃ (k:Nat) (zs:List Int),l=[I k]/\k<=rn/\zs.length=rs.length/\Dig b32 zs/\h'=Am .u32 C6 g bu (zs++tl) bq qs/\zs.drop k=rs.drop k/\2^s*val b32 (zs.take k)+rs.getD 0 0%2^s=val b32 (rs.take k)+b32^k*(rs.getD k 0%2^s),fun l _=>rn-(iAt l 0).toNat,⟨0,rs,rfl,by omega,rfl,dr,rfl,rfl,by simp [val]⟩,?_⟩
 rintro i ad ⟨k,zs,C,hk,a,w,rfl,b,x⟩
 obtain rfl:=sI1 C
 have y:∀ zs:List Int,SlI .u32 (Am .u32 C6 g bu (zs++tl) bq qs) (some ⟨bu,0,none⟩) zs:=by
  intro zs
  have:=(Wa (g:=g) (k:=.u32) (e:=C6) (us:=zs++tl) (qs:=qs) hne).cut (c:=(zs++tl).length) (l:=0) (m:=zs.length) (by omega) (by simp) (aW _)
  simpa [I0] using this
 have E:B6 ((k:Int)+1)=((k+1:Nat):Int):=by rw [B8 (by omega) (by omega)];omega
 have S:=Cb w k
 have p:=E8 b
 refine B7 (fun O=>?_) (fun O=>?_)
 ·refine (y zs).load (by omega) (by omega) (by omega) ?_
  refine B7 (fun e=>absurd e (by omega)) (fun _=>?_)
  refine ⟨_,rfl,by omega,by omega,?_⟩
  simp only [aD]
  rw [aJ (by omega),bU _ (aL r)]
  refine O5 (us:=zs++tl) (i:=(k:Int)) K7 hne (by rw [aD,aK];omega) ?_
  rw [aD,List.set_append_left _ _ (by omega),E]
  have f:0<=zs.getD k 0/2^s:=aZ S.1 (by omega)
  have B:zs.getD k 0/2^s<2^(32-s):=by
   apply aV r
   rw [aO,d];exact S.2
  have j:(2:Int)^(32-s)<=4294967296:=by
   rw [<- d]
   have:=aC (show 1<=(2:Int)^s by omega) (aL q);omega
  have d1:Dig b32 (zs.set k (zs.getD k 0/2^s)):=w.set ⟨f,by show _<(4294967296:Int);omega⟩
  have l1:(zs.set k (zs.getD k 0/2^s)).length=rs.length:=by rw [bD];exact a
  have g1:(zs.set k (zs.getD k 0/2^s)).getD k 0=zs.getD k 0/2^s:=by simp [aP,show k<zs.length by omega]
  have g2:(zs.set k (zs.getD k 0/2^s)).getD (k+1) 0=rs.getD (k+1) 0:=by
   rw [A5z (by omega)];exact E8 (D8 b)
  have vr:=C4 b32 rs k
  have t:∀ z:Int,(0<=z/\z<4294967296)->2^s*z=zs.getD k 0-zs.getD k 0%2^s+4294967296*(rs.getD (k+1) 0%2^s)->
   2^s*val b32 ((zs.set k z).take (k+1))+rs.getD 0 0%2^s=val b32 (rs.take (k+1))+b32^(k+1)*(rs.getD (k+1) 0%2^s):=by
   intro z hz ez
   rw [C8 (by omega),F1,aI,aJ (by omega),vr,aQ,<- p]
   rw [<- p] at x
   have e1:2^s*(val b32 (zs.take k)+b32^k*z)=2^s*val b32 (zs.take k)+b32^k*(2^s*z):=by grind
   rw [e1,ez]
   grind
  have ac:=aS (zs.getD k 0) (2^s)
  refine B7 (fun W=>?_) (fun W=>?_)
  ·refine (y _).load (by omega) (by omega) (by omega) ?_
   refine (y _).load (by omega) (by omega) (by omega) ?_
   simp only [aD,g1,g2]
   have es:C1 ((32:Int)-s)=((32-s:Nat):Int):=by rw [C3 (by omega) (by omega)];omega
   rw [es]
   refine B7 (fun e=>absurd e (by omega)) (fun _=>?_)
   refine ⟨_,rfl,by omega,by omega,?_⟩
   have N:=Cb dr (k+1)
   have D:0<=rs.getD (k+1) 0*2^(32-s):=aG N.1 (by omega)
   have A:rs.getD (k+1) 0*2^(32-s)<18446744073709551616:=by
    have:=bO (show rs.getD (k+1) 0<=4294967295 by omega) j (by omega) (by decide)
    omega
   rw [aD,aJ (show 32-s<=64 by omega),C3 (n:=rs.getD (k+1) 0) (by omega) (by omega),C3 D A,Z1]
   obtain ⟨V,M⟩:=A8c (s:=32-s) (by omega) N ⟨f,B⟩
   rw [V]
   refine O5 (us:=zs.set k (zs.getD k 0/2^s)++tl) (i:=(k:Int)) K7 hne (by rw [aD,aK];omega) ?_
   rw [aD,List.set_append_left _ _ (by omega),List.set_set]
   have Z:=A3j (rs.getD (k+1) 0*2^(32-s))
   refine ⟨⟨k+1,zs.set k (zs.getD k 0/2^s+rs.getD (k+1) 0*2^(32-s)%4294967296),rfl,by omega,by simpa using a,w.set ⟨by omega,M⟩,rfl,by rw [D5 (by omega)];exact D8 b,t _ ⟨by omega,M⟩ ?_⟩,by simp only [iAt,aH];omega⟩
   have X:rs.getD (k+1) 0*2^(32-s)%4294967296=2^(32-s)*(rs.getD (k+1) 0%2^s):=by
    rw [<- d,aO (2^s),aO (rs.getD (k+1) 0),bW _ _ q]
   rw [X,Int.mul_add,<- Int.mul_assoc,d]
   omega
  ·have F:k+1=rs.length:=by omega
   have H:rs.getD (k+1) 0=0:=by simp [aP,aU (show rs.length<=k+1 by omega)]
   refine ⟨⟨k+1,zs.set k (zs.getD k 0/2^s),rfl,by omega,l1,d1,rfl,by rw [D5 (by omega)];exact D8 b,t _ ⟨f,by omega⟩ ?_⟩,by simp only [iAt,aH];omega⟩
   rw [H,Int.zero_emod,bH,bY];omega
 ·have L:k=rs.length:=by omega
  subst L
  have H:rs.getD rs.length 0=0:=by simp [aP]
  rw [aM,<- a,aM,a,H] at x
  have J:val b32 zs=R:=by
   have h0:=aY (rs.getD 0 0) (show (2:Int)^s≠0 by omega)
   have O:=aT (rs.getD 0 0) r
   rw [hR] at x
   simp at x
   have:2^s*(R-val b32 zs)=rs.getD 0 0%2^s:=by
    have:2^s*(R-val b32 zs)=R*2^s-2^s*val b32 zs:=by grind
    simp only [aP] at *
    omega
   have hz:R-val b32 zs=0:=by
    by_cases hc:R-val b32 zs<=0
    ·by_cases G:R-val b32 zs=0
     ·exact G
     ·have:=aE (show R-val b32 zs <= -1 by omega) (aL r);omega
    ·have:=aE (show 1<=R-val b32 zs by omega) (aL r);omega
   omega
  rw [hnq]
  refine Bo B9o dq (by omega) (by omega) ?_
  intro m1 T u
  refine ⟨_,_,_,rfl,?_⟩
  rw [hrn,<- a]
  refine Bo (y zs) w (by omega) (by omega) ?_
  intro m2 aa o
  rw [hQ] at u
  rw [J] at o
  exact ⟨_,_,_,rfl,hK _ _ _ _ _ _ _ (Re hu hq hne) (by omega) (by omega) u o⟩
def B0n{s mm N nq:Nat}{us0:List Int}{a b Y:Int}(hu:g bu=none)(hq:g bq=none)(hne:bu≠bq)(sv:SlI .u32 g VA vs)(dv:Dig b32 vs)(hn:vs.length=mm+2)(hv1:4294967296<=2*vs.getD (mm+1) 0)(hs:s<32)(hY:val b32 vs=Y)(hYb:Y=b*2^s)(du:Dig b32 us0)(hN:us0.length=N)(hua:val b32 us0=a*2^s)(hnq:N=nq+(mm+2))(hnq1:1<=nq)(hbig:N<=200000000)(htop:val b32 (us0.drop nq)<Y)
 (hK:∀ A1 m1 c1 A2 m2 c2 h',g.le h'->m1<=c1->m2<=c2->Mg h' A1 m1 (a/b)->Mg h' A2 m2 (a%b)->K (.tuple #[.slice A1 m1 c1,.slice A2 m2 c2]) h'):
 Rl prog K (s:Int) VA (mm+2) (some ⟨bu,0,none⟩) N N (some ⟨bq,0,none⟩) nq nq (Am .u32 C6 g bu us0 bq (bL nq 0)):=by
 have V:0<(2:Int)^s:=aX (by decide)
 have ar:Y<b32^(mm+2):=by rw [<- hY,<- hn];exact L5 (by decide) dv
 have ay:0<Y:=by have:=C7 (by decide) (du.drop nq);omega
 have e0:B6 (B6 ((N:Int)-((mm+2:Nat):Int))-1)=(nq:Int)-1:=by rw [B8 (n:=(N:Int)-((mm+2:Nat):Int)) (by omega) (by omega),B8 (by omega) (by omega)];omega
 unfold Rl
 refine ⟨fun l h'=>∃ (k:Nat) (us qs:List Int),l=[I ((k:Int)-1)]/\k<=nq/\us.length=N/\qs.length=nq/\Dig b32 us/\Dig b32 qs/\h'=Am .u32 C6 g bu us bq qs/\val b32 (us.drop k)<Y/\val b32 us0=val b32 (qs.drop k)*Y*b32^k+val b32 us,fun l _=>(iAt l 0+1).toNat,⟨nq,us0,_,by rw [e0],by omega,hN,by simp,du,I3 (by decide) _,rfl,htop,by simp [val]⟩,?_⟩
 rintro j aq ⟨k,us,qs,ai,hk,o,z,f,E,rfl,aa,hv⟩
 obtain rfl:j=(k:Int)-1:=by simpa using ai
 have A:g.le (Am .u32 C6 g bu us bq qs):=Re hu hq hne
 have S:SlI .u32 (Am .u32 C6 g bu us bq qs) (some ⟨bu,0,none⟩) us:=Wa hne
 unfold Zn
 refine B7 (fun h1=>?_) (fun h1=>?_)
 ·obtain ⟨j,rfl⟩:∃ j,k=j+1:=⟨k-1,by omega⟩
  have ej:((j+1:Nat):Int)-1=(j:Int):=by omega
  rw [ej]
  have e1:B6 ((j:Int)+((mm+2:Nat):Int))=((j+(mm+2):Nat):Int):=by rw [B8 (by omega) (by omega)];omega
  have e2:B6 (((j+(mm+2):Nat):Int)-1)=((j+(mm+1):Nat):Int):=by rw [B8 (by omega) (by omega)];omega
  have e3:B6 (((mm+2:Nat):Int)-1)=((mm+1:Nat):Int):=by rw [B8 (by omega) (by omega)];omega
  rw [e1,e2,e3]
  have R:=f.drop j
  have D:(us.drop j).length=N-j:=by rw [List.length_drop,o]
  have T:∀ i,(us.drop j).getD i 0=us.getD (j+i) 0:=fun i=>A3s
  have t:val b32 ((us.drop j).drop (mm+3))=0:=by
   have:=Dt (B:=b32) (by decide) (n:=mm+2) (f.drop (j+1)) (by omega)
   rw [bB] at this ⊢
   rw [show j+(mm+3)=j+1+(mm+2) by omega];exact this
  have aj:=A2h b32 us j
  have G:val b32 (us.drop j)<Y*4294967296:=by
   have:=Cb f j
   rw [aj]
   have:b32*(val b32 (us.drop (j+1))+1)<=b32*Y:=aE (by omega) (by decide)
   have e:b32*(val b32 (us.drop (j+1))+1)=b32*val b32 (us.drop (j+1))+4294967296:=by show (4294967296:Int)*_=_;grind
   have e':Y*4294967296=b32*Y:=aO _ _
   omega
  have u:=F5 b32 (us.drop j) (i:=mm+3) (by omega)
  rw [t,bH,bY] at u
  have ag:=G7 b32 (us.drop j) (mm+2)
  have hX:val b32 (us.drop j)=val b32 ((us.drop j).take (mm+2))+b32^(mm+2)*(us.drop j).getD (mm+2) 0:=by rw [u];exact ag
  have es:=B9j (B:=b32) (by decide) (us:=(us.drop j).take (mm+3)) (m:=mm) (R.take _) dv (by rw [aI,D];omega) hn hv1 (by rw [<- u,hY];exact G)
  have gt:∀ i,i<mm+3->((us.drop j).take (mm+3)).getD i 0=us.getD (j+i) 0:=by
   intro i hi
   rw [<- T];simp [aP,hi]
  rw [gt (mm+2) (by omega),gt (mm+1) (by omega),gt mm (by omega),<- u,hY] at es
  refine ⟨fun l h'=>∃ d r,l=[]/\h'=Am .u32 C6 g bu d bq (qs.set j r)/\d.length=N/\Dig b32 d/\(0<=r/\r<4294967296)/\val b32 (d.drop j)<Y/\val b32 (d.drop j)=val b32 (us.drop j)-r*Y/\d.take j=us.take j,?_,?_⟩
  ·refine S.load o.symm (by omega) (by omega) ?_
   refine S.load o.symm (by omega) (by omega) ?_
   refine (sv.mono A).load hn.symm (by omega) (by omega) ?_
   simp only [aD]
   have ao:=Cb dv (mm+1)
   have ew:C1 (vs.getD (mm+1) 0)=vs.getD (mm+1) 0:=C3 (by omega) (by omega)
   refine B7 (fun e=>absurd (ew.symm.trans e) (by omega)) (fun _=>?_)
   refine (sv.mono A).load hn.symm (by omega) (by omega) ?_
   simp only [aD]
   refine B7 (fun e=>absurd (ew.symm.trans e) (by omega)) (fun _=>?_)
   refine ⟨fun l h'=>∃ q,l=[U q]/\h'=Am .u32 C6 g bu us bq qs/\0<=q/\q<=4294967296/\val b32 (us.drop j)<(q+1)*Y/\(q-1)*Y<=val b32 (us.drop j),?_,?_⟩
   ·have:=B7p (us:=us) (vs:=vs) (n:=mm+2) (j:=j) (J:=fun l h'=>∃ q,l=[U q]/\h'=Am .u32 C6 g bu us bq qs/\0<=q/\q<=4294967296/\val b32 (us.drop j)<(q+1)*Y/\(q-1)*Y<=val b32 (us.drop j)) es (sv.mono A) S hn.symm (by omega) (by omega) (by omega) rfl rfl (by rw [show j+(mm+2)-2=j+mm by omega]) (Cb f (j+(mm+2))) (Cb f (j+(mm+1))) rfl (fun q q0 q1 q2 q3=>⟨q,rfl,rfl,q0,q1,q2,q3⟩)
    rw [o] at this
    exact this
   ·rintro q ap ⟨r,ae,rfl,ak,ah,F,O⟩
    obtain rfl:q=r:=by simpa using ae
    unfold Zl
    have p:(us.take j).length=j:=by rw [aI,o];omega
    have:=B0g (g:=g) (bu:=bu) (bq:=bq) (pre:=us.take j) (qs:=qs) (VA:=VA) (vs:=vs) (n:=mm+2) (N:=N) (nq:=nq) (ws:=us.drop j) (q:=q) (X:=val b32 (us.drop j)) (Y:=Y)
     (J:=fun l h'=>∃ d r,l=[]/\h'=Am .u32 C6 g bu d bq (qs.set j r)/\d.length=N/\Dig b32 d/\(0<=r/\r<4294967296)/\val b32 (d.drop j)<Y/\val b32 (d.drop j)=val b32 (us.drop j)-r*Y/\d.take j=us.take j)
     hu hq hne sv dv hn.symm R (by rw [bF,o]) (by omega) hbig z.symm (by omega) hX hY.symm ak ah F O G ?_
    ·rw [bF,p] at this
     exact this
    ·intro H r w1 w2 w3 w4 w5 w6 w7 w8 w9
     refine ⟨us.take j++H,r,rfl,by rw [p],by rw [aK,w1,D,p];omega,Dig.append (f.take j) w2,⟨w8,w9⟩,?_,?_,?_⟩
     all_goals first|(rw [List.drop_left' p])|(rw [List.take_left' p])
     all_goals
      have z1:=F5 b32 H (i:=mm+3) (by omega)
      rw [w3,t,G7,w4,w5] at z1
      simp at z1
      omega
  ·rintro av ⟨d,r,_,rfl,u1,u2,u3,u4,u5,u6⟩
   unfold Zm
   have an:B6 ((j:Int)-1)=(j:Int)-1:=B8 (by omega) (by omega)
   rw [an]
   refine ⟨⟨j,d,qs.set j r,rfl,by omega,u1,by simpa using z,u2,E.set u3,rfl,u4,?_⟩,by simp only [iAt,aH];omega⟩
   have am:=F5 b32 d (i:=j) (by omega)
   have W:=F5 b32 us (i:=j) (by omega)
   rw [hv,W7 (by omega),am,W,u5,u6,aQ]
   simp only [val]
   grind
 ·have ad:k=0:=by omega
  subst ad
  simp at aa hv
  have ax:0<b:=by
   by_cases Q:0<b
   ·exact Q
   ·have:=aC (show b<=0 by omega) (aL V);omega
  have au:=C7 (by decide) f
  have hR:val b32 us=(a-val b32 qs*b)*2^s:=by
   rw [hua,hYb] at hv
   grind
  have af:0<=a-val b32 qs*b:=by
   by_cases Q:0<=a-val b32 qs*b
   ·exact Q
   ·have:=aC (show a-val b32 qs*b <= -1 by omega) (aL V);omega
  have al:a-val b32 qs*b<b:=by
   by_cases Q:a-val b32 qs*b<b
   ·exact Q
   ·have:=aC (show b<=a-val b32 qs*b by omega) (aL V);omega
  have y:a/b=val b32 qs:=by
   have:a=(a-val b32 qs*b)+val b32 qs*b:=by omega
   rw [this,bZ _ _ (by omega),bX af al,Int.zero_add]
  have L:a%b=a-val b32 qs*b:=by
   have:=Int.emod_def a b
   rw [this,y,aO]
  rw [y,L] at hK
  have hz:=Dt (B:=b32) (by decide) (n:=mm+2) f (by omega)
  have w:=F5 b32 us (i:=mm+2) (by omega)
  rw [hz,bH,bY] at w
  refine ⟨⟨by omega,by omega⟩,?_⟩
  rw [I0,aD,Nat.sub_zero,Nat.sub_zero]
  have x:(us.take (mm+2)).length=mm+2:=by rw [aI,o];omega
  have st:SlI .u32 (Am .u32 C6 g bu us bq qs) (some ⟨bu,0,none⟩) (us.take (mm+2)):=by
   have:=S.cut (c:=N) (l:=0) (m:=mm+2) (by omega) (by omega) (by omega)
   simpa [I0] using this
  have tr:=A2l (K:=fun r7 M=>∃ (t259A:Option Addr) (t259n:Nat) (t259c:Nat),r7= .slice t259A t259n t259c/\Kh prog K (s:Int) (some ⟨bq,0,none⟩) nq nq t259A t259n t259c M) (ac:=N) st (by omega) (by omega) ?_
  ·rw [x] at tr;exact tr
  ·intro m hm aw C
   rw [x] at hm
   rw [List.take_take,aJ hm] at C
   refine ⟨_,_,_,rfl,?_⟩
   have Z:us=us.take m++us.drop m:=(bF m us).symm
   rw [Z]
   refine B2l (rs:=us.take m) (tl:=us.drop m) (qs:=qs) hu hq hne hs (by rw [aI,o];omega) (by omega) z.symm (aW _) E (f.take m) (by omega) (by omega) rfl ?_ hK
   rw [C,<- w,hR]
end
