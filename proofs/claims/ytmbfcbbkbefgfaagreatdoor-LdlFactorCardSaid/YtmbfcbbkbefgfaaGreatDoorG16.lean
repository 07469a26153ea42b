/- A part. -/
import Derived.Test.YtmbfcbbkbefgfaaGreatDoorG14
import Derived.Test.YtmbfcbbkbefgfaaGreatDoorG15
open Go.Proofs.Tryz
set_option linter.all false
open Int renaming mul_le_mul_of_nonneg_right->aC,toNat_natCast->aD,mul_le_mul_of_nonneg_left->aE,dvd_mul_of_dvd_right->aF,mul_nonneg->aG,le_of_lt->aL,mul_comm->aO,pow_succ->aQ,mul_ediv_add_emod->aS,emod_lt_of_pos->aT,ediv_lt_of_lt_mul->aV,pow_pos->aX,emod_nonneg->aY,ediv_nonneg->aZ,mul_zero->bH,mul_pos->bI,dvd_sub->bJ,gcd->bK,tmod_eq_emod_of_nonneg->bM,tdiv_eq_ediv_of_nonneg->bN,mul_le_mul->bO,fdiv_eq_ediv_of_nonneg->bU,mul_emod_mul_of_pos->bW,ediv_eq_zero_of_lt->bX,add_zero->bY,add_mul_ediv_right->bZ
open List renaming getElem?_cons_zero->aH,length_take->aI,length_append->aK,take_length->aM,take_of_length_le->aN,getD->aP,getElem?_cons_succ->aR,getElem?_eq_none->aU,drop_drop->bB,drop_of_length_le->bC,length_set->bD,take_append_drop->bF,take_set_of_le->bG,replicate->bL,drop_eq_getElem_cons->bV
open Nat renaming min_eq_left->aJ,le_refl->aW
namespace Go.Proofs.YtmbfcbbkbefgfaaGreatDoor
set_option maxRecDepth 20000
open Go
section
variable {h g:Heap} {K:VP} {A B:Option Addr} {ac bc:Nat}
def Ub{x y:Int}{an bn:Nat}(ma:Mg h A an x)(mb:Mg h B bn y)(hxy:y<=x)(hl:an<=100000000)(hK:∀ A' m c' h',h.le h'->m<=c'->Mg h' A' m (x-y)->K (.slice A' m c') h'):FCall prog Of #[.slice A an ac,.slice B bn bc] h K:=by
 have L:bn<=an:=by
  have j:=ma.lt (by decide)
  exact mb.len_le (by decide) (Int.lt_of_le_of_lt hxy j)
 obtain ⟨a,rfl,J,F,X,rfl⟩:=ma
 obtain ⟨f,rfl,R,O,ny,rfl⟩:=mb
 refine B0v _ _ _ _ _ _ ?_
 unfold B5d
 refine K8 Ps (by omega) (by omega) (by omega) ?_
 intro b u
 rw [aD]
 refine ⟨_,_,_,rfl,?_⟩
 refine ⟨fun l h'=>∃ (k:Nat) (c:Int) (zs:List Int),l=[U c,I k]/\k<=a.length/\zs.length=a.length/\Dig b32 zs/\(0<=c/\c<=1)/\h'=blk .u32 C6 h b zs/\val b32 (zs.take k)=val b32 (a.take k)-val b32 (f.take k)+c*b32^k,fun l _=>a.length-(iAt l 1).toNat,⟨0,0,_,rfl,by omega,by simp,J1 (by decide) _,by omega,rfl,by simp [val]⟩,?_⟩
 rintro c i Z ⟨k,c',zs,s,T,g,t,V,rfl,z⟩
 obtain ⟨rfl,rfl⟩:c=c'/\i=(k:Int):=by simpa using s
 have o:=Y7 (k:=.u32) (e:=C6) u zs
 refine B8 (fun j=>?_) (fun j=>?_)
 ·have W:=Cl F k
  have S:=Cl O k
  have E:=C7 b32 a k
  have Q:=C7 b32 f k
  refine (J.mono o).load rfl (by omega) (by omega) ?_
  rw [aD]
  refine ⟨fun l h'=>l=[U (C3 (a.getD k 0-c-f.getD k 0))]/\h'=blk .u32 C6 h b zs,B8 (fun M=>?_) (fun M=>?_),?_⟩
  ·refine (R.mono o).load rfl (by omega) (by omega) ?_
   rw [aD]
   refine ⟨?_,rfl⟩
   rw [C5 (n:=a.getD k 0) (by omega) (by omega),C5 (n:=f.getD k 0) (by omega) (by omega),F6,F6,F6]
   have H:((a.getD k 0-c)%18446744073709551616-f.getD k 0)%18446744073709551616=(a.getD k 0-c-f.getD k 0)%18446744073709551616:=by omega
   rw [H]
  ·refine ⟨?_,rfl⟩
   have D:f.getD k 0=0:=by simp [aP,aU (show f.length<=k by omega)]
   rw [D,C5 (n:=a.getD k 0) (by omega) (by omega),Int.sub_zero]
  ·rintro d C ⟨q,rfl⟩
   obtain rfl:d=C3 (a.getD k 0-c-f.getD k 0):=by simpa using q
   refine ⟨_,rfl,by omega,by omega,?_⟩
   refine S5 (k:=.u32) (zs:=zs) (i:=(k:Int)) L3 (by rw [aD];omega) ?_
   rw [aD,Ai,Xf,F6,C0 (n:=(k:Int)+1) (by omega) (by omega),Zc (by omega)]
   refine ⟨⟨k+1,_,zs.set k ((a.getD k 0-c-f.getD k 0)%18446744073709551616%4294967296),rfl,by omega,by simpa using g,t.set (A3p _),by omega,rfl,?_⟩,by simp only [iAt,aH,aR];omega⟩
   rw [D3 (by omega),F7,aI,aJ (by omega),aQ,E,Q,z]
   have key:(a.getD k 0-c-f.getD k 0)%18446744073709551616%4294967296=a.getD k 0-c-f.getD k 0+4294967296*((a.getD k 0-c-f.getD k 0)%18446744073709551616/4294967296%2):=by omega
   rw [key]
   grind
 ·have p:k=a.length:=by omega
  subst p
  rw [aM,aN (show f.length<=a.length by omega),aN (show zs.length<=a.length by omega)] at z
  have r:c=0:=by
   have j:=N4 (by decide) t
   rw [g] at j
   by_cases N:c=0
   ·exact N
   ·have:c=1:=by omega
    subst this
    omega
  subst r
  rw [<- g]
  refine Ak (Dt _ _ _ _ _) t (aW _) (by omega) ?_
  intro m G w
  have e:val b32 zs=val b32 a-val b32 f:=by omega
  rw [e] at w
  exact ⟨_,_,_,rfl,hK _ _ _ _ (Y7 u _) G w⟩
def B42{xs:List Int}{i:Nat}(hi:i<xs.length):xs.drop i=xs.getD i 0::xs.drop (i+1):=by
 rw [bV hi];simp [aP,hi]
def Mq(B:Int){xs:List Int}{i:Nat}(hi:i<xs.length):val B (xs.drop i)=xs.getD i 0+B*val B (xs.drop (i+1)):=by
 rw [B42 hi];rfl
def Y6{xs:List Int}{i:Nat}{v:Int}(hi:i<xs.length):(xs.set i v).drop i=v::xs.drop (i+1):=by
 rw [bV (by simpa using hi)]
 simp [List.drop_set_of_lt]
def Nh{x d:Int}{an:Nat}(ma:Mg h A an x)(hd0:0<d/\d<4294967296)(hl:an<=100000000)(hK:∀ A' m c' h',h.le h'->m<=c'->m<=an->Mg h' A' m (x/d)->K (.tuple #[.slice A' m c',U32 (x%d)]) h'):FCall prog Gk #[.slice A an ac,U32 d] h K:=by
 obtain ⟨a,rfl,M,F,O,rfl⟩:=ma
 refine A4t _ _ _ _ ?_
 unfold A4u
 refine K8 Ps (by omega) (by omega) (by omega) ?_
 intro b w
 rw [aD]
 refine ⟨_,_,_,rfl,?_⟩
 refine ⟨fun l h'=>∃ (k:Nat) (r:Int) (zs:List Int),l=[U r,I ((k:Int)-1)]/\k<=a.length/\zs.length=a.length/\Dig b32 zs/\(0<=r/\r<d)/\h'=blk .u32 C6 h b zs/\val b32 (a.drop k)=val b32 (zs.drop k)*d+r,fun l _=>(iAt l 1+1).toNat,⟨a.length,0,_,by rw [C0 (by omega) (by omega)],by omega,by simp,J1 (by decide) _,by omega,rfl,by simp [val]⟩,?_⟩
 rintro r i Q ⟨k,B,zs,t,N,c,z,f,rfl,g⟩
 obtain ⟨rfl,rfl⟩:r=B/\i=(k:Int)-1:=by simpa using t
 have q:=Y7 (k:=.u32) (e:=C6) w zs
 refine B8 (fun D=>?_) (fun D=>?_)
 ·obtain ⟨j,rfl⟩:∃ j,k=j+1:=⟨k-1,by omega⟩
  have e:((j+1:Nat):Int)-1=(j:Int):=by omega
  rw [e]
  have H:=Cl F j
  refine (M.mono q).load rfl (by omega) (by omega) ?_
  rw [aD]
  have C:C3 d=d:=C5 (by omega) (by omega)
  have E:bor .u64 (C3 (r*2^(min ((32:Int)).toNat 64))) (C3 (a.getD j 0))=r*4294967296+a.getD j 0:=by
   rw [show (2:Int)^(min ((32:Int)).toNat 64)=4294967296 by decide,C5 (n:=a.getD j 0) (by omega) (by omega),C5 (n:=r*4294967296) (by omega) (by omega)]
   exact A1t (by omega) H
  rw [C,E]
  have u:0<=r*4294967296+a.getD j 0:=by omega
  have J:Int.tdiv (r*4294967296+a.getD j 0) d=(r*4294967296+a.getD j 0)/d:=bN u
  have L:Int.tmod (r*4294967296+a.getD j 0) d=(r*4294967296+a.getD j 0)%d:=bM u
  rw [J,L]
  have o:0<=(r*4294967296+a.getD j 0)/d/\(r*4294967296+a.getD j 0)/d<4294967296:=by
   constructor
   ·exact aZ u (by omega)
   ·apply aV (by omega)
    have:(r+1)*4294967296<=d*4294967296:=aC (by omega) (by decide)
    omega
  refine B8 (fun e=>absurd e (by omega)) (fun _=>?_)
  refine ⟨_,rfl,by omega,by omega,?_⟩
  refine S5 (k:=.u32) (zs:=zs) (i:=(j:Int)) L3 (by rw [aD];omega) ?_
  rw [aD,C5 (by omega) (by omega),P0 (by omega) (by omega),C0 (by omega) (by omega)]
  refine B8 (fun e=>absurd e (by omega)) (fun _=>?_)
  refine ⟨⟨j,_,zs.set j ((r*4294967296+a.getD j 0)/d),rfl,by omega,by simpa using c,z.set o,⟨aY _ (by omega),aT _ (by omega)⟩,rfl,?_⟩,by simp only [iAt,aH,aR];omega⟩
  rw [Y6 (by omega),Mq b32 (by omega),g]
  have:=aS (r*4294967296+a.getD j 0) d
  simp only [val]
  grind
 ·have p:k=0:=by omega
  subst p
  rw [List.drop_zero,List.drop_zero] at g
  rw [<- c]
  refine Ak (Dt _ _ _ _ _) z (aW _) (by omega) ?_
  intro m G y
  have o:val b32 a/d=val b32 zs:=by
   rw [g,Int.add_comm,bZ _ _ (by omega),bX f.1 f.2,Int.zero_add]
  have s:val b32 a%d=r:=by
   rw [g,Int.add_comm,Int.add_mul_emod_self_right,Int.emod_eq_of_lt f.1 f.2]
  rw [<- o] at y
  rw [P0 (by omega) (by omega),<- s]
  exact ⟨_,_,_,rfl,hK _ _ _ _ (Y7 w _) G (by omega) y⟩
end
def C3l{a b:Int}(ha:0<=a/\a<4294967296)(hb:0<=b/\b<4294967296):0<=a*b/\a*b<=18446744065119617025:=by
 refine ⟨aG ha.1 hb.1,?_⟩
 have:=bO (show a<=4294967295 by omega) (show b<=4294967295 by omega) hb.1 (by decide)
 omega
def E8{xs ys:List Int}{i:Nat}(h:xs.drop i=ys.drop i):xs.getD i 0=ys.getD i 0:=by
 have a:(xs.drop i)[0]? = (ys.drop i)[0]? :=by rw [h]
 simp at a
 simp [aP,a]
def D9{xs ys:List Int}{i:Nat}(h:xs.drop i=ys.drop i):xs.drop (i+1)=ys.drop (i+1):=by
 rw [<- bB,<- bB,h]
def D7{xs:List Int}{i j:Nat}{v:Int}(h:i<j):(xs.set i v).drop j=xs.drop j:=List.drop_set_of_lt h
section
variable {h g:Heap} {K:VP} {A B:Option Addr} {ac bc:Nat}
def Up{x y:Int}{an bn:Nat}(ma:Mg h A an x)(mb:Mg h B bn y)(hl:an<=100000000)(hl2:bn<=100000000)(hK:∀ A' m c' h',h.le h'->m<=c'->Mg h' A' m (x*y)->K (.slice A' m c') h'):FCall prog Oh #[.slice A an ac,.slice B bn bc] h K:=by
 have E:=ma.len_zero (by decide)
 have H:=mb.len_zero (by decide)
 obtain ⟨d,rfl,sx,X,nx,rfl⟩:=ma
 obtain ⟨a,rfl,sy,dy,ny,rfl⟩:=mb
 refine B0x _ _ _ _ _ _ ?_
 unfold B5h
 refine E5 (fun h0=>?_) (fun hx=>E5 (fun h0=>?_) (fun hy=>?_))
 ·have:=hK none 0 0 h (B5 h) (aW _) (by rw [E.2 (by omega),Int.zero_mul];exact Mag.zero)
  exact this
 ·have:=hK none 0 0 h (B5 h) (aW _) (by rw [H.2 (by omega),bH];exact Mag.zero)
  exact this
 have Q:B7 ((d.length:Int)+a.length)=((d.length+a.length:Nat):Int):=by rw [C0 (by omega) (by omega)];omega
 rw [Q]
 refine K8 Ps (by omega) (by omega) (by omega) ?_
 intro b J
 rw [aD]
 refine ⟨_,_,_,rfl,?_⟩
 refine ⟨fun l h'=>∃ (k:Nat) (zs:List Int),l=[I k]/\k<=d.length/\zs.length=d.length+a.length/\Dig b32 zs/\h'=blk .u32 C6 h b zs/\zs.drop (k+a.length)=bL (d.length-k) 0/\val b32 (zs.take (k+a.length))=val b32 (d.take k)*val b32 a,fun l _=>d.length-(iAt l 0).toNat,⟨0,_,rfl,by omega,by simp,J1 (by decide) _,rfl,by simp,?_⟩,?_⟩
 ·rw [List.take_replicate,Cy];simp [val]
 rintro i hp ⟨k,f,D,hk,g,t,rfl,u,r⟩
 obtain rfl:=sI1 D
 refine B8 (fun S=>?_) (fun S=>?_)
 ·have gx:=Cl X k
  have T:=C7 b32 d k
  refine ⟨fun l h'=>∃ (m:Nat) (c:Int) (zs:List Int),l=[U c,I m]/\m<=a.length/\zs.length=d.length+a.length/\Dig b32 zs/\(0<=c/\c<4294967296)/\h'=blk .u32 C6 h b zs/\zs.drop (k+m)=f.drop (k+m)/\val b32 (zs.take (k+m))+c*b32^(k+m)=val b32 (f.take (k+m))+b32^k*(d.getD k 0*val b32 (a.take m)),fun l _=>a.length-(iAt l 1).toNat,⟨0,0,f,rfl,by omega,g,t,by omega,rfl,rfl,by simp [val]⟩,?_⟩
  rintro c j V ⟨m,c',zs,w,M,o,G,Z,rfl,q,W⟩
  obtain ⟨rfl,rfl⟩:c=c'/\j=(m:Int):=by simpa using w
  have s:=Y7 (k:=.u32) (e:=C6) J zs
  refine B8 (fun h2=>?_) (fun h2=>?_)
  ·have R:=Cl dy m
   have vy:=C7 b32 a m
   have gz:=Cl G (k+m)
   have F:=E8 q
   have O:=C7 b32 f (k+m)
   have p:B7 ((k:Int)+m)=((k+m:Nat):Int):=by rw [C0 (by omega) (by omega)];omega
   rw [p]
   refine (sx.mono s).load rfl (by omega) (by omega) ?_
   refine (sy.mono s).load rfl (by omega) (by omega) ?_
   refine (Dt .u32 C6 h b zs).load o.symm (by omega) (by omega) ?_
   simp only [aD]
   have hp:=C3l gx R
   have ec:C3 (c+C3 (C3 (C3 (d.getD k 0)*C3 (a.getD m 0))+C3 (zs.getD (k+m) 0)))=c+(d.getD k 0*a.getD m 0+zs.getD (k+m) 0):=by
    rw [C5 (n:=d.getD k 0) (by omega) (by omega),C5 (n:=a.getD m 0) (by omega) (by omega),C5 (n:=zs.getD (k+m) 0) (by omega) (by omega),C5 (n:=d.getD k 0*a.getD m 0) (by omega) (by omega),C5 (n:=d.getD k 0*a.getD m 0+zs.getD (k+m) 0) (by omega) (by omega),C5 (by omega) (by omega)]
   rw [ec]
   refine ⟨_,rfl,by omega,by omega,?_⟩
   refine S5 (k:=.u32) (zs:=zs) (i:=((k+m:Nat):Int)) L3 (by rw [aD];omega) ?_
   rw [aD,Ai,Xf,C0 (n:=(m:Int)+1) (by omega) (by omega)]
   refine ⟨⟨m+1,_,zs.set (k+m) ((c+(d.getD k 0*a.getD m 0+zs.getD (k+m) 0))%4294967296),rfl,by omega,by simpa using o,G.set (A3p _),by omega,rfl,?_,?_⟩,by simp only [iAt,aH,aR];omega⟩
   ·rw [D7 (by omega)];exact D9 q
   ·rw [<- Nat.add_assoc,D3 (by omega),F7,aI,aJ (by omega),aQ,Cq,vy,O,<- F]
    have:b32^(k+m)=b32^k*b32^m:=Int.pow_add _ _ _
    grind
  ·have C:m=a.length:=by omega
   subst C
   have p:B7 ((k:Int)+a.length)=((k+a.length:Nat):Int):=by rw [C0 (by omega) (by omega)];omega
   rw [p]
   refine ⟨_,rfl,by omega,by omega,?_⟩
   refine S5 (k:=.u32) (zs:=zs) (i:=((k+a.length:Nat):Int)) L3 (by rw [aD];omega) ?_
   rw [aD,P0 (by omega) (by omega),C0 (n:=(k:Int)+1) (by omega) (by omega)]
   have N:k+1+a.length=k+a.length+1:=by omega
   refine ⟨⟨k+1,zs.set (k+a.length) c,rfl,by omega,by simpa using o,G.set Z,rfl,?_,?_⟩,by simp only [iAt,aH];omega⟩
   ·rw [N,D7 (by omega),D9 q,<- bB,u,List.drop_replicate]
    congr 1
   ·rw [N,D3 (by omega),F7,aI,aJ (by omega)]
    rw [aM] at W
    rw [T]
    grind
 ·have z:k=d.length:=by omega
  subst z
  rw [aM,aN (show f.length<=d.length+a.length by omega)] at r
  rw [<- g]
  refine Ak (Dt _ _ _ _ _) t (aW _) (by omega) ?_
  intro m M L
  rw [r] at L
  exact ⟨_,_,_,rfl,hK _ _ _ _ (Y7 J _) M L⟩
def A7x{x z:Int}{s:Nat}(hs:s<=32)(_hx:0<=x/\x<4294967296)(hz:0<=z/\z<(2:Int)^s):
 bor .u32 z (x*2^s%4294967296)=z+x*2^s%4294967296/\z+x*2^s%4294967296<4294967296:=by
 have j:(2:Int)^s*2^(32-s)=4294967296:=by
  rw [<- Int.pow_add,show s+(32-s)=32 by omega];decide
 have d:0<(2:Int)^s:=aX (by decide)
 have i:0<(2:Int)^(32-s):=aX (by decide)
 have a:z<4294967296:=by
  have:(2:Int)^s*1<=2^s*2^(32-s):=aE (by omega) (by omega)
  omega
 have k:x*2^s%4294967296=2^s*(x%2^(32-s)):=by
  rw [<- j,aO x,bW _ _ d]
 have e:=A3p (x*2^s)
 have b:bor .u32 z (x*2^s%4294967296)=z+x*2^s%4294967296:=by
  rw [C41 ⟨hz.1,a⟩ e]
  have f:0<=x%2^(32-s):=aY _ (by omega)
  have g:(x*2^s%4294967296).toNat=2^s*(x%2^(32-s)).toNat:=by
   rw [k,Int.toNat_mul (by omega) f]
   rw [Int.toNat_pow_of_nonneg (by decide)];rfl
  have c:z.toNat<2^s:=by
   have:((2^s:Nat):Int)=(2:Int)^s:=by simp
   omega
  rw [g,Nat.or_comm,A7y c,<- g]
  omega
 refine ⟨b,?_⟩
 rw [<- b,C41 ⟨hz.1,a⟩ e]
 have:z.toNat ||| (x*2^s%4294967296).toNat<2^32:=Nat.or_lt_two_pow (by omega) (by have:=e.2;show _<_;omega)
 omega
def Kl{xs:List Int}{s:Nat}(sx:SlI .u32 h A xs)(dx:Dig b32 xs)(hs:s<32)(hl:xs.length<=100000000)(hK:∀ b zs,h b=none->zs.length=xs.length+1->Dig b32 zs->val b32 zs=val b32 xs*2^s->K (.slice (some ⟨b,0,none⟩) (xs.length+1) (xs.length+1)) (blk .u32 C6 h b zs)):FCall prog Dr #[.slice A xs.length ac,U s] h K:=by
 refine A26 _ _ _ _ ?_
 unfold Zn
 have D:B7 ((xs.length:Int)+1)=((xs.length+1:Nat):Int):=by rw [C0 (by omega) (by omega)];omega
 rw [D]
 refine K8 Ps (by omega) (by omega) (by omega) ?_
 intro b t
 rw [aD]
 refine ⟨_,_,_,rfl,?_⟩
 have c:0<(2:Int)^s:=aX (by decide)
 have w:(2:Int)^s<=2147483648:=by
  have:=D4 (B:=2) (by decide) (show s<=31 by omega)
  have e:(2:Int)^31=2147483648:=by decide
  omega
 refine ⟨fun l G=>∃ (k:Nat) (zs:List Int),l=[I k]/\k<=xs.length/\zs.length=xs.length+1/\Dig b32 zs/\G=blk .u32 C6 h b zs/\zs.drop (k+1)=bL (xs.length-k) 0/\zs.getD k 0<2^s/\val b32 (zs.take (k+1))=val b32 (xs.take k)*2^s,fun l _=>xs.length-(iAt l 0).toNat,⟨0,_,rfl,by omega,by simp,J1 (by decide) _,rfl,by simp,by simpa using c,by simp [val]⟩,?_⟩
 rintro i N ⟨k,zs,p,M,a,q,rfl,o,C,g⟩
 obtain rfl:=sI1 p
 have m:=Y7 (k:=.u32) (e:=C6) t zs
 refine B8 (fun E=>?_) (fun E=>?_)
 ·have j:=Cl dx k
  have gz:=Cl q k
  have F:=C7 b32 xs k
  have z:=C7 b32 zs k
  refine (sx.mono m).load rfl (by omega) (by omega) ?_
  refine B8 (fun e=>absurd e (by omega)) (fun _=>?_)
  refine (Dt .u32 C6 h b zs).load a.symm (by omega) (by omega) ?_
  simp only [aD]
  obtain ⟨L,y⟩:=A7x (Nat.le_of_lt hs) j ⟨gz.1,C⟩
  have d:0<=xs.getD k 0*2^s:=aG j.1 (by omega)
  have r:xs.getD k 0*2^s<4294967296*2^s:=Int.mul_lt_mul_of_pos_right j.2 c
  have ev:C3 (C3 (xs.getD k 0)*2^(min s 64))=xs.getD k 0*2^s:=by
   rw [C5 (n:=xs.getD k 0) (by omega) (by omega),aJ (by omega),C5 (by omega) (by omega)]
  rw [ev]
  refine ⟨_,rfl,by omega,by omega,?_⟩
  refine S5 (k:=.u32) (zs:=zs) (i:=(k:Int)) L3 (by rw [aD];omega) ?_
  rw [aD,Ai (xs.getD k 0*2^s),L,Xf]
  have H:B7 ((k:Int)+1)=((k+1:Nat):Int):=by rw [C0 (by omega) (by omega)];omega
  rw [H]
  have u:0<=xs.getD k 0*2^s/4294967296/\xs.getD k 0*2^s/4294967296<2^s:=⟨aZ d (by decide),aV (by decide) (by rw [aO (2^s)];exact r)⟩
  refine ⟨_,rfl,by omega,by omega,?_⟩
  refine S5 (k:=.u32) (zs:=zs.set k (zs.getD k 0+xs.getD k 0*2^s%4294967296)) (i:=((k+1:Nat):Int)) L3 (by rw [aD,bD];omega) ?_
  rw [aD,P0 (by omega) (by omega)]
  have J:=A3p (xs.getD k 0*2^s)
  refine ⟨⟨k+1,(zs.set k (zs.getD k 0+xs.getD k 0*2^s%4294967296)).set (k+1) (xs.getD k 0*2^s/4294967296),rfl,by omega,by simpa using a,(q.set ⟨by omega,y⟩).set ⟨u.1,by show _<(4294967296:Int);omega⟩,rfl,?_,?_,?_⟩,by simp only [iAt,aH];omega⟩
  ·rw [D7 (by omega),D7 (by omega),<- bB,o,List.drop_replicate]
   congr 1
  ·have:((zs.set k (zs.getD k 0+xs.getD k 0*2^s%4294967296)).set (k+1) (xs.getD k 0*2^s/4294967296)).getD (k+1) 0=xs.getD k 0*2^s/4294967296:=by
    rw [aP,List.getElem?_set_self (by rw [bD];omega)];rfl
   rw [this];exact u.2
  ·rw [D3 (by rw [bD];omega),F7,D3 (by omega),F7]
   simp only [aI,aK,List.length_singleton]
   rw [aJ (show k<=zs.length by omega),aQ,F]
   have:=Int.emod_add_mul_ediv (xs.getD k 0*2^s) 4294967296
   rw [z] at g
   grind
 ·have f:k=xs.length:=by omega
  subst f
  rw [aM,aN (by omega)] at g
  exact hK b zs t a q g
end
structure Est (B P top u2 ul v1 v2 vl U V:Int):Prop where
 hB:1<B
 hP:0<P
 hU:U=(top*B+u2)*P+ul
 hV:V=(v1*B+v2)*P+vl
 u2r:0<=u2/\u2<B
 ulr:0<=ul/\ul<P
 v2r:0<=v2/\v2<B
 vlr:0<=vl/\vl<P
 top0:0<=top
 v1r:B<=2*v1/\v1<B
 lt:U<V*B
section
variable {B P top u2 ul v1 v2 vl U V:Int}
def Est.U0(e:Est B P top u2 ul v1 v2 vl U V):0<=U:=by
 obtain ⟨j,l,i,k,f,d,g,c,a,b,lt⟩:=e
 have m:0<=top*B:=aG a (by omega)
 have:0<=(top*B+u2)*P:=aG (by omega) (by omega)
 omega
def Est.V0(e:Est B P top u2 ul v1 v2 vl U V):0<V:=by
 obtain ⟨k,f,j,l,g,d,i,c,a,b,lt⟩:=e
 have m:0<v1*B:=bI (by omega) (by omega)
 have:0<(v1*B+v2)*P:=bI (by omega) f
 omega
def Est.V2(e:Est B P top u2 ul v1 v2 vl U V):B<=v1*B+v2:=by
 obtain ⟨j,l,i,k,f,d,g,c,a,b,lt⟩:=e
 have:1*B<=v1*B:=aC (by omega) (by omega)
 omega
def Est.low(e:Est B P top u2 ul v1 v2 vl U V){q:Int}(h0:0<=q)(h:top*B+u2<q*(v1*B+v2)):U<q*V:=by
 obtain ⟨k,m,j,d,g,f,i,a,b,c,lt⟩:=e
 have o:(top*B+u2+1)*P<=q*(v1*B+v2)*P:=aC (by omega) (by omega)
 have p:0<=q*vl:=aG h0 a.1
 have n:q*V=q*(v1*B+v2)*P+q*vl:=by rw [d];grind
 have l:(top*B+u2+1)*P=(top*B+u2)*P+P:=by grind
 omega
def Est.big(e:Est B P top u2 ul v1 v2 vl U V){q:Int}(h:B<=q):U<q*V:=by
 have:=aC h (aL e.V0)
 have:=e.lt
 rw [aO V] at this
 omega
def Est.init(e:Est B P top u2 ul v1 v2 vl U V):U<(top/v1+1)*V:=by
 obtain ⟨p,c,l,f,i,m,b,d,a,j,lt⟩:=e
 have n:0<=top/v1:=aZ a (by omega)
 have g:top+1<=(top/v1+1)*v1:=by
  have:=aS top v1
  have:=aT top (show 0<v1 by omega)
  grind
 have k:0<B*P:=bI (by omega) c
 have r:(top+1)*(B*P)<=(top/v1+1)*v1*(B*P):=aC g (by omega)
 have o:0<=(top/v1+1)*(v2*P+vl):=aG (by omega) (by have:=aG b.1 (aL c);omega)
 have u:(top/v1+1)*V=(top/v1+1)*v1*(B*P)+(top/v1+1)*(v2*P+vl):=by rw [f];grind
 have t:(top+1)*(B*P)=top*B*P+B*P:=by grind
 have s:(u2+1)*P<=B*P:=aC (by omega) (by omega)
 have q:U=top*B*P+u2*P+ul:=by rw [l];grind
 have w:(u2+1)*P=u2*P+P:=by grind
 omega
def Est.up(e:Est B P top u2 ul v1 v2 vl U V){q:Int}(hq:q<=B)(h:q*(v1*B+v2)<=top*B+u2):(q-1)*V<=U:=by
 have c:=e.V2
 have i:=e.V0
 have j:=e.U0
 obtain ⟨n,r,m,f,k,g,l,d,a,b,lt⟩:=e
 by_cases t:q<=0
 ·have:(q-1)*V<=0:=Int.mul_nonpos_of_nonpos_of_nonneg (by omega) (by omega)
  omega
 ·have u:(q-1)*vl<=(q-1)*P:=aE (by omega) (by omega)
  have s:(q*(v1*B+v2))*P<=(top*B+u2)*P:=aC h (by omega)
  have p:(q-1)*V=(q*(v1*B+v2))*P-(v1*B+v2)*P+(q-1)*vl:=by rw [f];grind
  have o:(q-1)*P<=(v1*B+v2)*P:=aC (by omega) (by omega)
  omega
def Est.first(e:Est B P top u2 ul v1 v2 vl U V):top<(v1+1)*B/\top/v1<=B+1:=by
 obtain ⟨p,m,f,j,a,l,o,g,b,c,lt⟩:=e
 have d:0<B*P:=bI (by omega) m
 have q:top*(B*P)<=U:=by
  have:0<=u2*P:=aG a.1 (by omega)
  have:U=top*(B*P)+u2*P+ul:=by rw [f];grind
  omega
 have r:V<(v1+1)*(B*P):=by
  have n:(v2+1)*P<=B*P:=aC (by omega) (by omega)
  have:V=v1*(B*P)+v2*P+vl:=by rw [j];grind
  have:(v1+1)*(B*P)=v1*(B*P)+B*P:=by grind
  have:(v2+1)*P=v2*P+P:=by grind
  omega
 have n:V*B<=(v1+1)*(B*P)*B:=aC (by omega) (by omega)
 have k:top*(B*P)<(v1+1)*B*(B*P):=by
  have:(v1+1)*(B*P)*B=(v1+1)*B*(B*P):=by grind
  omega
 have i:top<(v1+1)*B:=Int.lt_of_mul_lt_mul_right k (by omega)
 refine ⟨i,?_⟩
 have:top/v1<B+2:=by
  apply aV (by omega)
  have:(v1+1)*B=v1*B+B:=by grind
  have:v1*(B+2)=v1*B+2*v1:=by grind
  have:(B+2)*v1=v1*B+2*v1:=by grind
  omega
 omega
end
def Be(k:IntKind)(e:TypeId)(g:Heap)(bu:Nat)(us:List Int)(bq:Nat)(qs:List Int):Heap:=blk k e (blk k e g bu us) bq qs
section
variable {k:IntKind} {e:TypeId} {g:Heap} {bu bq:Nat} {us qs:List Int}
def Qw(hu:g bu=none)(hq:g bq=none)(hne:bu≠bq):g.le (Be k e g bu us bq qs):=
 B0 (Y7 hu us) (Y7 (by unfold blk;rw [B9 _ _ hne.symm];exact hq) qs)
def Iv(hne:bu≠bq):Be k e g bu us bq qs=blk k e (blk k e g bq qs) bu us:=by
 unfold Be blk;exact Heap.put_comm g _ _ hne
def Wb(hne:bu≠bq):SlI k (Be k e g bu us bq qs) (some ⟨bu,0,none⟩) us:=by
 rw [Iv hne];exact Dt k e _ bu us
def B9u:SlI k (Be k e g bu us bq qs) (some ⟨bq,0,none⟩) qs:=Dt k e _ bq qs
def Q5{P:Program}{t:TypeId}(one:P.cellsOf t=1/\(P.info? t).isSome=true)(hne:bu≠bq){n i:Int}(hi:i.toNat<us.length){K:Unit->Heap->Prop}
 (x:K () (Be k e g bu (us.set i.toNat n) bq qs)):wpH P (Instr.storeAt t (.pointer (some (Addr.add ⟨bu,0,none⟩ (i.toNat*1)))) (.int k n)) K (Be k e g bu us bq qs):=by
 rw [Iv hne]
 rw [Iv hne] at x
 exact S5 one hi x
def Wc{P:Program}{t:TypeId}(one:P.cellsOf t=1/\(P.info? t).isSome=true){n i:Int}(hi:i.toNat<qs.length){K:Unit->Heap->Prop}
 (x:K () (Be k e g bu us bq (qs.set i.toNat n))):wpH P (Instr.storeAt t (.pointer (some (Addr.add ⟨bq,0,none⟩ (i.toNat*1)))) (.int k n)) K (Be k e g bu us bq qs):=
 S5 one hi x
end
def A3w{xs:List Int}{j i:Nat}:(xs.drop j).getD i 0=xs.getD (j+i) 0:=by simp [aP]
section
variable {g:Heap} {bu bq:Nat} {us qs:List Int} {VA:Option Addr} {vs:List Int}
def B7r{n j:Nat}{J:LP}{hp:Heap}{UA:Option Addr}{top u2 ul v1 v2 vl X Y P:Int}{t87 t96:Int}(es:Est 4294967296 P top u2 ul v1 v2 vl X Y)(sv:SlI .u32 hp VA vs)(su:SlI .u32 hp UA us)(hn:n=vs.length)(hn2:2<=n)(hul:j+n<us.length)(hbig:us.length<=200000000)
 (hv1:vs.getD (n-1) 0=v1) (hv2:vs.getD (n-2) 0=v2) (hu2:us.getD (j+n-2) 0=u2) (h87:0<=t87/\t87<4294967296) (h96:0<=t96/\t96<4294967296) (htop:top=t87*4294967296+t96)
 (hJ:∀ q,0<=q->q<=4294967296->X<(q+1)*Y->(q-1)*Y<=X->J [U q] hp):Re prog VA n UA us.length j t87 t96 v1 v1 J hp:=by
 obtain ⟨f1,f2⟩:=es.first
 have u:=es.init
 have N:=es.V0
 have Z:=es.U0
 have W:=es.v1r
 have g:=es.v2r
 have k:=es.u2r
 have c:=es.top0
 have F:bor .u64 (C3 (C3 t87*2^(min ((32:Int)).toNat 64))) (C3 t96)=top:=by
  rw [show (2:Int)^(min ((32:Int)).toNat 64)=4294967296 by decide,C5 (n:=t87) (by omega) (by omega),C5 (n:=t96) (by omega) (by omega),C5 (n:=t87*4294967296) (by omega) (by omega),A1t h87 h96,htop]
 have f:C3 v1=v1:=C5 (by omega) (by omega)
 unfold Re
 rw [F,f,bN c,bM c]
 have C:0<=top/v1:=aZ c (by omega)
 have o:=aS top v1
 have B:=aY top (show v1≠0 by omega)
 have V:=aT top (show 0<v1 by omega)
 refine ⟨fun l t=>∃ q r:Int,l=[U q,U r]/\t=hp/\0<=q/\q<=4294967297/\0<=r/\r<4294967296/\q*v1+r=top/\X<(q+1)*Y,fun l _=>match l with|[.int _ q,_]=>q.toNat|_=>0,⟨_,_,rfl,rfl,?_,?_,B,by omega,?_,?_⟩,?_⟩
 ·rw [C5 (by omega) (by omega)];exact C
 ·rw [C5 (by omega) (by omega)];omega
 ·rw [C5 (by omega) (by omega),aO];exact o
 ·rw [C5 (by omega) (by omega)];exact u
 rintro q r i ⟨S,O,hl,rfl,G,T,R,z,m,y⟩
 obtain ⟨rfl,rfl⟩:q=S/\r=O:=by simpa using hl
 have w:B7 ((n:Int)-1)=((n-1:Nat):Int):=by rw [C0 (by omega) (by omega)];omega
 have A:B7 ((n:Int)-2)=((n-2:Nat):Int):=by rw [C0 (by omega) (by omega)];omega
 have D:B7 (B7 ((j:Int)+(n:Int))-2)=((j+n-2:Nat):Int):=by rw [C0 (n:=(j:Int)+n) (by omega) (by omega),C0 (by omega) (by omega)];omega
 refine ⟨fun l t=>l=[]/\t=i/\X<q*Y,?_,?_⟩
 ·refine B8 (fun H=>⟨rfl,rfl,es.big H⟩) (fun H=>?_)
  rw [A,D]
  refine sv.load hn (by omega) (by omega) ?_
  refine su.load rfl (by omega) (by omega) ?_
  rw [aD,aD,hv2,hu2]
  have hp:=C3l (a:=q) (b:=v2) (by omega) g
  have p:C3 (q*C3 v2)=q*v2:=by rw [C5 (n:=v2) (by omega) (by omega),C5 (by omega) (by omega)]
  have s:bor .u64 (C3 (r*2^(min ((32:Int)).toNat 64))) (C3 u2)=r*4294967296+u2:=by
   rw [show (2:Int)^(min ((32:Int)).toNat 64)=4294967296 by decide,C5 (n:=u2) (by omega) (by omega),C5 (n:=r*4294967296) (by omega) (by omega),A1t ⟨R,z⟩ k]
  rw [p,s]
  have key:q*(v1*4294967296+v2)=(top-r)*4294967296+q*v2:=by rw [<- m];grind
  refine B8 (fun h2=>⟨rfl,rfl,es.low G (by omega)⟩) (fun h2=>?_)
  refine hJ q G (by omega) y (es.up (by omega) (by omega))
 ·rintro L ⟨_,rfl,E⟩
  have M:1<=q:=by
   by_cases h0:1<=q
   ·exact h0
   ·have:q=0:=by omega
    subst this;omega
  rw [w]
  refine sv.load hn (by omega) (by omega) ?_
  rw [aD,hv1,f,C5 (n:=r+v1) (by omega) (by omega),C5 (n:=q-1) (by omega) (by omega)]
  have e:X<(q-1+1)*Y:=by rw [Int.sub_add_cancel];exact E
  have d:(q-1)*v1+(r+v1)=top:=by grind
  refine B8 (fun Q=>?_) (fun Q=>?_)
  ·have key:(q-1)*(v1*4294967296+v2)=(top-(r+v1))*4294967296+(q-1)*v2:=by rw [<- d];grind
   have hb:(q-1)*v2<=4294967296*v2:=aC (by omega) g.1
   exact hJ (q-1) (by omega) (by omega) e (es.up (by omega) (by omega))
  ·exact ⟨⟨q-1,r+v1,rfl,rfl,by omega,by omega,by omega,by omega,d,e⟩,by simp only;omega⟩
end
def H8(B:Int)(xs:List Int)(i:Nat):val B (xs.take (i+1))=val B (xs.take i)+B^i*xs.getD i 0:=by
 by_cases a:i<xs.length
 ·exact P8 B a
 ·rw [aN (by omega),aN (by omega)]
  simp [aP,aU (Nat.le_of_not_lt a)]
def B6l(B:Int){vs:List Int}{m:Nat}(hn:vs.length=m+2):val B vs=(vs.getD (m+1) 0*B+vs.getD m 0)*B^m+val B (vs.take m):=by
 have a:=H8 B vs (m+1)
 have b:=H8 B vs m
 rw [show m+1+1=vs.length by omega,aM] at a
 rw [a,b,aQ]
 grind
def B6k(B:Int){us:List Int}{m:Nat}(hn:us.length=m+3):val B us=((us.getD (m+2) 0*B+us.getD (m+1) 0)*B+us.getD m 0)*B^m+val B (us.take m):=by
 have a:=H8 B us (m+2)
 have c:=H8 B us (m+1)
 have b:=H8 B us m
 rw [show m+2+1=us.length by omega,aM] at a
 rw [show m+2=m+1+1 by omega] at a
 rw [a,c,b,aQ,aQ]
 grind
def B9m{B:Int}(hB:1<B){us vs:List Int}{m:Nat}(du:Dig B us)(dv:Dig B vs)(hu:us.length=m+3)(hv:vs.length=m+2)(h1:B<=2*vs.getD (m+1) 0)(hlt:val B us<val B vs*B):
 Est B (B^m) (us.getD (m+2) 0*B+us.getD (m+1) 0) (us.getD m 0) (val B (us.take m)) (vs.getD (m+1) 0) (vs.getD m 0) (val B (vs.take m)) (val B us) (val B vs):=by
 have a:0<B:=by omega
 have b:=N4 a (du.take m)
 have c:=N4 a (dv.take m)
 rw [aI,aJ (by omega)] at b c
 refine ⟨hB,aX a,B6k B hu,B6l B hv,du.getD a _,⟨C9 a (du.take m),b⟩,dv.getD a _,⟨C9 a (dv.take m),c⟩,?_,⟨h1,(dv.getD a _).2⟩,hlt⟩
 have:=aG (du.getD a (m+2)).1 (aL a)
 have:=(du.getD a (m+1)).1
 omega
def Est.top{B P top u2 ul v1 v2 vl U V:Int}(e:Est B P top u2 ul v1 v2 vl U V)(h:v1*B<=top):(B-1-1)*V<=U/\U<(B-1+1)*V:=by
 have k:=e.lt
 obtain ⟨n,q,m,g,j,i,l,f,b,d,lt⟩:=e
 constructor
 ·have r:v1*B*B*P<=U:=by
   have c:v1*B*B<=top*B:=aC h (by omega)
   have a:v1*B*B*P<=(top*B+u2)*P:=aC (by omega) (by omega)
   omega
  have c:V<=(v1+1)*B*P:=by
   have a:(v2+1)*P<=B*P:=aC (by omega) (by omega)
   have:V=v1*B*P+v2*P+vl:=by rw [g];grind
   have:(v1+1)*B*P=v1*B*P+B*P:=by grind
   have:(v2+1)*P=v2*P+P:=by grind
   omega
  have a:(B-1-1)*V<=(B-1-1)*((v1+1)*B*P):=aE c (by omega)
  have p:(B-1-1)*((v1+1)*B*P)=v1*B*B*P-(2*v1+2-B)*(B*P):=by grind
  have o:0<=(2*v1+2-B)*(B*P):=aG (by omega) (aG (by omega) (by omega))
  omega
 ·rw [Int.sub_add_cancel,aO];exact k
structure LS (F S first second u0 v0 u1 v1 u2 v2:Int) (odd:Bool):Prop where
 hF:F=v2*first+v1*second
 hS:S=u2*first+u1*second
 det:u1*v2-u2*v1=if odd then -1 else 1
 ord:0<=second/\second<=first
 st:(u0=0/\v0=0/\u1=1/\v1=0/\u2=0/\v2=1)\/
  (((u0=1/\v0=0/\u1=0/\v1=1/\0<=u2/\u2<=v2/\1<=u2)\/(0<=u0/\u0<=v0/\1<=v0/\1<=u1/\u1<=v1/\1<=u2/\u2<=v2))/\
   (u0*v1-u1*v0=if odd then 1 else -1)/\∃ f0,F=v1*f0+v0*first/\S=u1*f0+u0*first/\v0+v1<=f0-first/\v1<=first)
def LS.init{F S:Int}(h0:0<=S)(h:S<=F):LS F S F S 0 0 1 0 0 1 false:=
 ⟨by omega,by omega,by simp,⟨h0,h⟩,.inl ⟨rfl,rfl,rfl,rfl,rfl,rfl⟩⟩
def LS.v2pos{F S first second u0 v0 u1 v1 u2 v2:Int}{odd:Bool}(l:LS F S first second u0 v0 u1 v1 u2 v2 odd):1<=v2/\0<=v1/\0<=u1/\0<=u2/\0<=u0/\0<=v0:=by
 obtain ⟨e,d,b,c,a⟩:=l
 rcases a with a|⟨a,_⟩<;>omega
def LS.step{F S first second u0 v0 u1 v1 u2 v2:Int}{odd:Bool}(l:LS F S first second u0 v0 u1 v1 u2 v2 odd)(h1:v2<=second)(h2:v1+v2<=first-second):
 LS F S second (first%second) u1 v1 u2 v2 (u1+first/second*u2) (v1+first/second*v2) (!odd):=by
 have o:=l.v2pos
 obtain ⟨i,e,b,m,c⟩:=l
 have g:0<second:=by omega
 have f:1<=first/second:=by
  rw [Int.le_ediv_iff_mul_le g];omega
 have a:=aS first second
 have d:=aY first (show second≠0 by omega)
 have k:=aT first g
 have p:u2<=first/second*u2:=by
  have:=aC f (show 0<=u2 by omega);omega
 have n:v2<=first/second*v2:=by
  have:=aC f (show 0<=v2 by omega);omega
 have j:first/second*u2<=first/second*v2:=aE (by omega) (by omega)
 refine ⟨?_,?_,?_,⟨d,by omega⟩,.inr ⟨?_,?_,first,?_,?_,by omega,h1⟩⟩
 ·rw [i]
  generalize hq':first/second=q at *
  generalize first%second=r at *
  subst a
  grind
 ·rw [e]
  generalize hq':first/second=q at *
  generalize first%second=r at *
  subst a
  grind
 ·cases odd<;>simp at b ⊢ <;> grind
 ·rcases c with c|⟨c,_⟩
  ·left
   obtain ⟨rfl,rfl,rfl,rfl,rfl,rfl⟩:=c
   omega
  ·right;omega
 ·cases odd<;>simp at b ⊢ <;> omega
 ·rw [i]
 ·rw [e]
def LS.bound{F S first second u0 v0 u1 v1 u2 v2:Int}{odd:Bool}(l:LS F S first second u0 v0 u1 v1 u2 v2 odd)(hf:1<=first):v2<=F/\u2<=F/\u2<=v2:=by
 have e:=l.v2pos
 obtain ⟨f,c,a,d,b⟩:=l
 have g:v2*1<=v2*first:=aE hf (by omega)
 have i:0<=v1*second:=aG (by omega) (by omega)
 clear a c
 rcases b with b|⟨b,_⟩<;>omega
def LS.bound2{F S first second u0 v0 u1 v1 u2 v2:Int}{odd:Bool}(l:LS F S first second u0 v0 u1 v1 u2 v2 odd)(hs:1<=second):v1+v2<=F:=by
 have e:=l.v2pos
 obtain ⟨f,d,a,c,b⟩:=l
 have g:v2*1<=v2*first:=aE (by omega) (by omega)
 have i:v1*1<=v1*second:=aE hs (by omega)
 clear b
 omega
structure Leh (a b u0 v0 u1 v1 X0 X1:Int):Prop where
 ord:0<=X1/\X1<X0
 ha:a=v1*X0+v0*X1
 hb:b=u1*X0+u0*X1
 le:X0<=b
def Lg(a b u0 v0:Int)(odd:Bool):Int:=if odd then u0*a-v0*b else v0*b-u0*a
def Lc(a b u1 v1:Int)(odd:Bool):Int:=if odd then v1*b-u1*a else u1*a-v1*b
def LS.leh{F S first second u0 v0 u1 v1 u2 v2 a b al bl W:Int}{odd:Bool}(l:LS F S first second u0 v0 u1 v1 u2 v2 odd)(hv0:v0≠0)(hW:0<W)(ha:a=F*W+al)(hb:b=S*W+bl)(hal:0<=al/\al<W)(hbl:0<=bl/\bl<W):
 Leh a b u0 v0 u1 v1 (Lg a b u0 v0 odd) (Lc a b u1 v1 odd):=by
 have V:=l.v2pos
 obtain ⟨R,O,B,A,p⟩:=l
 rcases p with p|⟨p,c,i,k,m,D,r⟩
 ·omega
 have y:0<=u0/\u0<=v0/\1<=v0/\1<=u1/\u1<=v1:=by omega
 have q:u0*F-v0*S=(u0*v1-u1*v0)*i:=by rw [k,m];grind
 have s:u1*F-v1*S=(u1*v0-u0*v1)*first:=by rw [k,m];grind
 have J:first*W>=v1*W:=aC r (by omega)
 have Z:(i-first)*W>=(v0+v1)*W:=aC D (by omega)
 have E:v1*bl<=v1*W:=aE (by omega) (by omega)
 have T:u1*al<=u1*W:=aE (by omega) (by omega)
 have q3:u1*W<=v1*W:=aC (by omega) (by omega)
 have q4:0<=u1*al:=aG (by omega) (by omega)
 have q5:0<=v1*bl:=aG (by omega) (by omega)
 have M:(v0+v1)*(bl+1)<=(v0+v1)*W:=aE (by omega) (by omega)
 have L:(u0+u1)*(al+1)<=(u0+u1)*W:=aE (by omega) (by omega)
 have G:(u0+u1)*W<=(v0+v1)*W:=aC (by omega) (by omega)
 have Q:0<=(u0+u1)*al:=aG (by omega) (by omega)
 have w:0<=(v0+v1)*bl:=aG (by omega) (by omega)
 have n:∀ X0 X1:Int,0<=X1->X1<X0->b=u1*X0+u0*X1->X0<=b:=by
  intro X0 X1 C H e
  have N:1*X0<=u1*X0:=aC (by omega) (by omega)
  have X:0<=u0*X1:=aG (by omega) C
  omega
 cases odd with
 | true=>
  simp only [Lg,Lc,if_true] at c ⊢
  have z:v1*b-u1*a=first*W+v1*bl-u1*al:=by
   rw [c.symm.symm] at q
   have:v1*S-u1*F=first:=by
    have:u1*v0-u0*v1= -1:=by omega
    rw [this] at s;omega
   rw [ha,hb,<- this];grind
  have u:u0*a-v0*b-(v1*b-u1*a)=(i-first)*W+(u0+u1)*al-(v0+v1)*bl:=by
   have t1:u0*F-v0*S=i:=by rw [c] at q;omega
   have o:v1*S-u1*F=first:=by
    have:u1*v0-u0*v1= -1:=by omega
    rw [this] at s;omega
   rw [ha,hb,<- t1,<- o];grind
  have g:0<=v1*b-u1*a:=by omega
  have f:v1*b-u1*a<u0*a-v0*b:=by
   have:(v0+v1)*(bl+1)=(v0+v1)*bl+(v0+v1):=by grind
   omega
  have t:a=v1*(u0*a-v0*b)+v0*(v1*b-u1*a):=by
   have:v1*(u0*a-v0*b)+v0*(v1*b-u1*a)=(u0*v1-u1*v0)*a:=by grind
   rw [this,c];omega
  have j:b=u1*(u0*a-v0*b)+u0*(v1*b-u1*a):=by
   have:u1*(u0*a-v0*b)+u0*(v1*b-u1*a)=(u0*v1-u1*v0)*b:=by grind
   rw [this,c];omega
  exact ⟨⟨g,f⟩,t,j,n _ _ g f j⟩
 | false=>
  simp only [Lg,Lc,Bool.false_eq_true,if_false] at c ⊢
  have t1:v0*S-u0*F=i:=by rw [c] at q;omega
  have o:u1*F-v1*S=first:=by
   have:u1*v0-u0*v1=1:=by omega
   rw [this] at s;omega
  have z:u1*a-v1*b=first*W+u1*al-v1*bl:=by
   rw [ha,hb,<- o];grind
  have u:v0*b-u0*a-(u1*a-v1*b)=(i-first)*W+(v0+v1)*bl-(u0+u1)*al:=by
   rw [ha,hb,<- t1,<- o];grind
  have g:0<=u1*a-v1*b:=by omega
  have f:u1*a-v1*b<v0*b-u0*a:=by
   have:(u0+u1)*(al+1)=(u0+u1)*al+(u0+u1):=by grind
   omega
  have t:a=v1*(v0*b-u0*a)+v0*(u1*a-v1*b):=by
   have:v1*(v0*b-u0*a)+v0*(u1*a-v1*b)=(u1*v0-u0*v1)*a:=by grind
   have d:u1*v0-u0*v1=1:=by omega
   rw [this,d];omega
  have j:b=u1*(v0*b-u0*a)+u0*(u1*a-v1*b):=by
   have:u1*(v0*b-u0*a)+u0*(u1*a-v1*b)=(u1*v0-u0*v1)*b:=by grind
   have d:u1*v0-u0*v1=1:=by omega
   rw [this,d];omega
  exact ⟨⟨g,f⟩,t,j,n _ _ g f j⟩
def Leh.gcd{a b u0 v0 u1 v1:Int}{odd:Bool}(l:Leh a b u0 v0 u1 v1 (Lg a b u0 v0 odd) (Lc a b u1 v1 odd)):bK (Lg a b u0 v0 odd) (Lc a b u1 v1 odd)=bK a b:=by
 apply Nat.dvd_antisymm
 ·have g:=l.ha
  have f:=l.hb
  generalize Lg a b u0 v0 odd=p at *
  generalize Lc a b u1 v1 odd=q at *
  have dp:(bK p q:Int)∣p:=Int.gcd_dvd_left p q
  have e:(bK p q:Int)∣q:=Int.gcd_dvd_right p q
  rw [<- Int.ofNat_dvd]
  apply Int.dvd_coe_gcd
  ·rw [g];exact Int.dvd_add (aF dp) (aF e)
  ·rw [f];exact Int.dvd_add (aF dp) (aF e)
 ·have d:(bK a b:Int)∣a:=Int.gcd_dvd_left a b
  have c:(bK a b:Int)∣b:=Int.gcd_dvd_right a b
  rw [<- Int.ofNat_dvd]
  apply Int.dvd_coe_gcd
  ·unfold Lg;split
   ·exact bJ (aF d) (aF c)
   ·exact bJ (aF c) (aF d)
  ·unfold Lc;split
   ·exact bJ (aF c) (aF d)
   ·exact bJ (aF d) (aF c)
def Gb(pre ws:List Int)(i:Nat):(pre++ws).getD (i+pre.length) 0=ws.getD i 0:=by
 simp [aP,List.getElem?_append_right (Nat.le_add_left pre.length i)]
def Kx(pre ws:List Int)(i:Nat)(v:Int):(pre++ws).set (i+pre.length) v=pre++ws.set i v:=by
 rw [List.set_append_right _ _ (by omega),Nat.add_sub_cancel]
def Dy{B:Int}(hB:0<B){ws:List Int}{n:Nat}(d:Dig B ws)(h:val B ws<B^n):val B (ws.drop n)=0:=by
 by_cases b:n<=ws.length
 ·have e:=G1 B ws b
  have f:=C9 hB (d.take n)
  have c:=C9 hB (d.drop n)
  by_cases a:val B (ws.drop n)=0
  ·exact a
  ·have:B^n*1<=B^n*val B (ws.drop n):=aE (by omega) (aL (D8 hB n))
   omega
 ·rw [bC (by omega)];rfl
section
variable {g:Heap} {bu bq:Nat} {pre qs:List Int} {VA:Option Addr} {vs:List Int}
def B4j{n N:Nat}{ws:List Int}{q:Int}{J:LP}(hu:g bu=none)(hq:g bq=none)(hne:bu≠bq)(sv:SlI .u32 g VA vs)(dv:Dig b32 vs)(hn:n=vs.length)(dw:Dig b32 ws)(hN:N=(pre++ws).length)(hl:n<ws.length)(hbig:N<=200000000)
 (hD:val b32 (ws.take n)+val b32 vs<2*b32^n) (hD0:b32^n<=val b32 (ws.take n)+val b32 vs) (htop:ws.getD n 0=4294967295)
 (hJ:∀ ws',ws'.length=ws.length->Dig b32 ws'->ws'.drop (n+1)=ws.drop (n+1)->ws'.getD n 0=0->val b32 (ws'.take n)=val b32 (ws.take n)+val b32 vs-b32^n->J [U (C3 (q-1))] (Be .u32 C6 g bu (pre++ws') bq qs)):
 Rc prog VA n (some ⟨bu,0,none⟩) N (pre.length:Int) q J (Be .u32 C6 g bu (pre++ws) bq qs):=by
 unfold Rc
 refine ⟨fun l C=>∃ (k:Nat) (c:Int) (zs:List Int),l=[U c,I k]/\k<=n/\zs.length=ws.length/\Dig b32 zs/\(0<=c/\c<=1)/\C=Be .u32 C6 g bu (pre++zs) bq qs/\zs.drop k=ws.drop k/\val b32 (zs.take k)+c*b32^k=val b32 (ws.take k)+val b32 (vs.take k),fun l _=>n-(iAt l 1).toNat,⟨0,0,ws,rfl,by omega,rfl,dw,by omega,rfl,rfl,by simp [val]⟩,?_⟩
 rintro c i Q ⟨k,G,zs,w,M,b,f,O,rfl,a,B⟩
 obtain ⟨rfl,rfl⟩:c=G/\i=(k:Int):=by simpa using w
 have o:g.le (Be .u32 C6 g bu (pre++zs) bq qs):=Qw hu hq hne
 have y:SlI .u32 (Be .u32 C6 g bu (pre++zs) bq qs) (some ⟨bu,0,none⟩) (pre++zs):=Wb hne
 have d:N=(pre++zs).length:=by rw [hN,aK,aK,b]
 have E:N=pre.length+zs.length:=by rw [d,aK]
 have s:B7 ((k:Int)+pre.length)=((k+pre.length:Nat):Int):=by rw [C0 (by omega) (by omega)];omega
 have j:B7 ((pre.length:Int)+n)=((n+pre.length:Nat):Int):=by rw [C0 (by omega) (by omega)];omega
 refine B8 (fun A=>?_) (fun A=>?_)
 ·have L:=Cl dv k
  have gz:=Cl f k
  have e:=E8 a
  have H:=C7 b32 vs k
  have F:=C7 b32 ws k
  rw [s]
  refine y.load d (by omega) (by omega) ?_
  refine (sv.mono o).load hn (by omega) (by omega) ?_
  simp only [aD,Gb]
  have D:C3 (c+C3 (C3 (zs.getD k 0)+C3 (vs.getD k 0)))=c+zs.getD k 0+vs.getD k 0:=by
   rw [C5 (n:=zs.getD k 0) (by omega) (by omega),C5 (n:=vs.getD k 0) (by omega) (by omega),C5 (n:=zs.getD k 0+vs.getD k 0) (by omega) (by omega),C5 (by omega) (by omega)];omega
  rw [D]
  refine ⟨_,rfl,by omega,by omega,?_⟩
  refine Q5 (us:=pre++zs) (i:=((k+pre.length:Nat):Int)) L3 hne (by rw [aD];omega) ?_
  rw [aD,Kx,Ai,Xf,C0 (n:=(k:Int)+1) (by omega) (by omega)]
  refine ⟨⟨k+1,_,zs.set k ((c+zs.getD k 0+vs.getD k 0)%4294967296),rfl,by omega,by simpa using b,f.set (A3p _),by omega,rfl,?_,?_⟩,by simp only [iAt,aH,aR];omega⟩
  ·rw [D7 (by omega)];exact D9 a
  ·rw [D3 (by omega),F7,aI,aJ (by omega),aQ,Cq,H,F,<- e]
   grind
 ·have m:k=n:=by omega
  subst m
  have e:=E8 a
  rw [j]
  refine y.load d (by omega) (by omega) ?_
  rw [aD,Gb,e,htop]
  refine ⟨_,rfl,by omega,by omega,?_⟩
  refine Q5 (us:=pre++zs) (i:=((k+pre.length:Nat):Int)) L3 hne (by rw [aD];omega) ?_
  rw [aD,Kx]
  have t:vs.take k=vs:=by rw [hn,aM]
  rw [t] at B
  have p:=N4 (by decide) (f.take k)
  rw [aI,aJ (by omega)] at p
  have R:=C9 (by decide) (f.take k)
  have u:c=1:=by
   by_cases r:c=0
   ·subst r;omega
   ·omega
  subst u
  have z:G9 (4294967295+G9 1)=0:=by rw [P0 (n:=1) (by omega) (by omega),Ai];omega
  rw [z]
  refine hJ (zs.set k 0) (by simpa using b) (f.set (by decide)) (by rw [D7 (by omega)];exact D9 a) (by simp [aP,show k<zs.length by omega]) ?_
  rw [bG (by omega)]
  omega
def B0c{n N nq:Nat}{ws:List Int}{q X Y:Int}{J:LP}(hu:g bu=none)(hq:g bq=none)(hne:bu≠bq)(sv:SlI .u32 g VA vs)(dv:Dig b32 vs)(hn:n=vs.length)(dw:Dig b32 ws)(hN:N=(pre++ws).length)(hl:n<ws.length)(hbig:N<=200000000)
 (hnq:nq=qs.length) (hjq:pre.length<qs.length)
 (hX:X=val b32 (ws.take n)+b32^n*ws.getD n 0) (hY:Y=val b32 vs) (hq0:0<=q) (hq1:q<=4294967296) (hlt:X<(q+1)*Y) (hge:(q-1)*Y<=X) (hXB:X<Y*4294967296)
 (hJ:∀ ws' q',ws'.length=ws.length->Dig b32 ws'->ws'.drop (n+1)=ws.drop (n+1)->ws'.getD n 0=0->val b32 (ws'.take n)=X-q'*Y->0<=X-q'*Y->X-q'*Y<Y->0<=q'->q'<4294967296->J [] (Be .u32 C6 g bu (pre++ws') bq (qs.set pre.length q'))):
 Rd prog VA n (some ⟨bu,0,none⟩) N (some ⟨bq,0,none⟩) nq (pre.length:Int) J q (Be .u32 C6 g bu (pre++ws) bq qs):=by
 have ac:Y<b32^n:=by rw [hY,hn];exact N4 (by decide) dv
 have af:0<=X:=by
  have w:=C9 (by decide) (dw.take n)
  have h2:=aG (aL (D8 (B:=b32) (by decide) n)) (Cl dw n).1
  omega
 have T:0<Y:=by
  by_cases h0:0<Y
  ·exact h0
  ·have:Y=0:=by have:=C9 (by decide) dv;omega
   rw [this] at hXB;omega
 have ab:∀ ws' q',ws'.length=ws.length->Dig b32 ws'->ws'.drop (n+1)=ws.drop (n+1)->ws'.getD n 0=0->val b32 (ws'.take n)=X-q'*Y->0<=X-q'*Y->X-q'*Y<Y->0<=q'->Rg prog (some ⟨bq,0,none⟩) nq (pre.length:Int) J q' (Be .u32 C6 g bu (pre++ws') bq qs):=by
  intro ws' q' w h2 h3 h4 h5 h6 h7 h8
  have s:q'<4294967296:=by
   by_cases m:q'<4294967296
   ·exact m
   ·have:=aC (show 4294967296<=q' by omega) (aL T)
    rw [aO Y] at hXB;omega
  unfold Rg
  refine ⟨_,rfl,by omega,by omega,?_⟩
  refine Wc (i:=(pre.length:Int)) L3 (by rw [aD];omega) ?_
  rw [aD,P0 h8 (by omega)]
  exact hJ ws' q' w h2 h3 h4 h5 h6 h7 h8 s
 unfold Rd
 refine ⟨fun l O=>∃ (k:Nat) (c b:Int) (zs:List Int),l=[U c,U b,I k]/\k<=n/\zs.length=ws.length/\Dig b32 zs/\(0<=c/\c<4294967296)/\(0<=b/\b<=1)/\O=Be .u32 C6 g bu (pre++zs) bq qs/\zs.drop k=ws.drop k/\val b32 (zs.take k)=val b32 (ws.take k)-q*val b32 (vs.take k)+(c+b)*b32^k,fun l _=>n-(iAt l 2).toNat,⟨0,0,0,ws,rfl,by omega,rfl,dw,by omega,by omega,rfl,rfl,by simp [val]⟩,?_⟩
 rintro c b i hp ⟨k,c',b',zs,aa,hk,f,o,m,hb,rfl,d,H⟩
 obtain ⟨rfl,rfl,rfl⟩:c=c'/\b=b'/\i=(k:Int):=by simpa using aa
 have S:g.le (Be .u32 C6 g bu (pre++zs) bq qs):=Qw hu hq hne
 have su:SlI .u32 (Be .u32 C6 g bu (pre++zs) bq qs) (some ⟨bu,0,none⟩) (pre++zs):=Wb hne
 have j:N=(pre++zs).length:=by rw [hN,aK,aK,f]
 have ah:N=pre.length+zs.length:=by rw [j,aK]
 have V:B7 ((k:Int)+pre.length)=((k+pre.length:Nat):Int):=by rw [C0 (by omega) (by omega)];omega
 have C:B7 ((pre.length:Int)+n)=((n+pre.length:Nat):Int):=by rw [C0 (by omega) (by omega)];omega
 refine B8 (fun w=>?_) (fun w=>?_)
 ·have gv:=Cl dv k
  have gz:=Cl o k
  have r:=E8 d
  have vv:=C7 b32 vs k
  have vw:=C7 b32 ws k
  refine (sv.mono S).load hn (by omega) (by omega) ?_
  rw [V]
  refine su.load j (by omega) (by omega) ?_
  simp only [aD,Gb]
  have hm:0<=q*vs.getD k 0/\q*vs.getD k 0<=4294967296*4294967295:=⟨aG hq0 gv.1,bO hq1 (by omega) gv.1 (by decide)⟩
  have ep:C3 (C3 (q*C3 (vs.getD k 0))+c)=q*vs.getD k 0+c:=by
   rw [C5 (n:=vs.getD k 0) (by omega) (by omega),C5 (n:=q*vs.getD k 0) (by omega) (by omega),C5 (by omega) (by omega)]
  rw [ep,Cs (by omega),Xf,Xf,C5 (n:=zs.getD k 0) (by omega) (by omega)]
  generalize y:q*vs.getD k 0+c=p at *
  have ag:0<=p/\p<18446744073709551616:=by omega
  have E:C3 (C3 (zs.getD k 0-p%4294967296)-b)=(zs.getD k 0-p%4294967296-b)%18446744073709551616:=by
   rw [F6,F6];omega
  rw [E,Zc (by omega)]
  refine ⟨_,rfl,by omega,by omega,?_⟩
  refine Q5 (us:=pre++zs) (i:=((k+pre.length:Nat):Int)) L3 hne (by rw [aD];omega) ?_
  rw [aD,Kx,Ai,C0 (n:=(k:Int)+1) (by omega) (by omega)]
  refine ⟨⟨k+1,_,_,zs.set k ((zs.getD k 0-p%4294967296-b)%18446744073709551616%4294967296),rfl,by omega,by simpa using f,o.set (A3p _),by omega,by omega,rfl,?_,?_⟩,by simp only [iAt,aH,aR];omega⟩
  ·rw [D7 (by omega)];exact D9 d
  ·rw [D3 (by omega),F7,aI,aJ (by omega),aQ,vv,vw,<- r,H]
   have key:(zs.getD k 0-p%4294967296-b)%18446744073709551616%4294967296=zs.getD k 0-p-b+4294967296*(p/4294967296+(zs.getD k 0-p%4294967296-b)%18446744073709551616/4294967296%2):=by omega
   rw [key,<- y]
   grind
 ·have M:k=n:=by omega
  subst M
  have r:=E8 d
  have gz:=Cl o k
  have Z:vs.take k=vs:=by rw [hn,aM]
  rw [Z,<- hY] at H
  have L:=N4 (by decide) (o.take k)
  rw [aI,aJ (by omega)] at L
  have ai:=C9 (by decide) (o.take k)
  rw [C]
  refine su.load j (by omega) (by omega) ?_
  rw [aD,Gb]
  have hD:X-q*Y=val b32 (zs.take k)+(zs.getD k 0-c-b)*b32^k:=by
   rw [H,hX,r];grind
  have u:X-q*Y<Y:=by
   have:(q+1)*Y=q*Y+Y:=by grind
   omega
  have ae: -Y<=X-q*Y:=by
   have:(q-1)*Y=q*Y-Y:=by grind
   omega
  have y:0<b32^k:=D8 (by decide) k
  have a:zs.getD k 0-c-b=0\/zs.getD k 0-c-b= -1:=by
   have h2:zs.getD k 0-c-b<1:=by
    by_cases m:zs.getD k 0-c-b<1
    ·exact m
    ·have:=aC (show 1<=zs.getD k 0-c-b by omega) (aL y);omega
   have h3: -2<zs.getD k 0-c-b:=by
    by_cases m: -2<zs.getD k 0-c-b
    ·exact m
    ·have:=aC (show zs.getD k 0-c-b <= -2 by omega) (aL y);omega
   omega
  have E:C3 (C3 (C3 (zs.getD k 0)-c)-b)=(zs.getD k 0-c-b)%18446744073709551616:=by
   rw [C5 (n:=zs.getD k 0) (by omega) (by omega),F6,F6];omega
  rw [E]
  have R:∀ x:Int,Int.fdiv x (2^(min ((63:Int)).toNat 64))=x/9223372036854775808:=by
   intro x;rw [show (2:Int)^(min ((63:Int)).toNat 64)=9223372036854775808 by decide];exact bU x (by decide)
  refine ⟨_,rfl,by omega,by omega,?_⟩
  refine Q5 (us:=pre++zs) (i:=((k+pre.length:Nat):Int)) L3 hne (by rw [aD];omega) ?_
  rw [aD,Kx,Ai,R]
  have t:∀ v,(zs.set k v).getD k 0=v:=by intro v;simp [aP,show k<zs.length by omega]
  refine ⟨fun l O=>∃ ws' q',l=[U q']/\O=Be .u32 C6 g bu (pre++ws') bq qs/\ws'.length=ws.length/\Dig b32 ws'/\ws'.drop (k+1)=ws.drop (k+1)/\ws'.getD k 0=0/\val b32 (ws'.take k)=X-q'*Y/\0<=X-q'*Y/\X-q'*Y<Y/\0<=q',?_,?_⟩
  ·rcases a with a|a
   ·rw [a] at hD ⊢
    refine E5 (fun e=>absurd e (by decide)) (fun _=>?_)
    refine ⟨zs.set k (0%18446744073709551616%4294967296),q,rfl,rfl,by simpa using f,o.set (by decide),by rw [D7 (by omega)];exact D9 d,t _,?_,by omega,u,hq0⟩
    rw [bG (by omega)];omega
   ·rw [a] at hD ⊢
    refine E5 (fun _=>?_) (fun e=>absurd (by decide) e)
    have D:1<=q:=by
     by_cases m:1<=q
     ·exact m
     ·have:q=0:=by omega
      subst this;omega
    have ht:(zs.set k (-1%18446744073709551616%4294967296)).take k=zs.take k:=bG (by omega)
    have e1:(q-1)*Y=q*Y-Y:=by grind
    refine B4j (ws:=zs.set k (-1%18446744073709551616%4294967296)) hu hq hne sv dv hn (o.set (by decide)) (by rw [j];simp) (by simpa using (show k<zs.length by omega)) hbig ?_ ?_ (t _) ?_
    ·rw [ht,<- hY];omega
    ·rw [ht,<- hY];omega
    ·intro ws' A G F W z
     rw [ht,<- hY] at z
     rw [C5 (n:=q-1) (by omega) (by omega)]
     refine ⟨ws',q-1,rfl,rfl,by rw [A];simpa using f,G,?_,W,by omega,by omega,by omega,by omega⟩
     rw [F,D7 (by omega)];exact D9 d
  ·rintro q2 ad ⟨ws',q',Q,rfl,A,G,F,W,z,g6,g7,g8⟩
   obtain rfl:q2=q':=by simpa using Q
   exact ab ws' q2 A G F W z g6 g7 g8
end
def A2s(B:Int)(xs:List Int)(i:Nat):val B (xs.drop i)=xs.getD i 0+B*val B (xs.drop (i+1)):=by
 by_cases a:i<xs.length
 ·exact Mq B a
 ·rw [bC (by omega),bC (by omega)]
  simp [val,aP,aU (Nat.le_of_not_lt a)]
def Na{s:Nat}(hs:s<=32):(2:Int)^s*2^(32-s)=4294967296:=by
 rw [<- Int.pow_add,show s+(32-s)=32 by omega];decide
section
variable {h g:Heap} {K:VP} {A B:Option Addr} {ac bc:Nat} {bu bq:Nat} {VA:Option Addr} {vs us0:List Int}
def B28{s nq cq rn cr:Nat}{rs tl qs:List Int}{Q R:Int}(hu:g bu=none)(hq:g bq=none)(hne:bu≠bq)(hs:s<32)(hrn:rn=rs.length)(hcr:rn<=cr)(hnq:nq=qs.length)(hcq:nq<=cq)(dq:Dig b32 qs)(dr:Dig b32 rs)(hb1:nq<=200000000)(hb2:rn<=200000000)(hQ:val b32 qs=Q)(hR:val b32 rs=R*2^s)
 (hK:∀ A1 m1 c1 A2 m2 c2 h',g.le h'->m1<=c1->m2<=c2->Mg h' A1 m1 Q->Mg h' A2 m2 R->K (.tuple #[.slice A1 m1 c1,.slice A2 m2 c2]) h'):
 Kh prog K (s:Int) (some ⟨bq,0,none⟩) nq cq (some ⟨bu,0,none⟩) rn cr (Be .u32 C6 g bu (rs++tl) bq qs):=by
 have q:0<(2:Int)^s:=aX (by decide)
 have d:=Na (Nat.le_of_lt hs)
 have o:0<(2:Int)^(32-s):=aX (by decide)
 unfold Kh
 refine ⟨fun l h'=>∃ (k:Nat) (zs:List Int),l=[I k]/\k<=rn/\zs.length=rs.length/\Dig b32 zs/\h'=Be .u32 C6 g bu (zs++tl) bq qs/\zs.drop k=rs.drop k/\2^s*val b32 (zs.take k)+rs.getD 0 0%2^s=val b32 (rs.take k)+b32^k*(rs.getD k 0%2^s),fun l _=>rn-(iAt l 0).toNat,⟨0,rs,rfl,by omega,rfl,dr,rfl,rfl,by simp [val]⟩,?_⟩
 rintro i X ⟨k,zs,L,hk,a,A,rfl,b,w⟩
 obtain rfl:=sI1 L
 have y:∀ zs:List Int,SlI .u32 (Be .u32 C6 g bu (zs++tl) bq qs) (some ⟨bu,0,none⟩) zs:=by
  intro zs
  have:=(Wb (g:=g) (k:=.u32) (e:=C6) (us:=zs++tl) (qs:=qs) hne).cut (c:=(zs++tl).length) (l:=0) (m:=zs.length) (by omega) (by simp) (aW _)
  simpa [J0] using this
 have F:B7 ((k:Int)+1)=((k+1:Nat):Int):=by rw [C0 (by omega) (by omega)];omega
 have gz:=Cl A k
 have u:=E8 b
 refine B8 (fun O=>?_) (fun O=>?_)
 ·refine (y zs).load (by omega) (by omega) (by omega) ?_
  refine B8 (fun e=>absurd e (by omega)) (fun _=>?_)
  refine ⟨_,rfl,by omega,by omega,?_⟩
  simp only [aD]
  rw [aJ (by omega),bU _ (aL q)]
  refine Q5 (us:=zs++tl) (i:=(k:Int)) L3 hne (by rw [aD,aK];omega) ?_
  rw [aD,List.set_append_left _ _ (by omega),F]
  have f:0<=zs.getD k 0/2^s:=aZ gz.1 (by omega)
  have C:zs.getD k 0/2^s<2^(32-s):=by
   apply aV q
   rw [aO,d];exact gz.2
  have p:(2:Int)^(32-s)<=4294967296:=by
   rw [<- d]
   have:=aC (show 1<=(2:Int)^s by omega) (aL o);omega
  have d1:Dig b32 (zs.set k (zs.getD k 0/2^s)):=A.set ⟨f,by show _<(4294967296:Int);omega⟩
  have l1:(zs.set k (zs.getD k 0/2^s)).length=rs.length:=by rw [bD];exact a
  have T:(zs.set k (zs.getD k 0/2^s)).getD k 0=zs.getD k 0/2^s:=by simp [aP,show k<zs.length by omega]
  have V:(zs.set k (zs.getD k 0/2^s)).getD (k+1) 0=rs.getD (k+1) 0:=by
   rw [A5v (by omega)];exact E8 (D9 b)
  have vr:=C7 b32 rs k
  have r:∀ z:Int,(0<=z/\z<4294967296)->2^s*z=zs.getD k 0-zs.getD k 0%2^s+4294967296*(rs.getD (k+1) 0%2^s)->
   2^s*val b32 ((zs.set k z).take (k+1))+rs.getD 0 0%2^s=val b32 (rs.take (k+1))+b32^(k+1)*(rs.getD (k+1) 0%2^s):=by
   intro z hz ez
   rw [D3 (by omega),F7,aI,aJ (by omega),vr,aQ,<- u]
   rw [<- u] at w
   have W:2^s*(val b32 (zs.take k)+b32^k*z)=2^s*val b32 (zs.take k)+b32^k*(2^s*z):=by grind
   rw [W,ez]
   grind
  have Z:=aS (zs.getD k 0) (2^s)
  refine B8 (fun h2=>?_) (fun h2=>?_)
  ·refine (y _).load (by omega) (by omega) (by omega) ?_
   refine (y _).load (by omega) (by omega) (by omega) ?_
   simp only [aD,T,V]
   have es:C3 ((32:Int)-s)=((32-s:Nat):Int):=by rw [C5 (by omega) (by omega)];omega
   rw [es]
   refine B8 (fun e=>absurd e (by omega)) (fun _=>?_)
   refine ⟨_,rfl,by omega,by omega,?_⟩
   have S:=Cl dr (k+1)
   have M:0<=rs.getD (k+1) 0*2^(32-s):=aG S.1 (by omega)
   have E:rs.getD (k+1) 0*2^(32-s)<18446744073709551616:=by
    have:=bO (show rs.getD (k+1) 0<=4294967295 by omega) p (by omega) (by decide)
    omega
   rw [aD,aJ (show 32-s<=64 by omega),C5 (n:=rs.getD (k+1) 0) (by omega) (by omega),C5 M E,Ai]
   obtain ⟨o1,N⟩:=A7x (s:=32-s) (by omega) S ⟨f,C⟩
   rw [o1]
   refine Q5 (us:=zs.set k (zs.getD k 0/2^s)++tl) (i:=(k:Int)) L3 hne (by rw [aD,aK];omega) ?_
   rw [aD,List.set_append_left _ _ (by omega),List.set_set]
   have ac:=A3p (rs.getD (k+1) 0*2^(32-s))
   refine ⟨⟨k+1,zs.set k (zs.getD k 0/2^s+rs.getD (k+1) 0*2^(32-s)%4294967296),rfl,by omega,by simpa using a,A.set ⟨by omega,N⟩,rfl,by rw [D7 (by omega)];exact D9 b,r _ ⟨by omega,N⟩ ?_⟩,by simp only [iAt,aH];omega⟩
   have em:rs.getD (k+1) 0*2^(32-s)%4294967296=2^(32-s)*(rs.getD (k+1) 0%2^s):=by
    rw [<- d,aO (2^s),aO (rs.getD (k+1) 0),bW _ _ o]
   rw [em,Int.mul_add,<- Int.mul_assoc,d]
   omega
  ·have D:k+1=rs.length:=by omega
   have B:rs.getD (k+1) 0=0:=by simp [aP,aU (show rs.length<=k+1 by omega)]
   refine ⟨⟨k+1,zs.set k (zs.getD k 0/2^s),rfl,by omega,l1,d1,rfl,by rw [D7 (by omega)];exact D9 b,r _ ⟨f,by omega⟩ ?_⟩,by simp only [iAt,aH];omega⟩
   rw [B,Int.zero_emod,bH,bY];omega
 ·have G:k=rs.length:=by omega
  subst G
  have B:rs.getD rs.length 0=0:=by simp [aP]
  rw [aM,<- a,aM,a,B] at w
  have H:val b32 zs=R:=by
   have h0:=aY (rs.getD 0 0) (show (2:Int)^s≠0 by omega)
   have O:=aT (rs.getD 0 0) q
   rw [hR] at w
   simp at w
   have:2^s*(R-val b32 zs)=rs.getD 0 0%2^s:=by
    have:2^s*(R-val b32 zs)=R*2^s-2^s*val b32 zs:=by grind
    simp only [aP] at *
    omega
   have hz:R-val b32 zs=0:=by
    by_cases hc:R-val b32 zs<=0
    ·by_cases J:R-val b32 zs=0
     ·exact J
     ·have:=aE (show R-val b32 zs <= -1 by omega) (aL q);omega
    ·have:=aE (show 1<=R-val b32 zs by omega) (aL q);omega
   omega
  rw [hnq]
  refine Ak B9u dq (by omega) (by omega) ?_
  intro m1 ab j
  refine ⟨_,_,_,rfl,?_⟩
  rw [hrn,<- a]
  refine Ak (y zs) A (by omega) (by omega) ?_
  intro m2 aa t
  rw [hQ] at j
  rw [H] at t
  exact ⟨_,_,_,rfl,hK _ _ _ _ _ _ _ (Qw hu hq hne) (by omega) (by omega) j t⟩
def B0j{s mm N nq:Nat}{us0:List Int}{a b Y:Int}(hu:g bu=none)(hq:g bq=none)(hne:bu≠bq)(sv:SlI .u32 g VA vs)(dv:Dig b32 vs)(hn:vs.length=mm+2)(hv1:4294967296<=2*vs.getD (mm+1) 0)(hs:s<32)(hY:val b32 vs=Y)(hYb:Y=b*2^s)(du:Dig b32 us0)(hN:us0.length=N)(hua:val b32 us0=a*2^s)(hnq:N=nq+(mm+2))(hnq1:1<=nq)(hbig:N<=200000000)(htop:val b32 (us0.drop nq)<Y)
 (hK:∀ A1 m1 c1 A2 m2 c2 h',g.le h'->m1<=c1->m2<=c2->Mg h' A1 m1 (a/b)->Mg h' A2 m2 (a%b)->K (.tuple #[.slice A1 m1 c1,.slice A2 m2 c2]) h'):
 Rf prog K (s:Int) VA (mm+2) (some ⟨bu,0,none⟩) N N (some ⟨bq,0,none⟩) nq nq (Be .u32 C6 g bu us0 bq (bL nq 0)):=by
 have hp:0<(2:Int)^s:=aX (by decide)
 have an:Y<b32^(mm+2):=by rw [<- hY,<- hn];exact N4 (by decide) dv
 have av:0<Y:=by have:=C9 (by decide) (du.drop nq);omega
 have e0:B7 (B7 ((N:Int)-((mm+2:Nat):Int))-1)=(nq:Int)-1:=by rw [C0 (n:=(N:Int)-((mm+2:Nat):Int)) (by omega) (by omega),C0 (by omega) (by omega)];omega
 unfold Rf
 refine ⟨fun l h'=>∃ (k:Nat) (us qs:List Int),l=[I ((k:Int)-1)]/\k<=nq/\us.length=N/\qs.length=nq/\Dig b32 us/\Dig b32 qs/\h'=Be .u32 C6 g bu us bq qs/\val b32 (us.drop k)<Y/\val b32 us0=val b32 (qs.drop k)*Y*b32^k+val b32 us,fun l _=>(iAt l 0+1).toNat,⟨nq,us0,_,by rw [e0],by omega,hN,by simp,du,J1 (by decide) _,rfl,htop,by simp [val]⟩,?_⟩
 rintro j au ⟨k,us,qs,am,hk,p,C,f,H,rfl,ab,hv⟩
 obtain rfl:j=(k:Int)-1:=by simpa using am
 have A:g.le (Be .u32 C6 g bu us bq qs):=Qw hu hq hne
 have T:SlI .u32 (Be .u32 C6 g bu us bq qs) (some ⟨bu,0,none⟩) us:=Wb hne
 unfold Zq
 refine B8 (fun h1=>?_) (fun h1=>?_)
 ·obtain ⟨j,rfl⟩:∃ j,k=j+1:=⟨k-1,by omega⟩
  have ej:((j+1:Nat):Int)-1=(j:Int):=by omega
  rw [ej]
  have e1:B7 ((j:Int)+((mm+2:Nat):Int))=((j+(mm+2):Nat):Int):=by rw [C0 (by omega) (by omega)];omega
  have e2:B7 (((j+(mm+2):Nat):Int)-1)=((j+(mm+1):Nat):Int):=by rw [C0 (by omega) (by omega)];omega
  have e3:B7 (((mm+2:Nat):Int)-1)=((mm+1:Nat):Int):=by rw [C0 (by omega) (by omega)];omega
  rw [e1,e2,e3]
  have R:=f.drop j
  have E:(us.drop j).length=N-j:=by rw [List.length_drop,p]
  have W:∀ i,(us.drop j).getD i 0=us.getD (j+i) 0:=fun i=>A3w
  have t:val b32 ((us.drop j).drop (mm+3))=0:=by
   have:=Dy (B:=b32) (by decide) (n:=mm+2) (f.drop (j+1)) (by omega)
   rw [bB] at this ⊢
   rw [show j+(mm+3)=j+1+(mm+2) by omega];exact this
  have aj:=A2s b32 us j
  have O:val b32 (us.drop j)<Y*4294967296:=by
   have:=Cl f j
   rw [aj]
   have:b32*(val b32 (us.drop (j+1))+1)<=b32*Y:=aE (by omega) (by decide)
   have e:b32*(val b32 (us.drop (j+1))+1)=b32*val b32 (us.drop (j+1))+4294967296:=by show (4294967296:Int)*_=_;grind
   have e':Y*4294967296=b32*Y:=aO _ _
   omega
  have u:=G1 b32 (us.drop j) (i:=mm+3) (by omega)
  rw [t,bH,bY] at u
  have ai:=H8 b32 (us.drop j) (mm+2)
  have hX:val b32 (us.drop j)=val b32 ((us.drop j).take (mm+2))+b32^(mm+2)*(us.drop j).getD (mm+2) 0:=by rw [u];exact ai
  have es:=B9m (B:=b32) (by decide) (us:=(us.drop j).take (mm+3)) (m:=mm) (R.take _) dv (by rw [aI,E];omega) hn hv1 (by rw [<- u,hY];exact O)
  have gt:∀ i,i<mm+3->((us.drop j).take (mm+3)).getD i 0=us.getD (j+i) 0:=by
   intro i hi
   rw [<- W];simp [aP,hi]
  rw [gt (mm+2) (by omega),gt (mm+1) (by omega),gt mm (by omega),<- u,hY] at es
  refine ⟨fun l h'=>∃ d r,l=[]/\h'=Be .u32 C6 g bu d bq (qs.set j r)/\d.length=N/\Dig b32 d/\(0<=r/\r<4294967296)/\val b32 (d.drop j)<Y/\val b32 (d.drop j)=val b32 (us.drop j)-r*Y/\d.take j=us.take j,?_,?_⟩
  ·refine T.load p.symm (by omega) (by omega) ?_
   refine T.load p.symm (by omega) (by omega) ?_
   refine (sv.mono A).load hn.symm (by omega) (by omega) ?_
   simp only [aD]
   have ap:=Cl dv (mm+1)
   have ew:C3 (vs.getD (mm+1) 0)=vs.getD (mm+1) 0:=C5 (by omega) (by omega)
   refine B8 (fun e=>absurd (ew.symm.trans e) (by omega)) (fun _=>?_)
   refine (sv.mono A).load hn.symm (by omega) (by omega) ?_
   simp only [aD]
   refine B8 (fun e=>absurd (ew.symm.trans e) (by omega)) (fun _=>?_)
   refine ⟨fun l h'=>∃ q,l=[U q]/\h'=Be .u32 C6 g bu us bq qs/\0<=q/\q<=4294967296/\val b32 (us.drop j)<(q+1)*Y/\(q-1)*Y<=val b32 (us.drop j),?_,?_⟩
   ·have:=B7r (us:=us) (vs:=vs) (n:=mm+2) (j:=j) (J:=fun l h'=>∃ q,l=[U q]/\h'=Be .u32 C6 g bu us bq qs/\0<=q/\q<=4294967296/\val b32 (us.drop j)<(q+1)*Y/\(q-1)*Y<=val b32 (us.drop j)) es (sv.mono A) T hn.symm (by omega) (by omega) (by omega) rfl rfl (by rw [show j+(mm+2)-2=j+mm by omega]) (Cl f (j+(mm+2))) (Cl f (j+(mm+1))) rfl (fun q q0 q1 q2 q3=>⟨q,rfl,rfl,q0,q1,q2,q3⟩)
    rw [p] at this
    exact this
   ·rintro q ar ⟨r,Z,rfl,ad,af,F,D⟩
    obtain rfl:q=r:=by simpa using Z
    unfold Zo
    have o:(us.take j).length=j:=by rw [aI,p];omega
    have:=B0c (g:=g) (bu:=bu) (bq:=bq) (pre:=us.take j) (qs:=qs) (VA:=VA) (vs:=vs) (n:=mm+2) (N:=N) (nq:=nq) (ws:=us.drop j) (q:=q) (X:=val b32 (us.drop j)) (Y:=Y)
     (J:=fun l h'=>∃ d r,l=[]/\h'=Be .u32 C6 g bu d bq (qs.set j r)/\d.length=N/\Dig b32 d/\(0<=r/\r<4294967296)/\val b32 (d.drop j)<Y/\val b32 (d.drop j)=val b32 (us.drop j)-r*Y/\d.take j=us.take j)
     hu hq hne sv dv hn.symm R (by rw [bF,p]) (by omega) hbig C.symm (by omega) hX hY.symm ad af F D O ?_
    ·rw [bF,o] at this
     exact this
    ·intro S r w1 w2 w3 w4 w5 w6 w7 w8 w9
     refine ⟨us.take j++S,r,rfl,by rw [o],by rw [aK,w1,E,o];omega,Dig.append (f.take j) w2,⟨w8,w9⟩,?_,?_,?_⟩
     all_goals first|(rw [List.drop_left' o])|(rw [List.take_left' o])
     all_goals
      have z1:=G1 b32 S (i:=mm+3) (by omega)
      rw [w3,t,H8,w4,w5] at z1
      simp at z1
      omega
  ·rintro aq ⟨d,r,_,rfl,u1,u2,u3,u4,u5,u6⟩
   unfold Zp
   have al:B7 ((j:Int)-1)=(j:Int)-1:=C0 (by omega) (by omega)
   rw [al]
   refine ⟨⟨j,d,qs.set j r,rfl,by omega,u1,by simpa using C,u2,H.set u3,rfl,u4,?_⟩,by simp only [iAt,aH];omega⟩
   have ah:=G1 b32 d (i:=j) (by omega)
   have V:=G1 b32 us (i:=j) (by omega)
   rw [hv,Y6 (by omega),ah,V,u5,u6,aQ]
   simp only [val]
   grind
 ·have aa:k=0:=by omega
  subst aa
  simp at ab hv
  have aw:0<b:=by
   by_cases L:0<b
   ·exact L
   ·have:=aC (show b<=0 by omega) (aL hp);omega
  have ao:=C9 (by decide) f
  have hR:val b32 us=(a-val b32 qs*b)*2^s:=by
   rw [hua,hYb] at hv
   grind
  have ak:0<=a-val b32 qs*b:=by
   by_cases L:0<=a-val b32 qs*b
   ·exact L
   ·have:=aC (show a-val b32 qs*b <= -1 by omega) (aL hp);omega
  have ag:a-val b32 qs*b<b:=by
   by_cases L:a-val b32 qs*b<b
   ·exact L
   ·have:=aC (show b<=a-val b32 qs*b by omega) (aL hp);omega
  have w:a/b=val b32 qs:=by
   have:a=(a-val b32 qs*b)+val b32 qs*b:=by omega
   rw [this,bZ _ _ (by omega),bX ak ag,Int.zero_add]
  have Q:a%b=a-val b32 qs*b:=by
   have:=Int.emod_def a b
   rw [this,w,aO]
  rw [w,Q] at hK
  have hz:=Dy (B:=b32) (by decide) (n:=mm+2) f (by omega)
  have y:=G1 b32 us (i:=mm+2) (by omega)
  rw [hz,bH,bY] at y
  refine ⟨⟨by omega,by omega⟩,?_⟩
  rw [J0,aD,Nat.sub_zero,Nat.sub_zero]
  have z:(us.take (mm+2)).length=mm+2:=by rw [aI,p];omega
  have st:SlI .u32 (Be .u32 C6 g bu us bq qs) (some ⟨bu,0,none⟩) (us.take (mm+2)):=by
   have:=T.cut (c:=N) (l:=0) (m:=mm+2) (by omega) (by omega) (by omega)
   simpa [J0] using this
  have tr:=A2u (K:=fun r7 M=>∃ (t259A:Option Addr) (t259n:Nat) (t259c:Nat),r7= .slice t259A t259n t259c/\Kh prog K (s:Int) (some ⟨bq,0,none⟩) nq nq t259A t259n t259c M) (ac:=N) st (by omega) (by omega) ?_
  ·rw [z] at tr;exact tr
  ·intro m hm ax G
   rw [z] at hm
   rw [List.take_take,aJ hm] at G
   refine ⟨_,_,_,rfl,?_⟩
   have ae:us=us.take m++us.drop m:=(bF m us).symm
   rw [ae]
   refine B28 (rs:=us.take m) (tl:=us.drop m) (qs:=qs) hu hq hne hs (by rw [aI,p];omega) (by omega) C.symm (aW _) H (f.take m) (by omega) (by omega) rfl ?_ hK
   rw [G,<- y,hR]
end
