/- A part. -/
import Derived.Test.YtmbfcbbkbefgfaaGreatDoorG14
import Derived.Test.YtmbfcbbkbefgfaaGreatDoorG15
open Go.Proofs.Tryz
set_option linter.all false
open Int renaming mul_le_mul_of_nonneg_right->aC,toNat_natCast->aD,mul_le_mul_of_nonneg_left->aE,dvd_mul_of_dvd_right->aF,mul_nonneg->aG,le_of_lt->aL,mul_comm->aO,pow_succ->aQ,mul_ediv_add_emod->aS,emod_lt_of_pos->aT,ediv_lt_of_lt_mul->aV,pow_pos->aX,emod_nonneg->aY,ediv_nonneg->aZ,mul_zero->bH,mul_pos->bI,dvd_sub->bJ,gcd->bK,tmod_eq_emod_of_nonneg->bM,tdiv_eq_ediv_of_nonneg->bN,mul_le_mul->bO,fdiv_eq_ediv_of_nonneg->bU,mul_emod_mul_of_pos->bW,ediv_eq_zero_of_lt->bX,add_zero->bY,add_mul_ediv_right->bZ
open List renaming getElem?_cons_zero->aH,length_take->aI,length_append->aK,take_length->aM,take_of_length_le->aN,getD->aP,getElem?_cons_succ->aR,getElem?_eq_none->aU,drop_drop->bB,drop_of_length_le->bC,length_set->bD,take_append_drop->bF,take_set_of_le->bG,replicate->bL,drop_eq_getElem_cons->bV
open Nat renaming min_eq_left->aJ,le_refl->aW
namespace Go.Proofs.YtmbfcbbkbefgfaaGreatDoor
set_option maxRecDepth 20000
open Go
section
variable {h g:Heap} {K:VP} {A B:Option Addr} {ac bc:Nat}
def Ui{x y:Int}{an bn:Nat}(ma:Mg h A an x)(mb:Mg h B bn y)(hxy:y<=x)(hl:an<=100000000)(hK:∀ A' m c' h',h.le h'->m<=c'->Mg h' A' m (x-y)->K (.slice A' m c') h'):FCall prog Oh #[.slice A an ac,.slice B bn bc] h K:=by
 have M:bn<=an:=by
  have o:=ma.lt (by decide)
  exact mb.len_le (by decide) (Int.lt_of_le_of_lt hxy o)
 obtain ⟨a,rfl,G,L,nx,rfl⟩:=ma
 obtain ⟨f,rfl,H,C,V,rfl⟩:=mb
 refine B0y _ _ _ _ _ _ ?_
 unfold B5i
 refine J7 Pv (by omega) (by omega) (by omega) ?_
 intro b z
 rw [aD]
 refine ⟨_,_,_,rfl,?_⟩
 refine ⟨fun l h'=>∃ (k:Nat) (c:Int) (zs:List Int),l=[U c,I k]/\k<=a.length/\zs.length=a.length/\Dig b32 zs/\(0<=c/\c<=1)/\h'=blk .u32 C3 h b zs/\val b32 (zs.take k)=val b32 (a.take k)-val b32 (f.take k)+c*b32^k,fun l _=>a.length-(iAt l 1).toNat,⟨0,0,_,rfl,by omega,by simp,I0 (by decide) _,by omega,rfl,by simp [val]⟩,?_⟩
 rintro c i S ⟨k,c',zs,s,W,g,q,T,rfl,u⟩
 obtain ⟨rfl,rfl⟩:c=c'/\i=(k:Int):=by simpa using s
 have j:=V8 (k:=.u32) (e:=C3) z zs
 refine B6 (fun o=>?_) (fun o=>?_)
 ·have Z:=Bv L k
  have X:=Bv C k
  have O:=C4 b32 a k
  have D:=C4 b32 f k
  refine (G.mono j).load rfl (by omega) (by omega) ?_
  rw [aD]
  refine ⟨fun l h'=>l=[U (C0 (a.getD k 0-c-f.getD k 0))]/\h'=blk .u32 C3 h b zs,B6 (fun R=>?_) (fun R=>?_),?_⟩
  ·refine (H.mono j).load rfl (by omega) (by omega) ?_
   rw [aD]
   refine ⟨?_,rfl⟩
   rw [C2 (n:=a.getD k 0) (by omega) (by omega),C2 (n:=f.getD k 0) (by omega) (by omega),E4,E4,E4]
   have E:((a.getD k 0-c)%18446744073709551616-f.getD k 0)%18446744073709551616=(a.getD k 0-c-f.getD k 0)%18446744073709551616:=by omega
   rw [E]
  ·refine ⟨?_,rfl⟩
   have N:f.getD k 0=0:=by simp [aP,aU (show f.length<=k by omega)]
   rw [N,C2 (n:=a.getD k 0) (by omega) (by omega),Int.sub_zero]
  ·rintro d Q ⟨p,rfl⟩
   obtain rfl:d=C0 (a.getD k 0-c-f.getD k 0):=by simpa using p
   refine ⟨_,rfl,by omega,by omega,?_⟩
   refine R1 (k:=.u32) (zs:=zs) (i:=(k:Int)) K5 (by rw [aD];omega) ?_
   rw [aD,Y5,Xf,E4,B7 (n:=(k:Int)+1) (by omega) (by omega),Zb (by omega)]
   refine ⟨⟨k+1,_,zs.set k ((a.getD k 0-c-f.getD k 0)%18446744073709551616%4294967296),rfl,by omega,by simpa using g,q.set (A3r _),by omega,rfl,?_⟩,by simp only [iAt,aH,aR];omega⟩
   rw [C7 (by omega),F0,aI,aJ (by omega),aQ,O,D,u]
   have key:(a.getD k 0-c-f.getD k 0)%18446744073709551616%4294967296=a.getD k 0-c-f.getD k 0+4294967296*((a.getD k 0-c-f.getD k 0)%18446744073709551616/4294967296%2):=by omega
   rw [key]
   grind
 ·have t:k=a.length:=by omega
  subst t
  rw [aM,aN (show f.length<=a.length by omega),aN (show zs.length<=a.length by omega)] at u
  have r:c=0:=by
   have o:=L5 (by decide) q
   rw [g] at o
   by_cases J:c=0
   ·exact J
   ·have:c=1:=by omega
    subst this
    omega
  subst r
  rw [<- g]
  refine Y8 (Dl _ _ _ _ _) q (aW _) (by omega) ?_
  intro m F w
  have e:val b32 zs=val b32 a-val b32 f:=by omega
  rw [e] at w
  exact ⟨_,_,_,rfl,hK _ _ _ _ (V8 z _) F w⟩
def B44{xs:List Int}{i:Nat}(hi:i<xs.length):xs.drop i=xs.getD i 0::xs.drop (i+1):=by
 rw [bV hi];simp [aP,hi]
def Mq(B:Int){xs:List Int}{i:Nat}(hi:i<xs.length):val B (xs.drop i)=xs.getD i 0+B*val B (xs.drop (i+1)):=by
 rw [B44 hi];rfl
def V7{xs:List Int}{i:Nat}{v:Int}(hi:i<xs.length):(xs.set i v).drop i=v::xs.drop (i+1):=by
 rw [bV (by simpa using hi)]
 simp [List.drop_set_of_lt]
def Nf{x d:Int}{an:Nat}(ma:Mg h A an x)(hd0:0<d/\d<4294967296)(hl:an<=100000000)(hK:∀ A' m c' h',h.le h'->m<=c'->m<=an->Mg h' A' m (x/d)->K (.tuple #[.slice A' m c',U32 (x%d)]) h'):FCall prog Gg #[.slice A an ac,U32 d] h K:=by
 obtain ⟨a,rfl,F,G,Q,rfl⟩:=ma
 refine A53 _ _ _ _ ?_
 unfold A54
 refine J7 Pv (by omega) (by omega) (by omega) ?_
 intro b z
 rw [aD]
 refine ⟨_,_,_,rfl,?_⟩
 refine ⟨fun l h'=>∃ (k:Nat) (r:Int) (zs:List Int),l=[U r,I ((k:Int)-1)]/\k<=a.length/\zs.length=a.length/\Dig b32 zs/\(0<=r/\r<d)/\h'=blk .u32 C3 h b zs/\val b32 (a.drop k)=val b32 (zs.drop k)*d+r,fun l _=>(iAt l 1+1).toNat,⟨a.length,0,_,by rw [B7 (by omega) (by omega)],by omega,by simp,I0 (by decide) _,by omega,rfl,by simp [val]⟩,?_⟩
 rintro r i N ⟨k,H,zs,t,O,c,w,g,rfl,f⟩
 obtain ⟨rfl,rfl⟩:r=H/\i=(k:Int)-1:=by simpa using t
 have o:=V8 (k:=.u32) (e:=C3) z zs
 refine B6 (fun L=>?_) (fun L=>?_)
 ·obtain ⟨j,rfl⟩:∃ j,k=j+1:=⟨k-1,by omega⟩
  have e:((j+1:Nat):Int)-1=(j:Int):=by omega
  rw [e]
  have M:=Bv G j
  refine (F.mono o).load rfl (by omega) (by omega) ?_
  rw [aD]
  have E:C0 d=d:=C2 (by omega) (by omega)
  have J:bor .u64 (C0 (r*2^(min ((32:Int)).toNat 64))) (C0 (a.getD j 0))=r*4294967296+a.getD j 0:=by
   rw [show (2:Int)^(min ((32:Int)).toNat 64)=4294967296 by decide,C2 (n:=a.getD j 0) (by omega) (by omega),C2 (n:=r*4294967296) (by omega) (by omega)]
   exact A1t (by omega) M
  rw [E,J]
  have p:0<=r*4294967296+a.getD j 0:=by omega
  have C:Int.tdiv (r*4294967296+a.getD j 0) d=(r*4294967296+a.getD j 0)/d:=bN p
  have B:Int.tmod (r*4294967296+a.getD j 0) d=(r*4294967296+a.getD j 0)%d:=bM p
  rw [C,B]
  have s:0<=(r*4294967296+a.getD j 0)/d/\(r*4294967296+a.getD j 0)/d<4294967296:=by
   constructor
   ·exact aZ p (by omega)
   ·apply aV (by omega)
    have:(r+1)*4294967296<=d*4294967296:=aC (by omega) (by decide)
    omega
  refine B6 (fun e=>absurd e (by omega)) (fun _=>?_)
  refine ⟨_,rfl,by omega,by omega,?_⟩
  refine R1 (k:=.u32) (zs:=zs) (i:=(j:Int)) K5 (by rw [aD];omega) ?_
  rw [aD,C2 (by omega) (by omega),O1 (by omega) (by omega),B7 (by omega) (by omega)]
  refine B6 (fun e=>absurd e (by omega)) (fun _=>?_)
  refine ⟨⟨j,_,zs.set j ((r*4294967296+a.getD j 0)/d),rfl,by omega,by simpa using c,w.set s,⟨aY _ (by omega),aT _ (by omega)⟩,rfl,?_⟩,by simp only [iAt,aH,aR];omega⟩
  rw [V7 (by omega),Mq b32 (by omega),f]
  have:=aS (r*4294967296+a.getD j 0) d
  simp only [val]
  grind
 ·have u:k=0:=by omega
  subst u
  rw [List.drop_zero,List.drop_zero] at f
  rw [<- c]
  refine Y8 (Dl _ _ _ _ _) w (aW _) (by omega) ?_
  intro m D y
  have s:val b32 a/d=val b32 zs:=by
   rw [f,Int.add_comm,bZ _ _ (by omega),bX g.1 g.2,Int.zero_add]
  have q:val b32 a%d=r:=by
   rw [f,Int.add_comm,Int.add_mul_emod_self_right,Int.emod_eq_of_lt g.1 g.2]
  rw [<- s] at y
  rw [O1 (by omega) (by omega),<- q]
  exact ⟨_,_,_,rfl,hK _ _ _ _ (V8 z _) D (by omega) y⟩
end
def C3f{a b:Int}(ha:0<=a/\a<4294967296)(hb:0<=b/\b<4294967296):0<=a*b/\a*b<=18446744065119617025:=by
 refine ⟨aG ha.1 hb.1,?_⟩
 have:=bO (show a<=4294967295 by omega) (show b<=4294967295 by omega) hb.1 (by decide)
 omega
def E5{xs ys:List Int}{i:Nat}(h:xs.drop i=ys.drop i):xs.getD i 0=ys.getD i 0:=by
 have a:(xs.drop i)[0]? = (ys.drop i)[0]? :=by rw [h]
 simp at a
 simp [aP,a]
def D6{xs ys:List Int}{i:Nat}(h:xs.drop i=ys.drop i):xs.drop (i+1)=ys.drop (i+1):=by
 rw [<- bB,<- bB,h]
def D3{xs:List Int}{i j:Nat}{v:Int}(h:i<j):(xs.set i v).drop j=xs.drop j:=List.drop_set_of_lt h
section
variable {h g:Heap} {K:VP} {A B:Option Addr} {ac bc:Nat}
def Uz{x y:Int}{an bn:Nat}(ma:Mg h A an x)(mb:Mg h B bn y)(hl:an<=100000000)(hl2:bn<=100000000)(hK:∀ A' m c' h',h.le h'->m<=c'->Mg h' A' m (x*y)->K (.slice A' m c') h'):FCall prog Oj #[.slice A an ac,.slice B bn bc] h K:=by
 have w:=ma.len_zero (by decide)
 have D:=mb.len_zero (by decide)
 obtain ⟨d,rfl,V,dx,nx,rfl⟩:=ma
 obtain ⟨a,rfl,W,O,ny,rfl⟩:=mb
 refine B10 _ _ _ _ _ _ ?_
 unfold B5m
 refine D8 (fun Z=>?_) (fun hx=>D8 (fun Z=>?_) (fun hy=>?_))
 ·have:=hK none 0 0 h (B3 h) (aW _) (by rw [w.2 (by omega),Int.zero_mul];exact Mag.zero)
  exact this
 ·have:=hK none 0 0 h (B3 h) (aW _) (by rw [D.2 (by omega),bH];exact Mag.zero)
  exact this
 have T:B4 ((d.length:Int)+a.length)=((d.length+a.length:Nat):Int):=by rw [B7 (by omega) (by omega)];omega
 rw [T]
 refine J7 Pv (by omega) (by omega) (by omega) ?_
 intro b N
 rw [aD]
 refine ⟨_,_,_,rfl,?_⟩
 refine ⟨fun l h'=>∃ (k:Nat) (zs:List Int),l=[I k]/\k<=d.length/\zs.length=d.length+a.length/\Dig b32 zs/\h'=blk .u32 C3 h b zs/\zs.drop (k+a.length)=bL (d.length-k) 0/\val b32 (zs.take (k+a.length))=val b32 (d.take k)*val b32 a,fun l _=>d.length-(iAt l 0).toNat,⟨0,_,rfl,by omega,by simp,I0 (by decide) _,rfl,by simp,?_⟩,?_⟩
 ·rw [List.take_replicate,Cl];simp [val]
 rintro i S ⟨k,f,F,hk,g,u,rfl,s,t⟩
 obtain rfl:=sI1 F
 refine B6 (fun h1=>?_) (fun h1=>?_)
 ·have gx:=Bv dx k
  have vx:=C4 b32 d k
  refine ⟨fun l h'=>∃ (m:Nat) (c:Int) (zs:List Int),l=[U c,I m]/\m<=a.length/\zs.length=d.length+a.length/\Dig b32 zs/\(0<=c/\c<4294967296)/\h'=blk .u32 C3 h b zs/\zs.drop (k+m)=f.drop (k+m)/\val b32 (zs.take (k+m))+c*b32^(k+m)=val b32 (f.take (k+m))+b32^k*(d.getD k 0*val b32 (a.take m)),fun l _=>a.length-(iAt l 1).toNat,⟨0,0,f,rfl,by omega,g,u,by omega,rfl,rfl,by simp [val]⟩,?_⟩
  rintro c j Q ⟨m,c',zs,z,L,p,C,X,rfl,o,hv⟩
  obtain ⟨rfl,rfl⟩:c=c'/\j=(m:Int):=by simpa using z
  have r:=V8 (k:=.u32) (e:=C3) N zs
  refine B6 (fun h2=>?_) (fun h2=>?_)
  ·have gy:=Bv O m
   have R:=C4 b32 a m
   have gz:=Bv C (k+m)
   have G:=E5 o
   have vz:=C4 b32 f (k+m)
   have q:B4 ((k:Int)+m)=((k+m:Nat):Int):=by rw [B7 (by omega) (by omega)];omega
   rw [q]
   refine (V.mono r).load rfl (by omega) (by omega) ?_
   refine (W.mono r).load rfl (by omega) (by omega) ?_
   refine (Dl .u32 C3 h b zs).load p.symm (by omega) (by omega) ?_
   simp only [aD]
   have S:=C3f gx gy
   have ec:C0 (c+C0 (C0 (C0 (d.getD k 0)*C0 (a.getD m 0))+C0 (zs.getD (k+m) 0)))=c+(d.getD k 0*a.getD m 0+zs.getD (k+m) 0):=by
    rw [C2 (n:=d.getD k 0) (by omega) (by omega),C2 (n:=a.getD m 0) (by omega) (by omega),C2 (n:=zs.getD (k+m) 0) (by omega) (by omega),C2 (n:=d.getD k 0*a.getD m 0) (by omega) (by omega),C2 (n:=d.getD k 0*a.getD m 0+zs.getD (k+m) 0) (by omega) (by omega),C2 (by omega) (by omega)]
   rw [ec]
   refine ⟨_,rfl,by omega,by omega,?_⟩
   refine R1 (k:=.u32) (zs:=zs) (i:=((k+m:Nat):Int)) K5 (by rw [aD];omega) ?_
   rw [aD,Y5,Xf,B7 (n:=(m:Int)+1) (by omega) (by omega)]
   refine ⟨⟨m+1,_,zs.set (k+m) ((c+(d.getD k 0*a.getD m 0+zs.getD (k+m) 0))%4294967296),rfl,by omega,by simpa using p,C.set (A3r _),by omega,rfl,?_,?_⟩,by simp only [iAt,aH,aR];omega⟩
   ·rw [D3 (by omega)];exact D6 o
   ·rw [<- Nat.add_assoc,C7 (by omega),F0,aI,aJ (by omega),aQ,Cf,R,vz,<- G]
    have:b32^(k+m)=b32^k*b32^m:=Int.pow_add _ _ _
    grind
  ·have E:m=a.length:=by omega
   subst E
   have q:B4 ((k:Int)+a.length)=((k+a.length:Nat):Int):=by rw [B7 (by omega) (by omega)];omega
   rw [q]
   refine ⟨_,rfl,by omega,by omega,?_⟩
   refine R1 (k:=.u32) (zs:=zs) (i:=((k+a.length:Nat):Int)) K5 (by rw [aD];omega) ?_
   rw [aD,O1 (by omega) (by omega),B7 (n:=(k:Int)+1) (by omega) (by omega)]
   have J:k+1+a.length=k+a.length+1:=by omega
   refine ⟨⟨k+1,zs.set (k+a.length) c,rfl,by omega,by simpa using p,C.set X,rfl,?_,?_⟩,by simp only [iAt,aH];omega⟩
   ·rw [J,D3 (by omega),D6 o,<- bB,s,List.drop_replicate]
    congr 1
   ·rw [J,C7 (by omega),F0,aI,aJ (by omega)]
    rw [aM] at hv
    rw [vx]
    grind
 ·have H:k=d.length:=by omega
  subst H
  rw [aM,aN (show f.length<=d.length+a.length by omega)] at t
  rw [<- g]
  refine Y8 (Dl _ _ _ _ _) u (aW _) (by omega) ?_
  intro m L M
  rw [t] at M
  exact ⟨_,_,_,rfl,hK _ _ _ _ (V8 N _) L M⟩
def A8c{x z:Int}{s:Nat}(hs:s<=32)(_hx:0<=x/\x<4294967296)(hz:0<=z/\z<(2:Int)^s):
 bor .u32 z (x*2^s%4294967296)=z+x*2^s%4294967296/\z+x*2^s%4294967296<4294967296:=by
 have k:(2:Int)^s*2^(32-s)=4294967296:=by
  rw [<- Int.pow_add,show s+(32-s)=32 by omega];decide
 have e:0<(2:Int)^s:=aX (by decide)
 have i:0<(2:Int)^(32-s):=aX (by decide)
 have a:z<4294967296:=by
  have:(2:Int)^s*1<=2^s*2^(32-s):=aE (by omega) (by omega)
  omega
 have j:x*2^s%4294967296=2^s*(x%2^(32-s)):=by
  rw [<- k,aO x,bW _ _ e]
 have c:=A3r (x*2^s)
 have b:bor .u32 z (x*2^s%4294967296)=z+x*2^s%4294967296:=by
  rw [C3v ⟨hz.1,a⟩ c]
  have d:0<=x%2^(32-s):=aY _ (by omega)
  have g:(x*2^s%4294967296).toNat=2^s*(x%2^(32-s)).toNat:=by
   rw [j,Int.toNat_mul (by omega) d]
   rw [Int.toNat_pow_of_nonneg (by decide)];rfl
  have f:z.toNat<2^s:=by
   have:((2^s:Nat):Int)=(2:Int)^s:=by simp
   omega
  rw [g,Nat.or_comm,A8d f,<- g]
  omega
 refine ⟨b,?_⟩
 rw [<- b,C3v ⟨hz.1,a⟩ c]
 have:z.toNat ||| (x*2^s%4294967296).toNat<2^32:=Nat.or_lt_two_pow (by omega) (by have:=c.2;show _<_;omega)
 omega
def Ki{xs:List Int}{s:Nat}(sx:SlI .u32 h A xs)(dx:Dig b32 xs)(hs:s<32)(hl:xs.length<=100000000)(hK:∀ b zs,h b=none->zs.length=xs.length+1->Dig b32 zs->val b32 zs=val b32 xs*2^s->K (.slice (some ⟨b,0,none⟩) (xs.length+1) (xs.length+1)) (blk .u32 C3 h b zs)):FCall prog De #[.slice A xs.length ac,U s] h K:=by
 refine A28 _ _ _ _ ?_
 unfold Zo
 have D:B4 ((xs.length:Int)+1)=((xs.length+1:Nat):Int):=by rw [B7 (by omega) (by omega)];omega
 rw [D]
 refine J7 Pv (by omega) (by omega) (by omega) ?_
 intro b w
 rw [aD]
 refine ⟨_,_,_,rfl,?_⟩
 have c:0<(2:Int)^s:=aX (by decide)
 have u:(2:Int)^s<=2147483648:=by
  have:=C8 (B:=2) (by decide) (show s<=31 by omega)
  have e:(2:Int)^31=2147483648:=by decide
  omega
 refine ⟨fun l F=>∃ (k:Nat) (zs:List Int),l=[I k]/\k<=xs.length/\zs.length=xs.length+1/\Dig b32 zs/\F=blk .u32 C3 h b zs/\zs.drop (k+1)=bL (xs.length-k) 0/\zs.getD k 0<2^s/\val b32 (zs.take (k+1))=val b32 (xs.take k)*2^s,fun l _=>xs.length-(iAt l 0).toNat,⟨0,_,rfl,by omega,by simp,I0 (by decide) _,rfl,by simp,by simpa using c,by simp [val]⟩,?_⟩
 rintro i M ⟨k,zs,o,N,a,j,rfl,f,z,m⟩
 obtain rfl:=sI1 o
 have d:=V8 (k:=.u32) (e:=C3) w zs
 refine B6 (fun H=>?_) (fun H=>?_)
 ·have q:=Bv dx k
  have C:=Bv j k
  have J:=C4 b32 xs k
  have G:=C4 b32 zs k
  refine (sx.mono d).load rfl (by omega) (by omega) ?_
  refine B6 (fun e=>absurd e (by omega)) (fun _=>?_)
  refine (Dl .u32 C3 h b zs).load a.symm (by omega) (by omega) ?_
  simp only [aD]
  obtain ⟨L,E⟩:=A8c (Nat.le_of_lt hs) q ⟨C.1,z⟩
  have g:0<=xs.getD k 0*2^s:=aG q.1 (by omega)
  have p:xs.getD k 0*2^s<4294967296*2^s:=Int.mul_lt_mul_of_pos_right q.2 c
  have ev:C0 (C0 (xs.getD k 0)*2^(min s 64))=xs.getD k 0*2^s:=by
   rw [C2 (n:=xs.getD k 0) (by omega) (by omega),aJ (by omega),C2 (by omega) (by omega)]
  rw [ev]
  refine ⟨_,rfl,by omega,by omega,?_⟩
  refine R1 (k:=.u32) (zs:=zs) (i:=(k:Int)) K5 (by rw [aD];omega) ?_
  rw [aD,Y5 (xs.getD k 0*2^s),L,Xf]
  have y:B4 ((k:Int)+1)=((k+1:Nat):Int):=by rw [B7 (by omega) (by omega)];omega
  rw [y]
  have t:0<=xs.getD k 0*2^s/4294967296/\xs.getD k 0*2^s/4294967296<2^s:=⟨aZ g (by decide),aV (by decide) (by rw [aO (2^s)];exact p)⟩
  refine ⟨_,rfl,by omega,by omega,?_⟩
  refine R1 (k:=.u32) (zs:=zs.set k (zs.getD k 0+xs.getD k 0*2^s%4294967296)) (i:=((k+1:Nat):Int)) K5 (by rw [aD,bD];omega) ?_
  rw [aD,O1 (by omega) (by omega)]
  have x:=A3r (xs.getD k 0*2^s)
  refine ⟨⟨k+1,(zs.set k (zs.getD k 0+xs.getD k 0*2^s%4294967296)).set (k+1) (xs.getD k 0*2^s/4294967296),rfl,by omega,by simpa using a,(j.set ⟨by omega,E⟩).set ⟨t.1,by show _<(4294967296:Int);omega⟩,rfl,?_,?_,?_⟩,by simp only [iAt,aH];omega⟩
  ·rw [D3 (by omega),D3 (by omega),<- bB,f,List.drop_replicate]
   congr 1
  ·have:((zs.set k (zs.getD k 0+xs.getD k 0*2^s%4294967296)).set (k+1) (xs.getD k 0*2^s/4294967296)).getD (k+1) 0=xs.getD k 0*2^s/4294967296:=by
    rw [aP,List.getElem?_set_self (by rw [bD];omega)];rfl
   rw [this];exact t.2
  ·rw [C7 (by rw [bD];omega),F0,C7 (by omega),F0]
   simp only [aI,aK,List.length_singleton]
   rw [aJ (show k<=zs.length by omega),aQ,J]
   have:=Int.emod_add_mul_ediv (xs.getD k 0*2^s) 4294967296
   rw [G] at m
   grind
 ·have r:k=xs.length:=by omega
  subst r
  rw [aM,aN (by omega)] at m
  exact hK b zs w a j m
end
structure Est (B P top u2 ul v1 v2 vl U V:Int):Prop where
 hB:1<B
 hP:0<P
 hU:U=(top*B+u2)*P+ul
 hV:V=(v1*B+v2)*P+vl
 u2r:0<=u2/\u2<B
 ulr:0<=ul/\ul<P
 v2r:0<=v2/\v2<B
 vlr:0<=vl/\vl<P
 top0:0<=top
 v1r:B<=2*v1/\v1<B
 lt:U<V*B
section
variable {B P top u2 ul v1 v2 vl U V:Int}
def Est.U0(e:Est B P top u2 ul v1 v2 vl U V):0<=U:=by
 obtain ⟨m,j,i,l,g,b,d,c,a,f,lt⟩:=e
 have k:0<=top*B:=aG a (by omega)
 have:0<=(top*B+u2)*P:=aG (by omega) (by omega)
 omega
def Est.V0(e:Est B P top u2 ul v1 v2 vl U V):0<V:=by
 obtain ⟨m,f,j,l,i,b,d,c,a,g,lt⟩:=e
 have k:0<v1*B:=bI (by omega) (by omega)
 have:0<(v1*B+v2)*P:=bI (by omega) f
 omega
def Est.V2(e:Est B P top u2 ul v1 v2 vl U V):B<=v1*B+v2:=by
 obtain ⟨l,j,i,k,g,b,d,c,a,f,lt⟩:=e
 have:1*B<=v1*B:=aC (by omega) (by omega)
 omega
def Est.low(e:Est B P top u2 ul v1 v2 vl U V){q:Int}(h0:0<=q)(h:top*B+u2<q*(v1*B+v2)):U<q*V:=by
 obtain ⟨o,l,k,g,i,c,d,a,b,f,lt⟩:=e
 have m:(top*B+u2+1)*P<=q*(v1*B+v2)*P:=aC (by omega) (by omega)
 have n:0<=q*vl:=aG h0 a.1
 have j:q*V=q*(v1*B+v2)*P+q*vl:=by rw [g];grind
 have p:(top*B+u2+1)*P=(top*B+u2)*P+P:=by grind
 omega
def Est.big(e:Est B P top u2 ul v1 v2 vl U V){q:Int}(h:B<=q):U<q*V:=by
 have:=aC h (aL e.V0)
 have:=e.lt
 rw [aO V] at this
 omega
def Est.init(e:Est B P top u2 ul v1 v2 vl U V):U<(top/v1+1)*V:=by
 obtain ⟨o,c,d,m,f,g,b,k,a,j,lt⟩:=e
 have t:0<=top/v1:=aZ a (by omega)
 have l:top+1<=(top/v1+1)*v1:=by
  have:=aS top v1
  have:=aT top (show 0<v1 by omega)
  grind
 have i:0<B*P:=bI (by omega) c
 have w:(top+1)*(B*P)<=(top/v1+1)*v1*(B*P):=aC l (by omega)
 have n:0<=(top/v1+1)*(v2*P+vl):=aG (by omega) (by have:=aG b.1 (aL c);omega)
 have p:(top/v1+1)*V=(top/v1+1)*v1*(B*P)+(top/v1+1)*(v2*P+vl):=by rw [m];grind
 have s:(top+1)*(B*P)=top*B*P+B*P:=by grind
 have q:(u2+1)*P<=B*P:=aC (by omega) (by omega)
 have r:U=top*B*P+u2*P+ul:=by rw [d];grind
 have u:(u2+1)*P=u2*P+P:=by grind
 omega
def Est.up(e:Est B P top u2 ul v1 v2 vl U V){q:Int}(hq:q<=B)(h:q*(v1*B+v2)<=top*B+u2):(q-1)*V<=U:=by
 have j:=e.V2
 have b:=e.V0
 have f:=e.U0
 obtain ⟨t,p,o,i,l,c,g,d,a,k,lt⟩:=e
 by_cases r:q<=0
 ·have:(q-1)*V<=0:=Int.mul_nonpos_of_nonpos_of_nonneg (by omega) (by omega)
  omega
 ·have s:(q-1)*vl<=(q-1)*P:=aE (by omega) (by omega)
  have n:(q*(v1*B+v2))*P<=(top*B+u2)*P:=aC h (by omega)
  have u:(q-1)*V=(q*(v1*B+v2))*P-(v1*B+v2)*P+(q-1)*vl:=by rw [i];grind
  have m:(q-1)*P<=(v1*B+v2)*P:=aC (by omega) (by omega)
  omega
def Est.first(e:Est B P top u2 ul v1 v2 vl U V):top<(v1+1)*B/\top/v1<=B+1:=by
 obtain ⟨r,l,k,n,a,c,i,f,b,m,lt⟩:=e
 have g:0<B*P:=bI (by omega) l
 have p:top*(B*P)<=U:=by
  have:0<=u2*P:=aG a.1 (by omega)
  have:U=top*(B*P)+u2*P+ul:=by rw [k];grind
  omega
 have q:V<(v1+1)*(B*P):=by
  have j:(v2+1)*P<=B*P:=aC (by omega) (by omega)
  have:V=v1*(B*P)+v2*P+vl:=by rw [n];grind
  have:(v1+1)*(B*P)=v1*(B*P)+B*P:=by grind
  have:(v2+1)*P=v2*P+P:=by grind
  omega
 have j:V*B<=(v1+1)*(B*P)*B:=aC (by omega) (by omega)
 have o:top*(B*P)<(v1+1)*B*(B*P):=by
  have:(v1+1)*(B*P)*B=(v1+1)*B*(B*P):=by grind
  omega
 have d:top<(v1+1)*B:=Int.lt_of_mul_lt_mul_right o (by omega)
 refine ⟨d,?_⟩
 have:top/v1<B+2:=by
  apply aV (by omega)
  have:(v1+1)*B=v1*B+B:=by grind
  have:v1*(B+2)=v1*B+2*v1:=by grind
  have:(B+2)*v1=v1*B+2*v1:=by grind
  omega
 omega
end
def Ak(k:IntKind)(e:TypeId)(g:Heap)(bu:Nat)(us:List Int)(bq:Nat)(qs:List Int):Heap:=blk k e (blk k e g bu us) bq qs
section
variable {k:IntKind} {e:TypeId} {g:Heap} {bu bq:Nat} {us qs:List Int}
def Rd(hu:g bu=none)(hq:g bq=none)(hne:bu≠bq):g.le (Ak k e g bu us bq qs):=
 Heap.le_trans (V8 hu us) (V8 (by unfold blk;rw [B8 _ _ hne.symm];exact hq) qs)
def Iu(hne:bu≠bq):Ak k e g bu us bq qs=blk k e (blk k e g bq qs) bu us:=by
 unfold Ak blk;exact Heap.put_comm g _ _ hne
def Wa(hne:bu≠bq):SlI k (Ak k e g bu us bq qs) (some ⟨bu,0,none⟩) us:=by
 rw [Iu hne];exact Dl k e _ bu us
def B9i:SlI k (Ak k e g bu us bq qs) (some ⟨bq,0,none⟩) qs:=Dl k e _ bq qs
def O7{P:Program}{t:TypeId}(one:P.cellsOf t=1/\(P.info? t).isSome=true)(hne:bu≠bq){n i:Int}(hi:i.toNat<us.length){K:Unit->Heap->Prop}
 (x:K () (Ak k e g bu (us.set i.toNat n) bq qs)):wpH P (Instr.storeAt t (.pointer (some (Addr.add ⟨bu,0,none⟩ (i.toNat*1)))) (.int k n)) K (Ak k e g bu us bq qs):=by
 rw [Iu hne]
 rw [Iu hne] at x
 exact R1 one hi x
def Wb{P:Program}{t:TypeId}(one:P.cellsOf t=1/\(P.info? t).isSome=true){n i:Int}(hi:i.toNat<qs.length){K:Unit->Heap->Prop}
 (x:K () (Ak k e g bu us bq (qs.set i.toNat n))):wpH P (Instr.storeAt t (.pointer (some (Addr.add ⟨bq,0,none⟩ (i.toNat*1)))) (.int k n)) K (Ak k e g bu us bq qs):=
 R1 one hi x
end
def A40{xs:List Int}{j i:Nat}:(xs.drop j).getD i 0=xs.getD (j+i) 0:=by simp [aP]
section
variable {g:Heap} {bu bq:Nat} {us qs:List Int} {VA:Option Addr} {vs:List Int}
def B7k{n j:Nat}{J:LP}{hp:Heap}{UA:Option Addr}{top u2 ul v1 v2 vl X Y P:Int}{t87 t96:Int}(es:Est 4294967296 P top u2 ul v1 v2 vl X Y)(sv:SlI .u32 hp VA vs)(su:SlI .u32 hp UA us)(hn:n=vs.length)(hn2:2<=n)(hul:j+n<us.length)(hbig:us.length<=200000000)
 (hv1:vs.getD (n-1) 0=v1) (hv2:vs.getD (n-2) 0=v2) (hu2:us.getD (j+n-2) 0=u2) (h87:0<=t87/\t87<4294967296) (h96:0<=t96/\t96<4294967296) (htop:top=t87*4294967296+t96)
 (hJ:∀ q,0<=q->q<=4294967296->X<(q+1)*Y->(q-1)*Y<=X->J [U q] hp):Rj prog VA n UA us.length j t87 t96 v1 v1 J hp:=by
 obtain ⟨f1,f2⟩:=es.first
 have B:=es.init
 have N:=es.V0
 have W:=es.U0
 have O:=es.v1r
 have g:=es.v2r
 have p:=es.u2r
 have c:=es.top0
 have u:bor .u64 (C0 (C0 t87*2^(min ((32:Int)).toNat 64))) (C0 t96)=top:=by
  rw [show (2:Int)^(min ((32:Int)).toNat 64)=4294967296 by decide,C2 (n:=t87) (by omega) (by omega),C2 (n:=t96) (by omega) (by omega),C2 (n:=t87*4294967296) (by omega) (by omega),A1t h87 h96,htop]
 have f:C0 v1=v1:=C2 (by omega) (by omega)
 unfold Rj
 rw [u,f,bN c,bM c]
 have t:0<=top/v1:=aZ c (by omega)
 have A:=aS top v1
 have k:=aY top (show v1≠0 by omega)
 have Z:=aT top (show 0<v1 by omega)
 refine ⟨fun l x=>∃ q r:Int,l=[U q,U r]/\x=hp/\0<=q/\q<=4294967297/\0<=r/\r<4294967296/\q*v1+r=top/\X<(q+1)*Y,fun l _=>match l with|[.int _ q,_]=>q.toNat|_=>0,⟨_,_,rfl,rfl,?_,?_,k,by omega,?_,?_⟩,?_⟩
 ·rw [C2 (by omega) (by omega)];exact t
 ·rw [C2 (by omega) (by omega)];omega
 ·rw [C2 (by omega) (by omega),aO];exact A
 ·rw [C2 (by omega) (by omega)];exact B
 rintro q r i ⟨T,S,R,rfl,F,V,L,o,C,w⟩
 obtain ⟨rfl,rfl⟩:q=T/\r=S:=by simpa using R
 have z:B4 ((n:Int)-1)=((n-1:Nat):Int):=by rw [B7 (by omega) (by omega)];omega
 have y:B4 ((n:Int)-2)=((n-2:Nat):Int):=by rw [B7 (by omega) (by omega)];omega
 have m:B4 (B4 ((j:Int)+(n:Int))-2)=((j+n-2:Nat):Int):=by rw [B7 (n:=(j:Int)+n) (by omega) (by omega),B7 (by omega) (by omega)];omega
 refine ⟨fun l x=>l=[]/\x=i/\X<q*Y,?_,?_⟩
 ·refine B6 (fun G=>⟨rfl,rfl,es.big G⟩) (fun G=>?_)
  rw [y,m]
  refine sv.load hn (by omega) (by omega) ?_
  refine su.load rfl (by omega) (by omega) ?_
  rw [aD,aD,hv2,hu2]
  have hp:=C3f (a:=q) (b:=v2) (by omega) g
  have E:C0 (q*C0 v2)=q*v2:=by rw [C2 (n:=v2) (by omega) (by omega),C2 (by omega) (by omega)]
  have D:bor .u64 (C0 (r*2^(min ((32:Int)).toNat 64))) (C0 u2)=r*4294967296+u2:=by
   rw [show (2:Int)^(min ((32:Int)).toNat 64)=4294967296 by decide,C2 (n:=u2) (by omega) (by omega),C2 (n:=r*4294967296) (by omega) (by omega),A1t ⟨L,o⟩ p]
  rw [E,D]
  have key:q*(v1*4294967296+v2)=(top-r)*4294967296+q*v2:=by rw [<- C];grind
  refine B6 (fun h2=>⟨rfl,rfl,es.low F (by omega)⟩) (fun h2=>?_)
  refine hJ q F (by omega) w (es.up (by omega) (by omega))
 ·rintro H ⟨_,rfl,s⟩
  have aa:1<=q:=by
   by_cases Q:1<=q
   ·exact Q
   ·have:q=0:=by omega
    subst this;omega
  rw [z]
  refine sv.load hn (by omega) (by omega) ?_
  rw [aD,hv1,f,C2 (n:=r+v1) (by omega) (by omega),C2 (n:=q-1) (by omega) (by omega)]
  have d:X<(q-1+1)*Y:=by rw [Int.sub_add_cancel];exact s
  have e:(q-1)*v1+(r+v1)=top:=by grind
  refine B6 (fun M=>?_) (fun M=>?_)
  ·have key:(q-1)*(v1*4294967296+v2)=(top-(r+v1))*4294967296+(q-1)*v2:=by rw [<- e];grind
   have hb:(q-1)*v2<=4294967296*v2:=aC (by omega) g.1
   exact hJ (q-1) (by omega) (by omega) d (es.up (by omega) (by omega))
  ·exact ⟨⟨q-1,r+v1,rfl,rfl,by omega,by omega,by omega,by omega,e,d⟩,by simp only;omega⟩
end
def G1(B:Int)(xs:List Int)(i:Nat):val B (xs.take (i+1))=val B (xs.take i)+B^i*xs.getD i 0:=by
 by_cases a:i<xs.length
 ·exact O3 B a
 ·rw [aN (by omega),aN (by omega)]
  simp [aP,aU (Nat.le_of_not_lt a)]
def B6h(B:Int){vs:List Int}{m:Nat}(hn:vs.length=m+2):val B vs=(vs.getD (m+1) 0*B+vs.getD m 0)*B^m+val B (vs.take m):=by
 have a:=G1 B vs (m+1)
 have b:=G1 B vs m
 rw [show m+1+1=vs.length by omega,aM] at a
 rw [a,b,aQ]
 grind
def B6g(B:Int){us:List Int}{m:Nat}(hn:us.length=m+3):val B us=((us.getD (m+2) 0*B+us.getD (m+1) 0)*B+us.getD m 0)*B^m+val B (us.take m):=by
 have a:=G1 B us (m+2)
 have c:=G1 B us (m+1)
 have b:=G1 B us m
 rw [show m+2+1=us.length by omega,aM] at a
 rw [show m+2=m+1+1 by omega] at a
 rw [a,c,b,aQ,aQ]
 grind
def B9d{B:Int}(hB:1<B){us vs:List Int}{m:Nat}(du:Dig B us)(dv:Dig B vs)(hu:us.length=m+3)(hv:vs.length=m+2)(h1:B<=2*vs.getD (m+1) 0)(hlt:val B us<val B vs*B):
 Est B (B^m) (us.getD (m+2) 0*B+us.getD (m+1) 0) (us.getD m 0) (val B (us.take m)) (vs.getD (m+1) 0) (vs.getD m 0) (val B (vs.take m)) (val B us) (val B vs):=by
 have a:0<B:=by omega
 have b:=L5 a (du.take m)
 have c:=L5 a (dv.take m)
 rw [aI,aJ (by omega)] at b c
 refine ⟨hB,aX a,B6g B hu,B6h B hv,du.getD a _,⟨C6 a (du.take m),b⟩,dv.getD a _,⟨C6 a (dv.take m),c⟩,?_,⟨h1,(dv.getD a _).2⟩,hlt⟩
 have:=aG (du.getD a (m+2)).1 (aL a)
 have:=(du.getD a (m+1)).1
 omega
def Est.top{B P top u2 ul v1 v2 vl U V:Int}(e:Est B P top u2 ul v1 v2 vl U V)(h:v1*B<=top):(B-1-1)*V<=U/\U<(B-1+1)*V:=by
 have g:=e.lt
 obtain ⟨q,o,n,k,l,d,i,f,a,j,lt⟩:=e
 constructor
 ·have p:v1*B*B*P<=U:=by
   have c:v1*B*B<=top*B:=aC h (by omega)
   have b:v1*B*B*P<=(top*B+u2)*P:=aC (by omega) (by omega)
   omega
  have c:V<=(v1+1)*B*P:=by
   have b:(v2+1)*P<=B*P:=aC (by omega) (by omega)
   have:V=v1*B*P+v2*P+vl:=by rw [k];grind
   have:(v1+1)*B*P=v1*B*P+B*P:=by grind
   have:(v2+1)*P=v2*P+P:=by grind
   omega
  have b:(B-1-1)*V<=(B-1-1)*((v1+1)*B*P):=aE c (by omega)
  have r:(B-1-1)*((v1+1)*B*P)=v1*B*B*P-(2*v1+2-B)*(B*P):=by grind
  have m:0<=(2*v1+2-B)*(B*P):=aG (by omega) (aG (by omega) (by omega))
  omega
 ·rw [Int.sub_add_cancel,aO];exact g
structure LS (F S first second u0 v0 u1 v1 u2 v2:Int) (odd:Bool):Prop where
 hF:F=v2*first+v1*second
 hS:S=u2*first+u1*second
 det:u1*v2-u2*v1=if odd then -1 else 1
 ord:0<=second/\second<=first
 st:(u0=0/\v0=0/\u1=1/\v1=0/\u2=0/\v2=1)\/
  (((u0=1/\v0=0/\u1=0/\v1=1/\0<=u2/\u2<=v2/\1<=u2)\/(0<=u0/\u0<=v0/\1<=v0/\1<=u1/\u1<=v1/\1<=u2/\u2<=v2))/\
   (u0*v1-u1*v0=if odd then 1 else -1)/\∃ f0,F=v1*f0+v0*first/\S=u1*f0+u0*first/\v0+v1<=f0-first/\v1<=first)
def LS.init{F S:Int}(h0:0<=S)(h:S<=F):LS F S F S 0 0 1 0 0 1 false:=
 ⟨by omega,by omega,by simp,⟨h0,h⟩,.inl ⟨rfl,rfl,rfl,rfl,rfl,rfl⟩⟩
def LS.v2pos{F S first second u0 v0 u1 v1 u2 v2:Int}{odd:Bool}(l:LS F S first second u0 v0 u1 v1 u2 v2 odd):1<=v2/\0<=v1/\0<=u1/\0<=u2/\0<=u0/\0<=v0:=by
 obtain ⟨d,e,c,b,a⟩:=l
 rcases a with a|⟨a,_⟩<;>omega
def LS.step{F S first second u0 v0 u1 v1 u2 v2:Int}{odd:Bool}(l:LS F S first second u0 v0 u1 v1 u2 v2 odd)(h1:v2<=second)(h2:v1+v2<=first-second):
 LS F S second (first%second) u1 v1 u2 v2 (u1+first/second*u2) (v1+first/second*v2) (!odd):=by
 have p:=l.v2pos
 obtain ⟨e,g,a,m,c⟩:=l
 have i:0<second:=by omega
 have f:1<=first/second:=by
  rw [Int.le_ediv_iff_mul_le i];omega
 have b:=aS first second
 have d:=aY first (show second≠0 by omega)
 have k:=aT first i
 have n:u2<=first/second*u2:=by
  have:=aC f (show 0<=u2 by omega);omega
 have o:v2<=first/second*v2:=by
  have:=aC f (show 0<=v2 by omega);omega
 have j:first/second*u2<=first/second*v2:=aE (by omega) (by omega)
 refine ⟨?_,?_,?_,⟨d,by omega⟩,.inr ⟨?_,?_,first,?_,?_,by omega,h1⟩⟩
 ·rw [e]
  generalize hq':first/second=q at *
  generalize first%second=r at *
  subst b
  grind
 ·rw [g]
  generalize hq':first/second=q at *
  generalize first%second=r at *
  subst b
  grind
 ·cases odd<;>simp at a ⊢ <;> grind
 ·rcases c with c|⟨c,_⟩
  ·left
   obtain ⟨rfl,rfl,rfl,rfl,rfl,rfl⟩:=c
   omega
  ·right;omega
 ·cases odd<;>simp at a ⊢ <;> omega
 ·rw [e]
 ·rw [g]
def LS.bound{F S first second u0 v0 u1 v1 u2 v2:Int}{odd:Bool}(l:LS F S first second u0 v0 u1 v1 u2 v2 odd)(hf:1<=first):v2<=F/\u2<=F/\u2<=v2:=by
 have g:=l.v2pos
 obtain ⟨e,d,b,c,a⟩:=l
 have f:v2*1<=v2*first:=aE hf (by omega)
 have i:0<=v1*second:=aG (by omega) (by omega)
 clear b d
 rcases a with a|⟨a,_⟩<;>omega
def LS.bound2{F S first second u0 v0 u1 v1 u2 v2:Int}{odd:Bool}(l:LS F S first second u0 v0 u1 v1 u2 v2 odd)(hs:1<=second):v1+v2<=F:=by
 have g:=l.v2pos
 obtain ⟨d,e,c,b,a⟩:=l
 have f:v2*1<=v2*first:=aE (by omega) (by omega)
 have i:v1*1<=v1*second:=aE hs (by omega)
 clear a
 omega
structure Leh (a b u0 v0 u1 v1 X0 X1:Int):Prop where
 ord:0<=X1/\X1<X0
 ha:a=v1*X0+v0*X1
 hb:b=u1*X0+u0*X1
 le:X0<=b
def Lc(a b u0 v0:Int)(odd:Bool):Int:=if odd then u0*a-v0*b else v0*b-u0*a
def Lb(a b u1 v1:Int)(odd:Bool):Int:=if odd then v1*b-u1*a else u1*a-v1*b
def LS.leh{F S first second u0 v0 u1 v1 u2 v2 a b al bl W:Int}{odd:Bool}(l:LS F S first second u0 v0 u1 v1 u2 v2 odd)(hv0:v0≠0)(hW:0<W)(ha:a=F*W+al)(hb:b=S*W+bl)(hal:0<=al/\al<W)(hbl:0<=bl/\bl<W):
 Leh a b u0 v0 u1 v1 (Lc a b u0 v0 odd) (Lb a b u1 v1 odd):=by
 have J:=l.v2pos
 obtain ⟨T,Q,z,y,p⟩:=l
 rcases p with p|⟨p,c,i,k,n,A,q⟩
 ·omega
 have D:0<=u0/\u0<=v0/\1<=v0/\1<=u1/\u1<=v1:=by omega
 have t:u0*F-v0*S=(u0*v1-u1*v0)*i:=by rw [k,n];grind
 have u:u1*F-v1*S=(u1*v0-u0*v1)*first:=by rw [k,n];grind
 have O:first*W>=v1*W:=aC q (by omega)
 have p2:(i-first)*W>=(v0+v1)*W:=aC A (by omega)
 have L:v1*bl<=v1*W:=aE (by omega) (by omega)
 have R:u1*al<=u1*W:=aE (by omega) (by omega)
 have N:u1*W<=v1*W:=aC (by omega) (by omega)
 have q4:0<=u1*al:=aG (by omega) (by omega)
 have H:0<=v1*bl:=aG (by omega) (by omega)
 have q6:(v0+v1)*(bl+1)<=(v0+v1)*W:=aE (by omega) (by omega)
 have M:(u0+u1)*(al+1)<=(u0+u1)*W:=aE (by omega) (by omega)
 have Z:(u0+u1)*W<=(v0+v1)*W:=aC (by omega) (by omega)
 have E:0<=(u0+u1)*al:=aG (by omega) (by omega)
 have x:0<=(v0+v1)*bl:=aG (by omega) (by omega)
 have j:∀ X0 X1:Int,0<=X1->X1<X0->b=u1*X0+u0*X1->X0<=b:=by
  intro X0 X1 B V e
  have G:1*X0<=u1*X0:=aC (by omega) (by omega)
  have X:0<=u0*X1:=aG (by omega) B
  omega
 cases odd with
 | true=>
  simp only [Lc,Lb,if_true] at c ⊢
  have C:v1*b-u1*a=first*W+v1*bl-u1*al:=by
   rw [c.symm.symm] at t
   have:v1*S-u1*F=first:=by
    have:u1*v0-u0*v1= -1:=by omega
    rw [this] at u;omega
   rw [ha,hb,<- this];grind
  have w:u0*a-v0*b-(v1*b-u1*a)=(i-first)*W+(u0+u1)*al-(v0+v1)*bl:=by
   have s:u0*F-v0*S=i:=by rw [c] at t;omega
   have o:v1*S-u1*F=first:=by
    have:u1*v0-u0*v1= -1:=by omega
    rw [this] at u;omega
   rw [ha,hb,<- s,<- o];grind
  have g:0<=v1*b-u1*a:=by omega
  have f:v1*b-u1*a<u0*a-v0*b:=by
   have:(v0+v1)*(bl+1)=(v0+v1)*bl+(v0+v1):=by grind
   omega
  have r:a=v1*(u0*a-v0*b)+v0*(v1*b-u1*a):=by
   have:v1*(u0*a-v0*b)+v0*(v1*b-u1*a)=(u0*v1-u1*v0)*a:=by grind
   rw [this,c];omega
  have m:b=u1*(u0*a-v0*b)+u0*(v1*b-u1*a):=by
   have:u1*(u0*a-v0*b)+u0*(v1*b-u1*a)=(u0*v1-u1*v0)*b:=by grind
   rw [this,c];omega
  exact ⟨⟨g,f⟩,r,m,j _ _ g f m⟩
 | false=>
  simp only [Lc,Lb,Bool.false_eq_true,if_false] at c ⊢
  have s:v0*S-u0*F=i:=by rw [c] at t;omega
  have o:u1*F-v1*S=first:=by
   have:u1*v0-u0*v1=1:=by omega
   rw [this] at u;omega
  have C:u1*a-v1*b=first*W+u1*al-v1*bl:=by
   rw [ha,hb,<- o];grind
  have w:v0*b-u0*a-(u1*a-v1*b)=(i-first)*W+(v0+v1)*bl-(u0+u1)*al:=by
   rw [ha,hb,<- s,<- o];grind
  have g:0<=u1*a-v1*b:=by omega
  have f:u1*a-v1*b<v0*b-u0*a:=by
   have:(u0+u1)*(al+1)=(u0+u1)*al+(u0+u1):=by grind
   omega
  have r:a=v1*(v0*b-u0*a)+v0*(u1*a-v1*b):=by
   have:v1*(v0*b-u0*a)+v0*(u1*a-v1*b)=(u1*v0-u0*v1)*a:=by grind
   have d:u1*v0-u0*v1=1:=by omega
   rw [this,d];omega
  have m:b=u1*(v0*b-u0*a)+u0*(u1*a-v1*b):=by
   have:u1*(v0*b-u0*a)+u0*(u1*a-v1*b)=(u1*v0-u0*v1)*b:=by grind
   have d:u1*v0-u0*v1=1:=by omega
   rw [this,d];omega
  exact ⟨⟨g,f⟩,r,m,j _ _ g f m⟩
def Leh.gcd{a b u0 v0 u1 v1:Int}{odd:Bool}(l:Leh a b u0 v0 u1 v1 (Lc a b u0 v0 odd) (Lb a b u1 v1 odd)):bK (Lc a b u0 v0 odd) (Lb a b u1 v1 odd)=bK a b:=by
 apply Nat.dvd_antisymm
 ·have f:=l.ha
  have g:=l.hb
  generalize Lc a b u0 v0 odd=p at *
  generalize Lb a b u1 v1 odd=q at *
  have dp:(bK p q:Int)∣p:=Int.gcd_dvd_left p q
  have e:(bK p q:Int)∣q:=Int.gcd_dvd_right p q
  rw [<- Int.ofNat_dvd]
  apply Int.dvd_coe_gcd
  ·rw [f];exact Int.dvd_add (aF dp) (aF e)
  ·rw [g];exact Int.dvd_add (aF dp) (aF e)
 ·have c:(bK a b:Int)∣a:=Int.gcd_dvd_left a b
  have d:(bK a b:Int)∣b:=Int.gcd_dvd_right a b
  rw [<- Int.ofNat_dvd]
  apply Int.dvd_coe_gcd
  ·unfold Lc;split
   ·exact bJ (aF c) (aF d)
   ·exact bJ (aF d) (aF c)
  ·unfold Lb;split
   ·exact bJ (aF d) (aF c)
   ·exact bJ (aF c) (aF d)
def Ga(pre ws:List Int)(i:Nat):(pre++ws).getD (i+pre.length) 0=ws.getD i 0:=by
 simp [aP,List.getElem?_append_right (Nat.le_add_left pre.length i)]
def Kw(pre ws:List Int)(i:Nat)(v:Int):(pre++ws).set (i+pre.length) v=pre++ws.set i v:=by
 rw [List.set_append_right _ _ (by omega),Nat.add_sub_cancel]
def Dq{B:Int}(hB:0<B){ws:List Int}{n:Nat}(d:Dig B ws)(h:val B ws<B^n):val B (ws.drop n)=0:=by
 by_cases b:n<=ws.length
 ·have e:=F3 B ws b
  have f:=C6 hB (d.take n)
  have c:=C6 hB (d.drop n)
  by_cases a:val B (ws.drop n)=0
  ·exact a
  ·have:B^n*1<=B^n*val B (ws.drop n):=aE (by omega) (aL (D5 hB n))
   omega
 ·rw [bC (by omega)];rfl
section
variable {g:Heap} {bu bq:Nat} {pre qs:List Int} {VA:Option Addr} {vs:List Int}
def B4l{n N:Nat}{ws:List Int}{q:Int}{J:LP}(hu:g bu=none)(hq:g bq=none)(hne:bu≠bq)(sv:SlI .u32 g VA vs)(dv:Dig b32 vs)(hn:n=vs.length)(dw:Dig b32 ws)(hN:N=(pre++ws).length)(hl:n<ws.length)(hbig:N<=200000000)
 (hD:val b32 (ws.take n)+val b32 vs<2*b32^n) (hD0:b32^n<=val b32 (ws.take n)+val b32 vs) (htop:ws.getD n 0=4294967295)
 (hJ:∀ ws',ws'.length=ws.length->Dig b32 ws'->ws'.drop (n+1)=ws.drop (n+1)->ws'.getD n 0=0->val b32 (ws'.take n)=val b32 (ws.take n)+val b32 vs-b32^n->J [U (C0 (q-1))] (Ak .u32 C3 g bu (pre++ws') bq qs)):
 Rh prog VA n (some ⟨bu,0,none⟩) N (pre.length:Int) q J (Ak .u32 C3 g bu (pre++ws) bq qs):=by
 unfold Rh
 refine ⟨fun l z=>∃ (k:Nat) (c:Int) (zs:List Int),l=[U c,I k]/\k<=n/\zs.length=ws.length/\Dig b32 zs/\(0<=c/\c<=1)/\z=Ak .u32 C3 g bu (pre++zs) bq qs/\zs.drop k=ws.drop k/\val b32 (zs.take k)+c*b32^k=val b32 (ws.take k)+val b32 (vs.take k),fun l _=>n-(iAt l 1).toNat,⟨0,0,ws,rfl,by omega,rfl,dw,by omega,rfl,rfl,by simp [val]⟩,?_⟩
 rintro c i L ⟨k,E,zs,u,R,b,f,O,rfl,a,B⟩
 obtain ⟨rfl,rfl⟩:c=E/\i=(k:Int):=by simpa using u
 have j:g.le (Ak .u32 C3 g bu (pre++zs) bq qs):=Rd hu hq hne
 have x:SlI .u32 (Ak .u32 C3 g bu (pre++zs) bq qs) (some ⟨bu,0,none⟩) (pre++zs):=Wa hne
 have d:N=(pre++zs).length:=by rw [hN,aK,aK,b]
 have C:N=pre.length+zs.length:=by rw [d,aK]
 have m:B4 ((k:Int)+pre.length)=((k+pre.length:Nat):Int):=by rw [B7 (by omega) (by omega)];omega
 have o:B4 ((pre.length:Int)+n)=((n+pre.length:Nat):Int):=by rw [B7 (by omega) (by omega)];omega
 refine B6 (fun A=>?_) (fun A=>?_)
 ·have H:=Bv dv k
  have M:=Bv f k
  have e:=E5 a
  have D:=C4 b32 vs k
  have F:=C4 b32 ws k
  rw [m]
  refine x.load d (by omega) (by omega) ?_
  refine (sv.mono j).load hn (by omega) (by omega) ?_
  simp only [aD,Ga]
  have y:C0 (c+C0 (C0 (zs.getD k 0)+C0 (vs.getD k 0)))=c+zs.getD k 0+vs.getD k 0:=by
   rw [C2 (n:=zs.getD k 0) (by omega) (by omega),C2 (n:=vs.getD k 0) (by omega) (by omega),C2 (n:=zs.getD k 0+vs.getD k 0) (by omega) (by omega),C2 (by omega) (by omega)];omega
  rw [y]
  refine ⟨_,rfl,by omega,by omega,?_⟩
  refine O7 (us:=pre++zs) (i:=((k+pre.length:Nat):Int)) K5 hne (by rw [aD];omega) ?_
  rw [aD,Kw,Y5,Xf,B7 (n:=(k:Int)+1) (by omega) (by omega)]
  refine ⟨⟨k+1,_,zs.set k ((c+zs.getD k 0+vs.getD k 0)%4294967296),rfl,by omega,by simpa using b,f.set (A3r _),by omega,rfl,?_,?_⟩,by simp only [iAt,aH,aR];omega⟩
  ·rw [D3 (by omega)];exact D6 a
  ·rw [C7 (by omega),F0,aI,aJ (by omega),aQ,Cf,D,F,<- e]
   grind
 ·have s:k=n:=by omega
  subst s
  have e:=E5 a
  rw [o]
  refine x.load d (by omega) (by omega) ?_
  rw [aD,Ga,e,htop]
  refine ⟨_,rfl,by omega,by omega,?_⟩
  refine O7 (us:=pre++zs) (i:=((k+pre.length:Nat):Int)) K5 hne (by rw [aD];omega) ?_
  rw [aD,Kw]
  have r:vs.take k=vs:=by rw [hn,aM]
  rw [r] at B
  have p:=L5 (by decide) (f.take k)
  rw [aI,aJ (by omega)] at p
  have Q:=C6 (by decide) (f.take k)
  have w:c=1:=by
   by_cases t:c=0
   ·subst t;omega
   ·omega
  subst w
  have G:F6 (4294967295+F6 1)=0:=by rw [O1 (n:=1) (by omega) (by omega),Y5];omega
  rw [G]
  refine hJ (zs.set k 0) (by simpa using b) (f.set (by decide)) (by rw [D3 (by omega)];exact D6 a) (by simp [aP,show k<zs.length by omega]) ?_
  rw [bG (by omega)]
  omega
def B0f{n N nq:Nat}{ws:List Int}{q X Y:Int}{J:LP}(hu:g bu=none)(hq:g bq=none)(hne:bu≠bq)(sv:SlI .u32 g VA vs)(dv:Dig b32 vs)(hn:n=vs.length)(dw:Dig b32 ws)(hN:N=(pre++ws).length)(hl:n<ws.length)(hbig:N<=200000000)
 (hnq:nq=qs.length) (hjq:pre.length<qs.length)
 (hX:X=val b32 (ws.take n)+b32^n*ws.getD n 0) (hY:Y=val b32 vs) (hq0:0<=q) (hq1:q<=4294967296) (hlt:X<(q+1)*Y) (hge:(q-1)*Y<=X) (hXB:X<Y*4294967296)
 (hJ:∀ ws' q',ws'.length=ws.length->Dig b32 ws'->ws'.drop (n+1)=ws.drop (n+1)->ws'.getD n 0=0->val b32 (ws'.take n)=X-q'*Y->0<=X-q'*Y->X-q'*Y<Y->0<=q'->q'<4294967296->J [] (Ak .u32 C3 g bu (pre++ws') bq (qs.set pre.length q'))):
 Ri prog VA n (some ⟨bu,0,none⟩) N (some ⟨bq,0,none⟩) nq (pre.length:Int) J q (Ak .u32 C3 g bu (pre++ws) bq qs):=by
 have ac:Y<b32^n:=by rw [hY,hn];exact L5 (by decide) dv
 have ag:0<=X:=by
  have y:=C6 (by decide) (dw.take n)
  have h2:=aG (aL (D5 (B:=b32) (by decide) n)) (Bv dw n).1
  omega
 have O:0<Y:=by
  by_cases h0:0<Y
  ·exact h0
  ·have:Y=0:=by have:=C6 (by decide) dv;omega
   rw [this] at hXB;omega
 have E:∀ ws' q',ws'.length=ws.length->Dig b32 ws'->ws'.drop (n+1)=ws.drop (n+1)->ws'.getD n 0=0->val b32 (ws'.take n)=X-q'*Y->0<=X-q'*Y->X-q'*Y<Y->0<=q'->Rl prog (some ⟨bq,0,none⟩) nq (pre.length:Int) J q' (Ak .u32 C3 g bu (pre++ws') bq qs):=by
  intro ws' q' y h2 h3 h4 h5 h6 h7 h8
  have u:q'<4294967296:=by
   by_cases m:q'<4294967296
   ·exact m
   ·have:=aC (show 4294967296<=q' by omega) (aL O)
    rw [aO Y] at hXB;omega
  unfold Rl
  refine ⟨_,rfl,by omega,by omega,?_⟩
  refine Wb (i:=(pre.length:Int)) K5 (by rw [aD];omega) ?_
  rw [aD,O1 h8 (by omega)]
  exact hJ ws' q' y h2 h3 h4 h5 h6 h7 h8 u
 unfold Ri
 refine ⟨fun l T=>∃ (k:Nat) (c b:Int) (zs:List Int),l=[U c,U b,I k]/\k<=n/\zs.length=ws.length/\Dig b32 zs/\(0<=c/\c<4294967296)/\(0<=b/\b<=1)/\T=Ak .u32 C3 g bu (pre++zs) bq qs/\zs.drop k=ws.drop k/\val b32 (zs.take k)=val b32 (ws.take k)-q*val b32 (vs.take k)+(c+b)*b32^k,fun l _=>n-(iAt l 2).toNat,⟨0,0,0,ws,rfl,by omega,rfl,dw,by omega,by omega,rfl,rfl,by simp [val]⟩,?_⟩
 rintro c b i hp ⟨k,c',b',zs,Z,hk,f,o,m,hb,rfl,d,W⟩
 obtain ⟨rfl,rfl,rfl⟩:c=c'/\b=b'/\i=(k:Int):=by simpa using Z
 have z:g.le (Ak .u32 C3 g bu (pre++zs) bq qs):=Rd hu hq hne
 have su:SlI .u32 (Ak .u32 C3 g bu (pre++zs) bq qs) (some ⟨bu,0,none⟩) (pre++zs):=Wa hne
 have j:N=(pre++zs).length:=by rw [hN,aK,aK,f]
 have ai:N=pre.length+zs.length:=by rw [j,aK]
 have H:B4 ((k:Int)+pre.length)=((k+pre.length:Nat):Int):=by rw [B7 (by omega) (by omega)];omega
 have L:B4 ((pre.length:Int)+n)=((n+pre.length:Nat):Int):=by rw [B7 (by omega) (by omega)];omega
 refine B6 (fun y=>?_) (fun y=>?_)
 ·have gv:=Bv dv k
  have gz:=Bv o k
  have r:=E5 d
  have vv:=C4 b32 vs k
  have vw:=C4 b32 ws k
  refine (sv.mono z).load hn (by omega) (by omega) ?_
  rw [H]
  refine su.load j (by omega) (by omega) ?_
  simp only [aD,Ga]
  have hm:0<=q*vs.getD k 0/\q*vs.getD k 0<=4294967296*4294967295:=⟨aG hq0 gv.1,bO hq1 (by omega) gv.1 (by decide)⟩
  have ep:C0 (C0 (q*C0 (vs.getD k 0))+c)=q*vs.getD k 0+c:=by
   rw [C2 (n:=vs.getD k 0) (by omega) (by omega),C2 (n:=q*vs.getD k 0) (by omega) (by omega),C2 (by omega) (by omega)]
  rw [ep,Cg (by omega),Xf,Xf,C2 (n:=zs.getD k 0) (by omega) (by omega)]
  generalize w:q*vs.getD k 0+c=p at *
  have af:0<=p/\p<18446744073709551616:=by omega
  have V:C0 (C0 (zs.getD k 0-p%4294967296)-b)=(zs.getD k 0-p%4294967296-b)%18446744073709551616:=by
   rw [E4,E4];omega
  rw [V,Zb (by omega)]
  refine ⟨_,rfl,by omega,by omega,?_⟩
  refine O7 (us:=pre++zs) (i:=((k+pre.length:Nat):Int)) K5 hne (by rw [aD];omega) ?_
  rw [aD,Kw,Y5,B7 (n:=(k:Int)+1) (by omega) (by omega)]
  refine ⟨⟨k+1,_,_,zs.set k ((zs.getD k 0-p%4294967296-b)%18446744073709551616%4294967296),rfl,by omega,by simpa using f,o.set (A3r _),by omega,by omega,rfl,?_,?_⟩,by simp only [iAt,aH,aR];omega⟩
  ·rw [D3 (by omega)];exact D6 d
  ·rw [C7 (by omega),F0,aI,aJ (by omega),aQ,vv,vw,<- r,W]
   have key:(zs.getD k 0-p%4294967296-b)%18446744073709551616%4294967296=zs.getD k 0-p-b+4294967296*(p/4294967296+(zs.getD k 0-p%4294967296-b)%18446744073709551616/4294967296%2):=by omega
   rw [key,<- w]
   grind
 ·have S:k=n:=by omega
  subst S
  have r:=E5 d
  have gz:=Bv o k
  have R:vs.take k=vs:=by rw [hn,aM]
  rw [R,<- hY] at W
  have D:=L5 (by decide) (o.take k)
  rw [aI,aJ (by omega)] at D
  have ah:=C6 (by decide) (o.take k)
  rw [L]
  refine su.load j (by omega) (by omega) ?_
  rw [aD,Ga]
  have hD:X-q*Y=val b32 (zs.take k)+(zs.getD k 0-c-b)*b32^k:=by
   rw [W,hX,r];grind
  have t:X-q*Y<Y:=by
   have:(q+1)*Y=q*Y+Y:=by grind
   omega
  have ae: -Y<=X-q*Y:=by
   have:(q-1)*Y=q*Y-Y:=by grind
   omega
  have w:0<b32^k:=D5 (by decide) k
  have a:zs.getD k 0-c-b=0\/zs.getD k 0-c-b= -1:=by
   have h2:zs.getD k 0-c-b<1:=by
    by_cases m:zs.getD k 0-c-b<1
    ·exact m
    ·have:=aC (show 1<=zs.getD k 0-c-b by omega) (aL w);omega
   have h3: -2<zs.getD k 0-c-b:=by
    by_cases m: -2<zs.getD k 0-c-b
    ·exact m
    ·have:=aC (show zs.getD k 0-c-b <= -2 by omega) (aL w);omega
   omega
  have V:C0 (C0 (C0 (zs.getD k 0)-c)-b)=(zs.getD k 0-c-b)%18446744073709551616:=by
   rw [C2 (n:=zs.getD k 0) (by omega) (by omega),E4,E4];omega
  rw [V]
  have F:∀ x:Int,Int.fdiv x (2^(min ((63:Int)).toNat 64))=x/9223372036854775808:=by
   intro x;rw [show (2:Int)^(min ((63:Int)).toNat 64)=9223372036854775808 by decide];exact bU x (by decide)
  refine ⟨_,rfl,by omega,by omega,?_⟩
  refine O7 (us:=pre++zs) (i:=((k+pre.length:Nat):Int)) K5 hne (by rw [aD];omega) ?_
  rw [aD,Kw,Y5,F]
  have s:∀ v,(zs.set k v).getD k 0=v:=by intro v;simp [aP,show k<zs.length by omega]
  refine ⟨fun l T=>∃ ws' q',l=[U q']/\T=Ak .u32 C3 g bu (pre++ws') bq qs/\ws'.length=ws.length/\Dig b32 ws'/\ws'.drop (k+1)=ws.drop (k+1)/\ws'.getD k 0=0/\val b32 (ws'.take k)=X-q'*Y/\0<=X-q'*Y/\X-q'*Y<Y/\0<=q',?_,?_⟩
  ·rcases a with a|a
   ·rw [a] at hD ⊢
    refine D8 (fun e=>absurd e (by decide)) (fun _=>?_)
    refine ⟨zs.set k (0%18446744073709551616%4294967296),q,rfl,rfl,by simpa using f,o.set (by decide),by rw [D3 (by omega)];exact D6 d,s _,?_,by omega,t,hq0⟩
    rw [bG (by omega)];omega
   ·rw [a] at hD ⊢
    refine D8 (fun _=>?_) (fun e=>absurd (by decide) e)
    have aa:1<=q:=by
     by_cases m:1<=q
     ·exact m
     ·have:q=0:=by omega
      subst this;omega
    have A:(zs.set k (-1%18446744073709551616%4294967296)).take k=zs.take k:=bG (by omega)
    have e1:(q-1)*Y=q*Y-Y:=by grind
    refine B4l (ws:=zs.set k (-1%18446744073709551616%4294967296)) hu hq hne sv dv hn (o.set (by decide)) (by rw [j];simp) (by simpa using (show k<zs.length by omega)) hbig ?_ ?_ (s _) ?_
    ·rw [A,<- hY];omega
    ·rw [A,<- hY];omega
    ·intro ws' G Q g3 C g5
     rw [A,<- hY] at g5
     rw [C2 (n:=q-1) (by omega) (by omega)]
     refine ⟨ws',q-1,rfl,rfl,by rw [G];simpa using f,Q,?_,C,by omega,by omega,by omega,by omega⟩
     rw [g3,D3 (by omega)];exact D6 d
  ·rintro q2 ad ⟨ws',q',M,rfl,G,Q,g3,C,g5,g6,g7,g8⟩
   obtain rfl:q2=q':=by simpa using M
   exact E ws' q2 G Q g3 C g5 g6 g7 g8
end
def A2o(B:Int)(xs:List Int)(i:Nat):val B (xs.drop i)=xs.getD i 0+B*val B (xs.drop (i+1)):=by
 by_cases a:i<xs.length
 ·exact Mq B a
 ·rw [bC (by omega),bC (by omega)]
  simp [val,aP,aU (Nat.le_of_not_lt a)]
def Na{s:Nat}(hs:s<=32):(2:Int)^s*2^(32-s)=4294967296:=by
 rw [<- Int.pow_add,show s+(32-s)=32 by omega];decide
section
variable {h g:Heap} {K:VP} {A B:Option Addr} {ac bc:Nat} {bu bq:Nat} {VA:Option Addr} {vs us0:List Int}
def B2i{s nq cq rn cr:Nat}{rs tl qs:List Int}{Q R:Int}(hu:g bu=none)(hq:g bq=none)(hne:bu≠bq)(hs:s<32)(hrn:rn=rs.length)(hcr:rn<=cr)(hnq:nq=qs.length)(hcq:nq<=cq)(dq:Dig b32 qs)(dr:Dig b32 rs)(hb1:nq<=200000000)(hb2:rn<=200000000)(hQ:val b32 qs=Q)(hR:val b32 rs=R*2^s)
 (hK:∀ A1 m1 c1 A2 m2 c2 h',g.le h'->m1<=c1->m2<=c2->Mg h' A1 m1 Q->Mg h' A2 m2 R->K (.tuple #[.slice A1 m1 c1,.slice A2 m2 c2]) h'):
 Ke prog K (s:Int) (some ⟨bq,0,none⟩) nq cq (some ⟨bu,0,none⟩) rn cr (Ak .u32 C3 g bu (rs++tl) bq qs):=by
 have p:0<(2:Int)^s:=aX (by decide)
 have d:=Na (Nat.le_of_lt hs)
 have r:0<(2:Int)^(32-s):=aX (by decide)
 unfold Ke
 refine ⟨fun l h'=>∃ (k:Nat) (zs:List Int),l=[I k]/\k<=rn/\zs.length=rs.length/\Dig b32 zs/\h'=Ak .u32 C3 g bu (zs++tl) bq qs/\zs.drop k=rs.drop k/\2^s*val b32 (zs.take k)+rs.getD 0 0%2^s=val b32 (rs.take k)+b32^k*(rs.getD k 0%2^s),fun l _=>rn-(iAt l 0).toNat,⟨0,rs,rfl,by omega,rfl,dr,rfl,rfl,by simp [val]⟩,?_⟩
 rintro i T ⟨k,zs,H,hk,a,x,rfl,b,y⟩
 obtain rfl:=sI1 H
 have w:∀ zs:List Int,SlI .u32 (Ak .u32 C3 g bu (zs++tl) bq qs) (some ⟨bu,0,none⟩) zs:=by
  intro zs
  have:=(Wa (g:=g) (k:=.u32) (e:=C3) (us:=zs++tl) (qs:=qs) hne).cut (c:=(zs++tl).length) (l:=0) (m:=zs.length) (by omega) (by simp) (aW _)
  simpa [H8] using this
 have D:B4 ((k:Int)+1)=((k+1:Nat):Int):=by rw [B7 (by omega) (by omega)];omega
 have M:=Bv x k
 have u:=E5 b
 refine B6 (fun S=>?_) (fun S=>?_)
 ·refine (w zs).load (by omega) (by omega) (by omega) ?_
  refine B6 (fun e=>absurd e (by omega)) (fun _=>?_)
  refine ⟨_,rfl,by omega,by omega,?_⟩
  simp only [aD]
  rw [aJ (by omega),bU _ (aL p)]
  refine O7 (us:=zs++tl) (i:=(k:Int)) K5 hne (by rw [aD,aK];omega) ?_
  rw [aD,List.set_append_left _ _ (by omega),D]
  have f:0<=zs.getD k 0/2^s:=aZ M.1 (by omega)
  have J:zs.getD k 0/2^s<2^(32-s):=by
   apply aV p
   rw [aO,d];exact M.2
  have t:(2:Int)^(32-s)<=4294967296:=by
   rw [<- d]
   have:=aC (show 1<=(2:Int)^s by omega) (aL r);omega
  have d1:Dig b32 (zs.set k (zs.getD k 0/2^s)):=x.set ⟨f,by show _<(4294967296:Int);omega⟩
  have l1:(zs.set k (zs.getD k 0/2^s)).length=rs.length:=by rw [bD];exact a
  have g1:(zs.set k (zs.getD k 0/2^s)).getD k 0=zs.getD k 0/2^s:=by simp [aP,show k<zs.length by omega]
  have g2:(zs.set k (zs.getD k 0/2^s)).getD (k+1) 0=rs.getD (k+1) 0:=by
   rw [A63 (by omega)];exact E5 (D6 b)
  have vr:=C4 b32 rs k
  have o:∀ z:Int,(0<=z/\z<4294967296)->2^s*z=zs.getD k 0-zs.getD k 0%2^s+4294967296*(rs.getD (k+1) 0%2^s)->
   2^s*val b32 ((zs.set k z).take (k+1))+rs.getD 0 0%2^s=val b32 (rs.take (k+1))+b32^(k+1)*(rs.getD (k+1) 0%2^s):=by
   intro z hz ez
   rw [C7 (by omega),F0,aI,aJ (by omega),vr,aQ,<- u]
   rw [<- u] at y
   have e1:2^s*(val b32 (zs.take k)+b32^k*z)=2^s*val b32 (zs.take k)+b32^k*(2^s*z):=by grind
   rw [e1,ez]
   grind
  have ac:=aS (zs.getD k 0) (2^s)
  refine B6 (fun h2=>?_) (fun h2=>?_)
  ·refine (w _).load (by omega) (by omega) (by omega) ?_
   refine (w _).load (by omega) (by omega) (by omega) ?_
   simp only [aD,g1,g2]
   have W:C0 ((32:Int)-s)=((32-s:Nat):Int):=by rw [C2 (by omega) (by omega)];omega
   rw [W]
   refine B6 (fun e=>absurd e (by omega)) (fun _=>?_)
   refine ⟨_,rfl,by omega,by omega,?_⟩
   have N:=Bv dr (k+1)
   have A:0<=rs.getD (k+1) 0*2^(32-s):=aG N.1 (by omega)
   have C:rs.getD (k+1) 0*2^(32-s)<18446744073709551616:=by
    have:=bO (show rs.getD (k+1) 0<=4294967295 by omega) t (by omega) (by decide)
    omega
   rw [aD,aJ (show 32-s<=64 by omega),C2 (n:=rs.getD (k+1) 0) (by omega) (by omega),C2 A C,Y5]
   obtain ⟨X,O⟩:=A8c (s:=32-s) (by omega) N ⟨f,J⟩
   rw [X]
   refine O7 (us:=zs.set k (zs.getD k 0/2^s)++tl) (i:=(k:Int)) K5 hne (by rw [aD,aK];omega) ?_
   rw [aD,List.set_append_left _ _ (by omega),List.set_set]
   have V:=A3r (rs.getD (k+1) 0*2^(32-s))
   refine ⟨⟨k+1,zs.set k (zs.getD k 0/2^s+rs.getD (k+1) 0*2^(32-s)%4294967296),rfl,by omega,by simpa using a,x.set ⟨by omega,O⟩,rfl,by rw [D3 (by omega)];exact D6 b,o _ ⟨by omega,O⟩ ?_⟩,by simp only [iAt,aH];omega⟩
   have Z:rs.getD (k+1) 0*2^(32-s)%4294967296=2^(32-s)*(rs.getD (k+1) 0%2^s):=by
    rw [<- d,aO (2^s),aO (rs.getD (k+1) 0),bW _ _ r]
   rw [Z,Int.mul_add,<- Int.mul_assoc,d]
   omega
  ·have B:k+1=rs.length:=by omega
   have L:rs.getD (k+1) 0=0:=by simp [aP,aU (show rs.length<=k+1 by omega)]
   refine ⟨⟨k+1,zs.set k (zs.getD k 0/2^s),rfl,by omega,l1,d1,rfl,by rw [D3 (by omega)];exact D6 b,o _ ⟨f,by omega⟩ ?_⟩,by simp only [iAt,aH];omega⟩
   rw [L,Int.zero_emod,bH,bY];omega
 ·have F:k=rs.length:=by omega
  subst F
  have L:rs.getD rs.length 0=0:=by simp [aP]
  rw [aM,<- a,aM,a,L] at y
  have G:val b32 zs=R:=by
   have h0:=aY (rs.getD 0 0) (show (2:Int)^s≠0 by omega)
   have S:=aT (rs.getD 0 0) p
   rw [hR] at y
   simp at y
   have:2^s*(R-val b32 zs)=rs.getD 0 0%2^s:=by
    have:2^s*(R-val b32 zs)=R*2^s-2^s*val b32 zs:=by grind
    simp only [aP] at *
    omega
   have hz:R-val b32 zs=0:=by
    by_cases hc:R-val b32 zs<=0
    ·by_cases E:R-val b32 zs=0
     ·exact E
     ·have:=aE (show R-val b32 zs <= -1 by omega) (aL p);omega
    ·have:=aE (show 1<=R-val b32 zs by omega) (aL p);omega
   omega
  rw [hnq]
  refine Y8 B9i dq (by omega) (by omega) ?_
  intro m1 ad j
  refine ⟨_,_,_,rfl,?_⟩
  rw [hrn,<- a]
  refine Y8 (w zs) x (by omega) (by omega) ?_
  intro m2 aa q
  rw [hQ] at j
  rw [G] at q
  exact ⟨_,_,_,rfl,hK _ _ _ _ _ _ _ (Rd hu hq hne) (by omega) (by omega) j q⟩
def B0m{s mm N nq:Nat}{us0:List Int}{a b Y:Int}(hu:g bu=none)(hq:g bq=none)(hne:bu≠bq)(sv:SlI .u32 g VA vs)(dv:Dig b32 vs)(hn:vs.length=mm+2)(hv1:4294967296<=2*vs.getD (mm+1) 0)(hs:s<32)(hY:val b32 vs=Y)(hYb:Y=b*2^s)(du:Dig b32 us0)(hN:us0.length=N)(hua:val b32 us0=a*2^s)(hnq:N=nq+(mm+2))(hnq1:1<=nq)(hbig:N<=200000000)(htop:val b32 (us0.drop nq)<Y)
 (hK:∀ A1 m1 c1 A2 m2 c2 h',g.le h'->m1<=c1->m2<=c2->Mg h' A1 m1 (a/b)->Mg h' A2 m2 (a%b)->K (.tuple #[.slice A1 m1 c1,.slice A2 m2 c2]) h'):
 Rk prog K (s:Int) VA (mm+2) (some ⟨bu,0,none⟩) N N (some ⟨bq,0,none⟩) nq nq (Ak .u32 C3 g bu us0 bq (bL nq 0)):=by
 have hp:0<(2:Int)^s:=aX (by decide)
 have aw:Y<b32^(mm+2):=by rw [<- hY,<- hn];exact L5 (by decide) dv
 have ax:0<Y:=by have:=C6 (by decide) (du.drop nq);omega
 have e0:B4 (B4 ((N:Int)-((mm+2:Nat):Int))-1)=(nq:Int)-1:=by rw [B7 (n:=(N:Int)-((mm+2:Nat):Int)) (by omega) (by omega),B7 (by omega) (by omega)];omega
 unfold Rk
 refine ⟨fun l h'=>∃ (k:Nat) (us qs:List Int),l=[I ((k:Int)-1)]/\k<=nq/\us.length=N/\qs.length=nq/\Dig b32 us/\Dig b32 qs/\h'=Ak .u32 C3 g bu us bq qs/\val b32 (us.drop k)<Y/\val b32 us0=val b32 (qs.drop k)*Y*b32^k+val b32 us,fun l _=>(iAt l 0+1).toNat,⟨nq,us0,_,by rw [e0],by omega,hN,by simp,du,I0 (by decide) _,rfl,htop,by simp [val]⟩,?_⟩
 rintro j au ⟨k,us,qs,aj,hk,o,z,f,C,rfl,ao,W⟩
 obtain rfl:j=(k:Int)-1:=by simpa using aj
 have A:g.le (Ak .u32 C3 g bu us bq qs):=Rd hu hq hne
 have S:SlI .u32 (Ak .u32 C3 g bu us bq qs) (some ⟨bu,0,none⟩) us:=Wa hne
 unfold Zr
 refine B6 (fun h1=>?_) (fun h1=>?_)
 ·obtain ⟨j,rfl⟩:∃ j,k=j+1:=⟨k-1,by omega⟩
  have ej:((j+1:Nat):Int)-1=(j:Int):=by omega
  rw [ej]
  have e1:B4 ((j:Int)+((mm+2:Nat):Int))=((j+(mm+2):Nat):Int):=by rw [B7 (by omega) (by omega)];omega
  have e2:B4 (((j+(mm+2):Nat):Int)-1)=((j+(mm+1):Nat):Int):=by rw [B7 (by omega) (by omega)];omega
  have e3:B4 (((mm+2:Nat):Int)-1)=((mm+1:Nat):Int):=by rw [B7 (by omega) (by omega)];omega
  rw [e1,e2,e3]
  have E:=f.drop j
  have R:(us.drop j).length=N-j:=by rw [List.length_drop,o]
  have aa:∀ i,(us.drop j).getD i 0=us.getD (j+i) 0:=fun i=>A40
  have t:val b32 ((us.drop j).drop (mm+3))=0:=by
   have:=Dq (B:=b32) (by decide) (n:=mm+2) (f.drop (j+1)) (by omega)
   rw [bB] at this ⊢
   rw [show j+(mm+3)=j+1+(mm+2) by omega];exact this
  have al:=A2o b32 us j
  have G:val b32 (us.drop j)<Y*4294967296:=by
   have:=Bv f j
   rw [al]
   have:b32*(val b32 (us.drop (j+1))+1)<=b32*Y:=aE (by omega) (by decide)
   have e:b32*(val b32 (us.drop (j+1))+1)=b32*val b32 (us.drop (j+1))+4294967296:=by show (4294967296:Int)*_=_;grind
   have e':Y*4294967296=b32*Y:=aO _ _
   omega
  have u:=F3 b32 (us.drop j) (i:=mm+3) (by omega)
  rw [t,bH,bY] at u
  have ad:=G1 b32 (us.drop j) (mm+2)
  have hX:val b32 (us.drop j)=val b32 ((us.drop j).take (mm+2))+b32^(mm+2)*(us.drop j).getD (mm+2) 0:=by rw [u];exact ad
  have es:=B9d (B:=b32) (by decide) (us:=(us.drop j).take (mm+3)) (m:=mm) (E.take _) dv (by rw [aI,R];omega) hn hv1 (by rw [<- u,hY];exact G)
  have V:∀ i,i<mm+3->((us.drop j).take (mm+3)).getD i 0=us.getD (j+i) 0:=by
   intro i hi
   rw [<- aa];simp [aP,hi]
  rw [V (mm+2) (by omega),V (mm+1) (by omega),V mm (by omega),<- u,hY] at es
  refine ⟨fun l h'=>∃ d r,l=[]/\h'=Ak .u32 C3 g bu d bq (qs.set j r)/\d.length=N/\Dig b32 d/\(0<=r/\r<4294967296)/\val b32 (d.drop j)<Y/\val b32 (d.drop j)=val b32 (us.drop j)-r*Y/\d.take j=us.take j,?_,?_⟩
  ·refine S.load o.symm (by omega) (by omega) ?_
   refine S.load o.symm (by omega) (by omega) ?_
   refine (sv.mono A).load hn.symm (by omega) (by omega) ?_
   simp only [aD]
   have ar:=Bv dv (mm+1)
   have ew:C0 (vs.getD (mm+1) 0)=vs.getD (mm+1) 0:=C2 (by omega) (by omega)
   refine B6 (fun e=>absurd (ew.symm.trans e) (by omega)) (fun _=>?_)
   refine (sv.mono A).load hn.symm (by omega) (by omega) ?_
   simp only [aD]
   refine B6 (fun e=>absurd (ew.symm.trans e) (by omega)) (fun _=>?_)
   refine ⟨fun l h'=>∃ q,l=[U q]/\h'=Ak .u32 C3 g bu us bq qs/\0<=q/\q<=4294967296/\val b32 (us.drop j)<(q+1)*Y/\(q-1)*Y<=val b32 (us.drop j),?_,?_⟩
   ·have:=B7k (us:=us) (vs:=vs) (n:=mm+2) (j:=j) (J:=fun l h'=>∃ q,l=[U q]/\h'=Ak .u32 C3 g bu us bq qs/\0<=q/\q<=4294967296/\val b32 (us.drop j)<(q+1)*Y/\(q-1)*Y<=val b32 (us.drop j)) es (sv.mono A) S hn.symm (by omega) (by omega) (by omega) rfl rfl (by rw [show j+(mm+2)-2=j+mm by omega]) (Bv f (j+(mm+2))) (Bv f (j+(mm+1))) rfl (fun q q0 q1 q2 q3=>⟨q,rfl,rfl,q0,q1,q2,q3⟩)
    rw [o] at this
    exact this
   ·rintro q av ⟨r,ah,rfl,ag,am,F,Q⟩
    obtain rfl:q=r:=by simpa using ah
    unfold Zp
    have p:(us.take j).length=j:=by rw [aI,o];omega
    have:=B0f (g:=g) (bu:=bu) (bq:=bq) (pre:=us.take j) (qs:=qs) (VA:=VA) (vs:=vs) (n:=mm+2) (N:=N) (nq:=nq) (ws:=us.drop j) (q:=q) (X:=val b32 (us.drop j)) (Y:=Y)
     (J:=fun l h'=>∃ d r,l=[]/\h'=Ak .u32 C3 g bu d bq (qs.set j r)/\d.length=N/\Dig b32 d/\(0<=r/\r<4294967296)/\val b32 (d.drop j)<Y/\val b32 (d.drop j)=val b32 (us.drop j)-r*Y/\d.take j=us.take j)
     hu hq hne sv dv hn.symm E (by rw [bF,o]) (by omega) hbig z.symm (by omega) hX hY.symm ag am F Q G ?_
    ·rw [bF,p] at this
     exact this
    ·intro D r w1 w2 w3 w4 w5 w6 w7 w8 w9
     refine ⟨us.take j++D,r,rfl,by rw [p],by rw [aK,w1,R,p];omega,Dig.append (f.take j) w2,⟨w8,w9⟩,?_,?_,?_⟩
     all_goals first|(rw [List.drop_left' p])|(rw [List.take_left' p])
     all_goals
      have z1:=F3 b32 D (i:=mm+3) (by omega)
      rw [w3,t,G1,w4,w5] at z1
      simp at z1
      omega
  ·rintro ap ⟨d,r,_,rfl,u1,u2,u3,u4,u5,u6⟩
   unfold Zq
   have an:B4 ((j:Int)-1)=(j:Int)-1:=B7 (by omega) (by omega)
   rw [an]
   refine ⟨⟨j,d,qs.set j r,rfl,by omega,u1,by simpa using z,u2,C.set u3,rfl,u4,?_⟩,by simp only [iAt,aH];omega⟩
   have T:=F3 b32 d (i:=j) (by omega)
   have ai:=F3 b32 us (i:=j) (by omega)
   rw [W,V7 (by omega),T,ai,u5,u6,aQ]
   simp only [val]
   grind
 ·have ak:k=0:=by omega
  subst ak
  simp at ao W
  have ay:0<b:=by
   by_cases H:0<b
   ·exact H
   ·have:=aC (show b<=0 by omega) (aL hp);omega
  have aq:=C6 (by decide) f
  have hR:val b32 us=(a-val b32 qs*b)*2^s:=by
   rw [hua,hYb] at W
   grind
  have Z:0<=a-val b32 qs*b:=by
   by_cases H:0<=a-val b32 qs*b
   ·exact H
   ·have:=aC (show a-val b32 qs*b <= -1 by omega) (aL hp);omega
  have ae:a-val b32 qs*b<b:=by
   by_cases H:a-val b32 qs*b<b
   ·exact H
   ·have:=aC (show b<=a-val b32 qs*b by omega) (aL hp);omega
  have y:a/b=val b32 qs:=by
   have:a=(a-val b32 qs*b)+val b32 qs*b:=by omega
   rw [this,bZ _ _ (by omega),bX Z ae,Int.zero_add]
  have O:a%b=a-val b32 qs*b:=by
   have:=Int.emod_def a b
   rw [this,y,aO]
  rw [y,O] at hK
  have hz:=Dq (B:=b32) (by decide) (n:=mm+2) f (by omega)
  have x:=F3 b32 us (i:=mm+2) (by omega)
  rw [hz,bH,bY] at x
  refine ⟨⟨by omega,by omega⟩,?_⟩
  rw [H8,aD,Nat.sub_zero,Nat.sub_zero]
  have w:(us.take (mm+2)).length=mm+2:=by rw [aI,o];omega
  have st:SlI .u32 (Ak .u32 C3 g bu us bq qs) (some ⟨bu,0,none⟩) (us.take (mm+2)):=by
   have:=S.cut (c:=N) (l:=0) (m:=mm+2) (by omega) (by omega) (by omega)
   simpa [H8] using this
  have tr:=A2s (K:=fun r7 M=>∃ (t259A:Option Addr) (t259n:Nat) (t259c:Nat),r7= .slice t259A t259n t259c/\Ke prog K (s:Int) (some ⟨bq,0,none⟩) nq nq t259A t259n t259c M) (ac:=N) st (by omega) (by omega) ?_
  ·rw [w] at tr;exact tr
  ·intro m hm az L
   rw [w] at hm
   rw [List.take_take,aJ hm] at L
   refine ⟨_,_,_,rfl,?_⟩
   have af:us=us.take m++us.drop m:=(bF m us).symm
   rw [af]
   refine B2i (rs:=us.take m) (tl:=us.drop m) (qs:=qs) hu hq hne hs (by rw [aI,o];omega) (by omega) z.symm (aW _) C (f.take m) (by omega) (by omega) rfl ?_ hK
   rw [L,<- x,hR]
end
