/- A part. -/
import Derived.Test.YtmbfcbbkbefgfaaGreatDoorG14
import Derived.Test.YtmbfcbbkbefgfaaGreatDoorG15
open Go.Proofs.Tryz
set_option linter.all false
open Int renaming mul_le_mul_of_nonneg_right->aC,toNat_natCast->aD,mul_le_mul_of_nonneg_left->aE,dvd_mul_of_dvd_right->aF,mul_nonneg->aG,le_of_lt->aL,mul_comm->aO,pow_succ->aQ,mul_ediv_add_emod->aS,emod_lt_of_pos->aT,ediv_lt_of_lt_mul->aV,pow_pos->aX,emod_nonneg->aY,ediv_nonneg->aZ,mul_zero->bH,mul_pos->bI,dvd_sub->bJ,gcd->bK,tmod_eq_emod_of_nonneg->bM,tdiv_eq_ediv_of_nonneg->bN,mul_le_mul->bO,fdiv_eq_ediv_of_nonneg->bU,mul_emod_mul_of_pos->bW,ediv_eq_zero_of_lt->bX,add_zero->bY,add_mul_ediv_right->bZ
open List renaming getElem?_cons_zero->aH,length_take->aI,length_append->aK,take_length->aM,take_of_length_le->aN,getD->aP,getElem?_cons_succ->aR,getElem?_eq_none->aU,drop_drop->bB,drop_of_length_le->bC,length_set->bD,take_append_drop->bF,take_set_of_le->bG,replicate->bL,drop_eq_getElem_cons->bV
open Nat renaming min_eq_left->aJ,le_refl->aW
namespace Go.Proofs.YtmbfcbbkbefgfaaGreatDoor
set_option maxRecDepth 20000
open Go
section
variable {h g:Heap} {K:VP} {A B:Option Addr} {ac bc:Nat}
def Ui{x y:Int}{an bn:Nat}(ma:Mg h A an x)(mb:Mg h B bn y)(hxy:y<=x)(hl:an<=100000000)(hK:∀ A' m c' h',h.le h'->m<=c'->Mg h' A' m (x-y)->K (.slice A' m c') h'):FCall prog Oq #[.slice A an ac,.slice B bn bc] h K:=by
 have O:bn<=an:=by
  have o:=ma.lt (by decide)
  exact mb.len_le (by decide) (Int.lt_of_le_of_lt hxy o)
 obtain ⟨a,rfl,L,Q,Z,rfl⟩:=ma
 obtain ⟨f,rfl,N,C,T,rfl⟩:=mb
 refine B17 _ _ _ _ _ _ ?_
 unfold B5m
 refine K8 Qe (by omega) (by omega) (by omega) ?_
 intro b z
 rw [aD]
 refine ⟨_,_,_,rfl,?_⟩
 refine ⟨fun l h'=>∃ (k:Nat) (c:Int) (zs:List Int),l=[U c,I k]/\k<=a.length/\zs.length=a.length/\Dig b32 zs/\(0<=c/\c<=1)/\h'=blk .u32 C6 h b zs/\val b32 (zs.take k)=val b32 (a.take k)-val b32 (f.take k)+c*b32^k,fun l _=>a.length-(iAt l 1).toNat,⟨0,0,_,rfl,by omega,by simp,J1 (by decide) _,by omega,rfl,by simp [val]⟩,?_⟩
 rintro c i X ⟨k,c',zs,q,S,g,s,hc,rfl,w⟩
 obtain ⟨rfl,rfl⟩:c=c'/\i=(k:Int):=by simpa using q
 have j:=Y9 (k:=.u32) (e:=C6) z zs
 refine B8 (fun o=>?_) (fun o=>?_)
 ·have W:=Cq Q k
  have V:=Cq C k
  have H:=C7 b32 a k
  have G:=C7 b32 f k
  refine (L.mono j).load rfl (by omega) (by omega) ?_
  rw [aD]
  refine ⟨fun l h'=>l=[U (C3 (a.getD k 0-c-f.getD k 0))]/\h'=blk .u32 C6 h b zs,B8 (fun F=>?_) (fun F=>?_),?_⟩
  ·refine (N.mono j).load rfl (by omega) (by omega) ?_
   rw [aD]
   refine ⟨?_,rfl⟩
   rw [C5 (n:=a.getD k 0) (by omega) (by omega),C5 (n:=f.getD k 0) (by omega) (by omega),F6,F6,F6]
   have J:((a.getD k 0-c)%18446744073709551616-f.getD k 0)%18446744073709551616=(a.getD k 0-c-f.getD k 0)%18446744073709551616:=by omega
   rw [J]
  ·refine ⟨?_,rfl⟩
   have D:f.getD k 0=0:=by simp [aP,aU (show f.length<=k by omega)]
   rw [D,C5 (n:=a.getD k 0) (by omega) (by omega),Int.sub_zero]
  ·rintro d M ⟨r,rfl⟩
   obtain rfl:d=C3 (a.getD k 0-c-f.getD k 0):=by simpa using r
   refine ⟨_,rfl,by omega,by omega,?_⟩
   refine S7 (k:=.u32) (zs:=zs) (i:=(k:Int)) L0 (by rw [aD];omega) ?_
   rw [aD,Al,Xo,F6,C1 (n:=(k:Int)+1) (by omega) (by omega),Zp (by omega)]
   refine ⟨⟨k+1,_,zs.set k ((a.getD k 0-c-f.getD k 0)%18446744073709551616%4294967296),rfl,by omega,by simpa using g,s.set (A40 _),by omega,rfl,?_⟩,by simp only [iAt,aH,aR];omega⟩
   rw [D3 (by omega),F7,aI,aJ (by omega),aQ,H,G,w]
   have key:(a.getD k 0-c-f.getD k 0)%18446744073709551616%4294967296=a.getD k 0-c-f.getD k 0+4294967296*((a.getD k 0-c-f.getD k 0)%18446744073709551616/4294967296%2):=by omega
   rw [key]
   grind
 ·have p:k=a.length:=by omega
  subst p
  rw [aM,aN (show f.length<=a.length by omega),aN (show zs.length<=a.length by omega)] at w
  have t:c=0:=by
   have o:=N3 (by decide) s
   rw [g] at o
   by_cases E:c=0
   ·exact E
   ·have:c=1:=by omega
    subst this
    omega
  subst t
  rw [<- g]
  refine An (Ea _ _ _ _ _) s (aW _) (by omega) ?_
  intro m R u
  have e:val b32 zs=val b32 a-val b32 f:=by omega
  rw [e] at u
  exact ⟨_,_,_,rfl,hK _ _ _ _ (Y9 z _) R u⟩
def B4b{xs:List Int}{i:Nat}(hi:i<xs.length):xs.drop i=xs.getD i 0::xs.drop (i+1):=by
 rw [bV hi];simp [aP,hi]
def Ni(B:Int){xs:List Int}{i:Nat}(hi:i<xs.length):val B (xs.drop i)=xs.getD i 0+B*val B (xs.drop (i+1)):=by
 rw [B4b hi];rfl
def Y8{xs:List Int}{i:Nat}{v:Int}(hi:i<xs.length):(xs.set i v).drop i=v::xs.drop (i+1):=by
 rw [bV (by simpa using hi)]
 simp [List.drop_set_of_lt]
def Ns{x d:Int}{an:Nat}(ma:Mg h A an x)(hd0:0<d/\d<4294967296)(hl:an<=100000000)(hK:∀ A' m c' h',h.le h'->m<=c'->m<=an->Mg h' A' m (x/d)->K (.tuple #[.slice A' m c',U32 (x%d)]) h'):FCall prog Hb #[.slice A an ac,U32 d] h K:=by
 obtain ⟨a,rfl,G,L,Q,rfl⟩:=ma
 refine A57 _ _ _ _ ?_
 unfold A58
 refine K8 Qe (by omega) (by omega) (by omega) ?_
 intro b z
 rw [aD]
 refine ⟨_,_,_,rfl,?_⟩
 refine ⟨fun l h'=>∃ (k:Nat) (r:Int) (zs:List Int),l=[U r,I ((k:Int)-1)]/\k<=a.length/\zs.length=a.length/\Dig b32 zs/\(0<=r/\r<d)/\h'=blk .u32 C6 h b zs/\val b32 (a.drop k)=val b32 (zs.drop k)*d+r,fun l _=>(iAt l 1+1).toNat,⟨a.length,0,_,by rw [C1 (by omega) (by omega)],by omega,by simp,J1 (by decide) _,by omega,rfl,by simp [val]⟩,?_⟩
 rintro r i O ⟨k,J,zs,q,N,c,y,g,rfl,f⟩
 obtain ⟨rfl,rfl⟩:r=J/\i=(k:Int)-1:=by simpa using q
 have p:=Y9 (k:=.u32) (e:=C6) z zs
 refine B8 (fun C=>?_) (fun C=>?_)
 ·obtain ⟨j,rfl⟩:∃ j,k=j+1:=⟨k-1,by omega⟩
  have e:((j+1:Nat):Int)-1=(j:Int):=by omega
  rw [e]
  have E:=Cq L j
  refine (G.mono p).load rfl (by omega) (by omega) ?_
  rw [aD]
  have B:C3 d=d:=C5 (by omega) (by omega)
  have F:bor .u64 (C3 (r*2^(min ((32:Int)).toNat 64))) (C3 (a.getD j 0))=r*4294967296+a.getD j 0:=by
   rw [show (2:Int)^(min ((32:Int)).toNat 64)=4294967296 by decide,C5 (n:=a.getD j 0) (by omega) (by omega),C5 (n:=r*4294967296) (by omega) (by omega)]
   exact A29 (by omega) E
  rw [B,F]
  have s:0<=r*4294967296+a.getD j 0:=by omega
  have H:Int.tdiv (r*4294967296+a.getD j 0) d=(r*4294967296+a.getD j 0)/d:=bN s
  have D:Int.tmod (r*4294967296+a.getD j 0) d=(r*4294967296+a.getD j 0)%d:=bM s
  rw [H,D]
  have o:0<=(r*4294967296+a.getD j 0)/d/\(r*4294967296+a.getD j 0)/d<4294967296:=by
   constructor
   ·exact aZ s (by omega)
   ·apply aV (by omega)
    have:(r+1)*4294967296<=d*4294967296:=aC (by omega) (by decide)
    omega
  refine B8 (fun e=>absurd e (by omega)) (fun _=>?_)
  refine ⟨_,rfl,by omega,by omega,?_⟩
  refine S7 (k:=.u32) (zs:=zs) (i:=(j:Int)) L0 (by rw [aD];omega) ?_
  rw [aD,C5 (by omega) (by omega),P7 (by omega) (by omega),C1 (by omega) (by omega)]
  refine B8 (fun e=>absurd e (by omega)) (fun _=>?_)
  refine ⟨⟨j,_,zs.set j ((r*4294967296+a.getD j 0)/d),rfl,by omega,by simpa using c,y.set o,⟨aY _ (by omega),aT _ (by omega)⟩,rfl,?_⟩,by simp only [iAt,aH,aR];omega⟩
  rw [Y8 (by omega),Ni b32 (by omega),f]
  have:=aS (r*4294967296+a.getD j 0) d
  simp only [val]
  grind
 ·have t:k=0:=by omega
  subst t
  rw [List.drop_zero,List.drop_zero] at f
  rw [<- c]
  refine An (Ea _ _ _ _ _) y (aW _) (by omega) ?_
  intro m M w
  have o:val b32 a/d=val b32 zs:=by
   rw [f,Int.add_comm,bZ _ _ (by omega),bX g.1 g.2,Int.zero_add]
  have u:val b32 a%d=r:=by
   rw [f,Int.add_comm,Int.add_mul_emod_self_right,Int.emod_eq_of_lt g.1 g.2]
  rw [<- o] at w
  rw [P7 (by omega) (by omega),<- u]
  exact ⟨_,_,_,rfl,hK _ _ _ _ (Y9 z _) M (by omega) w⟩
end
def C40{a b:Int}(ha:0<=a/\a<4294967296)(hb:0<=b/\b<4294967296):0<=a*b/\a*b<=18446744065119617025:=by
 refine ⟨aG ha.1 hb.1,?_⟩
 have:=bO (show a<=4294967295 by omega) (show b<=4294967295 by omega) hb.1 (by decide)
 omega
def E7{xs ys:List Int}{i:Nat}(h:xs.drop i=ys.drop i):xs.getD i 0=ys.getD i 0:=by
 have a:(xs.drop i)[0]? = (ys.drop i)[0]? :=by rw [h]
 simp at a
 simp [aP,a]
def E5{xs ys:List Int}{i:Nat}(h:xs.drop i=ys.drop i):xs.drop (i+1)=ys.drop (i+1):=by
 rw [<- bB,<- bB,h]
def D7{xs:List Int}{i j:Nat}{v:Int}(h:i<j):(xs.set i v).drop j=xs.drop j:=List.drop_set_of_lt h
section
variable {h g:Heap} {K:VP} {A B:Option Addr} {ac bc:Nat}
def Uy{x y:Int}{an bn:Nat}(ma:Mg h A an x)(mb:Mg h B bn y)(hl:an<=100000000)(hl2:bn<=100000000)(hK:∀ A' m c' h',h.le h'->m<=c'->Mg h' A' m (x*y)->K (.slice A' m c') h'):FCall prog Ou #[.slice A an ac,.slice B bn bc] h K:=by
 have w:=ma.len_zero (by decide)
 have E:=mb.len_zero (by decide)
 obtain ⟨d,rfl,sx,dx,nx,rfl⟩:=ma
 obtain ⟨a,rfl,sy,R,ny,rfl⟩:=mb
 refine B19 _ _ _ _ _ _ ?_
 unfold B5q
 refine D8 (fun S=>?_) (fun hx=>D8 (fun S=>?_) (fun hy=>?_))
 ·have:=hK none 0 0 h (B5 h) (aW _) (by rw [w.2 (by omega),Int.zero_mul];exact Mag.zero)
  exact this
 ·have:=hK none 0 0 h (B5 h) (aW _) (by rw [E.2 (by omega),bH];exact Mag.zero)
  exact this
 have O:B7 ((d.length:Int)+a.length)=((d.length+a.length:Nat):Int):=by rw [C1 (by omega) (by omega)];omega
 rw [O]
 refine K8 Qe (by omega) (by omega) (by omega) ?_
 intro b L
 rw [aD]
 refine ⟨_,_,_,rfl,?_⟩
 refine ⟨fun l h'=>∃ (k:Nat) (zs:List Int),l=[I k]/\k<=d.length/\zs.length=d.length+a.length/\Dig b32 zs/\h'=blk .u32 C6 h b zs/\zs.drop (k+a.length)=bL (d.length-k) 0/\val b32 (zs.take (k+a.length))=val b32 (d.take k)*val b32 a,fun l _=>d.length-(iAt l 0).toNat,⟨0,_,rfl,by omega,by simp,J1 (by decide) _,rfl,by simp,?_⟩,?_⟩
 ·rw [List.take_replicate,De];simp [val]
 rintro i hp ⟨k,f,D,hk,g,s,rfl,u,t⟩
 obtain rfl:=sI1 D
 refine B8 (fun Z=>?_) (fun Z=>?_)
 ·have gx:=Cq dx k
  have X:=C7 b32 d k
  refine ⟨fun l h'=>∃ (m:Nat) (c:Int) (zs:List Int),l=[U c,I m]/\m<=a.length/\zs.length=d.length+a.length/\Dig b32 zs/\(0<=c/\c<4294967296)/\h'=blk .u32 C6 h b zs/\zs.drop (k+m)=f.drop (k+m)/\val b32 (zs.take (k+m))+c*b32^(k+m)=val b32 (f.take (k+m))+b32^k*(d.getD k 0*val b32 (a.take m)),fun l _=>a.length-(iAt l 1).toNat,⟨0,0,f,rfl,by omega,g,s,by omega,rfl,rfl,by simp [val]⟩,?_⟩
  rintro c j aa ⟨m,c',zs,H,N,q,F,hc,rfl,o,Q⟩
  obtain ⟨rfl,rfl⟩:c=c'/\j=(m:Int):=by simpa using H
  have r:=Y9 (k:=.u32) (e:=C6) L zs
  refine B8 (fun V=>?_) (fun V=>?_)
  ·have T:=Cq R m
   have W:=C7 b32 a m
   have gz:=Cq F (k+m)
   have G:=E7 o
   have vz:=C7 b32 f (k+m)
   have p:B7 ((k:Int)+m)=((k+m:Nat):Int):=by rw [C1 (by omega) (by omega)];omega
   rw [p]
   refine (sx.mono r).load rfl (by omega) (by omega) ?_
   refine (sy.mono r).load rfl (by omega) (by omega) ?_
   refine (Ea .u32 C6 h b zs).load q.symm (by omega) (by omega) ?_
   simp only [aD]
   have hp:=C40 gx T
   have ec:C3 (c+C3 (C3 (C3 (d.getD k 0)*C3 (a.getD m 0))+C3 (zs.getD (k+m) 0)))=c+(d.getD k 0*a.getD m 0+zs.getD (k+m) 0):=by
    rw [C5 (n:=d.getD k 0) (by omega) (by omega),C5 (n:=a.getD m 0) (by omega) (by omega),C5 (n:=zs.getD (k+m) 0) (by omega) (by omega),C5 (n:=d.getD k 0*a.getD m 0) (by omega) (by omega),C5 (n:=d.getD k 0*a.getD m 0+zs.getD (k+m) 0) (by omega) (by omega),C5 (by omega) (by omega)]
   rw [ec]
   refine ⟨_,rfl,by omega,by omega,?_⟩
   refine S7 (k:=.u32) (zs:=zs) (i:=((k+m:Nat):Int)) L0 (by rw [aD];omega) ?_
   rw [aD,Al,Xo,C1 (n:=(m:Int)+1) (by omega) (by omega)]
   refine ⟨⟨m+1,_,zs.set (k+m) ((c+(d.getD k 0*a.getD m 0+zs.getD (k+m) 0))%4294967296),rfl,by omega,by simpa using q,F.set (A40 _),by omega,rfl,?_,?_⟩,by simp only [iAt,aH,aR];omega⟩
   ·rw [D7 (by omega)];exact E5 o
   ·rw [<- Nat.add_assoc,D3 (by omega),F7,aI,aJ (by omega),aQ,Cx,W,vz,<- G]
    have:b32^(k+m)=b32^k*b32^m:=Int.pow_add _ _ _
    grind
  ·have z:m=a.length:=by omega
   subst z
   have p:B7 ((k:Int)+a.length)=((k+a.length:Nat):Int):=by rw [C1 (by omega) (by omega)];omega
   rw [p]
   refine ⟨_,rfl,by omega,by omega,?_⟩
   refine S7 (k:=.u32) (zs:=zs) (i:=((k+a.length:Nat):Int)) L0 (by rw [aD];omega) ?_
   rw [aD,P7 (by omega) (by omega),C1 (n:=(k:Int)+1) (by omega) (by omega)]
   have J:k+1+a.length=k+a.length+1:=by omega
   refine ⟨⟨k+1,zs.set (k+a.length) c,rfl,by omega,by simpa using q,F.set hc,rfl,?_,?_⟩,by simp only [iAt,aH];omega⟩
   ·rw [J,D7 (by omega),E5 o,<- bB,u,List.drop_replicate]
    congr 1
   ·rw [J,D3 (by omega),F7,aI,aJ (by omega)]
    rw [aM] at Q
    rw [X]
    grind
 ·have C:k=d.length:=by omega
  subst C
  rw [aM,aN (show f.length<=d.length+a.length by omega)] at t
  rw [<- g]
  refine An (Ea _ _ _ _ _) s (aW _) (by omega) ?_
  intro m N M
  rw [t] at M
  exact ⟨_,_,_,rfl,hK _ _ _ _ (Y9 L _) N M⟩
def A8b{x z:Int}{s:Nat}(hs:s<=32)(_hx:0<=x/\x<4294967296)(hz:0<=z/\z<(2:Int)^s):
 bor .u32 z (x*2^s%4294967296)=z+x*2^s%4294967296/\z+x*2^s%4294967296<4294967296:=by
 have j:(2:Int)^s*2^(32-s)=4294967296:=by
  rw [<- Int.pow_add,show s+(32-s)=32 by omega];decide
 have d:0<(2:Int)^s:=aX (by decide)
 have k:0<(2:Int)^(32-s):=aX (by decide)
 have a:z<4294967296:=by
  have:(2:Int)^s*1<=2^s*2^(32-s):=aE (by omega) (by omega)
  omega
 have i:x*2^s%4294967296=2^s*(x%2^(32-s)):=by
  rw [<- j,aO x,bW _ _ d]
 have f:=A40 (x*2^s)
 have b:bor .u32 z (x*2^s%4294967296)=z+x*2^s%4294967296:=by
  rw [C4g ⟨hz.1,a⟩ f]
  have e:0<=x%2^(32-s):=aY _ (by omega)
  have g:(x*2^s%4294967296).toNat=2^s*(x%2^(32-s)).toNat:=by
   rw [i,Int.toNat_mul (by omega) e]
   rw [Int.toNat_pow_of_nonneg (by decide)];rfl
  have c:z.toNat<2^s:=by
   have:((2^s:Nat):Int)=(2:Int)^s:=by simp
   omega
  rw [g,Nat.or_comm,A8c c,<- g]
  omega
 refine ⟨b,?_⟩
 rw [<- b,C4g ⟨hz.1,a⟩ f]
 have:z.toNat ||| (x*2^s%4294967296).toNat<2^32:=Nat.or_lt_two_pow (by omega) (by have:=f.2;show _<_;omega)
 omega
def Kx{xs:List Int}{s:Nat}(sx:SlI .u32 h A xs)(dx:Dig b32 xs)(hs:s<32)(hl:xs.length<=100000000)(hK:∀ b zs,h b=none->zs.length=xs.length+1->Dig b32 zs->val b32 zs=val b32 xs*2^s->K (.slice (some ⟨b,0,none⟩) (xs.length+1) (xs.length+1)) (blk .u32 C6 h b zs)):FCall prog Dw #[.slice A xs.length ac,U s] h K:=by
 refine A2m _ _ _ _ ?_
 unfold A01
 have y:B7 ((xs.length:Int)+1)=((xs.length+1:Nat):Int):=by rw [C1 (by omega) (by omega)];omega
 rw [y]
 refine K8 Qe (by omega) (by omega) (by omega) ?_
 intro b u
 rw [aD]
 refine ⟨_,_,_,rfl,?_⟩
 have c:0<(2:Int)^s:=aX (by decide)
 have w:(2:Int)^s<=2147483648:=by
  have:=D4 (B:=2) (by decide) (show s<=31 by omega)
  have e:(2:Int)^31=2147483648:=by decide
  omega
 refine ⟨fun l C=>∃ (k:Nat) (zs:List Int),l=[I k]/\k<=xs.length/\zs.length=xs.length+1/\Dig b32 zs/\C=blk .u32 C6 h b zs/\zs.drop (k+1)=bL (xs.length-k) 0/\zs.getD k 0<2^s/\val b32 (zs.take (k+1))=val b32 (xs.take k)*2^s,fun l _=>xs.length-(iAt l 0).toNat,⟨0,_,rfl,by omega,by simp,J1 (by decide) _,rfl,by simp,by simpa using c,by simp [val]⟩,?_⟩
 rintro i N ⟨k,zs,j,M,a,p,rfl,r,H,f⟩
 obtain rfl:=sI1 j
 have g:=Y9 (k:=.u32) (e:=C6) u zs
 refine B8 (fun F=>?_) (fun F=>?_)
 ·have m:=Cq dx k
  have gz:=Cq p k
  have E:=C7 b32 xs k
  have J:=C7 b32 zs k
  refine (sx.mono g).load rfl (by omega) (by omega) ?_
  refine B8 (fun e=>absurd e (by omega)) (fun _=>?_)
  refine (Ea .u32 C6 h b zs).load a.symm (by omega) (by omega) ?_
  simp only [aD]
  obtain ⟨G,L⟩:=A8b (Nat.le_of_lt hs) m ⟨gz.1,H⟩
  have o:0<=xs.getD k 0*2^s:=aG m.1 (by omega)
  have q:xs.getD k 0*2^s<4294967296*2^s:=Int.mul_lt_mul_of_pos_right m.2 c
  have ev:C3 (C3 (xs.getD k 0)*2^(min s 64))=xs.getD k 0*2^s:=by
   rw [C5 (n:=xs.getD k 0) (by omega) (by omega),aJ (by omega),C5 (by omega) (by omega)]
  rw [ev]
  refine ⟨_,rfl,by omega,by omega,?_⟩
  refine S7 (k:=.u32) (zs:=zs) (i:=(k:Int)) L0 (by rw [aD];omega) ?_
  rw [aD,Al (xs.getD k 0*2^s),G,Xo]
  have z:B7 ((k:Int)+1)=((k+1:Nat):Int):=by rw [C1 (by omega) (by omega)];omega
  rw [z]
  have t:0<=xs.getD k 0*2^s/4294967296/\xs.getD k 0*2^s/4294967296<2^s:=⟨aZ o (by decide),aV (by decide) (by rw [aO (2^s)];exact q)⟩
  refine ⟨_,rfl,by omega,by omega,?_⟩
  refine S7 (k:=.u32) (zs:=zs.set k (zs.getD k 0+xs.getD k 0*2^s%4294967296)) (i:=((k+1:Nat):Int)) L0 (by rw [aD,bD];omega) ?_
  rw [aD,P7 (by omega) (by omega)]
  have D:=A40 (xs.getD k 0*2^s)
  refine ⟨⟨k+1,(zs.set k (zs.getD k 0+xs.getD k 0*2^s%4294967296)).set (k+1) (xs.getD k 0*2^s/4294967296),rfl,by omega,by simpa using a,(p.set ⟨by omega,L⟩).set ⟨t.1,by show _<(4294967296:Int);omega⟩,rfl,?_,?_,?_⟩,by simp only [iAt,aH];omega⟩
  ·rw [D7 (by omega),D7 (by omega),<- bB,r,List.drop_replicate]
   congr 1
  ·have:((zs.set k (zs.getD k 0+xs.getD k 0*2^s%4294967296)).set (k+1) (xs.getD k 0*2^s/4294967296)).getD (k+1) 0=xs.getD k 0*2^s/4294967296:=by
    rw [aP,List.getElem?_set_self (by rw [bD];omega)];rfl
   rw [this];exact t.2
  ·rw [D3 (by rw [bD];omega),F7,D3 (by omega),F7]
   simp only [aI,aK,List.length_singleton]
   rw [aJ (show k<=zs.length by omega),aQ,E]
   have:=Int.emod_add_mul_ediv (xs.getD k 0*2^s) 4294967296
   rw [J] at f
   grind
 ·have d:k=xs.length:=by omega
  subst d
  rw [aM,aN (by omega)] at f
  exact hK b zs u a p f
end
structure Est (B P top u2 ul v1 v2 vl U V:Int):Prop where
 hB:1<B
 hP:0<P
 hU:U=(top*B+u2)*P+ul
 hV:V=(v1*B+v2)*P+vl
 u2r:0<=u2/\u2<B
 ulr:0<=ul/\ul<P
 v2r:0<=v2/\v2<B
 vlr:0<=vl/\vl<P
 top0:0<=top
 v1r:B<=2*v1/\v1<B
 lt:U<V*B
section
variable {B P top u2 ul v1 v2 vl U V:Int}
def Est.U0(e:Est B P top u2 ul v1 v2 vl U V):0<=U:=by
 obtain ⟨m,j,k,l,c,f,b,d,a,g,lt⟩:=e
 have i:0<=top*B:=aG a (by omega)
 have:0<=(top*B+u2)*P:=aG (by omega) (by omega)
 omega
def Est.V0(e:Est B P top u2 ul v1 v2 vl U V):0<V:=by
 obtain ⟨m,d,k,l,c,g,b,f,a,i,lt⟩:=e
 have j:0<v1*B:=bI (by omega) (by omega)
 have:0<(v1*B+v2)*P:=bI (by omega) d
 omega
def Est.V2(e:Est B P top u2 ul v1 v2 vl U V):B<=v1*B+v2:=by
 obtain ⟨l,i,j,k,c,f,b,d,a,g,lt⟩:=e
 have:1*B<=v1*B:=aC (by omega) (by omega)
 omega
def Est.low(e:Est B P top u2 ul v1 v2 vl U V){q:Int}(h0:0<=q)(h:top*B+u2<q*(v1*B+v2)):U<q*V:=by
 obtain ⟨p,k,n,g,d,f,c,a,b,i,lt⟩:=e
 have j:(top*B+u2+1)*P<=q*(v1*B+v2)*P:=aC (by omega) (by omega)
 have o:0<=q*vl:=aG h0 a.1
 have m:q*V=q*(v1*B+v2)*P+q*vl:=by rw [g];grind
 have l:(top*B+u2+1)*P=(top*B+u2)*P+P:=by grind
 omega
def Est.big(e:Est B P top u2 ul v1 v2 vl U V){q:Int}(h:B<=q):U<q*V:=by
 have:=aC h (aL e.V0)
 have:=e.lt
 rw [aO V] at this
 omega
def Est.init(e:Est B P top u2 ul v1 v2 vl U V):U<(top/v1+1)*V:=by
 obtain ⟨s,c,i,m,d,l,b,g,a,k,lt⟩:=e
 have o:0<=top/v1:=aZ a (by omega)
 have j:top+1<=(top/v1+1)*v1:=by
  have:=aS top v1
  have:=aT top (show 0<v1 by omega)
  grind
 have f:0<B*P:=bI (by omega) c
 have q:(top+1)*(B*P)<=(top/v1+1)*v1*(B*P):=aC j (by omega)
 have p:0<=(top/v1+1)*(v2*P+vl):=aG (by omega) (by have:=aG b.1 (aL c);omega)
 have r:(top/v1+1)*V=(top/v1+1)*v1*(B*P)+(top/v1+1)*(v2*P+vl):=by rw [m];grind
 have u:(top+1)*(B*P)=top*B*P+B*P:=by grind
 have n:(u2+1)*P<=B*P:=aC (by omega) (by omega)
 have t:U=top*B*P+u2*P+ul:=by rw [i];grind
 have w:(u2+1)*P=u2*P+P:=by grind
 omega
def Est.up(e:Est B P top u2 ul v1 v2 vl U V){q:Int}(hq:q<=B)(h:q*(v1*B+v2)<=top*B+u2):(q-1)*V<=U:=by
 have i:=e.V2
 have c:=e.V0
 have f:=e.U0
 obtain ⟨t,n,r,k,d,j,b,g,a,l,lt⟩:=e
 by_cases m:q<=0
 ·have:(q-1)*V<=0:=Int.mul_nonpos_of_nonpos_of_nonneg (by omega) (by omega)
  omega
 ·have s:(q-1)*vl<=(q-1)*P:=aE (by omega) (by omega)
  have o:(q*(v1*B+v2))*P<=(top*B+u2)*P:=aC h (by omega)
  have p:(q-1)*V=(q*(v1*B+v2))*P-(v1*B+v2)*P+(q-1)*vl:=by rw [k];grind
  have u:(q-1)*P<=(v1*B+v2)*P:=aC (by omega) (by omega)
  omega
def Est.first(e:Est B P top u2 ul v1 v2 vl U V):top<(v1+1)*B/\top/v1<=B+1:=by
 obtain ⟨r,f,l,m,a,k,c,g,b,n,lt⟩:=e
 have d:0<B*P:=bI (by omega) f
 have p:top*(B*P)<=U:=by
  have:0<=u2*P:=aG a.1 (by omega)
  have:U=top*(B*P)+u2*P+ul:=by rw [l];grind
  omega
 have q:V<(v1+1)*(B*P):=by
  have j:(v2+1)*P<=B*P:=aC (by omega) (by omega)
  have:V=v1*(B*P)+v2*P+vl:=by rw [m];grind
  have:(v1+1)*(B*P)=v1*(B*P)+B*P:=by grind
  have:(v2+1)*P=v2*P+P:=by grind
  omega
 have j:V*B<=(v1+1)*(B*P)*B:=aC (by omega) (by omega)
 have i:top*(B*P)<(v1+1)*B*(B*P):=by
  have:(v1+1)*(B*P)*B=(v1+1)*B*(B*P):=by grind
  omega
 have o:top<(v1+1)*B:=Int.lt_of_mul_lt_mul_right i (by omega)
 refine ⟨o,?_⟩
 have:top/v1<B+2:=by
  apply aV (by omega)
  have:(v1+1)*B=v1*B+B:=by grind
  have:v1*(B+2)=v1*B+2*v1:=by grind
  have:(B+2)*v1=v1*B+2*v1:=by grind
  omega
 omega
end
def Bj(k:IntKind)(e:TypeId)(g:Heap)(bu:Nat)(us:List Int)(bq:Nat)(qs:List Int):Heap:=blk k e (blk k e g bu us) bq qs
section
variable {k:IntKind} {e:TypeId} {g:Heap} {bu bq:Nat} {us qs:List Int}
def Rd(hu:g bu=none)(hq:g bq=none)(hne:bu≠bq):g.le (Bj k e g bu us bq qs):=
 B0 (Y9 hu us) (Y9 (by unfold blk;rw [C0 _ _ hne.symm];exact hq) qs)
def Ji(hne:bu≠bq):Bj k e g bu us bq qs=blk k e (blk k e g bq qs) bu us:=by
 unfold Bj blk;exact Heap.put_comm g _ _ hne
def Wi(hne:bu≠bq):SlI k (Bj k e g bu us bq qs) (some ⟨bu,0,none⟩) us:=by
 rw [Ji hne];exact Ea k e _ bu us
def C0a:SlI k (Bj k e g bu us bq qs) (some ⟨bq,0,none⟩) qs:=Ea k e _ bq qs
def Q6{P:Program}{t:TypeId}(one:P.cellsOf t=1/\(P.info? t).isSome=true)(hne:bu≠bq){n i:Int}(hi:i.toNat<us.length){K:Unit->Heap->Prop}
 (x:K () (Bj k e g bu (us.set i.toNat n) bq qs)):wpH P (Instr.storeAt t (.pointer (some (Addr.add ⟨bu,0,none⟩ (i.toNat*1)))) (.int k n)) K (Bj k e g bu us bq qs):=by
 rw [Ji hne]
 rw [Ji hne] at x
 exact S7 one hi x
def Wj{P:Program}{t:TypeId}(one:P.cellsOf t=1/\(P.info? t).isSome=true){n i:Int}(hi:i.toNat<qs.length){K:Unit->Heap->Prop}
 (x:K () (Bj k e g bu us bq (qs.set i.toNat n))):wpH P (Instr.storeAt t (.pointer (some (Addr.add ⟨bq,0,none⟩ (i.toNat*1)))) (.int k n)) K (Bj k e g bu us bq qs):=
 S7 one hi x
end
def A48{xs:List Int}{j i:Nat}:(xs.drop j).getD i 0=xs.getD (j+i) 0:=by simp [aP]
section
variable {g:Heap} {bu bq:Nat} {us qs:List Int} {VA:Option Addr} {vs:List Int}
def B83{n j:Nat}{J:LP}{hp:Heap}{UA:Option Addr}{top u2 ul v1 v2 vl X Y P:Int}{t87 t96:Int}(es:Est 4294967296 P top u2 ul v1 v2 vl X Y)(sv:SlI .u32 hp VA vs)(su:SlI .u32 hp UA us)(hn:n=vs.length)(hn2:2<=n)(hul:j+n<us.length)(hbig:us.length<=200000000)
 (hv1:vs.getD (n-1) 0=v1) (hv2:vs.getD (n-2) 0=v2) (hu2:us.getD (j+n-2) 0=u2) (h87:0<=t87/\t87<4294967296) (h96:0<=t96/\t96<4294967296) (htop:top=t87*4294967296+t96)
 (hJ:∀ q,0<=q->q<=4294967296->X<(q+1)*Y->(q-1)*Y<=X->J [U q] hp):Rk prog VA n UA us.length j t87 t96 v1 v1 J hp:=by
 obtain ⟨f1,f2⟩:=es.first
 have y:=es.init
 have V:=es.V0
 have O:=es.U0
 have T:=es.v1r
 have g:=es.v2r
 have m:=es.u2r
 have c:=es.top0
 have t:bor .u64 (C3 (C3 t87*2^(min ((32:Int)).toNat 64))) (C3 t96)=top:=by
  rw [show (2:Int)^(min ((32:Int)).toNat 64)=4294967296 by decide,C5 (n:=t87) (by omega) (by omega),C5 (n:=t96) (by omega) (by omega),C5 (n:=t87*4294967296) (by omega) (by omega),A29 h87 h96,htop]
 have f:C3 v1=v1:=C5 (by omega) (by omega)
 unfold Rk
 rw [t,f,bN c,bM c]
 have F:0<=top/v1:=aZ c (by omega)
 have k:=aS top v1
 have p:=aY top (show v1≠0 by omega)
 have aa:=aT top (show 0<v1 by omega)
 refine ⟨fun l o=>∃ q r:Int,l=[U q,U r]/\o=hp/\0<=q/\q<=4294967297/\0<=r/\r<4294967296/\q*v1+r=top/\X<(q+1)*Y,fun l _=>match l with|[.int _ q,_]=>q.toNat|_=>0,⟨_,_,rfl,rfl,?_,?_,p,by omega,?_,?_⟩,?_⟩
 ·rw [C5 (by omega) (by omega)];exact F
 ·rw [C5 (by omega) (by omega)];omega
 ·rw [C5 (by omega) (by omega),aO];exact k
 ·rw [C5 (by omega) (by omega)];exact y
 rintro q r i ⟨W,Z,N,rfl,G,ab,hr,C,D,w⟩
 obtain ⟨rfl,rfl⟩:q=W/\r=Z:=by simpa using N
 have A:B7 ((n:Int)-1)=((n-1:Nat):Int):=by rw [C1 (by omega) (by omega)];omega
 have E:B7 ((n:Int)-2)=((n-2:Nat):Int):=by rw [C1 (by omega) (by omega)];omega
 have z:B7 (B7 ((j:Int)+(n:Int))-2)=((j+n-2:Nat):Int):=by rw [C1 (n:=(j:Int)+n) (by omega) (by omega),C1 (by omega) (by omega)];omega
 refine ⟨fun l o=>l=[]/\o=i/\X<q*Y,?_,?_⟩
 ·refine B8 (fun L=>⟨rfl,rfl,es.big L⟩) (fun L=>?_)
  rw [E,z]
  refine sv.load hn (by omega) (by omega) ?_
  refine su.load rfl (by omega) (by omega) ?_
  rw [aD,aD,hv2,hu2]
  have hp:=C40 (a:=q) (b:=v2) (by omega) g
  have B:C3 (q*C3 v2)=q*v2:=by rw [C5 (n:=v2) (by omega) (by omega),C5 (by omega) (by omega)]
  have u:bor .u64 (C3 (r*2^(min ((32:Int)).toNat 64))) (C3 u2)=r*4294967296+u2:=by
   rw [show (2:Int)^(min ((32:Int)).toNat 64)=4294967296 by decide,C5 (n:=u2) (by omega) (by omega),C5 (n:=r*4294967296) (by omega) (by omega),A29 ⟨hr,C⟩ m]
  rw [B,u]
  have key:q*(v1*4294967296+v2)=(top-r)*4294967296+q*v2:=by rw [<- D];grind
  refine B8 (fun S=>⟨rfl,rfl,es.low G (by omega)⟩) (fun S=>?_)
  refine hJ q G (by omega) w (es.up (by omega) (by omega))
 ·rintro H ⟨_,rfl,s⟩
  have M:1<=q:=by
   by_cases Q:1<=q
   ·exact Q
   ·have:q=0:=by omega
    subst this;omega
  rw [A]
  refine sv.load hn (by omega) (by omega) ?_
  rw [aD,hv1,f,C5 (n:=r+v1) (by omega) (by omega),C5 (n:=q-1) (by omega) (by omega)]
  have d:X<(q-1+1)*Y:=by rw [Int.sub_add_cancel];exact s
  have e:(q-1)*v1+(r+v1)=top:=by grind
  refine B8 (fun R=>?_) (fun R=>?_)
  ·have key:(q-1)*(v1*4294967296+v2)=(top-(r+v1))*4294967296+(q-1)*v2:=by rw [<- e];grind
   have hb:(q-1)*v2<=4294967296*v2:=aC (by omega) g.1
   exact hJ (q-1) (by omega) (by omega) d (es.up (by omega) (by omega))
  ·exact ⟨⟨q-1,r+v1,rfl,rfl,by omega,by omega,by omega,by omega,e,d⟩,by simp only;omega⟩
end
def I3(B:Int)(xs:List Int)(i:Nat):val B (xs.take (i+1))=val B (xs.take i)+B^i*xs.getD i 0:=by
 by_cases a:i<xs.length
 ·exact Q0 B a
 ·rw [aN (by omega),aN (by omega)]
  simp [aP,aU (Nat.le_of_not_lt a)]
def B6x(B:Int){vs:List Int}{m:Nat}(hn:vs.length=m+2):val B vs=(vs.getD (m+1) 0*B+vs.getD m 0)*B^m+val B (vs.take m):=by
 have a:=I3 B vs (m+1)
 have b:=I3 B vs m
 rw [show m+1+1=vs.length by omega,aM] at a
 rw [a,b,aQ]
 grind
def B6w(B:Int){us:List Int}{m:Nat}(hn:us.length=m+3):val B us=((us.getD (m+2) 0*B+us.getD (m+1) 0)*B+us.getD m 0)*B^m+val B (us.take m):=by
 have a:=I3 B us (m+2)
 have b:=I3 B us (m+1)
 have c:=I3 B us m
 rw [show m+2+1=us.length by omega,aM] at a
 rw [show m+2=m+1+1 by omega] at a
 rw [a,b,c,aQ,aQ]
 grind
def C03{B:Int}(hB:1<B){us vs:List Int}{m:Nat}(du:Dig B us)(dv:Dig B vs)(hu:us.length=m+3)(hv:vs.length=m+2)(h1:B<=2*vs.getD (m+1) 0)(hlt:val B us<val B vs*B):
 Est B (B^m) (us.getD (m+2) 0*B+us.getD (m+1) 0) (us.getD m 0) (val B (us.take m)) (vs.getD (m+1) 0) (vs.getD m 0) (val B (vs.take m)) (val B us) (val B vs):=by
 have a:0<B:=by omega
 have b:=N3 a (du.take m)
 have c:=N3 a (dv.take m)
 rw [aI,aJ (by omega)] at b c
 refine ⟨hB,aX a,B6w B hu,B6x B hv,du.getD a _,⟨C9 a (du.take m),b⟩,dv.getD a _,⟨C9 a (dv.take m),c⟩,?_,⟨h1,(dv.getD a _).2⟩,hlt⟩
 have:=aG (du.getD a (m+2)).1 (aL a)
 have:=(du.getD a (m+1)).1
 omega
def Est.top{B P top u2 ul v1 v2 vl U V:Int}(e:Est B P top u2 ul v1 v2 vl U V)(h:v1*B<=top):(B-1-1)*V<=U/\U<(B-1+1)*V:=by
 have f:=e.lt
 obtain ⟨q,n,p,k,g,j,d,i,a,l,lt⟩:=e
 constructor
 ·have m:v1*B*B*P<=U:=by
   have c:v1*B*B<=top*B:=aC h (by omega)
   have b:v1*B*B*P<=(top*B+u2)*P:=aC (by omega) (by omega)
   omega
  have c:V<=(v1+1)*B*P:=by
   have b:(v2+1)*P<=B*P:=aC (by omega) (by omega)
   have:V=v1*B*P+v2*P+vl:=by rw [k];grind
   have:(v1+1)*B*P=v1*B*P+B*P:=by grind
   have:(v2+1)*P=v2*P+P:=by grind
   omega
  have b:(B-1-1)*V<=(B-1-1)*((v1+1)*B*P):=aE c (by omega)
  have o:(B-1-1)*((v1+1)*B*P)=v1*B*B*P-(2*v1+2-B)*(B*P):=by grind
  have r:0<=(2*v1+2-B)*(B*P):=aG (by omega) (aG (by omega) (by omega))
  omega
 ·rw [Int.sub_add_cancel,aO];exact f
structure LS (F S first second u0 v0 u1 v1 u2 v2:Int) (odd:Bool):Prop where
 hF:F=v2*first+v1*second
 hS:S=u2*first+u1*second
 det:u1*v2-u2*v1=if odd then -1 else 1
 ord:0<=second/\second<=first
 st:(u0=0/\v0=0/\u1=1/\v1=0/\u2=0/\v2=1)\/
  (((u0=1/\v0=0/\u1=0/\v1=1/\0<=u2/\u2<=v2/\1<=u2)\/(0<=u0/\u0<=v0/\1<=v0/\1<=u1/\u1<=v1/\1<=u2/\u2<=v2))/\
   (u0*v1-u1*v0=if odd then 1 else -1)/\∃ f0,F=v1*f0+v0*first/\S=u1*f0+u0*first/\v0+v1<=f0-first/\v1<=first)
def LS.init{F S:Int}(h0:0<=S)(h:S<=F):LS F S F S 0 0 1 0 0 1 false:=
 ⟨by omega,by omega,by simp,⟨h0,h⟩,.inl ⟨rfl,rfl,rfl,rfl,rfl,rfl⟩⟩
def LS.v2pos{F S first second u0 v0 u1 v1 u2 v2:Int}{odd:Bool}(l:LS F S first second u0 v0 u1 v1 u2 v2 odd):1<=v2/\0<=v1/\0<=u1/\0<=u2/\0<=u0/\0<=v0:=by
 obtain ⟨d,e,b,c,a⟩:=l
 rcases a with a|⟨a,_⟩<;>omega
def LS.step{F S first second u0 v0 u1 v1 u2 v2:Int}{odd:Bool}(l:LS F S first second u0 v0 u1 v1 u2 v2 odd)(h1:v2<=second)(h2:v1+v2<=first-second):
 LS F S second (first%second) u1 v1 u2 v2 (u1+first/second*u2) (v1+first/second*v2) (!odd):=by
 have p:=l.v2pos
 obtain ⟨g,i,a,j,c⟩:=l
 have f:0<second:=by omega
 have e:1<=first/second:=by
  rw [Int.le_ediv_iff_mul_le f];omega
 have b:=aS first second
 have d:=aY first (show second≠0 by omega)
 have m:=aT first f
 have n:u2<=first/second*u2:=by
  have:=aC e (show 0<=u2 by omega);omega
 have o:v2<=first/second*v2:=by
  have:=aC e (show 0<=v2 by omega);omega
 have k:first/second*u2<=first/second*v2:=aE (by omega) (by omega)
 refine ⟨?_,?_,?_,⟨d,by omega⟩,.inr ⟨?_,?_,first,?_,?_,by omega,h1⟩⟩
 ·rw [g]
  generalize hq':first/second=q at *
  generalize first%second=r at *
  subst b
  grind
 ·rw [i]
  generalize hq':first/second=q at *
  generalize first%second=r at *
  subst b
  grind
 ·cases odd<;>simp at a ⊢ <;> grind
 ·rcases c with c|⟨c,_⟩
  ·left
   obtain ⟨rfl,rfl,rfl,rfl,rfl,rfl⟩:=c
   omega
  ·right;omega
 ·cases odd<;>simp at a ⊢ <;> omega
 ·rw [g]
 ·rw [i]
def LS.bound{F S first second u0 v0 u1 v1 u2 v2:Int}{odd:Bool}(l:LS F S first second u0 v0 u1 v1 u2 v2 odd)(hf:1<=first):v2<=F/\u2<=F/\u2<=v2:=by
 have f:=l.v2pos
 obtain ⟨g,d,a,c,b⟩:=l
 have e:v2*1<=v2*first:=aE hf (by omega)
 have i:0<=v1*second:=aG (by omega) (by omega)
 clear a d
 rcases b with b|⟨b,_⟩<;>omega
def LS.bound2{F S first second u0 v0 u1 v1 u2 v2:Int}{odd:Bool}(l:LS F S first second u0 v0 u1 v1 u2 v2 odd)(hs:1<=second):v1+v2<=F:=by
 have e:=l.v2pos
 obtain ⟨f,i,a,b,c⟩:=l
 have d:v2*1<=v2*first:=aE (by omega) (by omega)
 have g:v1*1<=v1*second:=aE hs (by omega)
 clear c
 omega
structure Leh (a b u0 v0 u1 v1 X0 X1:Int):Prop where
 ord:0<=X1/\X1<X0
 ha:a=v1*X0+v0*X1
 hb:b=u1*X0+u0*X1
 le:X0<=b
def Ls(a b u0 v0:Int)(odd:Bool):Int:=if odd then u0*a-v0*b else v0*b-u0*a
def Lr(a b u1 v1:Int)(odd:Bool):Int:=if odd then v1*b-u1*a else u1*a-v1*b
def LS.leh{F S first second u0 v0 u1 v1 u2 v2 a b al bl W:Int}{odd:Bool}(l:LS F S first second u0 v0 u1 v1 u2 v2 odd)(hv0:v0≠0)(hW:0<W)(ha:a=F*W+al)(hb:b=S*W+bl)(hal:0<=al/\al<W)(hbl:0<=bl/\bl<W):
 Leh a b u0 v0 u1 v1 (Ls a b u0 v0 odd) (Lr a b u1 v1 odd):=by
 have L:=l.v2pos
 obtain ⟨X,N,w,D,u⟩:=l
 rcases u with u|⟨u,c,i,n,j,B,t⟩
 ·omega
 have C:0<=u0/\u0<=v0/\1<=v0/\1<=u1/\u1<=v1:=by omega
 have p:u0*F-v0*S=(u0*v1-u1*v0)*i:=by rw [n,j];grind
 have s:u1*F-v1*S=(u1*v0-u0*v1)*first:=by rw [n,j];grind
 have H:first*W>=v1*W:=aC t (by omega)
 have R:(i-first)*W>=(v0+v1)*W:=aC B (by omega)
 have Z:v1*bl<=v1*W:=aE (by omega) (by omega)
 have Q:u1*al<=u1*W:=aE (by omega) (by omega)
 have O:u1*W<=v1*W:=aC (by omega) (by omega)
 have M:0<=u1*al:=aG (by omega) (by omega)
 have E:0<=v1*bl:=aG (by omega) (by omega)
 have G:(v0+v1)*(bl+1)<=(v0+v1)*W:=aE (by omega) (by omega)
 have V:(u0+u1)*(al+1)<=(u0+u1)*W:=aE (by omega) (by omega)
 have q8:(u0+u1)*W<=(v0+v1)*W:=aC (by omega) (by omega)
 have q9:0<=(u0+u1)*al:=aG (by omega) (by omega)
 have z:0<=(v0+v1)*bl:=aG (by omega) (by omega)
 have k:∀ X0 X1:Int,0<=X1->X1<X0->b=u1*X0+u0*X1->X0<=b:=by
  intro X0 X1 y J e
  have T:1*X0<=u1*X0:=aC (by omega) (by omega)
  have r2:0<=u0*X1:=aG (by omega) y
  omega
 cases odd with
 | true=>
  simp only [Ls,Lr,if_true] at c ⊢
  have A:v1*b-u1*a=first*W+v1*bl-u1*al:=by
   rw [c.symm.symm] at p
   have:v1*S-u1*F=first:=by
    have:u1*v0-u0*v1= -1:=by omega
    rw [this] at s;omega
   rw [ha,hb,<- this];grind
  have q:u0*a-v0*b-(v1*b-u1*a)=(i-first)*W+(u0+u1)*al-(v0+v1)*bl:=by
   have t1:u0*F-v0*S=i:=by rw [c] at p;omega
   have o:v1*S-u1*F=first:=by
    have:u1*v0-u0*v1= -1:=by omega
    rw [this] at s;omega
   rw [ha,hb,<- t1,<- o];grind
  have g:0<=v1*b-u1*a:=by omega
  have f:v1*b-u1*a<u0*a-v0*b:=by
   have:(v0+v1)*(bl+1)=(v0+v1)*bl+(v0+v1):=by grind
   omega
  have r:a=v1*(u0*a-v0*b)+v0*(v1*b-u1*a):=by
   have:v1*(u0*a-v0*b)+v0*(v1*b-u1*a)=(u0*v1-u1*v0)*a:=by grind
   rw [this,c];omega
  have m:b=u1*(u0*a-v0*b)+u0*(v1*b-u1*a):=by
   have:u1*(u0*a-v0*b)+u0*(v1*b-u1*a)=(u0*v1-u1*v0)*b:=by grind
   rw [this,c];omega
  exact ⟨⟨g,f⟩,r,m,k _ _ g f m⟩
 | false=>
  simp only [Ls,Lr,Bool.false_eq_true,if_false] at c ⊢
  have t1:v0*S-u0*F=i:=by rw [c] at p;omega
  have o:u1*F-v1*S=first:=by
   have:u1*v0-u0*v1=1:=by omega
   rw [this] at s;omega
  have A:u1*a-v1*b=first*W+u1*al-v1*bl:=by
   rw [ha,hb,<- o];grind
  have q:v0*b-u0*a-(u1*a-v1*b)=(i-first)*W+(v0+v1)*bl-(u0+u1)*al:=by
   rw [ha,hb,<- t1,<- o];grind
  have g:0<=u1*a-v1*b:=by omega
  have f:u1*a-v1*b<v0*b-u0*a:=by
   have:(u0+u1)*(al+1)=(u0+u1)*al+(u0+u1):=by grind
   omega
  have r:a=v1*(v0*b-u0*a)+v0*(u1*a-v1*b):=by
   have:v1*(v0*b-u0*a)+v0*(u1*a-v1*b)=(u1*v0-u0*v1)*a:=by grind
   have d:u1*v0-u0*v1=1:=by omega
   rw [this,d];omega
  have m:b=u1*(v0*b-u0*a)+u0*(u1*a-v1*b):=by
   have:u1*(v0*b-u0*a)+u0*(u1*a-v1*b)=(u1*v0-u0*v1)*b:=by grind
   have d:u1*v0-u0*v1=1:=by omega
   rw [this,d];omega
  exact ⟨⟨g,f⟩,r,m,k _ _ g f m⟩
def Leh.gcd{a b u0 v0 u1 v1:Int}{odd:Bool}(l:Leh a b u0 v0 u1 v1 (Ls a b u0 v0 odd) (Lr a b u1 v1 odd)):bK (Ls a b u0 v0 odd) (Lr a b u1 v1 odd)=bK a b:=by
 apply Nat.dvd_antisymm
 ·have f:=l.ha
  have g:=l.hb
  generalize Ls a b u0 v0 odd=p at *
  generalize Lr a b u1 v1 odd=q at *
  have dp:(bK p q:Int)∣p:=Int.gcd_dvd_left p q
  have e:(bK p q:Int)∣q:=Int.gcd_dvd_right p q
  rw [<- Int.ofNat_dvd]
  apply Int.dvd_coe_gcd
  ·rw [f];exact Int.dvd_add (aF dp) (aF e)
  ·rw [g];exact Int.dvd_add (aF dp) (aF e)
 ·have c:(bK a b:Int)∣a:=Int.gcd_dvd_left a b
  have d:(bK a b:Int)∣b:=Int.gcd_dvd_right a b
  rw [<- Int.ofNat_dvd]
  apply Int.dvd_coe_gcd
  ·unfold Ls;split
   ·exact bJ (aF c) (aF d)
   ·exact bJ (aF d) (aF c)
  ·unfold Lr;split
   ·exact bJ (aF d) (aF c)
   ·exact bJ (aF c) (aF d)
def Gr(pre ws:List Int)(i:Nat):(pre++ws).getD (i+pre.length) 0=ws.getD i 0:=by
 simp [aP,List.getElem?_append_right (Nat.le_add_left pre.length i)]
def Ll(pre ws:List Int)(i:Nat)(v:Int):(pre++ws).set (i+pre.length) v=pre++ws.set i v:=by
 rw [List.set_append_right _ _ (by omega),Nat.add_sub_cancel]
def Ef{B:Int}(hB:0<B){ws:List Int}{n:Nat}(d:Dig B ws)(h:val B ws<B^n):val B (ws.drop n)=0:=by
 by_cases b:n<=ws.length
 ·have c:=G1 B ws b
  have f:=C9 hB (d.take n)
  have e:=C9 hB (d.drop n)
  by_cases a:val B (ws.drop n)=0
  ·exact a
  ·have:B^n*1<=B^n*val B (ws.drop n):=aE (by omega) (aL (D9 hB n))
   omega
 ·rw [bC (by omega)];rfl
section
variable {g:Heap} {bu bq:Nat} {pre qs:List Int} {VA:Option Addr} {vs:List Int}
def B4s{n N:Nat}{ws:List Int}{q:Int}{J:LP}(hu:g bu=none)(hq:g bq=none)(hne:bu≠bq)(sv:SlI .u32 g VA vs)(dv:Dig b32 vs)(hn:n=vs.length)(dw:Dig b32 ws)(hN:N=(pre++ws).length)(hl:n<ws.length)(hbig:N<=200000000)
 (hD:val b32 (ws.take n)+val b32 vs<2*b32^n) (hD0:b32^n<=val b32 (ws.take n)+val b32 vs) (htop:ws.getD n 0=4294967295)
 (hJ:∀ ws',ws'.length=ws.length->Dig b32 ws'->ws'.drop (n+1)=ws.drop (n+1)->ws'.getD n 0=0->val b32 (ws'.take n)=val b32 (ws.take n)+val b32 vs-b32^n->J [U (C3 (q-1))] (Bj .u32 C6 g bu (pre++ws') bq qs)):
 Ri prog VA n (some ⟨bu,0,none⟩) N (pre.length:Int) q J (Bj .u32 C6 g bu (pre++ws) bq qs):=by
 unfold Ri
 refine ⟨fun l B=>∃ (k:Nat) (c:Int) (zs:List Int),l=[U c,I k]/\k<=n/\zs.length=ws.length/\Dig b32 zs/\(0<=c/\c<=1)/\B=Bj .u32 C6 g bu (pre++zs) bq qs/\zs.drop k=ws.drop k/\val b32 (zs.take k)+c*b32^k=val b32 (ws.take k)+val b32 (vs.take k),fun l _=>n-(iAt l 1).toNat,⟨0,0,ws,rfl,by omega,rfl,dw,by omega,rfl,rfl,by simp [val]⟩,?_⟩
 rintro c i Q ⟨k,G,zs,o,L,e,f,R,rfl,a,z⟩
 obtain ⟨rfl,rfl⟩:c=G/\i=(k:Int):=by simpa using o
 have m:g.le (Bj .u32 C6 g bu (pre++zs) bq qs):=Rd hu hq hne
 have y:SlI .u32 (Bj .u32 C6 g bu (pre++zs) bq qs) (some ⟨bu,0,none⟩) (pre++zs):=Wi hne
 have b:N=(pre++zs).length:=by rw [hN,aK,aK,e]
 have D:N=pre.length+zs.length:=by rw [b,aK]
 have s:B7 ((k:Int)+pre.length)=((k+pre.length:Nat):Int):=by rw [C1 (by omega) (by omega)];omega
 have r:B7 ((pre.length:Int)+n)=((n+pre.length:Nat):Int):=by rw [C1 (by omega) (by omega)];omega
 refine B8 (fun C=>?_) (fun C=>?_)
 ·have O:=Cq dv k
  have gz:=Cq f k
  have d:=E7 a
  have E:=C7 b32 vs k
  have F:=C7 b32 ws k
  rw [s]
  refine y.load b (by omega) (by omega) ?_
  refine (sv.mono m).load hn (by omega) (by omega) ?_
  simp only [aD,Gr]
  have H:C3 (c+C3 (C3 (zs.getD k 0)+C3 (vs.getD k 0)))=c+zs.getD k 0+vs.getD k 0:=by
   rw [C5 (n:=zs.getD k 0) (by omega) (by omega),C5 (n:=vs.getD k 0) (by omega) (by omega),C5 (n:=zs.getD k 0+vs.getD k 0) (by omega) (by omega),C5 (by omega) (by omega)];omega
  rw [H]
  refine ⟨_,rfl,by omega,by omega,?_⟩
  refine Q6 (us:=pre++zs) (i:=((k+pre.length:Nat):Int)) L0 hne (by rw [aD];omega) ?_
  rw [aD,Ll,Al,Xo,C1 (n:=(k:Int)+1) (by omega) (by omega)]
  refine ⟨⟨k+1,_,zs.set k ((c+zs.getD k 0+vs.getD k 0)%4294967296),rfl,by omega,by simpa using e,f.set (A40 _),by omega,rfl,?_,?_⟩,by simp only [iAt,aH,aR];omega⟩
  ·rw [D7 (by omega)];exact E5 a
  ·rw [D3 (by omega),F7,aI,aJ (by omega),aQ,Cx,E,F,<- d]
   grind
 ·have j:k=n:=by omega
  subst j
  have d:=E7 a
  rw [r]
  refine y.load b (by omega) (by omega) ?_
  rw [aD,Gr,d,htop]
  refine ⟨_,rfl,by omega,by omega,?_⟩
  refine Q6 (us:=pre++zs) (i:=((k+pre.length:Nat):Int)) L0 hne (by rw [aD];omega) ?_
  rw [aD,Ll]
  have t:vs.take k=vs:=by rw [hn,aM]
  rw [t] at z
  have p:=N3 (by decide) (f.take k)
  rw [aI,aJ (by omega)] at p
  have M:=C9 (by decide) (f.take k)
  have u:c=1:=by
   by_cases w:c=0
   ·subst w;omega
   ·omega
  subst u
  have A:H0 (4294967295+H0 1)=0:=by rw [P7 (n:=1) (by omega) (by omega),Al];omega
  rw [A]
  refine hJ (zs.set k 0) (by simpa using e) (f.set (by decide)) (by rw [D7 (by omega)];exact E5 a) (by simp [aP,show k<zs.length by omega]) ?_
  rw [bG (by omega)]
  omega
def B0o{n N nq:Nat}{ws:List Int}{q X Y:Int}{J:LP}(hu:g bu=none)(hq:g bq=none)(hne:bu≠bq)(sv:SlI .u32 g VA vs)(dv:Dig b32 vs)(hn:n=vs.length)(dw:Dig b32 ws)(hN:N=(pre++ws).length)(hl:n<ws.length)(hbig:N<=200000000)
 (hnq:nq=qs.length) (hjq:pre.length<qs.length)
 (hX:X=val b32 (ws.take n)+b32^n*ws.getD n 0) (hY:Y=val b32 vs) (hq0:0<=q) (hq1:q<=4294967296) (hlt:X<(q+1)*Y) (hge:(q-1)*Y<=X) (hXB:X<Y*4294967296)
 (hJ:∀ ws' q',ws'.length=ws.length->Dig b32 ws'->ws'.drop (n+1)=ws.drop (n+1)->ws'.getD n 0=0->val b32 (ws'.take n)=X-q'*Y->0<=X-q'*Y->X-q'*Y<Y->0<=q'->q'<4294967296->J [] (Bj .u32 C6 g bu (pre++ws') bq (qs.set pre.length q'))):
 Rj prog VA n (some ⟨bu,0,none⟩) N (some ⟨bq,0,none⟩) nq (pre.length:Int) J q (Bj .u32 C6 g bu (pre++ws) bq qs):=by
 have af:Y<b32^n:=by rw [hY,hn];exact N3 (by decide) dv
 have aj:0<=X:=by
  have w:=C9 (by decide) (dw.take n)
  have H:=aG (aL (D9 (B:=b32) (by decide) n)) (Cq dw n).1
  omega
 have W:0<Y:=by
  by_cases h0:0<Y
  ·exact h0
  ·have:Y=0:=by have:=C9 (by decide) dv;omega
   rw [this] at hXB;omega
 have V:∀ ws' q',ws'.length=ws.length->Dig b32 ws'->ws'.drop (n+1)=ws.drop (n+1)->ws'.getD n 0=0->val b32 (ws'.take n)=X-q'*Y->0<=X-q'*Y->X-q'*Y<Y->0<=q'->Rm prog (some ⟨bq,0,none⟩) nq (pre.length:Int) J q' (Bj .u32 C6 g bu (pre++ws') bq qs):=by
  intro ws' q' w H h3 h4 h5 h6 h7 h8
  have s:q'<4294967296:=by
   by_cases m:q'<4294967296
   ·exact m
   ·have:=aC (show 4294967296<=q' by omega) (aL W)
    rw [aO Y] at hXB;omega
  unfold Rm
  refine ⟨_,rfl,by omega,by omega,?_⟩
  refine Wj (i:=(pre.length:Int)) L0 (by rw [aD];omega) ?_
  rw [aD,P7 h8 (by omega)]
  exact hJ ws' q' w H h3 h4 h5 h6 h7 h8 s
 unfold Rj
 refine ⟨fun l D=>∃ (k:Nat) (c b:Int) (zs:List Int),l=[U c,U b,I k]/\k<=n/\zs.length=ws.length/\Dig b32 zs/\(0<=c/\c<4294967296)/\(0<=b/\b<=1)/\D=Bj .u32 C6 g bu (pre++zs) bq qs/\zs.drop k=ws.drop k/\val b32 (zs.take k)=val b32 (ws.take k)-q*val b32 (vs.take k)+(c+b)*b32^k,fun l _=>n-(iAt l 2).toNat,⟨0,0,0,ws,rfl,by omega,rfl,dw,by omega,by omega,rfl,rfl,by simp [val]⟩,?_⟩
 rintro c b i hp ⟨k,c',b',zs,G,hk,j,o,m,hb,rfl,d,C⟩
 obtain ⟨rfl,rfl,rfl⟩:c=c'/\b=b'/\i=(k:Int):=by simpa using G
 have E:g.le (Bj .u32 C6 g bu (pre++zs) bq qs):=Rd hu hq hne
 have su:SlI .u32 (Bj .u32 C6 g bu (pre++zs) bq qs) (some ⟨bu,0,none⟩) (pre++zs):=Wi hne
 have f:N=(pre++zs).length:=by rw [hN,aK,aK,j]
 have ah:N=pre.length+zs.length:=by rw [f,aK]
 have aa:B7 ((k:Int)+pre.length)=((k+pre.length:Nat):Int):=by rw [C1 (by omega) (by omega)];omega
 have T:B7 ((pre.length:Int)+n)=((n+pre.length:Nat):Int):=by rw [C1 (by omega) (by omega)];omega
 refine B8 (fun w=>?_) (fun w=>?_)
 ·have gv:=Cq dv k
  have gz:=Cq o k
  have r:=E7 d
  have vv:=C7 b32 vs k
  have vw:=C7 b32 ws k
  refine (sv.mono E).load hn (by omega) (by omega) ?_
  rw [aa]
  refine su.load f (by omega) (by omega) ?_
  simp only [aD,Gr]
  have hm:0<=q*vs.getD k 0/\q*vs.getD k 0<=4294967296*4294967295:=⟨aG hq0 gv.1,bO hq1 (by omega) gv.1 (by decide)⟩
  have ep:C3 (C3 (q*C3 (vs.getD k 0))+c)=q*vs.getD k 0+c:=by
   rw [C5 (n:=vs.getD k 0) (by omega) (by omega),C5 (n:=q*vs.getD k 0) (by omega) (by omega),C5 (by omega) (by omega)]
  rw [ep,Cy (by omega),Xo,Xo,C5 (n:=zs.getD k 0) (by omega) (by omega)]
  generalize y:q*vs.getD k 0+c=p at *
  have ai:0<=p/\p<18446744073709551616:=by omega
  have R:C3 (C3 (zs.getD k 0-p%4294967296)-b)=(zs.getD k 0-p%4294967296-b)%18446744073709551616:=by
   rw [F6,F6];omega
  rw [R,Zp (by omega)]
  refine ⟨_,rfl,by omega,by omega,?_⟩
  refine Q6 (us:=pre++zs) (i:=((k+pre.length:Nat):Int)) L0 hne (by rw [aD];omega) ?_
  rw [aD,Ll,Al,C1 (n:=(k:Int)+1) (by omega) (by omega)]
  refine ⟨⟨k+1,_,_,zs.set k ((zs.getD k 0-p%4294967296-b)%18446744073709551616%4294967296),rfl,by omega,by simpa using j,o.set (A40 _),by omega,by omega,rfl,?_,?_⟩,by simp only [iAt,aH,aR];omega⟩
  ·rw [D7 (by omega)];exact E5 d
  ·rw [D3 (by omega),F7,aI,aJ (by omega),aQ,vv,vw,<- r,C]
   have key:(zs.getD k 0-p%4294967296-b)%18446744073709551616%4294967296=zs.getD k 0-p-b+4294967296*(p/4294967296+(zs.getD k 0-p%4294967296-b)%18446744073709551616/4294967296%2):=by omega
   rw [key,<- y]
   grind
 ·have z:k=n:=by omega
  subst z
  have r:=E7 d
  have gz:=Cq o k
  have ab:vs.take k=vs:=by rw [hn,aM]
  rw [ab,<- hY] at C
  have Q:=N3 (by decide) (o.take k)
  rw [aI,aJ (by omega)] at Q
  have ag:=C9 (by decide) (o.take k)
  rw [T]
  refine su.load f (by omega) (by omega) ?_
  rw [aD,Gr]
  have hD:X-q*Y=val b32 (zs.take k)+(zs.getD k 0-c-b)*b32^k:=by
   rw [C,hX,r];grind
  have u:X-q*Y<Y:=by
   have:(q+1)*Y=q*Y+Y:=by grind
   omega
  have ad: -Y<=X-q*Y:=by
   have:(q-1)*Y=q*Y-Y:=by grind
   omega
  have y:0<b32^k:=D9 (by decide) k
  have a:zs.getD k 0-c-b=0\/zs.getD k 0-c-b= -1:=by
   have H:zs.getD k 0-c-b<1:=by
    by_cases m:zs.getD k 0-c-b<1
    ·exact m
    ·have:=aC (show 1<=zs.getD k 0-c-b by omega) (aL y);omega
   have h3: -2<zs.getD k 0-c-b:=by
    by_cases m: -2<zs.getD k 0-c-b
    ·exact m
    ·have:=aC (show zs.getD k 0-c-b <= -2 by omega) (aL y);omega
   omega
  have R:C3 (C3 (C3 (zs.getD k 0)-c)-b)=(zs.getD k 0-c-b)%18446744073709551616:=by
   rw [C5 (n:=zs.getD k 0) (by omega) (by omega),F6,F6];omega
  rw [R]
  have ac:∀ x:Int,Int.fdiv x (2^(min ((63:Int)).toNat 64))=x/9223372036854775808:=by
   intro x;rw [show (2:Int)^(min ((63:Int)).toNat 64)=9223372036854775808 by decide];exact bU x (by decide)
  refine ⟨_,rfl,by omega,by omega,?_⟩
  refine Q6 (us:=pre++zs) (i:=((k+pre.length:Nat):Int)) L0 hne (by rw [aD];omega) ?_
  rw [aD,Ll,Al,ac]
  have t:∀ v,(zs.set k v).getD k 0=v:=by intro v;simp [aP,show k<zs.length by omega]
  refine ⟨fun l D=>∃ ws' q',l=[U q']/\D=Bj .u32 C6 g bu (pre++ws') bq qs/\ws'.length=ws.length/\Dig b32 ws'/\ws'.drop (k+1)=ws.drop (k+1)/\ws'.getD k 0=0/\val b32 (ws'.take k)=X-q'*Y/\0<=X-q'*Y/\X-q'*Y<Y/\0<=q',?_,?_⟩
  ·rcases a with a|a
   ·rw [a] at hD ⊢
    refine D8 (fun e=>absurd e (by decide)) (fun _=>?_)
    refine ⟨zs.set k (0%18446744073709551616%4294967296),q,rfl,rfl,by simpa using j,o.set (by decide),by rw [D7 (by omega)];exact E5 d,t _,?_,by omega,u,hq0⟩
    rw [bG (by omega)];omega
   ·rw [a] at hD ⊢
    refine D8 (fun _=>?_) (fun e=>absurd (by decide) e)
    have M:1<=q:=by
     by_cases m:1<=q
     ·exact m
     ·have:q=0:=by omega
      subst this;omega
    have F:(zs.set k (-1%18446744073709551616%4294967296)).take k=zs.take k:=bG (by omega)
    have e1:(q-1)*Y=q*Y-Y:=by grind
    refine B4s (ws:=zs.set k (-1%18446744073709551616%4294967296)) hu hq hne sv dv hn (o.set (by decide)) (by rw [f];simp) (by simpa using (show k<zs.length by omega)) hbig ?_ ?_ (t _) ?_
    ·rw [F,<- hY];omega
    ·rw [F,<- hY];omega
    ·intro ws' L A O Z g5
     rw [F,<- hY] at g5
     rw [C5 (n:=q-1) (by omega) (by omega)]
     refine ⟨ws',q-1,rfl,rfl,by rw [L];simpa using j,A,?_,Z,by omega,by omega,by omega,by omega⟩
     rw [O,D7 (by omega)];exact E5 d
  ·rintro q2 ae ⟨ws',q',S,rfl,L,A,O,Z,g5,g6,g7,g8⟩
   obtain rfl:q2=q':=by simpa using S
   exact V ws' q2 L A O Z g5 g6 g7 g8
end
def A37(B:Int)(xs:List Int)(i:Nat):val B (xs.drop i)=xs.getD i 0+B*val B (xs.drop (i+1)):=by
 by_cases a:i<xs.length
 ·exact Ni B a
 ·rw [bC (by omega),bC (by omega)]
  simp [val,aP,aU (Nat.le_of_not_lt a)]
def Nm{s:Nat}(hs:s<=32):(2:Int)^s*2^(32-s)=4294967296:=by
 rw [<- Int.pow_add,show s+(32-s)=32 by omega];decide
section
variable {h g:Heap} {K:VP} {A B:Option Addr} {ac bc:Nat} {bu bq:Nat} {VA:Option Addr} {vs us0:List Int}
def B2i{s nq cq rn cr:Nat}{rs tl qs:List Int}{Q R:Int}(hu:g bu=none)(hq:g bq=none)(hne:bu≠bq)(hs:s<32)(hrn:rn=rs.length)(hcr:rn<=cr)(hnq:nq=qs.length)(hcq:nq<=cq)(dq:Dig b32 qs)(dr:Dig b32 rs)(hb1:nq<=200000000)(hb2:rn<=200000000)(hQ:val b32 qs=Q)(hR:val b32 rs=R*2^s)
 (hK:∀ A1 m1 c1 A2 m2 c2 h',g.le h'->m1<=c1->m2<=c2->Mg h' A1 m1 Q->Mg h' A2 m2 R->K (.tuple #[.slice A1 m1 c1,.slice A2 m2 c2]) h'):
 Kt prog K (s:Int) (some ⟨bq,0,none⟩) nq cq (some ⟨bu,0,none⟩) rn cr (Bj .u32 C6 g bu (rs++tl) bq qs):=by
 have o:0<(2:Int)^s:=aX (by decide)
 have b:=Nm (Nat.le_of_lt hs)
 have j:0<(2:Int)^(32-s):=aX (by decide)
 unfold Kt
 refine ⟨fun l h'=>∃ (k:Nat) (zs:List Int),l=[I k]/\k<=rn/\zs.length=rs.length/\Dig b32 zs/\h'=Bj .u32 C6 g bu (zs++tl) bq qs/\zs.drop k=rs.drop k/\2^s*val b32 (zs.take k)+rs.getD 0 0%2^s=val b32 (rs.take k)+b32^k*(rs.getD k 0%2^s),fun l _=>rn-(iAt l 0).toNat,⟨0,rs,rfl,by omega,rfl,dr,rfl,rfl,by simp [val]⟩,?_⟩
 rintro i ab ⟨k,zs,F,hk,a,y,rfl,d,w⟩
 obtain rfl:=sI1 F
 have A:∀ zs:List Int,SlI .u32 (Bj .u32 C6 g bu (zs++tl) bq qs) (some ⟨bu,0,none⟩) zs:=by
  intro zs
  have:=(Wi (g:=g) (k:=.u32) (e:=C6) (us:=zs++tl) (qs:=qs) hne).cut (c:=(zs++tl).length) (l:=0) (m:=zs.length) (by omega) (by simp) (aW _)
  simpa [J0] using this
 have M:B7 ((k:Int)+1)=((k+1:Nat):Int):=by rw [C1 (by omega) (by omega)];omega
 have gz:=Cq y k
 have t:=E7 d
 refine B8 (fun N=>?_) (fun N=>?_)
 ·refine (A zs).load (by omega) (by omega) (by omega) ?_
  refine B8 (fun e=>absurd e (by omega)) (fun _=>?_)
  refine ⟨_,rfl,by omega,by omega,?_⟩
  simp only [aD]
  rw [aJ (by omega),bU _ (aL o)]
  refine Q6 (us:=zs++tl) (i:=(k:Int)) L0 hne (by rw [aD,aK];omega) ?_
  rw [aD,List.set_append_left _ _ (by omega),M]
  have f:0<=zs.getD k 0/2^s:=aZ gz.1 (by omega)
  have B:zs.getD k 0/2^s<2^(32-s):=by
   apply aV o
   rw [aO,b];exact gz.2
  have u:(2:Int)^(32-s)<=4294967296:=by
   rw [<- b]
   have:=aC (show 1<=(2:Int)^s by omega) (aL j);omega
  have d1:Dig b32 (zs.set k (zs.getD k 0/2^s)):=y.set ⟨f,by show _<(4294967296:Int);omega⟩
  have l1:(zs.set k (zs.getD k 0/2^s)).length=rs.length:=by rw [bD];exact a
  have Z:(zs.set k (zs.getD k 0/2^s)).getD k 0=zs.getD k 0/2^s:=by simp [aP,show k<zs.length by omega]
  have W:(zs.set k (zs.getD k 0/2^s)).getD (k+1) 0=rs.getD (k+1) 0:=by
   rw [A68 (by omega)];exact E7 (E5 d)
  have vr:=C7 b32 rs k
  have p:∀ z:Int,(0<=z/\z<4294967296)->2^s*z=zs.getD k 0-zs.getD k 0%2^s+4294967296*(rs.getD (k+1) 0%2^s)->
   2^s*val b32 ((zs.set k z).take (k+1))+rs.getD 0 0%2^s=val b32 (rs.take (k+1))+b32^(k+1)*(rs.getD (k+1) 0%2^s):=by
   intro z hz ez
   rw [D3 (by omega),F7,aI,aJ (by omega),vr,aQ,<- t]
   rw [<- t] at w
   have V:2^s*(val b32 (zs.take k)+b32^k*z)=2^s*val b32 (zs.take k)+b32^k*(2^s*z):=by grind
   rw [V,ez]
   grind
  have T:=aS (zs.getD k 0) (2^s)
  refine B8 (fun h2=>?_) (fun h2=>?_)
  ·refine (A _).load (by omega) (by omega) (by omega) ?_
   refine (A _).load (by omega) (by omega) (by omega) ?_
   simp only [aD,Z,W]
   have es:C3 ((32:Int)-s)=((32-s:Nat):Int):=by rw [C5 (by omega) (by omega)];omega
   rw [es]
   refine B8 (fun e=>absurd e (by omega)) (fun _=>?_)
   refine ⟨_,rfl,by omega,by omega,?_⟩
   have O:=Cq dr (k+1)
   have C:0<=rs.getD (k+1) 0*2^(32-s):=aG O.1 (by omega)
   have D:rs.getD (k+1) 0*2^(32-s)<18446744073709551616:=by
    have:=bO (show rs.getD (k+1) 0<=4294967295 by omega) u (by omega) (by decide)
    omega
   rw [aD,aJ (show 32-s<=64 by omega),C5 (n:=rs.getD (k+1) 0) (by omega) (by omega),C5 C D,Al]
   obtain ⟨o1,S⟩:=A8b (s:=32-s) (by omega) O ⟨f,B⟩
   rw [o1]
   refine Q6 (us:=zs.set k (zs.getD k 0/2^s)++tl) (i:=(k:Int)) L0 hne (by rw [aD,aK];omega) ?_
   rw [aD,List.set_append_left _ _ (by omega),List.set_set]
   have X:=A40 (rs.getD (k+1) 0*2^(32-s))
   refine ⟨⟨k+1,zs.set k (zs.getD k 0/2^s+rs.getD (k+1) 0*2^(32-s)%4294967296),rfl,by omega,by simpa using a,y.set ⟨by omega,S⟩,rfl,by rw [D7 (by omega)];exact E5 d,p _ ⟨by omega,S⟩ ?_⟩,by simp only [iAt,aH];omega⟩
   have em:rs.getD (k+1) 0*2^(32-s)%4294967296=2^(32-s)*(rs.getD (k+1) 0%2^s):=by
    rw [<- b,aO (2^s),aO (rs.getD (k+1) 0),bW _ _ j]
   rw [em,Int.mul_add,<- Int.mul_assoc,b]
   omega
  ·have G:k+1=rs.length:=by omega
   have E:rs.getD (k+1) 0=0:=by simp [aP,aU (show rs.length<=k+1 by omega)]
   refine ⟨⟨k+1,zs.set k (zs.getD k 0/2^s),rfl,by omega,l1,d1,rfl,by rw [D7 (by omega)];exact E5 d,p _ ⟨f,by omega⟩ ?_⟩,by simp only [iAt,aH];omega⟩
   rw [E,Int.zero_emod,bH,bY];omega
 ·have L:k=rs.length:=by omega
  subst L
  have E:rs.getD rs.length 0=0:=by simp [aP]
  rw [aM,<- a,aM,a,E] at w
  have H:val b32 zs=R:=by
   have h0:=aY (rs.getD 0 0) (show (2:Int)^s≠0 by omega)
   have N:=aT (rs.getD 0 0) o
   rw [hR] at w
   simp at w
   have:2^s*(R-val b32 zs)=rs.getD 0 0%2^s:=by
    have:2^s*(R-val b32 zs)=R*2^s-2^s*val b32 zs:=by grind
    simp only [aP] at *
    omega
   have hz:R-val b32 zs=0:=by
    by_cases hc:R-val b32 zs<=0
    ·by_cases J:R-val b32 zs=0
     ·exact J
     ·have:=aE (show R-val b32 zs <= -1 by omega) (aL o);omega
    ·have:=aE (show 1<=R-val b32 zs by omega) (aL o);omega
   omega
  rw [hnq]
  refine An C0a dq (by omega) (by omega) ?_
  intro m1 ac r
  refine ⟨_,_,_,rfl,?_⟩
  rw [hrn,<- a]
  refine An (A zs) y (by omega) (by omega) ?_
  intro m2 aa q
  rw [hQ] at r
  rw [H] at q
  exact ⟨_,_,_,rfl,hK _ _ _ _ _ _ _ (Rd hu hq hne) (by omega) (by omega) r q⟩
def B0v{s mm N nq:Nat}{us0:List Int}{a b Y:Int}(hu:g bu=none)(hq:g bq=none)(hne:bu≠bq)(sv:SlI .u32 g VA vs)(dv:Dig b32 vs)(hn:vs.length=mm+2)(hv1:4294967296<=2*vs.getD (mm+1) 0)(hs:s<32)(hY:val b32 vs=Y)(hYb:Y=b*2^s)(du:Dig b32 us0)(hN:us0.length=N)(hua:val b32 us0=a*2^s)(hnq:N=nq+(mm+2))(hnq1:1<=nq)(hbig:N<=200000000)(htop:val b32 (us0.drop nq)<Y)
 (hK:∀ A1 m1 c1 A2 m2 c2 h',g.le h'->m1<=c1->m2<=c2->Mg h' A1 m1 (a/b)->Mg h' A2 m2 (a%b)->K (.tuple #[.slice A1 m1 c1,.slice A2 m2 c2]) h'):
 Rl prog K (s:Int) VA (mm+2) (some ⟨bu,0,none⟩) N N (some ⟨bq,0,none⟩) nq nq (Bj .u32 C6 g bu us0 bq (bL nq 0)):=by
 have hp:0<(2:Int)^s:=aX (by decide)
 have ap:Y<b32^(mm+2):=by rw [<- hY,<- hn];exact N3 (by decide) dv
 have ax:0<Y:=by have:=C9 (by decide) (du.drop nq);omega
 have e0:B7 (B7 ((N:Int)-((mm+2:Nat):Int))-1)=(nq:Int)-1:=by rw [C1 (n:=(N:Int)-((mm+2:Nat):Int)) (by omega) (by omega),C1 (by omega) (by omega)];omega
 unfold Rl
 refine ⟨fun l h'=>∃ (k:Nat) (us qs:List Int),l=[I ((k:Int)-1)]/\k<=nq/\us.length=N/\qs.length=nq/\Dig b32 us/\Dig b32 qs/\h'=Bj .u32 C6 g bu us bq qs/\val b32 (us.drop k)<Y/\val b32 us0=val b32 (qs.drop k)*Y*b32^k+val b32 us,fun l _=>(iAt l 0+1).toNat,⟨nq,us0,_,by rw [e0],by omega,hN,by simp,du,J1 (by decide) _,rfl,htop,by simp [val]⟩,?_⟩
 rintro j aq ⟨k,us,qs,ae,hk,o,A,f,Q,rfl,af,hv⟩
 obtain rfl:j=(k:Int)-1:=by simpa using ae
 have C:g.le (Bj .u32 C6 g bu us bq qs):=Rd hu hq hne
 have T:SlI .u32 (Bj .u32 C6 g bu us bq qs) (some ⟨bu,0,none⟩) us:=Wi hne
 unfold A04
 refine B8 (fun h1=>?_) (fun h1=>?_)
 ·obtain ⟨j,rfl⟩:∃ j,k=j+1:=⟨k-1,by omega⟩
  have ej:((j+1:Nat):Int)-1=(j:Int):=by omega
  rw [ej]
  have e1:B7 ((j:Int)+((mm+2:Nat):Int))=((j+(mm+2):Nat):Int):=by rw [C1 (by omega) (by omega)];omega
  have e2:B7 (((j+(mm+2):Nat):Int)-1)=((j+(mm+1):Nat):Int):=by rw [C1 (by omega) (by omega)];omega
  have e3:B7 (((mm+2:Nat):Int)-1)=((mm+1:Nat):Int):=by rw [C1 (by omega) (by omega)];omega
  rw [e1,e2,e3]
  have D:=f.drop j
  have M:(us.drop j).length=N-j:=by rw [List.length_drop,o]
  have ak:∀ i,(us.drop j).getD i 0=us.getD (j+i) 0:=fun i=>A48
  have t:val b32 ((us.drop j).drop (mm+3))=0:=by
   have:=Ef (B:=b32) (by decide) (n:=mm+2) (f.drop (j+1)) (by omega)
   rw [bB] at this ⊢
   rw [show j+(mm+3)=j+1+(mm+2) by omega];exact this
  have am:=A37 b32 us j
  have F:val b32 (us.drop j)<Y*4294967296:=by
   have:=Cq f j
   rw [am]
   have:b32*(val b32 (us.drop (j+1))+1)<=b32*Y:=aE (by omega) (by decide)
   have e:b32*(val b32 (us.drop (j+1))+1)=b32*val b32 (us.drop (j+1))+4294967296:=by show (4294967296:Int)*_=_;grind
   have e':Y*4294967296=b32*Y:=aO _ _
   omega
  have u:=G1 b32 (us.drop j) (i:=mm+3) (by omega)
  rw [t,bH,bY] at u
  have V:=I3 b32 (us.drop j) (mm+2)
  have hX:val b32 (us.drop j)=val b32 ((us.drop j).take (mm+2))+b32^(mm+2)*(us.drop j).getD (mm+2) 0:=by rw [u];exact V
  have es:=C03 (B:=b32) (by decide) (us:=(us.drop j).take (mm+3)) (m:=mm) (D.take _) dv (by rw [aI,M];omega) hn hv1 (by rw [<- u,hY];exact F)
  have gt:∀ i,i<mm+3->((us.drop j).take (mm+3)).getD i 0=us.getD (j+i) 0:=by
   intro i hi
   rw [<- ak];simp [aP,hi]
  rw [gt (mm+2) (by omega),gt (mm+1) (by omega),gt mm (by omega),<- u,hY] at es
  refine ⟨fun l h'=>∃ d r,l=[]/\h'=Bj .u32 C6 g bu d bq (qs.set j r)/\d.length=N/\Dig b32 d/\(0<=r/\r<4294967296)/\val b32 (d.drop j)<Y/\val b32 (d.drop j)=val b32 (us.drop j)-r*Y/\d.take j=us.take j,?_,?_⟩
  ·refine T.load o.symm (by omega) (by omega) ?_
   refine T.load o.symm (by omega) (by omega) ?_
   refine (sv.mono C).load hn.symm (by omega) (by omega) ?_
   simp only [aD]
   have au:=Cq dv (mm+1)
   have ew:C3 (vs.getD (mm+1) 0)=vs.getD (mm+1) 0:=C5 (by omega) (by omega)
   refine B8 (fun e=>absurd (ew.symm.trans e) (by omega)) (fun _=>?_)
   refine (sv.mono C).load hn.symm (by omega) (by omega) ?_
   simp only [aD]
   refine B8 (fun e=>absurd (ew.symm.trans e) (by omega)) (fun _=>?_)
   refine ⟨fun l h'=>∃ q,l=[U q]/\h'=Bj .u32 C6 g bu us bq qs/\0<=q/\q<=4294967296/\val b32 (us.drop j)<(q+1)*Y/\(q-1)*Y<=val b32 (us.drop j),?_,?_⟩
   ·have:=B83 (us:=us) (vs:=vs) (n:=mm+2) (j:=j) (J:=fun l h'=>∃ q,l=[U q]/\h'=Bj .u32 C6 g bu us bq qs/\0<=q/\q<=4294967296/\val b32 (us.drop j)<(q+1)*Y/\(q-1)*Y<=val b32 (us.drop j)) es (sv.mono C) T hn.symm (by omega) (by omega) (by omega) rfl rfl (by rw [show j+(mm+2)-2=j+mm by omega]) (Cq f (j+(mm+2))) (Cq f (j+(mm+1))) rfl (fun q q0 q1 q2 q3=>⟨q,rfl,rfl,q0,q1,q2,q3⟩)
    rw [o] at this
    exact this
   ·rintro q ao ⟨r,al,rfl,ad,aj,E,L⟩
    obtain rfl:q=r:=by simpa using al
    unfold A02
    have p:(us.take j).length=j:=by rw [aI,o];omega
    have:=B0o (g:=g) (bu:=bu) (bq:=bq) (pre:=us.take j) (qs:=qs) (VA:=VA) (vs:=vs) (n:=mm+2) (N:=N) (nq:=nq) (ws:=us.drop j) (q:=q) (X:=val b32 (us.drop j)) (Y:=Y)
     (J:=fun l h'=>∃ d r,l=[]/\h'=Bj .u32 C6 g bu d bq (qs.set j r)/\d.length=N/\Dig b32 d/\(0<=r/\r<4294967296)/\val b32 (d.drop j)<Y/\val b32 (d.drop j)=val b32 (us.drop j)-r*Y/\d.take j=us.take j)
     hu hq hne sv dv hn.symm D (by rw [bF,o]) (by omega) hbig A.symm (by omega) hX hY.symm ad aj E L F ?_
    ·rw [bF,p] at this
     exact this
    ·intro O r w1 w2 w3 w4 w5 w6 w7 w8 w9
     refine ⟨us.take j++O,r,rfl,by rw [p],by rw [aK,w1,M,p];omega,Dig.append (f.take j) w2,⟨w8,w9⟩,?_,?_,?_⟩
     all_goals first|(rw [List.drop_left' p])|(rw [List.take_left' p])
     all_goals
      have z1:=G1 b32 O (i:=mm+3) (by omega)
      rw [w3,t,I3,w4,w5] at z1
      simp at z1
      omega
  ·rintro an ⟨d,r,_,rfl,u1,u2,u3,u4,u5,u6⟩
   unfold A03
   have Z:B7 ((j:Int)-1)=(j:Int)-1:=C1 (by omega) (by omega)
   rw [Z]
   refine ⟨⟨j,d,qs.set j r,rfl,by omega,u1,by simpa using A,u2,Q.set u3,rfl,u4,?_⟩,by simp only [iAt,aH];omega⟩
   have ag:=G1 b32 d (i:=j) (by omega)
   have ai:=G1 b32 us (i:=j) (by omega)
   rw [hv,Y8 (by omega),ag,ai,u5,u6,aQ]
   simp only [val]
   grind
 ·have aa:k=0:=by omega
  subst aa
  simp at af hv
  have aw:0<b:=by
   by_cases S:0<b
   ·exact S
   ·have:=aC (show b<=0 by omega) (aL hp);omega
  have ar:=C9 (by decide) f
  have hR:val b32 us=(a-val b32 qs*b)*2^s:=by
   rw [hua,hYb] at hv
   grind
  have W:0<=a-val b32 qs*b:=by
   by_cases S:0<=a-val b32 qs*b
   ·exact S
   ·have:=aC (show a-val b32 qs*b <= -1 by omega) (aL hp);omega
  have ah:a-val b32 qs*b<b:=by
   by_cases S:a-val b32 qs*b<b
   ·exact S
   ·have:=aC (show b<=a-val b32 qs*b by omega) (aL hp);omega
  have w:a/b=val b32 qs:=by
   have:a=(a-val b32 qs*b)+val b32 qs*b:=by omega
   rw [this,bZ _ _ (by omega),bX W ah,Int.zero_add]
  have G:a%b=a-val b32 qs*b:=by
   have:=Int.emod_def a b
   rw [this,w,aO]
  rw [w,G] at hK
  have hz:=Ef (B:=b32) (by decide) (n:=mm+2) f (by omega)
  have z:=G1 b32 us (i:=mm+2) (by omega)
  rw [hz,bH,bY] at z
  refine ⟨⟨by omega,by omega⟩,?_⟩
  rw [J0,aD,Nat.sub_zero,Nat.sub_zero]
  have y:(us.take (mm+2)).length=mm+2:=by rw [aI,o];omega
  have st:SlI .u32 (Bj .u32 C6 g bu us bq qs) (some ⟨bu,0,none⟩) (us.take (mm+2)):=by
   have:=T.cut (c:=N) (l:=0) (m:=mm+2) (by omega) (by omega) (by omega)
   simpa [J0] using this
  have tr:=A39 (K:=fun r7 H=>∃ (t259A:Option Addr) (t259n:Nat) (t259c:Nat),r7= .slice t259A t259n t259c/\Kt prog K (s:Int) (some ⟨bq,0,none⟩) nq nq t259A t259n t259c H) (ac:=N) st (by omega) (by omega) ?_
  ·rw [y] at tr;exact tr
  ·intro m hm av R
   rw [y] at hm
   rw [List.take_take,aJ hm] at R
   refine ⟨_,_,_,rfl,?_⟩
   have ab:us=us.take m++us.drop m:=(bF m us).symm
   rw [ab]
   refine B2i (rs:=us.take m) (tl:=us.drop m) (qs:=qs) hu hq hne hs (by rw [aI,o];omega) (by omega) A.symm (aW _) Q (f.take m) (by omega) (by omega) rfl ?_ hK
   rw [R,<- z,hR]
end
