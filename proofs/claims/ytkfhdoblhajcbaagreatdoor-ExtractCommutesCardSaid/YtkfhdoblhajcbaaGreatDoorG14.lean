/- A part. -/
import Derived.Test.YtkfhdoblhajcbaaGreatDoorG12
import Derived.Test.YtkfhdoblhajcbaaGreatDoorG13
open Go.Proofs.Tryz
set_option linter.all false
open Int renaming mul_le_mul_of_nonneg_right->aC,toNat_natCast->aD,mul_le_mul_of_nonneg_left->aE,dvd_mul_of_dvd_right->aF,mul_nonneg->aG,le_of_lt->aJ,mul_ediv_add_emod->aN,ediv_lt_of_lt_mul->aO,pow_pos->aQ,ediv_nonneg->aR,pow_succ->aS,emod_lt_of_pos->aU,emod_nonneg->aW,mul_zero->aY,mul_comm->aZ,mul_pos->bC,dvd_sub->bD,gcd->bF,tmod_eq_emod_of_nonneg->bH,tdiv_eq_ediv_of_nonneg->bI,mul_le_mul->bJ,mul_emod_mul_of_pos->bK,ediv_eq_zero_of_lt->bL,add_zero->bM,add_mul_ediv_right->bN
open List renaming getElem?_cons_zero->aH,length_take->aK,getElem?_cons_succ->aL,take_of_length_le->aM,drop_drop->aT,drop_of_length_le->aV,take_set_of_le->aX,replicate->bG
open Nat renaming min_eq_left->aI,le_refl->aP
namespace Go.Proofs.YtkfhdoblhajcbaaGreatDoor
set_option maxRecDepth 20000
open Go
section
variable {h g:Heap} {K:VP} {A B:Option Addr} {ac bc:Nat}
def Rm{x y:Int}{an bn:Nat}(ma:Mg h A an x)(mb:Mg h B bn y)(hxy:y<=x)(hl:an<=100000000)(hK:∀ A' m c' h',h.le h'->m<=c'->Mg h' A' m (x-y)->K (.slice A' m c') h'):FCall prog 99 #[.slice A an ac,.slice B bn bc] h K:=by
 have M:bn<=an:=by
  have j:=ma.lt dc
  exact mb.len_le dc (Int.lt_of_le_of_lt hxy j)
 obtain ⟨a,rfl,F,O,X,rfl⟩:=ma
 obtain ⟨f,rfl,C,H,R,rfl⟩:=mb
 refine (fnk func99 [(4,[6,7],[],[U 0,I 0])] (cs:=[(9,[8],[],[U 0])])) ?_
 refine J9 Oa o o o ?_
 intro b z
 refine ⟨_,_,_,rfl,?_⟩
 refine ⟨fun l h'=>∃ (k:Nat) (c:Int) (zs:List Int),l=[U c,I k]/\k<=a.length/\zs.length=a.length/\Dig b32 zs/\(0<=c/\c<=1)/\h'=blk .u32 197 h b zs/\val b32 (zs.take k)=val b32 (a.take k)-val b32 (f.take k)+c*b32^k,fun l _=>a.length-(iAt l 1).toNat,⟨0,0,_,rfl,o,by simp,I5 dc _,o,rfl,by rfl⟩,?_⟩
 rintro c i T ⟨k,c',zs,N,Q,r,p,W,rfl,s⟩
 obtain ⟨rfl,rfl⟩:c=c'/\i=(k:Int):=gz0
 have g:=Cm (k:=.u32) (e:=197) z zs
 refine C0 (fun j=>?_) (fun j=>?_)
 ·have V:=Bq O k
  have S:=Bq H k
  have D:=C7 b32 a k
  have G:=C7 b32 f k
  refine (F.mono g).load rfl o o ?_
  rw [aD]
  refine ⟨fun l h'=>l=[U (C8 (a.getD k 0-c-f.getD k 0))]/\h'=blk .u32 197 h b zs,C0 (fun w=>?_) (fun w=>?_),?_⟩
  ·refine (C.mono g).load rfl o o ?_
   rw [aD]
   refine ⟨?_,rfl⟩
   rw [C6 (n:=a.getD k 0) o o,C6 (n:=f.getD k 0) o o,F2,F2,F2]
   grind
  ·refine ⟨?_,rfl⟩
   have t:f.getD k 0=0:=gz0
   rw [t,C6 (n:=a.getD k 0) o o,Int.sub_zero]
  ·rintro d E ⟨L,rfl⟩
   obtain rfl:d=C8 (a.getD k 0-c-f.getD k 0):=gz0
   refine ⟨_,rfl,o,o,?_⟩
   refine T2 (k:=.u32) (zs:=zs) (i:=(k:Int)) K4 o ?_
   rw [aD,Bk,Uo,F2,C1 (n:=(k:Int)+1) o o,Wo o]
   refine ⟨⟨k+1,_,zs.set k ((a.getD k 0-c-f.getD k 0)%18446744073709551616%4294967296),rfl,o,gz0,p.set (A7a _),o,rfl,?_⟩,by simp only [iAt,aH,aL];omega⟩
   rw [D3 o,F3,aK,aI o,aS,D,G,s]
   have key:(a.getD k 0-c-f.getD k 0)%18446744073709551616%4294967296=a.getD k 0-c-f.getD k 0+4294967296*((a.getD k 0-c-f.getD k 0)%18446744073709551616/4294967296%2):=o
   grind
 ·have q:k=a.length:=o
  subst q
  rw [List.take_length,aM (show f.length<=a.length from o),aM (show zs.length<=a.length from o)] at s
  have u:c=0:=by
   have j:=L9 dc p
   grind
  rw [<- r]
  refine Ai (Aw _ _ _ _ _) p (aP _) o ?_
  grind
def B14{xs:List Int}{i:Nat}(hi:i<xs.length):xs.drop i=xs.getD i 0::xs.drop (i+1):=by
 simp_all
def Kt(B:Int){xs:List Int}{i:Nat}(hi:i<xs.length):val B (xs.drop i)=xs.getD i 0+B*val B (xs.drop (i+1)):=by
 rw [B14 hi];rfl
def Y6{xs:List Int}{i:Nat}{v:Int}(hi:i<xs.length):(xs.set i v).drop i=v::xs.drop (i+1):=by
 rw [List.drop_eq_getElem_cons gz0]
 simp [List.drop_set_of_lt]
def Lh{x d:Int}{an:Nat}(ma:Mg h A an x)(hd0:0<d/\d<4294967296)(hl:an<=100000000)(hK:∀ A' m c' h',h.le h'->m<=c'->m<=an->Mg h' A' m (x/d)->K (.tuple #[.slice A' m c',U32 (x%d)]) h'):FCall prog 137 #[.slice A an ac,U32 d] h K:=by
 obtain ⟨a,rfl,F,M,S,rfl⟩:=ma
 refine (fnk func137 [(4,[7,8],[],[U 0,I 0])]) ?_
 refine J9 Oa o o o ?_
 intro b z
 rw [aD]
 refine ⟨_,_,_,rfl,?_⟩
 refine ⟨fun l h'=>∃ (k:Nat) (r:Int) (zs:List Int),l=[U r,I ((k:Int)-1)]/\k<=a.length/\zs.length=a.length/\Dig b32 zs/\(0<=r/\r<d)/\h'=blk .u32 197 h b zs/\val b32 (a.drop k)=val b32 (zs.drop k)*d+r,fun l _=>(iAt l 1+1).toNat,⟨a.length,0,_,by rw [C1 o o],o,by simp,I5 dc _,o,rfl,by simp [val]⟩,?_⟩
 rintro r i Q ⟨k,y,zs,L,O,q,u,c,rfl,f⟩
 obtain ⟨rfl,rfl⟩:r=y/\i=(k:Int)-1:=gz0
 have s:=Cm (k:=.u32) (e:=197) z zs
 refine C0 (fun B=>?_) (fun B=>?_)
 ·obtain ⟨j,rfl⟩:∃ j,k=j+1:=⟨k-1,o⟩
  have e:((j+1:Nat):Int)-1=(j:Int):=o
  rw [e]
  have G:=Bq M j
  refine (F.mono s).load rfl o o ?_
  rw [aD]
  have H:C8 d=d:=C6 o o
  have C:bor .u64 (C8 (r*2^(min ((32:Int)).toNat 64))) (C8 (a.getD j 0))=r*4294967296+a.getD j 0:=by
   rw [show (2:Int)^(min ((32:Int)).toNat 64)=4294967296 from dc,C6 (n:=a.getD j 0) o o,C6 (n:=r*4294967296) o o]
   exact Zf o G
  rw [H,C]
  have p:0<=r*4294967296+a.getD j 0:=o
  have D:Int.tdiv (r*4294967296+a.getD j 0) d=(r*4294967296+a.getD j 0)/d:=bI p
  have E:Int.tmod (r*4294967296+a.getD j 0) d=(r*4294967296+a.getD j 0)%d:=bH p
  rw [D,E]
  have w:0<=(r*4294967296+a.getD j 0)/d/\(r*4294967296+a.getD j 0)/d<4294967296:=by
   constructor
   ·exact aR p o
   ·apply aO o
    omega
  refine C0 (fun e=>absurd e o) (fun _=>?_)
  refine ⟨_,rfl,o,o,?_⟩
  refine T2 (k:=.u32) (zs:=zs) (i:=(j:Int)) K4 o ?_
  rw [aD,C6 o o,Q3 o o,C1 o o]
  refine C0 (fun e=>absurd e o) (fun _=>?_)
  refine ⟨⟨j,_,zs.set j ((r*4294967296+a.getD j 0)/d),rfl,o,gz0,u.set w,⟨aW _ o,aU _ o⟩,rfl,?_⟩,by simp only [iAt,aH,aL];omega⟩
  rw [Y6 o,Kt b32 o,f]
  have:=aN (r*4294967296+a.getD j 0) d
  simp only [val]
  grind
 ·have g:k=0:=o
  subst g
  rw [List.drop_zero,List.drop_zero] at f
  rw [<- q]
  refine Ai (Aw _ _ _ _ _) u (aP _) o ?_
  intro m R N
  have w:val b32 a/d=val b32 zs:=by
   rw [f,Int.add_comm,bN _ _ o,bL c.1 c.2,Int.zero_add]
  have t:val b32 a%d=r:=by
   rw [f,Int.add_comm,Int.add_mul_emod_self_right,Int.emod_eq_of_lt c.1 c.2]
  rw [Q3 o o,<- t]
  grind
end
def C0c{a b:Int}(ha:0<=a/\a<4294967296)(hb:0<=b/\b<4294967296):0<=a*b/\a*b<=18446744065119617025:=by
 refine ⟨aG ha.1 hb.1,?_⟩
 have:=bJ (show a<=4294967295 from o) (show b<=4294967295 from o) hb.1 dc
 omega
def F1{xs ys:List Int}{i:Nat}(h:xs.drop i=ys.drop i):xs.getD i 0=ys.getD i 0:=by
 have a:(xs.drop i)[0]? = (ys.drop i)[0]? :=by rw [h]
 grind
def E7{xs ys:List Int}{i:Nat}(h:xs.drop i=ys.drop i):xs.drop (i+1)=ys.drop (i+1):=by
 rw [<- aT,<- aT,h]
def E5{xs:List Int}{i j:Nat}{v:Int}(h:i<j):(xs.set i v).drop j=xs.drop j:=List.drop_set_of_lt h
section
variable {h g:Heap} {K:VP} {A B:Option Addr} {ac bc:Nat}
def Sh{x y:Int}{an bn:Nat}(ma:Mg h A an x)(mb:Mg h B bn y)(hl:an<=100000000)(hl2:bn<=100000000)(hK:∀ A' m c' h',h.le h'->m<=c'->Mg h' A' m (x*y)->K (.slice A' m c') h'):FCall prog 103 #[.slice A an ac,.slice B bn bc] h K:=by
 have E:=ma.len_zero dc
 have G:=mb.len_zero dc
 obtain ⟨d,rfl,sx,dx,nx,rfl⟩:=ma
 obtain ⟨a,rfl,S,dy,ny,rfl⟩:=mb
 refine A83 _ _ _ _ _ _ ?_
 refine D5 (fun R=>?_) (fun hx=>D5 (fun R=>?_) (fun hy=>?_))
 ·have:=hK none 0 0 h (B7 h) (aP _) (by rw [E.2 o,Int.zero_mul];exact Mag.zero)
  exact this
 ·have:=hK none 0 0 h (B7 h) (aP _) (by rw [G.2 o,aY];exact Mag.zero)
  exact this
 have e1:C4 ((d.length:Int)+a.length)=((d.length+a.length:Nat):Int):=by rw [C1 o o];omega
 rw [e1]
 refine J9 Oa o o o ?_
 intro b L
 rw [aD]
 refine ⟨_,_,_,rfl,?_⟩
 refine ⟨fun l h'=>∃ (k:Nat) (zs:List Int),l=[I k]/\k<=d.length/\zs.length=d.length+a.length/\Dig b32 zs/\h'=blk .u32 197 h b zs/\zs.drop (k+a.length)=bG (d.length-k) 0/\val b32 (zs.take (k+a.length))=val b32 (d.take k)*val b32 a,fun l _=>d.length-(iAt l 0).toNat,⟨0,_,rfl,o,by simp,I5 dc _,rfl,by simp,?_⟩,?_⟩
 ·rw [List.take_replicate,Cb];simp [val]
 rintro i X ⟨k,f,ad,hk,g,u,rfl,s,r⟩
 obtain rfl:i=(k:Int):=gz0
 refine C0 (fun T=>?_) (fun T=>?_)
 ·have gx:=Bq dx k
  have vx:=C7 b32 d k
  refine ⟨fun l h'=>∃ (m:Nat) (c:Int) (zs:List Int),l=[U c,I m]/\m<=a.length/\zs.length=d.length+a.length/\Dig b32 zs/\(0<=c/\c<4294967296)/\h'=blk .u32 197 h b zs/\zs.drop (k+m)=f.drop (k+m)/\val b32 (zs.take (k+m))+c*b32^(k+m)=val b32 (f.take (k+m))+b32^k*(d.getD k 0*val b32 (a.take m)),fun l _=>a.length-(iAt l 1).toNat,⟨0,0,f,rfl,o,g,u,o,rfl,rfl,by simp [val]⟩,?_⟩
  rintro c j W ⟨m,c',zs,aa,M,D,w,hc,rfl,q,hv⟩
  obtain ⟨rfl,rfl⟩:c=c'/\j=(m:Int):=gz0
  have t:=Cm (k:=.u32) (e:=197) L zs
  refine C0 (fun O=>?_) (fun O=>?_)
  ·have V:=Bq dy m
   have vy:=C7 b32 a m
   have gz:=Bq w (k+m)
   have F:=F1 q
   have vz:=C7 b32 f (k+m)
   have p:C4 ((k:Int)+m)=((k+m:Nat):Int):=by rw [C1 o o];omega
   rw [p]
   refine (sx.mono t).load rfl o o ?_
   refine (S.mono t).load rfl o o ?_
   refine (Aw .u32 197 h b zs).load D.symm o o ?_
   simp only [aD]
   have X:=C0c gx V
   have Q:C8 (c+C8 (C8 (C8 (d.getD k 0)*C8 (a.getD m 0))+C8 (zs.getD (k+m) 0)))=c+(d.getD k 0*a.getD m 0+zs.getD (k+m) 0):=by
    rw [C6 (n:=d.getD k 0) o o,C6 (n:=a.getD m 0) o o,C6 (n:=zs.getD (k+m) 0) o o,C6 (n:=d.getD k 0*a.getD m 0) o o,C6 (n:=d.getD k 0*a.getD m 0+zs.getD (k+m) 0) o o,C6 o o]
   rw [Q]
   refine ⟨_,rfl,o,o,?_⟩
   refine T2 (k:=.u32) (zs:=zs) (i:=((k+m:Nat):Int)) K4 o ?_
   rw [aD,Bk,Uo,C1 (n:=(m:Int)+1) o o]
   refine ⟨⟨m+1,_,zs.set (k+m) ((c+(d.getD k 0*a.getD m 0+zs.getD (k+m) 0))%4294967296),rfl,o,gz0,w.set (A7a _),o,rfl,?_,?_⟩,by simp only [iAt,aH,aL];omega⟩
   ·rw [E5 o];exact E7 q
   ·rw [<- Nat.add_assoc,D3 o,F3,aK,aI o,aS,Bv,vy,vz,<- F]
    grind
  ·have z:m=a.length:=o
   subst z
   have p:C4 ((k:Int)+a.length)=((k+a.length:Nat):Int):=by rw [C1 o o];omega
   rw [p]
   refine ⟨_,rfl,o,o,?_⟩
   refine T2 (k:=.u32) (zs:=zs) (i:=((k+a.length:Nat):Int)) K4 o ?_
   rw [aD,Q3 o o,C1 (n:=(k:Int)+1) o o]
   have N:k+1+a.length=k+a.length+1:=o
   refine ⟨⟨k+1,zs.set (k+a.length) c,rfl,o,gz0,w.set hc,rfl,?_,?_⟩,by simp only [iAt,aH];omega⟩
   ·rw [N,E5 o,E7 q,<- aT,s,List.drop_replicate]
    congr 1
   ·rw [N,D3 o,F3,aK,aI o]
    grind
 ·have C:k=d.length:=o
  subst C
  rw [List.take_length,aM (show f.length<=d.length+a.length from o)] at r
  rw [<- g]
  refine Ai (Aw _ _ _ _ _) u (aP _) o ?_
  intro m M H
  rw [r] at H
  exact ⟨_,_,_,rfl,hK _ _ _ _ (Cm L _) M H⟩
def A5i{x z:Int}{s:Nat}(hs:s<=32)(_hx:0<=x/\x<4294967296)(hz:0<=z/\z<(2:Int)^s):
 bor .u32 z (x*2^s%4294967296)=z+x*2^s%4294967296/\z+x*2^s%4294967296<4294967296:=by
 have g:(2:Int)^s*2^(32-s)=4294967296:=by
  rw [<- Int.pow_add,show s+(32-s)=32 from o];decide
 have c:0<(2:Int)^s:=aQ dc
 have j:0<(2:Int)^(32-s):=aQ dc
 have a:z<4294967296:=by
  have:(2:Int)^s*1<=2^s*2^(32-s):=aE o o
  omega
 have k:x*2^s%4294967296=2^s*(x%2^(32-s)):=by
  rw [<- g,aZ x,bK _ _ c]
 have e:=A7a (x*2^s)
 have b:bor .u32 z (x*2^s%4294967296)=z+x*2^s%4294967296:=by
  rw [C0z ⟨hz.1,a⟩ e]
  have i:0<=x%2^(32-s):=aW _ o
  have f:(x*2^s%4294967296).toNat=2^s*(x%2^(32-s)).toNat:=by
   grind
  have d:z.toNat<2^s:=by
   grind
  rw [f,Nat.or_comm,A5j d,<- f]
  omega
 refine ⟨b,?_⟩
 rw [<- b,C0z ⟨hz.1,a⟩ e]
 have:z.toNat ||| (x*2^s%4294967296).toNat<2^32:=Nat.or_lt_two_pow o o
 omega
def Je{xs:List Int}{s:Nat}(sx:SlI .u32 h A xs)(dx:Dig b32 xs)(hs:s<32)(hl:xs.length<=100000000)(hK:∀ b zs,h b=none->zs.length=xs.length+1->Dig b32 zs->val b32 zs=val b32 xs*2^s->K (.slice (some ⟨b,0,none⟩) (xs.length+1) (xs.length+1)) (blk .u32 197 h b zs)):FCall prog 183 #[.slice A xs.length ac,U s] h K:=by
 refine (fnk func183 [(3,[6],[],[I 0])]) ?_
 have E:C4 ((xs.length:Int)+1)=((xs.length+1:Nat):Int):=by rw [C1 o o];omega
 rw [E]
 refine J9 Oa o o o ?_
 intro b r
 refine ⟨_,_,_,rfl,?_⟩
 have g:0<(2:Int)^s:=aQ dc
 have p:(2:Int)^s<=2147483648:=by
  have:=D8 (B:=2) dc (show s<=31 from o)
  omega
 refine ⟨fun l u=>∃ (k:Nat) (zs:List Int),l=[I k]/\k<=xs.length/\zs.length=xs.length+1/\Dig b32 zs/\u=blk .u32 197 h b zs/\zs.drop (k+1)=bG (xs.length-k) 0/\zs.getD k 0<2^s/\val b32 (zs.take (k+1))=val b32 (xs.take k)*2^s,fun l _=>xs.length-(iAt l 0).toNat,⟨0,_,rfl,o,by simp,I5 dc _,rfl,by simp,by assumption,by simp [val]⟩,?_⟩
 rintro i L ⟨k,zs,F,H,a,m,rfl,f,t,N⟩
 obtain rfl:i=(k:Int):=gz0
 have j:=Cm (k:=.u32) (e:=197) r zs
 refine C0 (fun z=>?_) (fun z=>?_)
 ·have d:=Bq dx k
  have gz:=Bq m k
  have G:=C7 b32 xs k
  have M:=C7 b32 zs k
  refine (sx.mono j).load rfl o o ?_
  refine C0 (fun e=>absurd e o) (fun _=>?_)
  refine (Aw .u32 197 h b zs).load a.symm o o ?_
  simp only [aD]
  obtain ⟨D,C⟩:=A5i (Nat.le_of_lt hs) d ⟨gz.1,t⟩
  have c:0<=xs.getD k 0*2^s:=aG d.1 o
  have q:xs.getD k 0*2^s<4294967296*2^s:=Int.mul_lt_mul_of_pos_right d.2 g
  have ev:C8 (C8 (xs.getD k 0)*2^(min s 64))=xs.getD k 0*2^s:=by
   rw [C6 (n:=xs.getD k 0) o o,aI o,C6 o o]
  rw [ev]
  refine ⟨_,rfl,o,o,?_⟩
  refine T2 (k:=.u32) (zs:=zs) (i:=(k:Int)) K4 o ?_
  rw [aD,Bk (xs.getD k 0*2^s),D,Uo]
  have y:C4 ((k:Int)+1)=((k+1:Nat):Int):=by rw [C1 o o];omega
  rw [y]
  have w:0<=xs.getD k 0*2^s/4294967296/\xs.getD k 0*2^s/4294967296<2^s:=⟨aR c dc,aO dc o⟩
  refine ⟨_,rfl,o,o,?_⟩
  refine T2 (k:=.u32) (zs:=zs.set k (zs.getD k 0+xs.getD k 0*2^s%4294967296)) (i:=((k+1:Nat):Int)) K4 gz0 ?_
  rw [aD,Q3 o o]
  refine ⟨⟨k+1,(zs.set k (zs.getD k 0+xs.getD k 0*2^s%4294967296)).set (k+1) (xs.getD k 0*2^s/4294967296),rfl,o,gz0,(m.set ⟨o,C⟩).set ⟨w.1,gz0⟩,rfl,?_,?_,?_⟩,by simp only [iAt,aH];omega⟩
  ·rw [E5 o,E5 o,<- aT,f,List.drop_replicate]
   congr 1
  ·grind
  ·rw [D3 gz0,F3,D3 o,F3]
   simp only [aK,List.length_append,List.length_singleton]
   grind
 grind
end
structure Est (B P top u2 ul v1 v2 vl U V:Int):Prop where
 hB:1<B
 hP:0<P
 hU:U=(top*B+u2)*P+ul
 hV:V=(v1*B+v2)*P+vl
 u2r:0<=u2/\u2<B
 ulr:0<=ul/\ul<P
 v2r:0<=v2/\v2<B
 vlr:0<=vl/\vl<P
 top0:0<=top
 v1r:B<=2*v1/\v1<B
 lt:U<V*B
section
variable {B P top u2 ul v1 v2 vl U V:Int}
def Est.U0(e:Est B P top u2 ul v1 v2 vl U V):0<=U:=by
 obtain ⟨k,i,l,m,g,c,f,b,a,d,lt⟩:=e
 have j:0<=top*B:=aG a o
 have:0<=(top*B+u2)*P:=aG o o
 omega
def Est.V0(e:Est B P top u2 ul v1 v2 vl U V):0<V:=by
 obtain ⟨k,c,l,m,i,d,g,b,a,f,lt⟩:=e
 have j:0<v1*B:=bC o o
 have:0<(v1*B+v2)*P:=bC o c
 omega
def Est.V2(e:Est B P top u2 ul v1 v2 vl U V):B<=v1*B+v2:=by
 obtain ⟨j,i,k,l,g,c,f,b,a,d,lt⟩:=e
 have:1*B<=v1*B:=aC o o
 omega
def Est.low(e:Est B P top u2 ul v1 v2 vl U V){q:Int}(h0:0<=q)(h:top*B+u2<q*(v1*B+v2)):U<q*V:=by
 obtain ⟨l,i,n,p,g,c,f,a,b,d,lt⟩:=e
 have k:(top*B+u2+1)*P<=q*(v1*B+v2)*P:=aC o o
 have j:0<=q*vl:=aG h0 a.1
 have m:q*V=q*(v1*B+v2)*P+q*vl:=gz0
 grind
def Est.big(e:Est B P top u2 ul v1 v2 vl U V){q:Int}(h:B<=q):U<q*V:=by
 have:=aC h (aJ e.V0)
 have:=e.lt
 grind
def Est.init(e:Est B P top u2 ul v1 v2 vl U V):U<(top/v1+1)*V:=by
 obtain ⟨q,c,s,t,k,g,b,d,a,j,lt⟩:=e
 have m:0<=top/v1:=aR a o
 have i:top+1<=(top/v1+1)*v1:=by
  have:=aN top v1
  have:=aU top (show 0<v1 from o)
  grind
 have f:0<B*P:=bC o c
 have n:(top+1)*(B*P)<=(top/v1+1)*v1*(B*P):=aC i o
 have r:0<=(top/v1+1)*(v2*P+vl):=aG o (by have:=aG b.1 (aJ c);omega)
 have p:(top/v1+1)*V=(top/v1+1)*v1*(B*P)+(top/v1+1)*(v2*P+vl):=gz0
 have l:(u2+1)*P<=B*P:=aC o o
 grind
def Est.up(e:Est B P top u2 ul v1 v2 vl U V){q:Int}(hq:q<=B)(h:q*(v1*B+v2)<=top*B+u2):(q-1)*V<=U:=by
 have g:=e.V2
 have k:=e.V0
 have b:=e.U0
 obtain ⟨t,l,u,w,i,d,j,c,a,f,lt⟩:=e
 by_cases p:q<=0
 ·have:(q-1)*V<=0:=Int.mul_nonpos_of_nonpos_of_nonneg o o
  omega
 ·have m:(q-1)*vl<=(q-1)*P:=aE o o
  have s:(q*(v1*B+v2))*P<=(top*B+u2)*P:=aC h o
  have n:(q-1)*V=(q*(v1*B+v2))*P-(v1*B+v2)*P+(q-1)*vl:=gz0
  have r:(q-1)*P<=(v1*B+v2)*P:=aC o o
  omega
def Est.first(e:Est B P top u2 ul v1 v2 vl U V):top<(v1+1)*B/\top/v1<=B+1:=by
 obtain ⟨q,f,r,s,a,i,m,c,b,j,lt⟩:=e
 have d:0<B*P:=bC o f
 have p:top*(B*P)<=U:=by
  have:0<=u2*P:=aG a.1 o
  grind
 have n:V<(v1+1)*(B*P):=by
  have l:(v2+1)*P<=B*P:=aC o o
  grind
 have l:V*B<=(v1+1)*(B*P)*B:=aC o o
 have g:top*(B*P)<(v1+1)*B*(B*P):=by
  grind
 have k:top<(v1+1)*B:=Int.lt_of_mul_lt_mul_right g o
 refine ⟨k,?_⟩
 have:top/v1<B+2:=by
  apply aO o
  grind
 omega
end
def Ba(k:IntKind)(e:TypeId)(g:Heap)(bu:Nat)(us:List Int)(bq:Nat)(qs:List Int):Heap:=blk k e (blk k e g bu us) bq qs
section
variable {k:IntKind} {e:TypeId} {g:Heap} {bu bq:Nat} {us qs:List Int}
def Pd(hu:g bu=none)(hq:g bq=none)(hne:bu≠bq):g.le (Ba k e g bu us bq qs):=
 B0 (Cm hu us) (Cm (by unfold blk;rw [B9 _ _ hne.symm];exact hq) qs)
def Hu(hne:bu≠bq):Ba k e g bu us bq qs=blk k e (blk k e g bq qs) bu us:=by
 exact Heap.put_comm g _ _ hne
def Tt(hne:bu≠bq):SlI k (Ba k e g bu us bq qs) (some ⟨bu,0,none⟩) us:=by
 rw [Hu hne];exact Aw k e _ bu us
def B5g:SlI k (Ba k e g bu us bq qs) (some ⟨bq,0,none⟩) qs:=Aw k e _ bq qs
def O7{P:Program}{t:TypeId}(one:P.cellsOf t=1/\(P.info? t).isSome=true)(hne:bu≠bq){n i:Int}(hi:i.toNat<us.length){K:Unit->Heap->Prop}
 (x:K () (Ba k e g bu (us.set i.toNat n) bq qs)):wpH P (Instr.storeAt t (.pointer (some (Addr.add ⟨bu,0,none⟩ (i.toNat*1)))) (.int k n)) K (Ba k e g bu us bq qs):=by
 rw [Hu hne]
 rw [Hu hne] at x
 exact T2 one hi x
def Tu{P:Program}{t:TypeId}(one:P.cellsOf t=1/\(P.info? t).isSome=true){n i:Int}(hi:i.toNat<qs.length){K:Unit->Heap->Prop}
 (x:K () (Ba k e g bu us bq (qs.set i.toNat n))):wpH P (Instr.storeAt t (.pointer (some (Addr.add ⟨bq,0,none⟩ (i.toNat*1)))) (.int k n)) K (Ba k e g bu us bq qs):=
 T2 one hi x
end
def A1q{xs:List Int}{j i:Nat}:(xs.drop j).getD i 0=xs.getD (j+i) 0:=gz0
section
variable {g:Heap} {bu bq:Nat} {us qs:List Int} {VA:Option Addr} {vs:List Int}
def B3u{n j:Nat}{J:LP}{hp:Heap}{UA:Option Addr}{top u2 ul v1 v2 vl X Y P:Int}{t87 t96:Int}(es:Est 4294967296 P top u2 ul v1 v2 vl X Y)(sv:SlI .u32 hp VA vs)(su:SlI .u32 hp UA us)(hn:n=vs.length)(hn2:2<=n)(hul:j+n<us.length)(hbig:us.length<=200000000)
 (hv1:vs.getD (n-1) 0=v1) (hv2:vs.getD (n-2) 0=v2) (hu2:us.getD (j+n-2) 0=u2) (h87:0<=t87/\t87<4294967296) (h96:0<=t96/\t96<4294967296) (htop:top=t87*4294967296+t96)
 (hJ:∀ q,0<=q->q<=4294967296->X<(q+1)*Y->(q-1)*Y<=X->J [U q] hp):Ph prog VA n UA us.length j t87 t96 v1 v1 J hp:=by
 obtain ⟨f1,f2⟩:=es.first
 have z:=es.init
 have V:=es.U0
 have S:=es.v1r
 have g:=es.v2r
 have p:=es.u2r
 have c:=es.top0
 have A:bor .u64 (C8 (C8 t87*2^(min ((32:Int)).toNat 64))) (C8 t96)=top:=by
  rw [show (2:Int)^(min ((32:Int)).toNat 64)=4294967296 from dc,C6 (n:=t87) o o,C6 (n:=t96) o o,C6 (n:=t87*4294967296) o o,Zf h87 h96,htop]
 have d:C8 v1=v1:=C6 o o
 unfold Ph
 rw [A,d,bI c,bH c]
 have y:0<=top/v1:=aR c o
 have s:=aN top v1
 have w:=aW top (show v1≠0 from o)
 have O:=aU top (show 0<v1 from o)
 refine ⟨fun l t=>∃ q r:Int,l=[U q,U r]/\t=hp/\0<=q/\q<=4294967297/\0<=r/\r<4294967296/\q*v1+r=top/\X<(q+1)*Y,fun l _=>match l with|[.int _ q,_]=>q.toNat|_=>0,⟨_,_,rfl,rfl,?_,?_,w,o,?_,?_⟩,?_⟩
 ·rw [C6 o o];exact y
 ·rw [C6 o o];omega
 ·rw [C6 o o,aZ];exact s
 ·rw [C6 o o];exact z
 rintro q r f ⟨W,H,hl,rfl,C,aa,R,m,M,i⟩
 obtain ⟨rfl,rfl⟩:q=W/\r=H:=gz0
 have B:C4 ((n:Int)-1)=((n-1:Nat):Int):=by rw [C1 o o];omega
 have u:C4 ((n:Int)-2)=((n-2:Nat):Int):=by rw [C1 o o];omega
 have k:C4 (C4 ((j:Int)+(n:Int))-2)=((j+n-2:Nat):Int):=by rw [C1 (n:=(j:Int)+n) o o,C1 o o];omega
 refine ⟨fun l t=>l=[]/\t=f/\X<q*Y,?_,?_⟩
 ·refine C0 (fun D=>⟨rfl,rfl,es.big D⟩) (fun D=>?_)
  rw [u,k]
  refine sv.load hn o o ?_
  refine su.load rfl o o ?_
  rw [aD,aD,hv2,hu2]
  have hp:=C0c (a:=q) (b:=v2) o g
  have Q:C8 (q*C8 v2)=q*v2:=by rw [C6 (n:=v2) o o,C6 o o]
  have N:bor .u64 (C8 (r*2^(min ((32:Int)).toNat 64))) (C8 u2)=r*4294967296+u2:=by
   rw [show (2:Int)^(min ((32:Int)).toNat 64)=4294967296 from dc,C6 (n:=u2) o o,C6 (n:=r*4294967296) o o,Zf ⟨R,m⟩ p]
  have key:q*(v1*4294967296+v2)=(top-r)*4294967296+q*v2:=gz0
  refine C0 (fun L=>⟨rfl,rfl,es.low C o⟩) (fun L=>?_)
  refine hJ q C o i (es.up o o)
 ·rintro E ⟨_,rfl,G⟩
  have F:1<=q:=by
   grind
  rw [B]
  refine sv.load hn o o ?_
  rw [aD,hv1,d,C6 (n:=r+v1) o o,C6 (n:=q-1) o o]
  have e:X<(q-1+1)*Y:=gz0
  refine C0 (fun T=>?_) (fun T=>?_)
  ·have key:(q-1)*(v1*4294967296+v2)=(top-(r+v1))*4294967296+(q-1)*v2:=gz0
   have hb:(q-1)*v2<=4294967296*v2:=aC o g.1
   exact hJ (q-1) o o e (es.up o o)
  grind
end
def G9(B:Int)(xs:List Int)(i:Nat):val B (xs.take (i+1))=val B (xs.take i)+B^i*xs.getD i 0:=by
 by_cases a:i<xs.length
 ·exact O0 B a
 ·rw [aM o,aM o]
  grind
def B29(B:Int){vs:List Int}{m:Nat}(hn:vs.length=m+2):val B vs=(vs.getD (m+1) 0*B+vs.getD m 0)*B^m+val B (vs.take m):=by
 have a:=G9 B vs (m+1)
 have b:=G9 B vs m
 grind
def B28(B:Int){us:List Int}{m:Nat}(hn:us.length=m+3):val B us=((us.getD (m+2) 0*B+us.getD (m+1) 0)*B+us.getD m 0)*B^m+val B (us.take m):=by
 have a:=G9 B us (m+2)
 have b:=G9 B us (m+1)
 have c:=G9 B us m
 grind
def B5a{B:Int}(hB:1<B){us vs:List Int}{m:Nat}(du:Dig B us)(dv:Dig B vs)(hu:us.length=m+3)(hv:vs.length=m+2)(h1:B<=2*vs.getD (m+1) 0)(hlt:val B us<val B vs*B):
 Est B (B^m) (us.getD (m+2) 0*B+us.getD (m+1) 0) (us.getD m 0) (val B (us.take m)) (vs.getD (m+1) 0) (vs.getD m 0) (val B (vs.take m)) (val B us) (val B vs):=by
 have a:0<B:=o
 have c:=L9 a (du.take m)
 have b:=L9 a (dv.take m)
 rw [aK,aI o] at c b
 refine ⟨hB,aQ a,B28 B hu,B29 B hv,du.getD a _,⟨D0 a (du.take m),c⟩,dv.getD a _,⟨D0 a (dv.take m),b⟩,?_,⟨h1,(dv.getD a _).2⟩,hlt⟩
 have:=aG (du.getD a (m+2)).1 (aJ a)
 have:=(du.getD a (m+1)).1
 omega
def Est.top{B P top u2 ul v1 v2 vl U V:Int}(e:Est B P top u2 ul v1 v2 vl U V)(h:v1*B<=top):(B-1-1)*V<=U/\U<(B-1+1)*V:=by
 obtain ⟨p,k,q,r,i,f,j,d,a,g,lt⟩:=e
 constructor
 ·have m:v1*B*B*P<=U:=by
   have b:v1*B*B<=top*B:=aC h o
   have c:v1*B*B*P<=(top*B+u2)*P:=aC o o
   omega
  have b:V<=(v1+1)*B*P:=by
   have c:(v2+1)*P<=B*P:=aC o o
   grind
  have c:(B-1-1)*V<=(B-1-1)*((v1+1)*B*P):=aE b o
  have l:(B-1-1)*((v1+1)*B*P)=v1*B*B*P-(2*v1+2-B)*(B*P):=gz0
  have n:0<=(2*v1+2-B)*(B*P):=aG o (aG o o)
  omega
 grind
structure LS (F S first second u0 v0 u1 v1 u2 v2:Int) (odd:Bool):Prop where
 hF:F=v2*first+v1*second
 hS:S=u2*first+u1*second
 det:u1*v2-u2*v1=if odd then -1 else 1
 ord:0<=second/\second<=first
 st:(u0=0/\v0=0/\u1=1/\v1=0/\u2=0/\v2=1)\/
  (((u0=1/\v0=0/\u1=0/\v1=1/\0<=u2/\u2<=v2/\1<=u2)\/(0<=u0/\u0<=v0/\1<=v0/\1<=u1/\u1<=v1/\1<=u2/\u2<=v2))/\
   (u0*v1-u1*v0=if odd then 1 else -1)/\∃ f0,F=v1*f0+v0*first/\S=u1*f0+u0*first/\v0+v1<=f0-first/\v1<=first)
def LS.init{F S:Int}(h0:0<=S)(h:S<=F):LS F S F S 0 0 1 0 0 1 false:=
 ⟨o,o,by simp,⟨h0,h⟩,.inl ⟨rfl,rfl,rfl,rfl,rfl,rfl⟩⟩
def LS.v2pos{F S first second u0 v0 u1 v1 u2 v2:Int}{odd:Bool}(l:LS F S first second u0 v0 u1 v1 u2 v2 odd):1<=v2/\0<=v1/\0<=u1/\0<=u2/\0<=u0/\0<=v0:=by
 obtain ⟨e,c,b,a,d⟩:=l
 grind
def LS.step{F S first second u0 v0 u1 v1 u2 v2:Int}{odd:Bool}(l:LS F S first second u0 v0 u1 v1 u2 v2 odd)(h1:v2<=second)(h2:v1+v2<=first-second):
 LS F S second (first%second) u1 v1 u2 v2 (u1+first/second*u2) (v1+first/second*v2) (!odd):=by
 obtain ⟨k,f,j,g,b⟩:=l
 have c:0<second:=o
 have e:1<=first/second:=by
  rw [Int.le_ediv_iff_mul_le c];omega
 have d:=aN first second
 have a:=aW first (show second≠0 from o)
 have i:=aU first c
 have n:u2<=first/second*u2:=by
  have:=aC e (show 0<=u2 from o);omega
 have m:first/second*u2<=first/second*v2:=aE o o
 refine ⟨?_,?_,?_,⟨a,o⟩,.inr ⟨?_,?_,first,?_,?_,o,h1⟩⟩
 ·grind
 ·grind
 ·grind
 ·rcases b with b|⟨b,_⟩
  ·grind
  ·right;omega
 ·grind
 ·rw [k]
 ·rw [f]
def LS.bound{F S first second u0 v0 u1 v1 u2 v2:Int}{odd:Bool}(l:LS F S first second u0 v0 u1 v1 u2 v2 odd)(hf:1<=first):v2<=F/\u2<=F/\u2<=v2:=by
 obtain ⟨g,d,b,a,f⟩:=l
 have e:v2*1<=v2*first:=aE hf o
 have c:0<=v1*second:=aG o o
 grind
def LS.bound2{F S first second u0 v0 u1 v1 u2 v2:Int}{odd:Bool}(l:LS F S first second u0 v0 u1 v1 u2 v2 odd)(hs:1<=second):v1+v2<=F:=by
 obtain ⟨g,d,b,a,f⟩:=l
 have e:v2*1<=v2*first:=aE o o
 have c:v1*1<=v1*second:=aE hs o
 omega
structure Leh (a b u0 v0 u1 v1 X0 X1:Int):Prop where
 ord:0<=X1/\X1<X0
 ha:a=v1*X0+v0*X1
 hb:b=u1*X0+u0*X1
 le:X0<=b
def Oq(a b u0 v0:Int)(odd:Bool):Int:=if odd then u0*a-v0*b else v0*b-u0*a
def Oo(a b u1 v1:Int)(odd:Bool):Int:=if odd then v1*b-u1*a else u1*a-v1*b
def LS.leh{F S first second u0 v0 u1 v1 u2 v2 a b al bl W:Int}{odd:Bool}(l:LS F S first second u0 v0 u1 v1 u2 v2 odd)(hv0:v0≠0)(hW:0<W)(ha:a=F*W+al)(hb:b=S*W+bl)(hal:0<=al/\al<W)(hbl:0<=bl/\bl<W):
 Leh a b u0 v0 u1 v1 (Oq a b u0 v0 odd) (Oo a b u1 v1 odd):=by
 obtain ⟨N,T,y,r,k⟩:=l
 rcases k with k|⟨k,p,i,t,u,q,m⟩
 ·omega
 have O:first*W>=v1*W:=aC m o
 have C:(i-first)*W>=(v0+v1)*W:=aC q o
 have G:v1*bl<=v1*W:=aE o o
 have X:u1*al<=u1*W:=aE o o
 have L:u1*W<=v1*W:=aC o o
 have Q:0<=u1*al:=aG o o
 have M:0<=v1*bl:=aG o o
 have E:(v0+v1)*(bl+1)<=(v0+v1)*W:=aE o o
 have B:(u0+u1)*(al+1)<=(u0+u1)*W:=aE o o
 have V:(u0+u1)*W<=(v0+v1)*W:=aC o o
 have A:0<=(u0+u1)*al:=aG o o
 have z:0<=(v0+v1)*bl:=aG o o
 have f:∀ X0 X1:Int,0<=X1->X1<X0->b=u1*X0+u0*X1->X0<=b:=by
  intro X0 X1 s H e
  have D:1*X0<=u1*X0:=aC o o
  have R:0<=u0*X1:=aG o s
  omega
 cases odd with
 | true=>
  have w:v1*b-u1*a=first*W+v1*bl-u1*al:=by
   grind
  have j:u0*a-v0*b-(v1*b-u1*a)=(i-first)*W+(u0+u1)*al-(v0+v1)*bl:=by
   grind
  have d:0<=v1*b-u1*a:=o
  have c:v1*b-u1*a<u0*a-v0*b:=by
   grind
  have n:a=v1*(u0*a-v0*b)+v0*(v1*b-u1*a):=by
   grind
  have g:b=u1*(u0*a-v0*b)+u0*(v1*b-u1*a):=by
   grind
  exact ⟨⟨d,c⟩,n,g,f _ _ d c g⟩
 | false=>
  have w:u1*a-v1*b=first*W+u1*al-v1*bl:=by
   grind
  have j:v0*b-u0*a-(u1*a-v1*b)=(i-first)*W+(v0+v1)*bl-(u0+u1)*al:=by
   grind
  have d:0<=u1*a-v1*b:=o
  have c:u1*a-v1*b<v0*b-u0*a:=by
   grind
  have n:a=v1*(v0*b-u0*a)+v0*(u1*a-v1*b):=by
   grind
  have g:b=u1*(v0*b-u0*a)+u0*(u1*a-v1*b):=by
   grind
  exact ⟨⟨d,c⟩,n,g,f _ _ d c g⟩
def Leh.gcd{a b u0 v0 u1 v1:Int}{odd:Bool}(l:Leh a b u0 v0 u1 v1 (Oq a b u0 v0 odd) (Oo a b u1 v1 odd)):bF (Oq a b u0 v0 odd) (Oo a b u1 v1 odd)=bF a b:=by
 apply Nat.dvd_antisymm
 ·have f:=l.ha
  have g:=l.hb
  generalize Oq a b u0 v0 odd=p at *
  generalize Oo a b u1 v1 odd=q at *
  have dp:(bF p q:Int)∣p:=Int.gcd_dvd_left p q
  have e:(bF p q:Int)∣q:=Int.gcd_dvd_right p q
  rw [<- Int.ofNat_dvd]
  apply Int.dvd_coe_gcd
  ·rw [f];exact Int.dvd_add (aF dp) (aF e)
  ·rw [g];exact Int.dvd_add (aF dp) (aF e)
 ·have c:(bF a b:Int)∣a:=Int.gcd_dvd_left a b
  have d:(bF a b:Int)∣b:=Int.gcd_dvd_right a b
  rw [<- Int.ofNat_dvd]
  apply Int.dvd_coe_gcd
  ·unfold Oq;split
   ·exact bD (aF c) (aF d)
   ·exact bD (aF d) (aF c)
  ·unfold Oo;split
   ·exact bD (aF d) (aF c)
   ·exact bD (aF c) (aF d)
def Fw(pre ws:List Int)(i:Nat):(pre++ws).getD (i+pre.length) 0=ws.getD i 0:=by
 grind
def Js(pre ws:List Int)(i:Nat)(v:Int):(pre++ws).set (i+pre.length) v=pre++ws.set i v:=by
 grind
def Dh{B:Int}(hB:0<B){ws:List Int}{n:Nat}(d:Dig B ws)(h:val B ws<B^n):val B (ws.drop n)=0:=by
 by_cases b:n<=ws.length
 ·have e:=F7 B ws b
  have c:=D0 hB (d.take n)
  have f:=D0 hB (d.drop n)
  by_cases a:val B (ws.drop n)=0
  ·exact a
  ·have:B^n*1<=B^n*val B (ws.drop n):=aE o (aJ (E6 hB n))
   omega
 ·rw [aV o];rfl
section
variable {g:Heap} {bu bq:Nat} {pre qs:List Int} {VA:Option Addr} {vs:List Int}
def B1n{n N:Nat}{ws:List Int}{q:Int}{J:LP}(hu:g bu=none)(hq:g bq=none)(hne:bu≠bq)(sv:SlI .u32 g VA vs)(dv:Dig b32 vs)(hn:n=vs.length)(dw:Dig b32 ws)(hN:N=(pre++ws).length)(hl:n<ws.length)(hbig:N<=200000000)
 (hD:val b32 (ws.take n)+val b32 vs<2*b32^n) (hD0:b32^n<=val b32 (ws.take n)+val b32 vs) (htop:ws.getD n 0=4294967295)
 (hJ:∀ ws',ws'.length=ws.length->Dig b32 ws'->ws'.drop (n+1)=ws.drop (n+1)->ws'.getD n 0=0->val b32 (ws'.take n)=val b32 (ws.take n)+val b32 vs-b32^n->J [U (C8 (q-1))] (Ba .u32 197 g bu (pre++ws') bq qs)):
 Wr prog VA n (some ⟨bu,0,none⟩) N (pre.length:Int) q J (Ba .u32 197 g bu (pre++ws) bq qs):=by
 refine ⟨fun l z=>∃ (k:Nat) (c:Int) (zs:List Int),l=[U c,I k]/\k<=n/\zs.length=ws.length/\Dig b32 zs/\(0<=c/\c<=1)/\z=Ba .u32 197 g bu (pre++zs) bq qs/\zs.drop k=ws.drop k/\val b32 (zs.take k)+c*b32^k=val b32 (ws.take k)+val b32 (vs.take k),fun l _=>n-(iAt l 1).toNat,⟨0,0,ws,rfl,o,rfl,dw,o,rfl,rfl,by rfl⟩,?_⟩
 rintro c i M ⟨k,w,zs,G,L,B,e,O,rfl,a,F⟩
 obtain ⟨rfl,rfl⟩:c=w/\i=(k:Int):=gz0
 have p:g.le (Ba .u32 197 g bu (pre++zs) bq qs):=Pd hu hq hne
 have t:SlI .u32 (Ba .u32 197 g bu (pre++zs) bq qs) (some ⟨bu,0,none⟩) (pre++zs):=Tt hne
 have d:N=(pre++zs).length:=gz0
 have C:N=pre.length+zs.length:=gz0
 have r:C4 ((k:Int)+pre.length)=((k+pre.length:Nat):Int):=by rw [C1 o o];omega
 have j:C4 ((pre.length:Int)+n)=((n+pre.length:Nat):Int):=by rw [C1 o o];omega
 refine C0 (fun A=>?_) (fun A=>?_)
 ·have H:=Bq dv k
  have gz:=Bq e k
  have b:=F1 a
  have E:=C7 b32 vs k
  have y:=C7 b32 ws k
  rw [r]
  refine t.load d o o ?_
  refine (sv.mono p).load hn o o ?_
  simp only [aD,Fw]
  have D:C8 (c+C8 (C8 (zs.getD k 0)+C8 (vs.getD k 0)))=c+zs.getD k 0+vs.getD k 0:=by
   rw [C6 (n:=zs.getD k 0) o o,C6 (n:=vs.getD k 0) o o,C6 (n:=zs.getD k 0+vs.getD k 0) o o,C6 o o];omega
  rw [D]
  refine ⟨_,rfl,o,o,?_⟩
  refine O7 (us:=pre++zs) (i:=((k+pre.length:Nat):Int)) K4 hne o ?_
  rw [aD,Js,Bk,Uo,C1 (n:=(k:Int)+1) o o]
  refine ⟨⟨k+1,_,zs.set k ((c+zs.getD k 0+vs.getD k 0)%4294967296),rfl,o,gz0,e.set (A7a _),o,rfl,?_,?_⟩,by simp only [iAt,aH,aL];omega⟩
  ·rw [E5 o];exact E7 a
  ·rw [D3 o,F3,aK,aI o,aS,Bv,E,y,<- b]
   grind
 ·have f:k=n:=o
  subst f
  have b:=F1 a
  rw [j]
  refine t.load d o o ?_
  rw [aD,Fw,b,htop]
  refine ⟨_,rfl,o,o,?_⟩
  refine O7 (us:=pre++zs) (i:=((k+pre.length:Nat):Int)) K4 hne o ?_
  rw [aD,Js]
  have m:vs.take k=vs:=gz0
  rw [m] at F
  have u:=L9 dc (e.take k)
  have s:c=1:=by
   grind
  subst s
  refine hJ (zs.set k 0) gz0 (e.set dc) (by rw [E5 o];exact E7 a) gz0 ?_
  rw [aX o]
  omega
def A7t{n N nq:Nat}{ws:List Int}{q X Y:Int}{J:LP}(hu:g bu=none)(hq:g bq=none)(hne:bu≠bq)(sv:SlI .u32 g VA vs)(dv:Dig b32 vs)(hn:n=vs.length)(dw:Dig b32 ws)(hN:N=(pre++ws).length)(hl:n<ws.length)(hbig:N<=200000000)
 (hnq:nq=qs.length) (hjq:pre.length<qs.length)
 (hX:X=val b32 (ws.take n)+b32^n*ws.getD n 0) (hY:Y=val b32 vs) (hq0:0<=q) (hq1:q<=4294967296) (hlt:X<(q+1)*Y) (hge:(q-1)*Y<=X) (hXB:X<Y*4294967296)
 (hJ:∀ ws' q',ws'.length=ws.length->Dig b32 ws'->ws'.drop (n+1)=ws.drop (n+1)->ws'.getD n 0=0->val b32 (ws'.take n)=X-q'*Y->0<=X-q'*Y->X-q'*Y<Y->0<=q'->q'<4294967296->J [] (Ba .u32 197 g bu (pre++ws') bq (qs.set pre.length q'))):
 Pg prog VA n (some ⟨bu,0,none⟩) N (some ⟨bq,0,none⟩) nq (pre.length:Int) J q (Ba .u32 197 g bu (pre++ws) bq qs):=by
 have ac:Y<b32^n:=by rw [hY,hn];exact L9 dc dv
 have af:0<=X:=by
  have H:=D0 dc (dw.take n)
  have h2:=aG (aJ (E6 (B:=b32) dc n)) (Bq dw n).1
  omega
 have w:0<Y:=by
  omega
 have z:∀ ws' q',ws'.length=ws.length->Dig b32 ws'->ws'.drop (n+1)=ws.drop (n+1)->ws'.getD n 0=0->val b32 (ws'.take n)=X-q'*Y->0<=X-q'*Y->X-q'*Y<Y->0<=q'->Pj prog (some ⟨bq,0,none⟩) nq (pre.length:Int) J q' (Ba .u32 197 g bu (pre++ws') bq qs):=by
  intro ws' q' H h2 h3 h4 h5 h6 h7 h8
  have ad:q'<4294967296:=by
   by_cases r:q'<4294967296
   ·exact r
   ·have:=aC (show 4294967296<=q' from o) (aJ w)
    omega
  unfold Pj
  refine ⟨_,rfl,o,o,?_⟩
  refine Tu (i:=(pre.length:Int)) K4 o ?_
  rw [aD,Q3 h8 o]
  grind
 unfold Pg
 refine ⟨fun l E=>∃ (k:Nat) (c b:Int) (zs:List Int),l=[U c,U b,I k]/\k<=n/\zs.length=ws.length/\Dig b32 zs/\(0<=c/\c<4294967296)/\(0<=b/\b<=1)/\E=Ba .u32 197 g bu (pre++zs) bq qs/\zs.drop k=ws.drop k/\val b32 (zs.take k)=val b32 (ws.take k)-q*val b32 (vs.take k)+(c+b)*b32^k,fun l _=>n-(iAt l 2).toNat,⟨0,0,0,ws,rfl,o,rfl,dw,o,o,rfl,rfl,by simp [val]⟩,?_⟩
 rintro c b i hp ⟨k,c',b',zs,ak,hk,j,f,r,hb,rfl,d,hv⟩
 obtain ⟨rfl,rfl,rfl⟩:c=c'/\b=b'/\i=(k:Int):=gz0
 have V:g.le (Ba .u32 197 g bu (pre++zs) bq qs):=Pd hu hq hne
 have su:SlI .u32 (Ba .u32 197 g bu (pre++zs) bq qs) (some ⟨bu,0,none⟩) (pre++zs):=Tt hne
 have m:N=(pre++zs).length:=gz0
 have ai:N=pre.length+zs.length:=gz0
 have W:C4 ((k:Int)+pre.length)=((k+pre.length:Nat):Int):=by rw [C1 o o];omega
 have C:C4 ((pre.length:Int)+n)=((n+pre.length:Nat):Int):=by rw [C1 o o];omega
 refine C0 (fun H=>?_) (fun H=>?_)
 ·have gv:=Bq dv k
  have gz:=Bq f k
  have u:=F1 d
  have vv:=C7 b32 vs k
  have vw:=C7 b32 ws k
  refine (sv.mono V).load hn o o ?_
  rw [W]
  refine su.load m o o ?_
  simp only [aD,Fw]
  have hm:0<=q*vs.getD k 0/\q*vs.getD k 0<=4294967296*4294967295:=⟨aG hq0 gv.1,bJ hq1 o gv.1 dc⟩
  have ep:C8 (C8 (q*C8 (vs.getD k 0))+c)=q*vs.getD k 0+c:=by
   rw [C6 (n:=vs.getD k 0) o o,C6 (n:=q*vs.getD k 0) o o,C6 o o]
  rw [ep,Bw o,Uo,Uo,C6 (n:=zs.getD k 0) o o]
  generalize S:q*vs.getD k 0+c=p at *
  have ah:0<=p/\p<18446744073709551616:=o
  have O:C8 (C8 (zs.getD k 0-p%4294967296)-b)=(zs.getD k 0-p%4294967296-b)%18446744073709551616:=by
   rw [F2,F2];omega
  rw [O,Wo o]
  refine ⟨_,rfl,o,o,?_⟩
  refine O7 (us:=pre++zs) (i:=((k+pre.length:Nat):Int)) K4 hne o ?_
  rw [aD,Js,Bk,C1 (n:=(k:Int)+1) o o]
  refine ⟨⟨k+1,_,_,zs.set k ((zs.getD k 0-p%4294967296-b)%18446744073709551616%4294967296),rfl,o,by simpa using j,f.set (A7a _),o,o,rfl,?_,?_⟩,by simp only [iAt,aH,aL];omega⟩
  ·rw [E5 o];exact E7 d
  ·rw [D3 o,F3,aK,aI o,aS,vv,vw,<- u,hv]
   have key:(zs.getD k 0-p%4294967296-b)%18446744073709551616%4294967296=zs.getD k 0-p-b+4294967296*(p/4294967296+(zs.getD k 0-p%4294967296-b)%18446744073709551616/4294967296%2):=o
   grind
 ·have y:k=n:=o
  subst y
  have u:=F1 d
  have gz:=Bq f k
  have R:vs.take k=vs:=gz0
  rw [R,<- hY] at hv
  have D:=L9 dc (f.take k)
  rw [aK,aI o] at D
  have ag:=D0 dc (f.take k)
  rw [C]
  refine su.load m o o ?_
  rw [aD,Fw]
  have hD:X-q*Y=val b32 (zs.take k)+(zs.getD k 0-c-b)*b32^k:=by
   grind
  have s:X-q*Y<Y:=by
   grind
  have aa: -Y<=X-q*Y:=by
   grind
  have S:0<b32^k:=E6 dc k
  have a:zs.getD k 0-c-b=0\/zs.getD k 0-c-b= -1:=by
   have h2:zs.getD k 0-c-b<1:=by
    by_cases r:zs.getD k 0-c-b<1
    ·exact r
    ·have:=aC (show 1<=zs.getD k 0-c-b from o) (aJ S);omega
   have h3: -2<zs.getD k 0-c-b:=by
    by_cases r: -2<zs.getD k 0-c-b
    ·exact r
    ·have:=aC (show zs.getD k 0-c-b <= -2 from o) (aJ S);omega
   omega
  have O:C8 (C8 (C8 (zs.getD k 0)-c)-b)=(zs.getD k 0-c-b)%18446744073709551616:=by
   rw [C6 (n:=zs.getD k 0) o o,F2,F2];omega
  rw [O]
  have T:∀ x:Int,Int.fdiv x (2^(min ((63:Int)).toNat 64))=x/9223372036854775808:=by
   intro x;rw [show (2:Int)^(min ((63:Int)).toNat 64)=9223372036854775808 from dc];grind
  refine ⟨_,rfl,o,o,?_⟩
  refine O7 (us:=pre++zs) (i:=((k+pre.length:Nat):Int)) K4 hne o ?_
  rw [aD,Js,Bk,T]
  have t:∀ v,(zs.set k v).getD k 0=v:=by intro v;simp [List.getD,show k<zs.length from o]
  refine ⟨fun l E=>∃ ws' q',l=[U q']/\E=Ba .u32 197 g bu (pre++ws') bq qs/\ws'.length=ws.length/\Dig b32 ws'/\ws'.drop (k+1)=ws.drop (k+1)/\ws'.getD k 0=0/\val b32 (ws'.take k)=X-q'*Y/\0<=X-q'*Y/\X-q'*Y<Y/\0<=q',?_,?_⟩
  ·rcases a with a|a
   ·rw [a] at hD ⊢
    refine D5 (fun e=>absurd e dc) (fun _=>?_)
    refine ⟨zs.set k (0%18446744073709551616%4294967296),q,rfl,rfl,by simpa using j,f.set dc,by rw [E5 o];exact E7 d,t _,?_,o,s,hq0⟩
    rw [aX o];omega
   ·rw [a] at hD ⊢
    refine D5 (fun _=>?_) (fun e=>absurd dc e)
    have G:1<=q:=by
     grind
    have ht:(zs.set k (-1%18446744073709551616%4294967296)).take k=zs.take k:=aX o
    have e1:(q-1)*Y=q*Y-Y:=gz0
    refine B1n (ws:=zs.set k (-1%18446744073709551616%4294967296)) hu hq hne sv dv hn (f.set dc) (by rw [m];simp) (by simpa using (show k<zs.length from o)) hbig ?_ ?_ (t _) ?_
    ·grind
    ·grind
    ·intro ws' M F A L Q
     rw [ht,<- hY] at Q
     rw [C6 (n:=q-1) o o]
     refine ⟨ws',q-1,rfl,rfl,by rw [M];simpa using j,F,?_,L,o,o,o,o⟩
     rw [A,E5 o];exact E7 d
  ·rintro q2 ae ⟨ws',q',aj,rfl,M,F,A,L,Q,g6,g7,g8⟩
   obtain rfl:q2=q':=gz0
   exact z ws' q2 M F A L Q g6 g7 g8
end
def A01(B:Int)(xs:List Int)(i:Nat):val B (xs.drop i)=xs.getD i 0+B*val B (xs.drop (i+1)):=by
 by_cases a:i<xs.length
 ·exact Kt B a
 ·rw [aV o,aV o]
  simp [val,List.getD,List.getElem?_eq_none (Nat.le_of_not_lt a)]
def Kw{s:Nat}(hs:s<=32):(2:Int)^s*2^(32-s)=4294967296:=by
 rw [<- Int.pow_add,show s+(32-s)=32 from o];decide
section
variable {h g:Heap} {K:VP} {A B:Option Addr} {ac bc:Nat} {bu bq:Nat} {VA:Option Addr} {vs us0:List Int}
def A96{s nq cq rn cr:Nat}{rs tl qs:List Int}{Q R:Int}(hu:g bu=none)(hq:g bq=none)(hne:bu≠bq)(hs:s<32)(hrn:rn=rs.length)(hcr:rn<=cr)(hnq:nq=qs.length)(hcq:nq<=cq)(dq:Dig b32 qs)(dr:Dig b32 rs)(hb1:nq<=200000000)(hb2:rn<=200000000)(hQ:val b32 qs=Q)(hR:val b32 rs=R*2^s)
 (hK:∀ A1 m1 c1 A2 m2 c2 h',g.le h'->m1<=c1->m2<=c2->Mg h' A1 m1 Q->Mg h' A2 m2 R->K (.tuple #[.slice A1 m1 c1,.slice A2 m2 c2]) h'):
 Pf prog K (s:Int) (some ⟨bq,0,none⟩) nq cq (some ⟨bu,0,none⟩) rn cr (Ba .u32 197 g bu (rs++tl) bq qs):=by
 have u:0<(2:Int)^s:=aQ dc
 have E:=Kw (Nat.le_of_lt hs)
 have q:0<(2:Int)^(32-s):=aQ dc
 refine ⟨fun l h'=>∃ (k:Nat) (zs:List Int),l=[I k]/\k<=rn/\zs.length=rs.length/\Dig b32 zs/\h'=Ba .u32 197 g bu (zs++tl) bq qs/\zs.drop k=rs.drop k/\2^s*val b32 (zs.take k)+rs.getD 0 0%2^s=val b32 (rs.take k)+b32^k*(rs.getD k 0%2^s),fun l _=>rn-(iAt l 0).toNat,⟨0,rs,rfl,o,rfl,dr,rfl,rfl,by simp [val]⟩,?_⟩
 rintro i O ⟨k,zs,ad,hk,B,r,rfl,b,hv⟩
 obtain rfl:i=(k:Int):=gz0
 have t:∀ zs:List Int,SlI .u32 (Ba .u32 197 g bu (zs++tl) bq qs) (some ⟨bu,0,none⟩) zs:=by
  intro zs
  have:=(Tt (g:=g) (k:=.u32) (e:=197) (us:=zs++tl) (qs:=qs) hne).cut (c:=(zs++tl).length) (l:=0) (m:=zs.length) o (by simp) (aP _)
  simpa [H1] using this
 have A:C4 ((k:Int)+1)=((k+1:Nat):Int):=by rw [C1 o o];omega
 have gz:=Bq r k
 have G:=F1 b
 refine C0 (fun X=>?_) (fun X=>?_)
 ·refine (t zs).load o o o ?_
  refine C0 (fun e=>absurd e o) (fun _=>?_)
  refine ⟨_,rfl,o,o,?_⟩
  simp only [aD]
  rw [aI o,Int.fdiv_eq_ediv_of_nonneg _ (aJ u)]
  refine O7 (us:=zs++tl) (i:=(k:Int)) K4 hne gz0 ?_
  rw [aD,List.set_append_left _ _ o,A]
  have a:0<=zs.getD k 0/2^s:=aR gz.1 o
  have w:zs.getD k 0/2^s<2^(32-s):=by
   apply aO u
   grind
  have f:(2:Int)^(32-s)<=4294967296:=by
   have:=aC (show 1<=(2:Int)^s from o) (aJ q);omega
  have W:Dig b32 (zs.set k (zs.getD k 0/2^s)):=r.set ⟨a,gz0⟩
  have l1:(zs.set k (zs.getD k 0/2^s)).length=rs.length:=gz0
  have g1:(zs.set k (zs.getD k 0/2^s)).getD k 0=zs.getD k 0/2^s:=gz0
  have V:(zs.set k (zs.getD k 0/2^s)).getD (k+1) 0=rs.getD (k+1) 0:=by
   rw [A3a o];exact F1 (E7 b)
  have vr:=C7 b32 rs k
  have d:∀ z:Int,(0<=z/\z<4294967296)->2^s*z=zs.getD k 0-zs.getD k 0%2^s+4294967296*(rs.getD (k+1) 0%2^s)->
   2^s*val b32 ((zs.set k z).take (k+1))+rs.getD 0 0%2^s=val b32 (rs.take (k+1))+b32^(k+1)*(rs.getD (k+1) 0%2^s):=by
   intro z hz ez
   rw [D3 o,F3,aK,aI o,vr,aS,<- G]
   grind
  have T:=aN (zs.getD k 0) (2^s)
  refine C0 (fun S=>?_) (fun S=>?_)
  ·refine (t _).load o o o ?_
   refine (t _).load o o o ?_
   simp only [aD,g1,V]
   have es:C8 ((32:Int)-s)=((32-s:Nat):Int):=by rw [C6 o o];omega
   rw [es]
   refine C0 (fun e=>absurd e o) (fun _=>?_)
   refine ⟨_,rfl,o,o,?_⟩
   have M:=Bq dr (k+1)
   have F:0<=rs.getD (k+1) 0*2^(32-s):=aG M.1 o
   have C:rs.getD (k+1) 0*2^(32-s)<18446744073709551616:=by
    have:=bJ (show rs.getD (k+1) 0<=4294967295 from o) f o dc
    omega
   rw [aD,aI (show 32-s<=64 from o),C6 (n:=rs.getD (k+1) 0) o o,C6 F C,Bk]
   obtain ⟨o1,L⟩:=A5i (s:=32-s) o M ⟨a,w⟩
   rw [o1]
   refine O7 (us:=zs.set k (zs.getD k 0/2^s)++tl) (i:=(k:Int)) K4 hne gz0 ?_
   rw [aD,List.set_append_left _ _ o,List.set_set]
   refine ⟨⟨k+1,zs.set k (zs.getD k 0/2^s+rs.getD (k+1) 0*2^(32-s)%4294967296),rfl,o,gz0,r.set ⟨o,L⟩,rfl,by rw [E5 o];exact E7 b,d _ ⟨o,L⟩ ?_⟩,by simp only [iAt,aH];omega⟩
   have em:rs.getD (k+1) 0*2^(32-s)%4294967296=2^(32-s)*(rs.getD (k+1) 0%2^s):=by
    rw [<- E,aZ (2^s),aZ (rs.getD (k+1) 0),bK _ _ q]
   grind
  ·have N:rs.getD (k+1) 0=0:=gz0
   refine ⟨⟨k+1,zs.set k (zs.getD k 0/2^s),rfl,o,l1,W,rfl,gz0,d _ ⟨a,o⟩ ?_⟩,by simp only [iAt,aH];omega⟩
   rw [N,Int.zero_emod,aY,bM];omega
 ·have y:k=rs.length:=o
  subst y
  have H:val b32 zs=R:=by
   simp at hv
   have:2^s*(R-val b32 zs)=rs.getD 0 0%2^s:=by
    grind
   have hz:R-val b32 zs=0:=by
    by_cases hc:R-val b32 zs<=0
    ·by_cases D:R-val b32 zs=0
     ·exact D
     ·have:=aE (show R-val b32 zs <= -1 from o) (aJ u);omega
    ·have:=aE (show 1<=R-val b32 zs from o) (aJ u);omega
   omega
  rw [hnq]
  refine Ai B5g dq o o ?_
  intro m1 aa j
  refine ⟨_,_,_,rfl,?_⟩
  rw [hrn,<- B]
  refine Ai (t zs) r o o ?_
  intro m2 ac p
  rw [hQ] at j
  rw [H] at p
  exact ⟨_,_,_,rfl,hK _ _ _ _ _ _ _ (Pd hu hq hne) o o j p⟩
def A81{s mm N nq:Nat}{us0:List Int}{a b Y:Int}(hu:g bu=none)(hq:g bq=none)(hne:bu≠bq)(sv:SlI .u32 g VA vs)(dv:Dig b32 vs)(hn:vs.length=mm+2)(hv1:4294967296<=2*vs.getD (mm+1) 0)(hs:s<32)(hY:val b32 vs=Y)(hYb:Y=b*2^s)(du:Dig b32 us0)(hN:us0.length=N)(hua:val b32 us0=a*2^s)(hnq:N=nq+(mm+2))(hnq1:1<=nq)(hbig:N<=200000000)(htop:val b32 (us0.drop nq)<Y)
 (hK:∀ A1 m1 c1 A2 m2 c2 h',g.le h'->m1<=c1->m2<=c2->Mg h' A1 m1 (a/b)->Mg h' A2 m2 (a%b)->K (.tuple #[.slice A1 m1 c1,.slice A2 m2 c2]) h'):
 Pi prog K (s:Int) VA (mm+2) (some ⟨bu,0,none⟩) N N (some ⟨bq,0,none⟩) nq nq (Ba .u32 197 g bu us0 bq (bG nq 0)):=by
 have hp:0<(2:Int)^s:=aQ dc
 have al:Y<b32^(mm+2):=by rw [<- hY,<- hn];exact L9 dc dv
 have ar:0<Y:=by have:=D0 dc (du.drop nq);omega
 have e0:C4 (C4 ((N:Int)-((mm+2:Nat):Int))-1)=(nq:Int)-1:=by rw [C1 (n:=(N:Int)-((mm+2:Nat):Int)) o o,C1 o o];omega
 unfold Pi
 refine ⟨fun l h'=>∃ (k:Nat) (us qs:List Int),l=[I ((k:Int)-1)]/\k<=nq/\us.length=N/\qs.length=nq/\Dig b32 us/\Dig b32 qs/\h'=Ba .u32 197 g bu us bq qs/\val b32 (us.drop k)<Y/\val b32 us0=val b32 (qs.drop k)*Y*b32^k+val b32 us,fun l _=>(iAt l 0+1).toNat,⟨nq,us0,_,by rw [e0],o,hN,by simp,du,I5 dc _,rfl,htop,by simp [val]⟩,?_⟩
 rintro j an ⟨k,us,qs,a0,hk,F,E,f,O,rfl,W,hv⟩
 obtain rfl:j=(k:Int)-1:=gz0
 have u:g.le (Ba .u32 197 g bu us bq qs):=Pd hu hq hne
 have Q:SlI .u32 (Ba .u32 197 g bu us bq qs) (some ⟨bu,0,none⟩) us:=Tt hne
 unfold Wu
 refine C0 (fun h1=>?_) (fun h1=>?_)
 ·obtain ⟨j,rfl⟩:∃ j,k=j+1:=⟨k-1,o⟩
  have ej:((j+1:Nat):Int)-1=(j:Int):=o
  rw [ej]
  have e1:C4 ((j:Int)+((mm+2:Nat):Int))=((j+(mm+2):Nat):Int):=by rw [C1 o o];omega
  have e2:C4 (((j+(mm+2):Nat):Int)-1)=((j+(mm+1):Nat):Int):=by rw [C1 o o];omega
  have e3:C4 (((mm+2:Nat):Int)-1)=((mm+1:Nat):Int):=by rw [C1 o o];omega
  rw [e1,e2,e3]
  have A:=f.drop j
  have ak:(us.drop j).length=N-j:=gz0
  have au:∀ i,(us.drop j).getD i 0=us.getD (j+i) 0:=fun i=>A1q
  have t:val b32 ((us.drop j).drop (mm+3))=0:=by
   have:=Dh (B:=b32) dc (n:=mm+2) (f.drop (j+1)) o
   rw [aT] at this ⊢
   grind
  have av:=A01 b32 us j
  have ag:val b32 (us.drop j)<Y*4294967296:=by
   have:=Bq f j
   grind
  have D:=F7 b32 (us.drop j) (i:=mm+3) o
  rw [t,aY,bM] at D
  have az:=G9 b32 (us.drop j) (mm+2)
  have hX:val b32 (us.drop j)=val b32 ((us.drop j).take (mm+2))+b32^(mm+2)*(us.drop j).getD (mm+2) 0:=gz0
  have es:=B5a (B:=b32) dc (us:=(us.drop j).take (mm+3)) (m:=mm) (A.take _) dv gz0 hn hv1 gz0
  have gt:∀ i,i<mm+3->((us.drop j).take (mm+3)).getD i 0=us.getD (j+i) 0:=by
   grind
  rw [gt (mm+2) o,gt (mm+1) o,gt mm o,<- D,hY] at es
  refine ⟨fun l h'=>∃ d p,l=[]/\h'=Ba .u32 197 g bu d bq (qs.set j p)/\d.length=N/\Dig b32 d/\(0<=p/\p<4294967296)/\val b32 (d.drop j)<Y/\val b32 (d.drop j)=val b32 (us.drop j)-p*Y/\d.take j=us.take j,?_,?_⟩
  ·refine Q.load F.symm o o ?_
   refine Q.load F.symm o o ?_
   refine (sv.mono u).load hn.symm o o ?_
   simp only [aD]
   have ao:=Bq dv (mm+1)
   have ew:C8 (vs.getD (mm+1) 0)=vs.getD (mm+1) 0:=C6 o o
   refine C0 (fun e=>absurd (ew.symm.trans e) o) (fun _=>?_)
   refine (sv.mono u).load hn.symm o o ?_
   simp only [aD]
   refine C0 (fun e=>absurd (ew.symm.trans e) o) (fun _=>?_)
   refine ⟨fun l h'=>∃ q,l=[U q]/\h'=Ba .u32 197 g bu us bq qs/\0<=q/\q<=4294967296/\val b32 (us.drop j)<(q+1)*Y/\(q-1)*Y<=val b32 (us.drop j),?_,?_⟩
   ·have:=B3u (us:=us) (vs:=vs) (n:=mm+2) (j:=j) (J:=fun l h'=>∃ q,l=[U q]/\h'=Ba .u32 197 g bu us bq qs/\0<=q/\q<=4294967296/\val b32 (us.drop j)<(q+1)*Y/\(q-1)*Y<=val b32 (us.drop j)) es (sv.mono u) Q hn.symm o o o rfl rfl (by rfl) (Bq f (j+(mm+2))) (Bq f (j+(mm+1))) rfl (fun q q0 q1 q2 q3=>⟨q,rfl,rfl,q0,q1,q2,q3⟩)
    grind
   ·rintro q am ⟨p,aw,rfl,ae,aj,z,y⟩
    obtain rfl:q=p:=gz0
    unfold Ws
    have r:(us.take j).length=j:=gz0
    have:=A7t (g:=g) (bu:=bu) (bq:=bq) (pre:=us.take j) (qs:=qs) (VA:=VA) (vs:=vs) (n:=mm+2) (N:=N) (nq:=nq) (ws:=us.drop j) (q:=q) (X:=val b32 (us.drop j)) (Y:=Y)
     (J:=fun l h'=>∃ d p,l=[]/\h'=Ba .u32 197 g bu d bq (qs.set j p)/\d.length=N/\Dig b32 d/\(0<=p/\p<4294967296)/\val b32 (d.drop j)<Y/\val b32 (d.drop j)=val b32 (us.drop j)-p*Y/\d.take j=us.take j)
     hu hq hne sv dv hn.symm A gz0 o hbig E.symm o hX hY.symm ae aj z y ag ?_
    ·rw [List.take_append_drop,r] at this
     exact this
    ·intro G p w1 w2 w3 w4 w5 w6 w7 w8 w9
     refine ⟨us.take j++G,p,rfl,by rw [r],by rw [List.length_append,w1,ak,r];omega,Dig.append (f.take j) w2,⟨w8,w9⟩,?_,?_,?_⟩
     all_goals first|(rw [List.drop_left' r])|grind
     all_goals
      have z1:=F7 b32 G (i:=mm+3) o
      rw [w3,t,G9,w4,w5] at z1
      omega
  ·rintro aq ⟨d,p,_,rfl,u1,u2,u3,u4,u5,u6⟩
   unfold Wt
   have af:C4 ((j:Int)-1)=(j:Int)-1:=C1 o o
   rw [af]
   refine ⟨⟨j,d,qs.set j p,rfl,o,u1,gz0,u2,O.set u3,rfl,u4,?_⟩,by simp only [iAt,aH];omega⟩
   have ah:=F7 b32 d (i:=j) o
   have R:=F7 b32 us (i:=j) o
   rw [hv,Y6 o,ah,R,u5,u6,aS]
   simp only [val]
   grind
 ·have ad:k=0:=o
  subst ad
  simp at W hv
  have ay:0<b:=by
   by_cases V:0<b
   ·exact V
   ·have:=aC (show b<=0 from o) (aJ hp);omega
  have ap:=D0 dc f
  have hR:val b32 us=(a-val b32 qs*b)*2^s:=by
   grind
  have ai:0<=a-val b32 qs*b:=by
   by_cases V:0<=a-val b32 qs*b
   ·exact V
   ·have:=aC (show a-val b32 qs*b <= -1 from o) (aJ hp);omega
  have S:a-val b32 qs*b<b:=by
   simp_all
  have M:a/b=val b32 qs:=by
   have:a=(a-val b32 qs*b)+val b32 qs*b:=o
   rw [this,bN _ _ o,bL ai S,Int.zero_add]
  have C:a%b=a-val b32 qs*b:=by
   have:=Int.emod_def a b
   grind
  rw [M,C] at hK
  have hz:=Dh (B:=b32) dc (n:=mm+2) f o
  have H:=F7 b32 us (i:=mm+2) o
  rw [hz,aY,bM] at H
  refine ⟨⟨o,o⟩,?_⟩
  rw [H1,aD,Nat.sub_zero,Nat.sub_zero]
  have L:(us.take (mm+2)).length=mm+2:=gz0
  have st:SlI .u32 (Ba .u32 197 g bu us bq qs) (some ⟨bu,0,none⟩) (us.take (mm+2)):=by
   have:=Q.cut (c:=N) (l:=0) (m:=mm+2) o o o
   simpa [H1] using this
  have tr:=A06 (K:=fun r7 w=>∃ (t259A:Option Addr) (t259n:Nat) (t259c:Nat),r7= .slice t259A t259n t259c/\Pf prog K (s:Int) (some ⟨bq,0,none⟩) nq nq t259A t259n t259c w) (ac:=N) st o o ?_
  ·grind
  ·intro m hm ax aa
   rw [L] at hm
   rw [List.take_take,aI hm] at aa
   refine ⟨_,_,_,rfl,?_⟩
   have T:us=us.take m++us.drop m:=(List.take_append_drop m us).symm
   rw [T]
   refine A96 (rs:=us.take m) (tl:=us.drop m) (qs:=qs) hu hq hne hs gz0 o E.symm (aP _) O (f.take m) o o rfl ?_ hK
   omega
end
