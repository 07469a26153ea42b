/-
  Texts of this proof, merged by a program of ours.
-/
import Derived.Test.YtajkakhfcokljaaGreatDoorG14
import Derived.Test.YtajkakhfcokljaaGreatDoorG15
import Derived.Test.YtajkakhfcokljaaGreatDoorG12
open Go.Proofs.Tryz
set_option linter.all false
open Int renaming mul_le_mul_of_nonneg_right->B8t,toNat_natCast->B8u,mul_le_mul_of_nonneg_left->B8v,dvd_mul_of_dvd_right->B8w,mul_nonneg->B8x,le_of_lt->B92,mul_comm->B94,pow_succ->B96,mul_ediv_add_emod->B97,emod_lt_of_pos->B99,ediv_lt_of_lt_mul->B9b,pow_pos->B9c,emod_nonneg->B9d,ediv_nonneg->B9e,mul_zero->B9m,mul_pos->B9n,dvd_sub->B9o,tmod_eq_emod_of_nonneg->B9p,tdiv_eq_ediv_of_nonneg->B9q,fdiv_eq_ediv_of_nonneg->B9r,mul_le_mul->B9u
open List renaming getElem?_cons_zero->B8y,length_take->B8z,length_append->B91,take_length->B93,getD->B95,getElem?_cons_succ->B98,take_of_length_le->B9a,drop_drop->B9f,drop_of_length_le->B9h,take_append_drop->B9i,length_set->B9j,getElem?_eq_none->B9k,take_set_of_le->B9l,replicate->B9s,drop_eq_getElem_cons->B9t
open Nat renaming min_eq_left->B90,le_refl->B9g
namespace Go.Proofs.YtajkakhfcokljaaGreatDoor
set_option maxRecDepth 20000
open Go
section
variable {h g:Heap} {K:VP} {A B:Option Addr} {ac bc:Nat}
theorem A6x{xs:List Int}{i:Nat}(hi:i<xs.length):xs.drop i=xs.getD i 0::xs.drop (i+1):=by
 rw [B9t hi];simp [B95,hi]
theorem Hx(B:Int){xs:List Int}{i:Nat}(hi:i<xs.length):val B (xs.drop i)=xs.getD i 0+B*val B (xs.drop (i+1)):=by
 rw [A6x hi];rfl
theorem R8{xs:List Int}{i:Nat}{v:Int}(hi:i<xs.length):(xs.set i v).drop i=v::xs.drop (i+1):=by
 rw [B9t (by simpa using hi)]
 simp [List.drop_set_of_lt]
theorem Id{x d:Int}{an:Nat}(ma:Mg h A an x)(hd0:0<d/\d<4294967296)(hl:an<=100000000)(hK:∀ A' m c' h',h.le h'->m<=c'->m<=an->Mg h' A' m (x/d)->K (.tuple #[.slice A' m c',U32 (x%d)]) h'):FCall prog Dg #[.slice A an ac,U32 d] h K:=by
 obtain ⟨xs,rfl,sx,dx,nx,rfl⟩:=ma
 refine Yc _ _ _ _ ?_
 unfold Yd
 refine J5 Mj (by omega) (by omega) (by omega) ?_
 intro b hb
 rw [B8u]
 refine ⟨_,_,_,rfl,?_⟩
 refine ⟨fun l h'=>∃ (k:Nat) (r:Int) (zs:List Int),l=[U r,I ((k:Int)-1)]/\k<=xs.length/\zs.length=xs.length/\Dig b32 zs/\(0<=r/\r<d)/\h'=blk .u32 C2 h b zs/\val b32 (xs.drop k)=val b32 (zs.drop k)*d+r,fun l _=>(iAt l 1+1).toNat,⟨xs.length,0,_,by rw [B5 (by omega) (by omega)],by omega,by simp,H0 (by decide) _,by omega,rfl,by simp [val]⟩,?_⟩
 rintro r i hp ⟨k,r',zs,hli,hk,hzl,hd,hr,rfl,hv⟩
 obtain ⟨rfl,rfl⟩:r=r'/\i=(k:Int)-1:=by simpa using hli
 have hle:=V1 (k:=.u32) (e:=C2) hb zs
 refine B4 (fun h1=>?_) (fun h1=>?_)
 ·obtain ⟨j,rfl⟩:∃ j,k=j+1:=⟨k-1,by omega⟩
  have e:((j+1:Nat):Int)-1=(j:Int):=by omega
  rw [e]
  have gx:=Az dx j
  refine (sx.mono hle).load rfl (by omega) (by omega) ?_
  rw [B8u]
  have e1:B7 d=d:=C0 (by omega) (by omega)
  have e2:bor .u64 (B7 (r*2^(min ((32:Int)).toNat 64))) (B7 (xs.getD j 0))=r*4294967296+xs.getD j 0:=by
   rw [show (2:Int)^(min ((32:Int)).toNat 64)=4294967296 by decide,C0 (n:=xs.getD j 0) (by omega) (by omega),C0 (n:=r*4294967296) (by omega) (by omega)]
   exact Uu (by omega) gx
  rw [e1,e2]
  have hT:0<=r*4294967296+xs.getD j 0:=by omega
  have et:Int.tdiv (r*4294967296+xs.getD j 0) d=(r*4294967296+xs.getD j 0)/d:=B9q hT
  have em:Int.tmod (r*4294967296+xs.getD j 0) d=(r*4294967296+xs.getD j 0)%d:=B9p hT
  rw [et,em]
  have hq:0<=(r*4294967296+xs.getD j 0)/d/\(r*4294967296+xs.getD j 0)/d<4294967296:=by
   constructor
   ·exact B9e hT (by omega)
   ·apply B9b (by omega)
    have:(r+1)*4294967296<=d*4294967296:=B8t (by omega) (by decide)
    omega
  refine B4 (fun e=>absurd e (by omega)) (fun _=>?_)
  refine ⟨_,rfl,by omega,by omega,?_⟩
  refine P7 (k:=.u32) (zs:=zs) (i:=(j:Int)) J7 (by rw [B8u];omega) ?_
  rw [B8u,C0 (by omega) (by omega),L4 (by omega) (by omega),B5 (by omega) (by omega)]
  refine B4 (fun e=>absurd e (by omega)) (fun _=>?_)
  refine ⟨⟨j,_,zs.set j ((r*4294967296+xs.getD j 0)/d),rfl,by omega,by simpa using hzl,hd.set hq,⟨B9d _ (by omega),B99 _ (by omega)⟩,rfl,?_⟩,by simp only [iAt,B8y,B98];omega⟩
  rw [R8 (by omega),Hx b32 (by omega),hv]
  have:=B97 (r*4294967296+xs.getD j 0) d
  simp only [val]
  grind
 ·have hk0:k=0:=by omega
  subst hk0
  rw [List.drop_zero,List.drop_zero] at hv
  rw [<- hzl]
  refine X8 (Ci _ _ _ _ _) hd (B9g _) (by omega) ?_
  intro m hm hM
  have hq:val b32 xs/d=val b32 zs:=by
   rw [hv,Int.add_comm,Int.add_mul_ediv_right _ _ (by omega),Int.ediv_eq_zero_of_lt hr.1 hr.2,Int.zero_add]
  have hrm:val b32 xs%d=r:=by
   rw [hv,Int.add_comm,Int.add_mul_emod_self_right,Int.emod_eq_of_lt hr.1 hr.2]
  rw [<- hq] at hM
  rw [L4 (by omega) (by omega),<- hrm]
  exact ⟨_,_,_,rfl,hK _ _ _ _ (V1 hb _) hm (by omega) hM⟩
end
theorem B58{a b:Int}(ha:0<=a/\a<4294967296)(hb:0<=b/\b<4294967296):0<=a*b/\a*b<=18446744065119617025:=by
 refine ⟨B8x ha.1 hb.1,?_⟩
 have:=B9u (show a<=4294967295 by omega) (show b<=4294967295 by omega) hb.1 (by decide)
 omega
theorem E4{xs ys:List Int}{i:Nat}(h:xs.drop i=ys.drop i):xs.getD i 0=ys.getD i 0:=by
 have h1:(xs.drop i)[0]? = (ys.drop i)[0]? :=by rw [h]
 simp at h1
 simp [B95,h1]
theorem D5{xs ys:List Int}{i:Nat}(h:xs.drop i=ys.drop i):xs.drop (i+1)=ys.drop (i+1):=by
 rw [<- B9f,<- B9f,h]
theorem D3{xs:List Int}{i j:Nat}{v:Int}(h:i<j):(xs.set i v).drop j=xs.drop j:=List.drop_set_of_lt h
section
variable {h g:Heap} {K:VP} {A B:Option Addr} {ac bc:Nat}
theorem Zx{x y:Int}{an bn:Nat}(ma:Mg h A an x)(mb:Mg h B bn y)(hl:an<=100000000)(hl2:bn<=100000000)(hK:∀ A' m c' h',h.le h'->m<=c'->Mg h' A' m (x*y)->K (.slice A' m c') h'):FCall prog Ox #[.slice A an ac,.slice B bn bc] h K:=by
 have hx0:=ma.len_zero (by decide)
 have hy0:=mb.len_zero (by decide)
 obtain ⟨xs,rfl,sx,dx,nx,rfl⟩:=ma
 obtain ⟨ys,rfl,sy,dy,ny,rfl⟩:=mb
 refine A43 _ _ _ _ _ _ ?_
 unfold A88
 refine D8 (fun h0=>?_) (fun hx=>D8 (fun h0=>?_) (fun hy=>?_))
 ·have:=hK none 0 0 h (B0 h) (B9g _) (by rw [hx0.2 (by omega),Int.zero_mul];exact Mag.zero)
  exact this
 ·have:=hK none 0 0 h (B0 h) (B9g _) (by rw [hy0.2 (by omega),B9m];exact Mag.zero)
  exact this
 have e1:B3 ((xs.length:Int)+ys.length)=((xs.length+ys.length:Nat):Int):=by rw [B5 (by omega) (by omega)];omega
 rw [e1]
 refine J5 Mj (by omega) (by omega) (by omega) ?_
 intro b hb
 rw [B8u]
 refine ⟨_,_,_,rfl,?_⟩
 refine ⟨fun l h'=>∃ (k:Nat) (zs:List Int),l=[I k]/\k<=xs.length/\zs.length=xs.length+ys.length/\Dig b32 zs/\h'=blk .u32 C2 h b zs/\zs.drop (k+ys.length)=B9s (xs.length-k) 0/\val b32 (zs.take (k+ys.length))=val b32 (xs.take k)*val b32 ys,fun l _=>xs.length-(iAt l 0).toNat,⟨0,_,rfl,by omega,by simp,H0 (by decide) _,rfl,by simp,?_⟩,?_⟩
 ·rw [List.take_replicate,Af];simp [val]
 rintro i hp ⟨k,zs0,hli,hk,hzl0,hd0,rfl,hdr0,hv0⟩
 obtain rfl:=sI1 hli
 refine B4 (fun h1=>?_) (fun h1=>?_)
 ·have gx:=Az dx k
  have vx:=C3 b32 xs k
  refine ⟨fun l h'=>∃ (m:Nat) (c:Int) (zs:List Int),l=[U c,I m]/\m<=ys.length/\zs.length=xs.length+ys.length/\Dig b32 zs/\(0<=c/\c<4294967296)/\h'=blk .u32 C2 h b zs/\zs.drop (k+m)=zs0.drop (k+m)/\val b32 (zs.take (k+m))+c*b32^(k+m)=val b32 (zs0.take (k+m))+b32^k*(xs.getD k 0*val b32 (ys.take m)),fun l _=>ys.length-(iAt l 1).toNat,⟨0,0,zs0,rfl,by omega,hzl0,hd0,by omega,rfl,rfl,by simp [val]⟩,?_⟩
  rintro c j hp2 ⟨m,c',zs,hlj,hm,hzl,hd,hc,rfl,hdr,hv⟩
  obtain ⟨rfl,rfl⟩:c=c'/\j=(m:Int):=by simpa using hlj
  have hle:=V1 (k:=.u32) (e:=C2) hb zs
  refine B4 (fun h2=>?_) (fun h2=>?_)
  ·have gy:=Az dy m
   have vy:=C3 b32 ys m
   have gz:=Az hd (k+m)
   have hzz:=E4 hdr
   have vz:=C3 b32 zs0 (k+m)
   have ekm:B3 ((k:Int)+m)=((k+m:Nat):Int):=by rw [B5 (by omega) (by omega)];omega
   rw [ekm]
   refine (sx.mono hle).load rfl (by omega) (by omega) ?_
   refine (sy.mono hle).load rfl (by omega) (by omega) ?_
   refine (Ci .u32 C2 h b zs).load hzl.symm (by omega) (by omega) ?_
   simp only [B8u]
   have hp:=B58 gx gy
   have ec:B7 (c+B7 (B7 (B7 (xs.getD k 0)*B7 (ys.getD m 0))+B7 (zs.getD (k+m) 0)))=c+(xs.getD k 0*ys.getD m 0+zs.getD (k+m) 0):=by
    rw [C0 (n:=xs.getD k 0) (by omega) (by omega),C0 (n:=ys.getD m 0) (by omega) (by omega),C0 (n:=zs.getD (k+m) 0) (by omega) (by omega),C0 (n:=xs.getD k 0*ys.getD m 0) (by omega) (by omega),C0 (n:=xs.getD k 0*ys.getD m 0+zs.getD (k+m) 0) (by omega) (by omega),C0 (by omega) (by omega)]
   rw [ec]
   refine ⟨_,rfl,by omega,by omega,?_⟩
   refine P7 (k:=.u32) (zs:=zs) (i:=((k+m:Nat):Int)) J7 (by rw [B8u];omega) ?_
   rw [B8u,X5,Tj,B5 (n:=(m:Int)+1) (by omega) (by omega)]
   refine ⟨⟨m+1,_,zs.set (k+m) ((c+(xs.getD k 0*ys.getD m 0+zs.getD (k+m) 0))%4294967296),rfl,by omega,by simpa using hzl,hd.set (Zz _),by omega,rfl,?_,?_⟩,by simp only [iAt,B8y,B98];omega⟩
   ·rw [D3 (by omega)];exact D5 hdr
   ·rw [<- Nat.add_assoc,C7 (by omega),E6,B8z,B90 (by omega),B96,Z8,vy,vz,<- hzz]
    have:b32^(k+m)=b32^k*b32^m:=Int.pow_add _ _ _
    grind
  ·have hmm:m=ys.length:=by omega
   subst hmm
   have ekm:B3 ((k:Int)+ys.length)=((k+ys.length:Nat):Int):=by rw [B5 (by omega) (by omega)];omega
   rw [ekm]
   refine ⟨_,rfl,by omega,by omega,?_⟩
   refine P7 (k:=.u32) (zs:=zs) (i:=((k+ys.length:Nat):Int)) J7 (by rw [B8u];omega) ?_
   rw [B8u,L4 (by omega) (by omega),B5 (n:=(k:Int)+1) (by omega) (by omega)]
   have ea:k+1+ys.length=k+ys.length+1:=by omega
   refine ⟨⟨k+1,zs.set (k+ys.length) c,rfl,by omega,by simpa using hzl,hd.set hc,rfl,?_,?_⟩,by simp only [iAt,B8y];omega⟩
   ·rw [ea,D3 (by omega),D5 hdr,<- B9f,hdr0,List.drop_replicate]
    congr 1
   ·rw [ea,C7 (by omega),E6,B8z,B90 (by omega)]
    rw [B93] at hv
    rw [vx]
    grind
 ·have hkk:k=xs.length:=by omega
  subst hkk
  rw [B93,B9a (show zs0.length<=xs.length+ys.length by omega)] at hv0
  rw [<- hzl0]
  refine X8 (Ci _ _ _ _ _) hd0 (B9g _) (by omega) ?_
  intro m hm hM
  rw [hv0] at hM
  exact ⟨_,_,_,rfl,hK _ _ _ _ (V1 hb _) hm hM⟩
theorem A1t{x z:Int}{s:Nat}(hs:s<=32)(_hx:0<=x/\x<4294967296)(hz:0<=z/\z<(2:Int)^s):
 bor .u32 z (x*2^s%4294967296)=z+x*2^s%4294967296/\z+x*2^s%4294967296<4294967296:=by
 have hp:(2:Int)^s*2^(32-s)=4294967296:=by
  rw [<- Int.pow_add,show s+(32-s)=32 by omega];decide
 have hps:0<(2:Int)^s:=B9c (by decide)
 have hpt:0<(2:Int)^(32-s):=B9c (by decide)
 have hz32:z<4294967296:=by
  have:(2:Int)^s*1<=2^s*2^(32-s):=B8v (by omega) (by omega)
  omega
 have em:x*2^s%4294967296=2^s*(x%2^(32-s)):=by
  rw [<- hp,B94 x,Int.mul_emod_mul_of_pos _ _ hps]
 have hm:=Zz (x*2^s)
 have hor:bor .u32 z (x*2^s%4294967296)=z+x*2^s%4294967296:=by
  rw [B5s ⟨hz.1,hz32⟩ hm]
  have ha0:0<=x%2^(32-s):=B9d _ (by omega)
  have e1:(x*2^s%4294967296).toNat=2^s*(x%2^(32-s)).toNat:=by
   rw [em,Int.toNat_mul (by omega) ha0]
   rw [Int.toNat_pow_of_nonneg (by decide)];rfl
  have hzn:z.toNat<2^s:=by
   have:((2^s:Nat):Int)=(2:Int)^s:=by simp
   omega
  rw [e1,Nat.or_comm,A1u hzn,<- e1]
  omega
 refine ⟨hor,?_⟩
 rw [<- hor,B5s ⟨hz.1,hz32⟩ hm]
 have:z.toNat ||| (x*2^s%4294967296).toNat<2^32:=Nat.or_lt_two_pow (by omega) (by have:=hm.2;show _<_;omega)
 omega
theorem Gq{xs:List Int}{s:Nat}(sx:SlI .u32 h A xs)(dx:Dig b32 xs)(hs:s<32)(hl:xs.length<=100000000)(hK:∀ b zs,h b=none->zs.length=xs.length+1->Dig b32 zs->val b32 zs=val b32 xs*2^s->K (.slice (some ⟨b,0,none⟩) (xs.length+1) (xs.length+1)) (blk .u32 C2 h b zs)):FCall prog Be #[.slice A xs.length ac,U s] h K:=by
 refine Vi _ _ _ _ ?_
 unfold So
 have e1:B3 ((xs.length:Int)+1)=((xs.length+1:Nat):Int):=by rw [B5 (by omega) (by omega)];omega
 rw [e1]
 refine J5 Mj (by omega) (by omega) (by omega) ?_
 intro b hb
 rw [B8u]
 refine ⟨_,_,_,rfl,?_⟩
 have hps:0<(2:Int)^s:=B9c (by decide)
 have hps2:(2:Int)^s<=2147483648:=by
  have:=C8 (B:=2) (by decide) (show s<=31 by omega)
  have e:(2:Int)^31=2147483648:=by decide
  omega
 refine ⟨fun l h'=>∃ (k:Nat) (zs:List Int),l=[I k]/\k<=xs.length/\zs.length=xs.length+1/\Dig b32 zs/\h'=blk .u32 C2 h b zs/\zs.drop (k+1)=B9s (xs.length-k) 0/\zs.getD k 0<2^s/\val b32 (zs.take (k+1))=val b32 (xs.take k)*2^s,fun l _=>xs.length-(iAt l 0).toNat,⟨0,_,rfl,by omega,by simp,H0 (by decide) _,rfl,by simp,by simpa using hps,by simp [val]⟩,?_⟩
 rintro i hp ⟨k,zs,hli,hk,hzl,hd,rfl,hdr,hg,hv⟩
 obtain rfl:=sI1 hli
 have hle:=V1 (k:=.u32) (e:=C2) hb zs
 refine B4 (fun h1=>?_) (fun h1=>?_)
 ·have gx:=Az dx k
  have gz:=Az hd k
  have vx:=C3 b32 xs k
  have vz:=C3 b32 zs k
  refine (sx.mono hle).load rfl (by omega) (by omega) ?_
  refine B4 (fun e=>absurd e (by omega)) (fun _=>?_)
  refine (Ci .u32 C2 h b zs).load hzl.symm (by omega) (by omega) ?_
  simp only [B8u]
  obtain ⟨o1,o2⟩:=A1t (Nat.le_of_lt hs) gx ⟨gz.1,hg⟩
  have hv0:0<=xs.getD k 0*2^s:=B8x gx.1 (by omega)
  have hv1:xs.getD k 0*2^s<4294967296*2^s:=Int.mul_lt_mul_of_pos_right gx.2 hps
  have ev:B7 (B7 (xs.getD k 0)*2^(min s 64))=xs.getD k 0*2^s:=by
   rw [C0 (n:=xs.getD k 0) (by omega) (by omega),B90 (by omega),C0 (by omega) (by omega)]
  rw [ev]
  refine ⟨_,rfl,by omega,by omega,?_⟩
  refine P7 (k:=.u32) (zs:=zs) (i:=(k:Int)) J7 (by rw [B8u];omega) ?_
  rw [B8u,X5 (xs.getD k 0*2^s),o1,Tj]
  have ek:B3 ((k:Int)+1)=((k+1:Nat):Int):=by rw [B5 (by omega) (by omega)];omega
  rw [ek]
  have hq:0<=xs.getD k 0*2^s/4294967296/\xs.getD k 0*2^s/4294967296<2^s:=⟨B9e hv0 (by decide),B9b (by decide) (by rw [B94 (2^s)];exact hv1)⟩
  refine ⟨_,rfl,by omega,by omega,?_⟩
  refine P7 (k:=.u32) (zs:=zs.set k (zs.getD k 0+xs.getD k 0*2^s%4294967296)) (i:=((k+1:Nat):Int)) J7 (by rw [B8u,B9j];omega) ?_
  rw [B8u,L4 (by omega) (by omega)]
  have hm0:=Zz (xs.getD k 0*2^s)
  refine ⟨⟨k+1,(zs.set k (zs.getD k 0+xs.getD k 0*2^s%4294967296)).set (k+1) (xs.getD k 0*2^s/4294967296),rfl,by omega,by simpa using hzl,(hd.set ⟨by omega,o2⟩).set ⟨hq.1,by show _<(4294967296:Int);omega⟩,rfl,?_,?_,?_⟩,by simp only [iAt,B8y];omega⟩
  ·rw [D3 (by omega),D3 (by omega),<- B9f,hdr,List.drop_replicate]
   congr 1
  ·have:((zs.set k (zs.getD k 0+xs.getD k 0*2^s%4294967296)).set (k+1) (xs.getD k 0*2^s/4294967296)).getD (k+1) 0=xs.getD k 0*2^s/4294967296:=by
    rw [B95,List.getElem?_set_self (by rw [B9j];omega)];rfl
   rw [this];exact hq.2
  ·rw [C7 (by rw [B9j];omega),E6,C7 (by omega),E6]
   simp only [B8z,B91,List.length_singleton]
   rw [B90 (show k<=zs.length by omega),B96,vx]
   have:=Int.emod_add_mul_ediv (xs.getD k 0*2^s) 4294967296
   rw [vz] at hv
   grind
 ·have hkk:k=xs.length:=by omega
  subst hkk
  rw [B93,B9a (by omega)] at hv
  exact hK b zs hb hzl hd hv
end
structure Est (B P top u2 ul v1 v2 vl U V:Int):Prop where
 hB:1<B
 hP:0<P
 hU:U=(top*B+u2)*P+ul
 hV:V=(v1*B+v2)*P+vl
 u2r:0<=u2/\u2<B
 ulr:0<=ul/\ul<P
 v2r:0<=v2/\v2<B
 vlr:0<=vl/\vl<P
 top0:0<=top
 v1r:B<=2*v1/\v1<B
 lt:U<V*B
section
variable {B P top u2 ul v1 v2 vl U V:Int}
theorem Est.U0(e:Est B P top u2 ul v1 v2 vl U V):0<=U:=by
 obtain ⟨hB,hP,hU,hV,u2r,ulr,v2r,vlr,top0,v1r,lt⟩:=e
 have h1:0<=top*B:=B8x top0 (by omega)
 have:0<=(top*B+u2)*P:=B8x (by omega) (by omega)
 omega
theorem Est.V0(e:Est B P top u2 ul v1 v2 vl U V):0<V:=by
 obtain ⟨hB,hP,hU,hV,u2r,ulr,v2r,vlr,top0,v1r,lt⟩:=e
 have h1:0<v1*B:=B9n (by omega) (by omega)
 have:0<(v1*B+v2)*P:=B9n (by omega) hP
 omega
theorem Est.V2(e:Est B P top u2 ul v1 v2 vl U V):B<=v1*B+v2:=by
 obtain ⟨hB,hP,hU,hV,u2r,ulr,v2r,vlr,top0,v1r,lt⟩:=e
 have:1*B<=v1*B:=B8t (by omega) (by omega)
 omega
theorem Est.low(e:Est B P top u2 ul v1 v2 vl U V){q:Int}(h0:0<=q)(h:top*B+u2<q*(v1*B+v2)):U<q*V:=by
 obtain ⟨hB,hP,hU,hV,u2r,ulr,v2r,vlr,top0,v1r,lt⟩:=e
 have h1:(top*B+u2+1)*P<=q*(v1*B+v2)*P:=B8t (by omega) (by omega)
 have h2:0<=q*vl:=B8x h0 vlr.1
 have h3:q*V=q*(v1*B+v2)*P+q*vl:=by rw [hV];grind
 have h4:(top*B+u2+1)*P=(top*B+u2)*P+P:=by grind
 omega
theorem Est.big(e:Est B P top u2 ul v1 v2 vl U V){q:Int}(h:B<=q):U<q*V:=by
 have:=B8t h (B92 e.V0)
 have:=e.lt
 rw [B94 V] at this
 omega
theorem Est.init(e:Est B P top u2 ul v1 v2 vl U V):U<(top/v1+1)*V:=by
 obtain ⟨hB,hP,hU,hV,u2r,ulr,v2r,vlr,top0,v1r,lt⟩:=e
 have hq:0<=top/v1:=B9e top0 (by omega)
 have h1:top+1<=(top/v1+1)*v1:=by
  have:=B97 top v1
  have:=B99 top (show 0<v1 by omega)
  grind
 have hBP:0<B*P:=B9n (by omega) hP
 have h2:(top+1)*(B*P)<=(top/v1+1)*v1*(B*P):=B8t h1 (by omega)
 have h3:0<=(top/v1+1)*(v2*P+vl):=B8x (by omega) (by have:=B8x v2r.1 (B92 hP);omega)
 have h4:(top/v1+1)*V=(top/v1+1)*v1*(B*P)+(top/v1+1)*(v2*P+vl):=by rw [hV];grind
 have h5:(top+1)*(B*P)=top*B*P+B*P:=by grind
 have h6:(u2+1)*P<=B*P:=B8t (by omega) (by omega)
 have h7:U=top*B*P+u2*P+ul:=by rw [hU];grind
 have h8:(u2+1)*P=u2*P+P:=by grind
 omega
theorem Est.up(e:Est B P top u2 ul v1 v2 vl U V){q:Int}(hq:q<=B)(h:q*(v1*B+v2)<=top*B+u2):(q-1)*V<=U:=by
 have hV2:=e.V2
 have hV0:=e.V0
 have hU0:=e.U0
 obtain ⟨hB,hP,hU,hV,u2r,ulr,v2r,vlr,top0,v1r,lt⟩:=e
 by_cases h1:q<=0
 ·have:(q-1)*V<=0:=Int.mul_nonpos_of_nonpos_of_nonneg (by omega) (by omega)
  omega
 ·have h2:(q-1)*vl<=(q-1)*P:=B8v (by omega) (by omega)
  have h3:(q*(v1*B+v2))*P<=(top*B+u2)*P:=B8t h (by omega)
  have h4:(q-1)*V=(q*(v1*B+v2))*P-(v1*B+v2)*P+(q-1)*vl:=by rw [hV];grind
  have h5:(q-1)*P<=(v1*B+v2)*P:=B8t (by omega) (by omega)
  omega
theorem Est.first(e:Est B P top u2 ul v1 v2 vl U V):top<(v1+1)*B/\top/v1<=B+1:=by
 obtain ⟨hB,hP,hU,hV,u2r,ulr,v2r,vlr,top0,v1r,lt⟩:=e
 have hBP:0<B*P:=B9n (by omega) hP
 have h1:top*(B*P)<=U:=by
  have:0<=u2*P:=B8x u2r.1 (by omega)
  have:U=top*(B*P)+u2*P+ul:=by rw [hU];grind
  omega
 have h2:V<(v1+1)*(B*P):=by
  have h3:(v2+1)*P<=B*P:=B8t (by omega) (by omega)
  have:V=v1*(B*P)+v2*P+vl:=by rw [hV];grind
  have:(v1+1)*(B*P)=v1*(B*P)+B*P:=by grind
  have:(v2+1)*P=v2*P+P:=by grind
  omega
 have h3:V*B<=(v1+1)*(B*P)*B:=B8t (by omega) (by omega)
 have h4:top*(B*P)<(v1+1)*B*(B*P):=by
  have:(v1+1)*(B*P)*B=(v1+1)*B*(B*P):=by grind
  omega
 have h5:top<(v1+1)*B:=Int.lt_of_mul_lt_mul_right h4 (by omega)
 refine ⟨h5,?_⟩
 have:top/v1<B+2:=by
  apply B9b (by omega)
  have:(v1+1)*B=v1*B+B:=by grind
  have:v1*(B+2)=v1*B+2*v1:=by grind
  have:(B+2)*v1=v1*B+2*v1:=by grind
  omega
 omega
end
def V3(k:IntKind)(e:TypeId)(g:Heap)(bu:Nat)(us:List Int)(bq:Nat)(qs:List Int):Heap:=blk k e (blk k e g bu us) bq qs
section
variable {k:IntKind} {e:TypeId} {g:Heap} {bu bq:Nat} {us qs:List Int}
theorem Kx(hu:g bu=none)(hq:g bq=none)(hne:bu≠bq):g.le (V3 k e g bu us bq qs):=
 Heap.le_trans (V1 hu us) (V1 (by unfold blk;rw [B6 _ _ hne.symm];exact hq) qs)
theorem Ff(hne:bu≠bq):V3 k e g bu us bq qs=blk k e (blk k e g bq qs) bu us:=by
 unfold V3 blk;exact Heap.put_comm g _ _ hne
theorem Pq(hne:bu≠bq):SlI k (V3 k e g bu us bq qs) (some ⟨bu,0,none⟩) us:=by
 rw [Ff hne];exact Ci k e _ bu us
theorem B21:SlI k (V3 k e g bu us bq qs) (some ⟨bq,0,none⟩) qs:=Ci k e _ bq qs
theorem L9{P:Program}{t:TypeId}(one:P.cellsOf t=1/\(P.info? t).isSome=true)(hne:bu≠bq){n i:Int}(hi:i.toNat<us.length){K:Unit->Heap->Prop}
 (x:K () (V3 k e g bu (us.set i.toNat n) bq qs)):wpH P (Instr.storeAt t (.pointer (some (Addr.add ⟨bu,0,none⟩ (i.toNat*1)))) (.int k n)) K (V3 k e g bu us bq qs):=by
 rw [Ff hne]
 rw [Ff hne] at x
 exact P7 one hi x
theorem Pr{P:Program}{t:TypeId}(one:P.cellsOf t=1/\(P.info? t).isSome=true){n i:Int}(hi:i.toNat<qs.length){K:Unit->Heap->Prop}
 (x:K () (V3 k e g bu us bq (qs.set i.toNat n))):wpH P (Instr.storeAt t (.pointer (some (Addr.add ⟨bq,0,none⟩ (i.toNat*1)))) (.int k n)) K (V3 k e g bu us bq qs):=
 P7 one hi x
end
theorem Wx{xs:List Int}{j i:Nat}:(xs.drop j).getD i 0=xs.getD (j+i) 0:=by simp [B95]
section
variable {g:Heap} {bu bq:Nat} {us qs:List Int} {VA:Option Addr} {vs:List Int}
theorem B09{n j:Nat}{J:LP}{hp:Heap}{UA:Option Addr}{top u2 ul v1 v2 vl X Y P:Int}{t87 t96:Int}(es:Est 4294967296 P top u2 ul v1 v2 vl X Y)(sv:SlI .u32 hp VA vs)(su:SlI .u32 hp UA us)(hn:n=vs.length)(hn2:2<=n)(hul:j+n<us.length)(hbig:us.length<=200000000)
 (hv1:vs.getD (n-1) 0=v1) (hv2:vs.getD (n-2) 0=v2) (hu2:us.getD (j+n-2) 0=u2) (h87:0<=t87/\t87<4294967296) (h96:0<=t96/\t96<4294967296) (htop:top=t87*4294967296+t96)
 (hJ:∀ q,0<=q->q<=4294967296->X<(q+1)*Y->(q-1)*Y<=X->J [U q] hp):Lf prog VA n UA us.length j t87 t96 v1 v1 J hp:=by
 obtain ⟨f1,f2⟩:=es.first
 have hin:=es.init
 have hv0:=es.V0
 have hU0:=es.U0
 have v1r:=es.v1r
 have v2r:=es.v2r
 have u2r:=es.u2r
 have top0:=es.top0
 have e87:bor .u64 (B7 (B7 t87*2^(min ((32:Int)).toNat 64))) (B7 t96)=top:=by
  rw [show (2:Int)^(min ((32:Int)).toNat 64)=4294967296 by decide,C0 (n:=t87) (by omega) (by omega),C0 (n:=t96) (by omega) (by omega),C0 (n:=t87*4294967296) (by omega) (by omega),Uu h87 h96,htop]
 have ev1:B7 v1=v1:=C0 (by omega) (by omega)
 unfold Lf
 rw [e87,ev1,B9q top0,B9p top0]
 have hq0:0<=top/v1:=B9e top0 (by omega)
 have hdm:=B97 top v1
 have hm0:=B9d top (show v1≠0 by omega)
 have hm1:=B99 top (show 0<v1 by omega)
 refine ⟨fun l h'=>∃ q r:Int,l=[U q,U r]/\h'=hp/\0<=q/\q<=4294967297/\0<=r/\r<4294967296/\q*v1+r=top/\X<(q+1)*Y,fun l _=>match l with|[.int _ q,_]=>q.toNat|_=>0,⟨_,_,rfl,rfl,?_,?_,hm0,by omega,?_,?_⟩,?_⟩
 ·rw [C0 (by omega) (by omega)];exact hq0
 ·rw [C0 (by omega) (by omega)];omega
 ·rw [C0 (by omega) (by omega),B94];exact hdm
 ·rw [C0 (by omega) (by omega)];exact hin
 rintro q r hp12 ⟨q',r',hl,rfl,hq,hq2,hr,hr2,hqr,hlt⟩
 obtain ⟨rfl,rfl⟩:q=q'/\r=r':=by simpa using hl
 have en1:B3 ((n:Int)-1)=((n-1:Nat):Int):=by rw [B5 (by omega) (by omega)];omega
 have en2:B3 ((n:Int)-2)=((n-2:Nat):Int):=by rw [B5 (by omega) (by omega)];omega
 have ej2:B3 (B3 ((j:Int)+(n:Int))-2)=((j+n-2:Nat):Int):=by rw [B5 (n:=(j:Int)+n) (by omega) (by omega),B5 (by omega) (by omega)];omega
 refine ⟨fun l h'=>l=[]/\h'=hp12/\X<q*Y,?_,?_⟩
 ·refine B4 (fun h1=>⟨rfl,rfl,es.big h1⟩) (fun h1=>?_)
  rw [en2,ej2]
  refine sv.load hn (by omega) (by omega) ?_
  refine su.load rfl (by omega) (by omega) ?_
  rw [B8u,B8u,hv2,hu2]
  have hp:=B58 (a:=q) (b:=v2) (by omega) v2r
  have eq2:B7 (q*B7 v2)=q*v2:=by rw [C0 (n:=v2) (by omega) (by omega),C0 (by omega) (by omega)]
  have er2:bor .u64 (B7 (r*2^(min ((32:Int)).toNat 64))) (B7 u2)=r*4294967296+u2:=by
   rw [show (2:Int)^(min ((32:Int)).toNat 64)=4294967296 by decide,C0 (n:=u2) (by omega) (by omega),C0 (n:=r*4294967296) (by omega) (by omega),Uu ⟨hr,hr2⟩ u2r]
  rw [eq2,er2]
  have key:q*(v1*4294967296+v2)=(top-r)*4294967296+q*v2:=by rw [<- hqr];grind
  refine B4 (fun h2=>⟨rfl,rfl,es.low hq (by omega)⟩) (fun h2=>?_)
  refine hJ q hq (by omega) hlt (es.up (by omega) (by omega))
 ·rintro hp13 ⟨_,rfl,hlq⟩
  have hq1:1<=q:=by
   by_cases h0:1<=q
   ·exact h0
   ·have:q=0:=by omega
    subst this;omega
  rw [en1]
  refine sv.load hn (by omega) (by omega) ?_
  rw [B8u,hv1,ev1,C0 (n:=r+v1) (by omega) (by omega),C0 (n:=q-1) (by omega) (by omega)]
  have hlt':X<(q-1+1)*Y:=by rw [Int.sub_add_cancel];exact hlq
  have hqr':(q-1)*v1+(r+v1)=top:=by grind
  refine B4 (fun h3=>?_) (fun h3=>?_)
  ·have key:(q-1)*(v1*4294967296+v2)=(top-(r+v1))*4294967296+(q-1)*v2:=by rw [<- hqr'];grind
   have hb:(q-1)*v2<=4294967296*v2:=B8t (by omega) v2r.1
   exact hJ (q-1) (by omega) (by omega) hlt' (es.up (by omega) (by omega))
  ·exact ⟨⟨q-1,r+v1,rfl,rfl,by omega,by omega,by omega,by omega,hqr',hlt'⟩,by simp only;omega⟩
end
theorem F7(B:Int)(xs:List Int)(i:Nat):val B (xs.take (i+1))=val B (xs.take i)+B^i*xs.getD i 0:=by
 by_cases hi:i<xs.length
 ·exact L7 B hi
 ·rw [B9a (by omega),B9a (by omega)]
  simp [B95,B9k (Nat.le_of_not_lt hi)]
theorem A96(B:Int){vs:List Int}{m:Nat}(hn:vs.length=m+2):val B vs=(vs.getD (m+1) 0*B+vs.getD m 0)*B^m+val B (vs.take m):=by
 have h1:=F7 B vs (m+1)
 have h2:=F7 B vs m
 rw [show m+1+1=vs.length by omega,B93] at h1
 rw [h1,h2,B96]
 grind
theorem A95(B:Int){us:List Int}{m:Nat}(hn:us.length=m+3):val B us=((us.getD (m+2) 0*B+us.getD (m+1) 0)*B+us.getD m 0)*B^m+val B (us.take m):=by
 have h1:=F7 B us (m+2)
 have h2:=F7 B us (m+1)
 have h3:=F7 B us m
 rw [show m+2+1=us.length by omega,B93] at h1
 rw [show m+2=m+1+1 by omega] at h1
 rw [h1,h2,h3,B96,B96]
 grind
theorem B1u{B:Int}(hB:1<B){us vs:List Int}{m:Nat}(du:Dig B us)(dv:Dig B vs)(hu:us.length=m+3)(hv:vs.length=m+2)(h1:B<=2*vs.getD (m+1) 0)(hlt:val B us<val B vs*B):
 Est B (B^m) (us.getD (m+2) 0*B+us.getD (m+1) 0) (us.getD m 0) (val B (us.take m)) (vs.getD (m+1) 0) (vs.getD m 0) (val B (vs.take m)) (val B us) (val B vs):=by
 have hB0:0<B:=by omega
 have hlu:=K7 hB0 (du.take m)
 have hlv:=K7 hB0 (dv.take m)
 rw [B8z,B90 (by omega)] at hlu hlv
 refine ⟨hB,B9c hB0,A95 B hu,A96 B hv,du.getD hB0 _,⟨C4 hB0 (du.take m),hlu⟩,dv.getD hB0 _,⟨C4 hB0 (dv.take m),hlv⟩,?_,⟨h1,(dv.getD hB0 _).2⟩,hlt⟩
 have:=B8x (du.getD hB0 (m+2)).1 (B92 hB0)
 have:=(du.getD hB0 (m+1)).1
 omega
theorem Est.top{B P top u2 ul v1 v2 vl U V:Int}(e:Est B P top u2 ul v1 v2 vl U V)(h:v1*B<=top):(B-1-1)*V<=U/\U<(B-1+1)*V:=by
 have hl:=e.lt
 obtain ⟨hB,hP,hU,hV,u2r,ulr,v2r,vlr,top0,v1r,lt⟩:=e
 constructor
 ·have h1:v1*B*B*P<=U:=by
   have h2:v1*B*B<=top*B:=B8t h (by omega)
   have h3:v1*B*B*P<=(top*B+u2)*P:=B8t (by omega) (by omega)
   omega
  have h2:V<=(v1+1)*B*P:=by
   have h3:(v2+1)*P<=B*P:=B8t (by omega) (by omega)
   have:V=v1*B*P+v2*P+vl:=by rw [hV];grind
   have:(v1+1)*B*P=v1*B*P+B*P:=by grind
   have:(v2+1)*P=v2*P+P:=by grind
   omega
  have h3:(B-1-1)*V<=(B-1-1)*((v1+1)*B*P):=B8v h2 (by omega)
  have h4:(B-1-1)*((v1+1)*B*P)=v1*B*B*P-(2*v1+2-B)*(B*P):=by grind
  have h5:0<=(2*v1+2-B)*(B*P):=B8x (by omega) (B8x (by omega) (by omega))
  omega
 ·rw [Int.sub_add_cancel,B94];exact hl
structure LS (F S first second u0 v0 u1 v1 u2 v2:Int) (odd:Bool):Prop where
 hF:F=v2*first+v1*second
 hS:S=u2*first+u1*second
 det:u1*v2-u2*v1=if odd then -1 else 1
 ord:0<=second/\second<=first
 st:(u0=0/\v0=0/\u1=1/\v1=0/\u2=0/\v2=1)\/
  (((u0=1/\v0=0/\u1=0/\v1=1/\0<=u2/\u2<=v2/\1<=u2)\/(0<=u0/\u0<=v0/\1<=v0/\1<=u1/\u1<=v1/\1<=u2/\u2<=v2))/\
   (u0*v1-u1*v0=if odd then 1 else -1)/\∃ f0,F=v1*f0+v0*first/\S=u1*f0+u0*first/\v0+v1<=f0-first/\v1<=first)
theorem LS.init{F S:Int}(h0:0<=S)(h:S<=F):LS F S F S 0 0 1 0 0 1 false:=
 ⟨by omega,by omega,by simp,⟨h0,h⟩,.inl ⟨rfl,rfl,rfl,rfl,rfl,rfl⟩⟩
theorem LS.v2pos{F S first second u0 v0 u1 v1 u2 v2:Int}{odd:Bool}(l:LS F S first second u0 v0 u1 v1 u2 v2 odd):1<=v2/\0<=v1/\0<=u1/\0<=u2/\0<=u0/\0<=v0:=by
 obtain ⟨hF,hS,det,ord,st⟩:=l
 rcases st with st|⟨st,_⟩<;>omega
theorem LS.step{F S first second u0 v0 u1 v1 u2 v2:Int}{odd:Bool}(l:LS F S first second u0 v0 u1 v1 u2 v2 odd)(h1:v2<=second)(h2:v1+v2<=first-second):
 LS F S second (first%second) u1 v1 u2 v2 (u1+first/second*u2) (v1+first/second*v2) (!odd):=by
 have hp:=l.v2pos
 obtain ⟨hF,hS,det,ord,st⟩:=l
 have hs:0<second:=by omega
 have hq:1<=first/second:=by
  rw [Int.le_ediv_iff_mul_le hs];omega
 have hdm:=B97 first second
 have hm0:=B9d first (show second≠0 by omega)
 have hm1:=B99 first hs
 have hu:u2<=first/second*u2:=by
  have:=B8t hq (show 0<=u2 by omega);omega
 have hv:v2<=first/second*v2:=by
  have:=B8t hq (show 0<=v2 by omega);omega
 have huv:first/second*u2<=first/second*v2:=B8v (by omega) (by omega)
 refine ⟨?_,?_,?_,⟨hm0,by omega⟩,.inr ⟨?_,?_,first,?_,?_,by omega,h1⟩⟩
 ·rw [hF]
  generalize hq':first/second=q at *
  generalize first%second=r at *
  subst hdm
  grind
 ·rw [hS]
  generalize hq':first/second=q at *
  generalize first%second=r at *
  subst hdm
  grind
 ·cases odd<;>simp at det ⊢ <;> grind
 ·rcases st with st|⟨st,_⟩
  ·left
   obtain ⟨rfl,rfl,rfl,rfl,rfl,rfl⟩:=st
   omega
  ·right;omega
 ·cases odd<;>simp at det ⊢ <;> omega
 ·rw [hF]
 ·rw [hS]
theorem LS.bound{F S first second u0 v0 u1 v1 u2 v2:Int}{odd:Bool}(l:LS F S first second u0 v0 u1 v1 u2 v2 odd)(hf:1<=first):v2<=F/\u2<=F/\u2<=v2:=by
 have hp:=l.v2pos
 obtain ⟨hF,hS,det,ord,st⟩:=l
 have h1:v2*1<=v2*first:=B8v hf (by omega)
 have h2:0<=v1*second:=B8x (by omega) (by omega)
 clear det hS
 rcases st with st|⟨st,_⟩<;>omega
theorem LS.bound2{F S first second u0 v0 u1 v1 u2 v2:Int}{odd:Bool}(l:LS F S first second u0 v0 u1 v1 u2 v2 odd)(hs:1<=second):v1+v2<=F:=by
 have hp:=l.v2pos
 obtain ⟨hF,hS,det,ord,st⟩:=l
 have h1:v2*1<=v2*first:=B8v (by omega) (by omega)
 have h2:v1*1<=v1*second:=B8v hs (by omega)
 clear st
 omega
structure Leh (a b u0 v0 u1 v1 X0 X1:Int):Prop where
 ord:0<=X1/\X1<X0
 ha:a=v1*X0+v0*X1
 hb:b=u1*X0+u0*X1
 le:X0<=b
def Hd(a b u0 v0:Int)(odd:Bool):Int:=if odd then u0*a-v0*b else v0*b-u0*a
def Hc(a b u1 v1:Int)(odd:Bool):Int:=if odd then v1*b-u1*a else u1*a-v1*b
theorem LS.leh{F S first second u0 v0 u1 v1 u2 v2 a b al bl W:Int}{odd:Bool}(l:LS F S first second u0 v0 u1 v1 u2 v2 odd)(hv0:v0≠0)(hW:0<W)(ha:a=F*W+al)(hb:b=S*W+bl)(hal:0<=al/\al<W)(hbl:0<=bl/\bl<W):
 Leh a b u0 v0 u1 v1 (Hd a b u0 v0 odd) (Hc a b u1 v1 odd):=by
 have hp:=l.v2pos
 obtain ⟨hF,hS,det,ord,st⟩:=l
 rcases st with st|⟨st,det0,f0,hF0,hS0,hd,hf1⟩
 ·omega
 have st2:0<=u0/\u0<=v0/\1<=v0/\1<=u1/\u1<=v1:=by omega
 have e1:u0*F-v0*S=(u0*v1-u1*v0)*f0:=by rw [hF0,hS0];grind
 have e2:u1*F-v1*S=(u1*v0-u0*v1)*first:=by rw [hF0,hS0];grind
 have p1:first*W>=v1*W:=B8t hf1 (by omega)
 have p2:(f0-first)*W>=(v0+v1)*W:=B8t hd (by omega)
 have q1:v1*bl<=v1*W:=B8v (by omega) (by omega)
 have q2:u1*al<=u1*W:=B8v (by omega) (by omega)
 have q3:u1*W<=v1*W:=B8t (by omega) (by omega)
 have q4:0<=u1*al:=B8x (by omega) (by omega)
 have q5:0<=v1*bl:=B8x (by omega) (by omega)
 have q6:(v0+v1)*(bl+1)<=(v0+v1)*W:=B8v (by omega) (by omega)
 have q7:(u0+u1)*(al+1)<=(u0+u1)*W:=B8v (by omega) (by omega)
 have q8:(u0+u1)*W<=(v0+v1)*W:=B8t (by omega) (by omega)
 have q9:0<=(u0+u1)*al:=B8x (by omega) (by omega)
 have q10:0<=(v0+v1)*bl:=B8x (by omega) (by omega)
 have fin:∀ X0 X1:Int,0<=X1->X1<X0->b=u1*X0+u0*X1->X0<=b:=by
  intro X0 X1 h0 h1 e
  have r1:1*X0<=u1*X0:=B8t (by omega) (by omega)
  have r2:0<=u0*X1:=B8x (by omega) h0
  omega
 cases odd with
 | true=>
  simp only [Hd,Hc,if_true] at det0 ⊢
  have x1:v1*b-u1*a=first*W+v1*bl-u1*al:=by
   rw [det0.symm.symm] at e1
   have:v1*S-u1*F=first:=by
    have:u1*v0-u0*v1= -1:=by omega
    rw [this] at e2;omega
   rw [ha,hb,<- this];grind
  have x01:u0*a-v0*b-(v1*b-u1*a)=(f0-first)*W+(u0+u1)*al-(v0+v1)*bl:=by
   have t1:u0*F-v0*S=f0:=by rw [det0] at e1;omega
   have t2:v1*S-u1*F=first:=by
    have:u1*v0-u0*v1= -1:=by omega
    rw [this] at e2;omega
   rw [ha,hb,<- t1,<- t2];grind
  have hX1:0<=v1*b-u1*a:=by omega
  have hX01:v1*b-u1*a<u0*a-v0*b:=by
   have:(v0+v1)*(bl+1)=(v0+v1)*bl+(v0+v1):=by grind
   omega
  have ea:a=v1*(u0*a-v0*b)+v0*(v1*b-u1*a):=by
   have:v1*(u0*a-v0*b)+v0*(v1*b-u1*a)=(u0*v1-u1*v0)*a:=by grind
   rw [this,det0];omega
  have eb:b=u1*(u0*a-v0*b)+u0*(v1*b-u1*a):=by
   have:u1*(u0*a-v0*b)+u0*(v1*b-u1*a)=(u0*v1-u1*v0)*b:=by grind
   rw [this,det0];omega
  exact ⟨⟨hX1,hX01⟩,ea,eb,fin _ _ hX1 hX01 eb⟩
 | false=>
  simp only [Hd,Hc,Bool.false_eq_true,if_false] at det0 ⊢
  have t1:v0*S-u0*F=f0:=by rw [det0] at e1;omega
  have t2:u1*F-v1*S=first:=by
   have:u1*v0-u0*v1=1:=by omega
   rw [this] at e2;omega
  have x1:u1*a-v1*b=first*W+u1*al-v1*bl:=by
   rw [ha,hb,<- t2];grind
  have x01:v0*b-u0*a-(u1*a-v1*b)=(f0-first)*W+(v0+v1)*bl-(u0+u1)*al:=by
   rw [ha,hb,<- t1,<- t2];grind
  have hX1:0<=u1*a-v1*b:=by omega
  have hX01:u1*a-v1*b<v0*b-u0*a:=by
   have:(u0+u1)*(al+1)=(u0+u1)*al+(u0+u1):=by grind
   omega
  have ea:a=v1*(v0*b-u0*a)+v0*(u1*a-v1*b):=by
   have:v1*(v0*b-u0*a)+v0*(u1*a-v1*b)=(u1*v0-u0*v1)*a:=by grind
   have d:u1*v0-u0*v1=1:=by omega
   rw [this,d];omega
  have eb:b=u1*(v0*b-u0*a)+u0*(u1*a-v1*b):=by
   have:u1*(v0*b-u0*a)+u0*(u1*a-v1*b)=(u1*v0-u0*v1)*b:=by grind
   have d:u1*v0-u0*v1=1:=by omega
   rw [this,d];omega
  exact ⟨⟨hX1,hX01⟩,ea,eb,fin _ _ hX1 hX01 eb⟩
theorem Leh.gcd{a b u0 v0 u1 v1:Int}{odd:Bool}(l:Leh a b u0 v0 u1 v1 (Hd a b u0 v0 odd) (Hc a b u1 v1 odd)):Int.gcd (Hd a b u0 v0 odd) (Hc a b u1 v1 odd)=Int.gcd a b:=by
 apply Nat.dvd_antisymm
 ·have ha:=l.ha
  have hb:=l.hb
  generalize Hd a b u0 v0 odd=p at *
  generalize Hc a b u1 v1 odd=q at *
  have dp:(Int.gcd p q:Int)∣p:=Int.gcd_dvd_left p q
  have dq:(Int.gcd p q:Int)∣q:=Int.gcd_dvd_right p q
  rw [<- Int.ofNat_dvd]
  apply Int.dvd_coe_gcd
  ·rw [ha];exact Int.dvd_add (B8w dp) (B8w dq)
  ·rw [hb];exact Int.dvd_add (B8w dp) (B8w dq)
 ·have da:(Int.gcd a b:Int)∣a:=Int.gcd_dvd_left a b
  have db:(Int.gcd a b:Int)∣b:=Int.gcd_dvd_right a b
  rw [<- Int.ofNat_dvd]
  apply Int.dvd_coe_gcd
  ·unfold Hd;split
   ·exact B9o (B8w da) (B8w db)
   ·exact B9o (B8w db) (B8w da)
  ·unfold Hc;split
   ·exact B9o (B8w db) (B8w da)
   ·exact B9o (B8w da) (B8w db)
theorem Cx(pre ws:List Int)(i:Nat):(pre++ws).getD (i+pre.length) 0=ws.getD i 0:=by
 simp [B95,List.getElem?_append_right (Nat.le_add_left pre.length i)]
theorem Gy(pre ws:List Int)(i:Nat)(v:Int):(pre++ws).set (i+pre.length) v=pre++ws.set i v:=by
 rw [List.set_append_right _ _ (by omega),Nat.add_sub_cancel]
theorem Bi{B:Int}(hB:0<B){ws:List Int}{n:Nat}(d:Dig B ws)(h:val B ws<B^n):val B (ws.drop n)=0:=by
 by_cases hn:n<=ws.length
 ·have h1:=F0 B ws hn
  have h2:=C4 hB (d.take n)
  have h3:=C4 hB (d.drop n)
  by_cases h0:val B (ws.drop n)=0
  ·exact h0
  ·have:B^n*1<=B^n*val B (ws.drop n):=B8v (by omega) (B92 (D4 hB n))
   omega
 ·rw [B9h (by omega)];rfl
section
variable {g:Heap} {bu bq:Nat} {pre qs:List Int} {VA:Option Addr} {vs:List Int}
theorem A7e{n N:Nat}{ws:List Int}{q:Int}{J:LP}(hu:g bu=none)(hq:g bq=none)(hne:bu≠bq)(sv:SlI .u32 g VA vs)(dv:Dig b32 vs)(hn:n=vs.length)(dw:Dig b32 ws)(hN:N=(pre++ws).length)(hl:n<ws.length)(hbig:N<=200000000)
 (hD:val b32 (ws.take n)+val b32 vs<2*b32^n) (hD0:b32^n<=val b32 (ws.take n)+val b32 vs) (htop:ws.getD n 0=4294967295)
 (hJ:∀ ws',ws'.length=ws.length->Dig b32 ws'->ws'.drop (n+1)=ws.drop (n+1)->ws'.getD n 0=0->val b32 (ws'.take n)=val b32 (ws.take n)+val b32 vs-b32^n->J [U (B7 (q-1))] (V3 .u32 C2 g bu (pre++ws') bq qs)):
 Lc prog VA n (some ⟨bu,0,none⟩) N (pre.length:Int) q J (V3 .u32 C2 g bu (pre++ws) bq qs):=by
 unfold Lc
 refine ⟨fun l h'=>∃ (k:Nat) (c:Int) (zs:List Int),l=[U c,I k]/\k<=n/\zs.length=ws.length/\Dig b32 zs/\(0<=c/\c<=1)/\h'=V3 .u32 C2 g bu (pre++zs) bq qs/\zs.drop k=ws.drop k/\val b32 (zs.take k)+c*b32^k=val b32 (ws.take k)+val b32 (vs.take k),fun l _=>n-(iAt l 1).toNat,⟨0,0,ws,rfl,by omega,rfl,dw,by omega,rfl,rfl,by simp [val]⟩,?_⟩
 rintro c i hp ⟨k,c',zs,hli,hk,hzl,hd,hc,rfl,hdr,hv⟩
 obtain ⟨rfl,rfl⟩:c=c'/\i=(k:Int):=by simpa using hli
 have hle:g.le (V3 .u32 C2 g bu (pre++zs) bq qs):=Kx hu hq hne
 have su:SlI .u32 (V3 .u32 C2 g bu (pre++zs) bq qs) (some ⟨bu,0,none⟩) (pre++zs):=Pq hne
 have hNz:N=(pre++zs).length:=by rw [hN,B91,B91,hzl]
 have hNl:N=pre.length+zs.length:=by rw [hNz,B91]
 have ejk:B3 ((k:Int)+pre.length)=((k+pre.length:Nat):Int):=by rw [B5 (by omega) (by omega)];omega
 have ejn:B3 ((pre.length:Int)+n)=((n+pre.length:Nat):Int):=by rw [B5 (by omega) (by omega)];omega
 refine B4 (fun h1=>?_) (fun h1=>?_)
 ·have gv:=Az dv k
  have gz:=Az hd k
  have hzz:=E4 hdr
  have vv:=C3 b32 vs k
  have vw:=C3 b32 ws k
  rw [ejk]
  refine su.load hNz (by omega) (by omega) ?_
  refine (sv.mono hle).load hn (by omega) (by omega) ?_
  simp only [B8u,Cx]
  have es:B7 (c+B7 (B7 (zs.getD k 0)+B7 (vs.getD k 0)))=c+zs.getD k 0+vs.getD k 0:=by
   rw [C0 (n:=zs.getD k 0) (by omega) (by omega),C0 (n:=vs.getD k 0) (by omega) (by omega),C0 (n:=zs.getD k 0+vs.getD k 0) (by omega) (by omega),C0 (by omega) (by omega)];omega
  rw [es]
  refine ⟨_,rfl,by omega,by omega,?_⟩
  refine L9 (us:=pre++zs) (i:=((k+pre.length:Nat):Int)) J7 hne (by rw [B8u];omega) ?_
  rw [B8u,Gy,X5,Tj,B5 (n:=(k:Int)+1) (by omega) (by omega)]
  refine ⟨⟨k+1,_,zs.set k ((c+zs.getD k 0+vs.getD k 0)%4294967296),rfl,by omega,by simpa using hzl,hd.set (Zz _),by omega,rfl,?_,?_⟩,by simp only [iAt,B8y,B98];omega⟩
  ·rw [D3 (by omega)];exact D5 hdr
  ·rw [C7 (by omega),E6,B8z,B90 (by omega),B96,Z8,vv,vw,<- hzz]
   grind
 ·have hkn:k=n:=by omega
  subst hkn
  have hzz:=E4 hdr
  rw [ejn]
  refine su.load hNz (by omega) (by omega) ?_
  rw [B8u,Cx,hzz,htop]
  refine ⟨_,rfl,by omega,by omega,?_⟩
  refine L9 (us:=pre++zs) (i:=((k+pre.length:Nat):Int)) J7 hne (by rw [B8u];omega) ?_
  rw [B8u,Gy]
  have hvs:vs.take k=vs:=by rw [hn,B93]
  rw [hvs] at hv
  have hlt:=K7 (by decide) (hd.take k)
  rw [B8z,B90 (by omega)] at hlt
  have h0:=C4 (by decide) (hd.take k)
  have hc1:c=1:=by
   by_cases hc0:c=0
   ·subst hc0;omega
   ·omega
  subst hc1
  have e0:F3 (4294967295+F3 1)=0:=by rw [L4 (n:=1) (by omega) (by omega),X5];omega
  rw [e0]
  refine hJ (zs.set k 0) (by simpa using hzl) (hd.set (by decide)) (by rw [D3 (by omega)];exact D5 hdr) (by simp [B95,show k<zs.length by omega]) ?_
  rw [B9l (by omega)]
  omega
theorem A3i{n N nq:Nat}{ws:List Int}{q X Y:Int}{J:LP}(hu:g bu=none)(hq:g bq=none)(hne:bu≠bq)(sv:SlI .u32 g VA vs)(dv:Dig b32 vs)(hn:n=vs.length)(dw:Dig b32 ws)(hN:N=(pre++ws).length)(hl:n<ws.length)(hbig:N<=200000000)
 (hnq:nq=qs.length) (hjq:pre.length<qs.length)
 (hX:X=val b32 (ws.take n)+b32^n*ws.getD n 0) (hY:Y=val b32 vs) (hq0:0<=q) (hq1:q<=4294967296) (hlt:X<(q+1)*Y) (hge:(q-1)*Y<=X) (hXB:X<Y*4294967296)
 (hJ:∀ ws' q',ws'.length=ws.length->Dig b32 ws'->ws'.drop (n+1)=ws.drop (n+1)->ws'.getD n 0=0->val b32 (ws'.take n)=X-q'*Y->0<=X-q'*Y->X-q'*Y<Y->0<=q'->q'<4294967296->J [] (V3 .u32 C2 g bu (pre++ws') bq (qs.set pre.length q'))):
 Ld prog VA n (some ⟨bu,0,none⟩) N (some ⟨bq,0,none⟩) nq (pre.length:Int) J q (V3 .u32 C2 g bu (pre++ws) bq qs):=by
 have hYlt:Y<b32^n:=by rw [hY,hn];exact K7 (by decide) dv
 have hX0:0<=X:=by
  have h1:=C4 (by decide) (dw.take n)
  have h2:=B8x (B92 (D4 (B:=b32) (by decide) n)) (Az dw n).1
  omega
 have hY0:0<Y:=by
  by_cases h0:0<Y
  ·exact h0
  ·have:Y=0:=by have:=C4 (by decide) dv;omega
   rw [this] at hXB;omega
 have fin:∀ ws' q',ws'.length=ws.length->Dig b32 ws'->ws'.drop (n+1)=ws.drop (n+1)->ws'.getD n 0=0->val b32 (ws'.take n)=X-q'*Y->0<=X-q'*Y->X-q'*Y<Y->0<=q'->Lh prog (some ⟨bq,0,none⟩) nq (pre.length:Int) J q' (V3 .u32 C2 g bu (pre++ws') bq qs):=by
  intro ws' q' h1 h2 h3 h4 h5 h6 h7 h8
  have hlt':q'<4294967296:=by
   by_cases hc:q'<4294967296
   ·exact hc
   ·have:=B8t (show 4294967296<=q' by omega) (B92 hY0)
    rw [B94 Y] at hXB;omega
  unfold Lh
  refine ⟨_,rfl,by omega,by omega,?_⟩
  refine Pr (i:=(pre.length:Int)) J7 (by rw [B8u];omega) ?_
  rw [B8u,L4 h8 (by omega)]
  exact hJ ws' q' h1 h2 h3 h4 h5 h6 h7 h8 hlt'
 unfold Ld
 refine ⟨fun l h'=>∃ (k:Nat) (c b:Int) (zs:List Int),l=[U c,U b,I k]/\k<=n/\zs.length=ws.length/\Dig b32 zs/\(0<=c/\c<4294967296)/\(0<=b/\b<=1)/\h'=V3 .u32 C2 g bu (pre++zs) bq qs/\zs.drop k=ws.drop k/\val b32 (zs.take k)=val b32 (ws.take k)-q*val b32 (vs.take k)+(c+b)*b32^k,fun l _=>n-(iAt l 2).toNat,⟨0,0,0,ws,rfl,by omega,rfl,dw,by omega,by omega,rfl,rfl,by simp [val]⟩,?_⟩
 rintro c b i hp ⟨k,c',b',zs,hli,hk,hzl,hd,hc,hb,rfl,hdr,hv⟩
 obtain ⟨rfl,rfl,rfl⟩:c=c'/\b=b'/\i=(k:Int):=by simpa using hli
 have hle:g.le (V3 .u32 C2 g bu (pre++zs) bq qs):=Kx hu hq hne
 have su:SlI .u32 (V3 .u32 C2 g bu (pre++zs) bq qs) (some ⟨bu,0,none⟩) (pre++zs):=Pq hne
 have hNz:N=(pre++zs).length:=by rw [hN,B91,B91,hzl]
 have hNl:N=pre.length+zs.length:=by rw [hNz,B91]
 have ejk:B3 ((k:Int)+pre.length)=((k+pre.length:Nat):Int):=by rw [B5 (by omega) (by omega)];omega
 have ejn:B3 ((pre.length:Int)+n)=((n+pre.length:Nat):Int):=by rw [B5 (by omega) (by omega)];omega
 refine B4 (fun h1=>?_) (fun h1=>?_)
 ·have gv:=Az dv k
  have gz:=Az hd k
  have hzz:=E4 hdr
  have vv:=C3 b32 vs k
  have vw:=C3 b32 ws k
  refine (sv.mono hle).load hn (by omega) (by omega) ?_
  rw [ejk]
  refine su.load hNz (by omega) (by omega) ?_
  simp only [B8u,Cx]
  have hm:0<=q*vs.getD k 0/\q*vs.getD k 0<=4294967296*4294967295:=⟨B8x hq0 gv.1,B9u hq1 (by omega) gv.1 (by decide)⟩
  have ep:B7 (B7 (q*B7 (vs.getD k 0))+c)=q*vs.getD k 0+c:=by
   rw [C0 (n:=vs.getD k 0) (by omega) (by omega),C0 (n:=q*vs.getD k 0) (by omega) (by omega),C0 (by omega) (by omega)]
  rw [ep,Z9 (by omega),Tj,Tj,C0 (n:=zs.getD k 0) (by omega) (by omega)]
  generalize hP:q*vs.getD k 0+c=p at *
  have hp2:0<=p/\p<18446744073709551616:=by omega
  have ed:B7 (B7 (zs.getD k 0-p%4294967296)-b)=(zs.getD k 0-p%4294967296-b)%18446744073709551616:=by
   rw [F4,F4];omega
  rw [ed,A3o (by omega)]
  refine ⟨_,rfl,by omega,by omega,?_⟩
  refine L9 (us:=pre++zs) (i:=((k+pre.length:Nat):Int)) J7 hne (by rw [B8u];omega) ?_
  rw [B8u,Gy,X5,B5 (n:=(k:Int)+1) (by omega) (by omega)]
  refine ⟨⟨k+1,_,_,zs.set k ((zs.getD k 0-p%4294967296-b)%18446744073709551616%4294967296),rfl,by omega,by simpa using hzl,hd.set (Zz _),by omega,by omega,rfl,?_,?_⟩,by simp only [iAt,B8y,B98];omega⟩
  ·rw [D3 (by omega)];exact D5 hdr
  ·rw [C7 (by omega),E6,B8z,B90 (by omega),B96,vv,vw,<- hzz,hv]
   have key:(zs.getD k 0-p%4294967296-b)%18446744073709551616%4294967296=zs.getD k 0-p-b+4294967296*(p/4294967296+(zs.getD k 0-p%4294967296-b)%18446744073709551616/4294967296%2):=by omega
   rw [key,<- hP]
   grind
 ·have hkn:k=n:=by omega
  subst hkn
  have hzz:=E4 hdr
  have gz:=Az hd k
  have hvs:vs.take k=vs:=by rw [hn,B93]
  rw [hvs,<- hY] at hv
  have hl2:=K7 (by decide) (hd.take k)
  rw [B8z,B90 (by omega)] at hl2
  have hl0:=C4 (by decide) (hd.take k)
  rw [ejn]
  refine su.load hNz (by omega) (by omega) ?_
  rw [B8u,Cx]
  have hD:X-q*Y=val b32 (zs.take k)+(zs.getD k 0-c-b)*b32^k:=by
   rw [hv,hX,hzz];grind
  have hDlt:X-q*Y<Y:=by
   have:(q+1)*Y=q*Y+Y:=by grind
   omega
  have hDge: -Y<=X-q*Y:=by
   have:(q-1)*Y=q*Y-Y:=by grind
   omega
  have hP:0<b32^k:=D4 (by decide) k
  have hdel:zs.getD k 0-c-b=0\/zs.getD k 0-c-b= -1:=by
   have h2:zs.getD k 0-c-b<1:=by
    by_cases hc:zs.getD k 0-c-b<1
    ·exact hc
    ·have:=B8t (show 1<=zs.getD k 0-c-b by omega) (B92 hP);omega
   have h3: -2<zs.getD k 0-c-b:=by
    by_cases hc: -2<zs.getD k 0-c-b
    ·exact hc
    ·have:=B8t (show zs.getD k 0-c-b <= -2 by omega) (B92 hP);omega
   omega
  have ed:B7 (B7 (B7 (zs.getD k 0)-c)-b)=(zs.getD k 0-c-b)%18446744073709551616:=by
   rw [C0 (n:=zs.getD k 0) (by omega) (by omega),F4,F4];omega
  rw [ed]
  have e63:∀ x:Int,Int.fdiv x (2^(min ((63:Int)).toNat 64))=x/9223372036854775808:=by
   intro x;rw [show (2:Int)^(min ((63:Int)).toNat 64)=9223372036854775808 by decide];exact B9r x (by decide)
  refine ⟨_,rfl,by omega,by omega,?_⟩
  refine L9 (us:=pre++zs) (i:=((k+pre.length:Nat):Int)) J7 hne (by rw [B8u];omega) ?_
  rw [B8u,Gy,X5,e63]
  have hgs:∀ v,(zs.set k v).getD k 0=v:=by intro v;simp [B95,show k<zs.length by omega]
  refine ⟨fun l h'=>∃ ws' q',l=[U q']/\h'=V3 .u32 C2 g bu (pre++ws') bq qs/\ws'.length=ws.length/\Dig b32 ws'/\ws'.drop (k+1)=ws.drop (k+1)/\ws'.getD k 0=0/\val b32 (ws'.take k)=X-q'*Y/\0<=X-q'*Y/\X-q'*Y<Y/\0<=q',?_,?_⟩
  ·rcases hdel with hdel|hdel
   ·rw [hdel] at hD ⊢
    refine D8 (fun e=>absurd e (by decide)) (fun _=>?_)
    refine ⟨zs.set k (0%18446744073709551616%4294967296),q,rfl,rfl,by simpa using hzl,hd.set (by decide),by rw [D3 (by omega)];exact D5 hdr,hgs _,?_,by omega,hDlt,hq0⟩
    rw [B9l (by omega)];omega
   ·rw [hdel] at hD ⊢
    refine D8 (fun _=>?_) (fun e=>absurd (by decide) e)
    have hqpos:1<=q:=by
     by_cases hc:1<=q
     ·exact hc
     ·have:q=0:=by omega
      subst this;omega
    have ht:(zs.set k (-1%18446744073709551616%4294967296)).take k=zs.take k:=B9l (by omega)
    have e1:(q-1)*Y=q*Y-Y:=by grind
    refine A7e (ws:=zs.set k (-1%18446744073709551616%4294967296)) hu hq hne sv dv hn (hd.set (by decide)) (by rw [hNz];simp) (by simpa using (show k<zs.length by omega)) hbig ?_ ?_ (hgs _) ?_
    ·rw [ht,<- hY];omega
    ·rw [ht,<- hY];omega
    ·intro ws' g1 g2 g3 g4 g5
     rw [ht,<- hY] at g5
     rw [C0 (n:=q-1) (by omega) (by omega)]
     refine ⟨ws',q-1,rfl,rfl,by rw [g1];simpa using hzl,g2,?_,g4,by omega,by omega,by omega,by omega⟩
     rw [g3,D3 (by omega)];exact D5 hdr
  ·rintro q2 hp21 ⟨ws',q',hl1,rfl,g1,g2,g3,g4,g5,g6,g7,g8⟩
   obtain rfl:q2=q':=by simpa using hl1
   exact fin ws' q2 g1 g2 g3 g4 g5 g6 g7 g8
end
theorem Vu(B:Int)(xs:List Int)(i:Nat):val B (xs.drop i)=xs.getD i 0+B*val B (xs.drop (i+1)):=by
 by_cases hi:i<xs.length
 ·exact Hx B hi
 ·rw [B9h (by omega),B9h (by omega)]
  simp [val,B95,B9k (Nat.le_of_not_lt hi)]
theorem Ia{s:Nat}(hs:s<=32):(2:Int)^s*2^(32-s)=4294967296:=by
 rw [<- Int.pow_add,show s+(32-s)=32 by omega];decide
section
variable {h g:Heap} {K:VP} {A B:Option Addr} {ac bc:Nat} {bu bq:Nat} {VA:Option Addr} {vs us0:List Int}
theorem A5a{s nq cq rn cr:Nat}{rs tl qs:List Int}{Q R:Int}(hu:g bu=none)(hq:g bq=none)(hne:bu≠bq)(hs:s<32)(hrn:rn=rs.length)(hcr:rn<=cr)(hnq:nq=qs.length)(hcq:nq<=cq)(dq:Dig b32 qs)(dr:Dig b32 rs)(hb1:nq<=200000000)(hb2:rn<=200000000)(hQ:val b32 qs=Q)(hR:val b32 rs=R*2^s)
 (hK:∀ A1 m1 c1 A2 m2 c2 h',g.le h'->m1<=c1->m2<=c2->Mg h' A1 m1 Q->Mg h' A2 m2 R->K (.tuple #[.slice A1 m1 c1,.slice A2 m2 c2]) h'):
 Gk prog K (s:Int) (some ⟨bq,0,none⟩) nq cq (some ⟨bu,0,none⟩) rn cr (V3 .u32 C2 g bu (rs++tl) bq qs):=by
 have hp:0<(2:Int)^s:=B9c (by decide)
 have hps:=Ia (Nat.le_of_lt hs)
 have hpt:0<(2:Int)^(32-s):=B9c (by decide)
 unfold Gk
 refine ⟨fun l h'=>∃ (k:Nat) (zs:List Int),l=[I k]/\k<=rn/\zs.length=rs.length/\Dig b32 zs/\h'=V3 .u32 C2 g bu (zs++tl) bq qs/\zs.drop k=rs.drop k/\2^s*val b32 (zs.take k)+rs.getD 0 0%2^s=val b32 (rs.take k)+b32^k*(rs.getD k 0%2^s),fun l _=>rn-(iAt l 0).toNat,⟨0,rs,rfl,by omega,rfl,dr,rfl,rfl,by simp [val]⟩,?_⟩
 rintro i hp1 ⟨k,zs,hli,hk,hzl,hd,rfl,hdr,hv⟩
 obtain rfl:=sI1 hli
 have su:∀ zs:List Int,SlI .u32 (V3 .u32 C2 g bu (zs++tl) bq qs) (some ⟨bu,0,none⟩) zs:=by
  intro zs
  have:=(Pq (g:=g) (k:=.u32) (e:=C2) (us:=zs++tl) (qs:=qs) hne).cut (c:=(zs++tl).length) (l:=0) (m:=zs.length) (by omega) (by simp) (B9g _)
  simpa [F8] using this
 have ek1:B3 ((k:Int)+1)=((k+1:Nat):Int):=by rw [B5 (by omega) (by omega)];omega
 have gz:=Az hd k
 have hzz:=E4 hdr
 refine B4 (fun h1=>?_) (fun h1=>?_)
 ·refine (su zs).load (by omega) (by omega) (by omega) ?_
  refine B4 (fun e=>absurd e (by omega)) (fun _=>?_)
  refine ⟨_,rfl,by omega,by omega,?_⟩
  simp only [B8u]
  rw [B90 (by omega),B9r _ (B92 hp)]
  refine L9 (us:=zs++tl) (i:=(k:Int)) J7 hne (by rw [B8u,B91];omega) ?_
  rw [B8u,List.set_append_left _ _ (by omega),ek1]
  have hq0:0<=zs.getD k 0/2^s:=B9e gz.1 (by omega)
  have hq1:zs.getD k 0/2^s<2^(32-s):=by
   apply B9b hp
   rw [B94,hps];exact gz.2
  have hpt2:(2:Int)^(32-s)<=4294967296:=by
   rw [<- hps]
   have:=B8t (show 1<=(2:Int)^s by omega) (B92 hpt);omega
  have d1:Dig b32 (zs.set k (zs.getD k 0/2^s)):=hd.set ⟨hq0,by show _<(4294967296:Int);omega⟩
  have l1:(zs.set k (zs.getD k 0/2^s)).length=rs.length:=by rw [B9j];exact hzl
  have g1:(zs.set k (zs.getD k 0/2^s)).getD k 0=zs.getD k 0/2^s:=by simp [B95,show k<zs.length by omega]
  have g2:(zs.set k (zs.getD k 0/2^s)).getD (k+1) 0=rs.getD (k+1) 0:=by
   rw [Zi (by omega)];exact E4 (D5 hdr)
  have vr:=C3 b32 rs k
  have fin:∀ z:Int,(0<=z/\z<4294967296)->2^s*z=zs.getD k 0-zs.getD k 0%2^s+4294967296*(rs.getD (k+1) 0%2^s)->
   2^s*val b32 ((zs.set k z).take (k+1))+rs.getD 0 0%2^s=val b32 (rs.take (k+1))+b32^(k+1)*(rs.getD (k+1) 0%2^s):=by
   intro z hz ez
   rw [C7 (by omega),E6,B8z,B90 (by omega),vr,B96,<- hzz]
   rw [<- hzz] at hv
   have e1:2^s*(val b32 (zs.take k)+b32^k*z)=2^s*val b32 (zs.take k)+b32^k*(2^s*z):=by grind
   rw [e1,ez]
   grind
  have hdm:=B97 (zs.getD k 0) (2^s)
  refine B4 (fun h2=>?_) (fun h2=>?_)
  ·refine (su _).load (by omega) (by omega) (by omega) ?_
   refine (su _).load (by omega) (by omega) (by omega) ?_
   simp only [B8u,g1,g2]
   have es:B7 ((32:Int)-s)=((32-s:Nat):Int):=by rw [C0 (by omega) (by omega)];omega
   rw [es]
   refine B4 (fun e=>absurd e (by omega)) (fun _=>?_)
   refine ⟨_,rfl,by omega,by omega,?_⟩
   have gr:=Az dr (k+1)
   have hx0:0<=rs.getD (k+1) 0*2^(32-s):=B8x gr.1 (by omega)
   have hx1:rs.getD (k+1) 0*2^(32-s)<18446744073709551616:=by
    have:=B9u (show rs.getD (k+1) 0<=4294967295 by omega) hpt2 (by omega) (by decide)
    omega
   rw [B8u,B90 (show 32-s<=64 by omega),C0 (n:=rs.getD (k+1) 0) (by omega) (by omega),C0 hx0 hx1,X5]
   obtain ⟨o1,o2⟩:=A1t (s:=32-s) (by omega) gr ⟨hq0,hq1⟩
   rw [o1]
   refine L9 (us:=zs.set k (zs.getD k 0/2^s)++tl) (i:=(k:Int)) J7 hne (by rw [B8u,B91];omega) ?_
   rw [B8u,List.set_append_left _ _ (by omega),List.set_set]
   have hm0:=Zz (rs.getD (k+1) 0*2^(32-s))
   refine ⟨⟨k+1,zs.set k (zs.getD k 0/2^s+rs.getD (k+1) 0*2^(32-s)%4294967296),rfl,by omega,by simpa using hzl,hd.set ⟨by omega,o2⟩,rfl,by rw [D3 (by omega)];exact D5 hdr,fin _ ⟨by omega,o2⟩ ?_⟩,by simp only [iAt,B8y];omega⟩
   have em:rs.getD (k+1) 0*2^(32-s)%4294967296=2^(32-s)*(rs.getD (k+1) 0%2^s):=by
    rw [<- hps,B94 (2^s),B94 (rs.getD (k+1) 0),Int.mul_emod_mul_of_pos _ _ hpt]
   rw [em,Int.mul_add,<- Int.mul_assoc,hps]
   omega
  ·have hlast:k+1=rs.length:=by omega
   have e0:rs.getD (k+1) 0=0:=by simp [B95,B9k (show rs.length<=k+1 by omega)]
   refine ⟨⟨k+1,zs.set k (zs.getD k 0/2^s),rfl,by omega,l1,d1,rfl,by rw [D3 (by omega)];exact D5 hdr,fin _ ⟨hq0,by omega⟩ ?_⟩,by simp only [iAt,B8y];omega⟩
   rw [e0,Int.zero_emod,B9m,Int.add_zero];omega
 ·have hkr:k=rs.length:=by omega
  subst hkr
  have e0:rs.getD rs.length 0=0:=by simp [B95]
  rw [B93,<- hzl,B93,hzl,e0] at hv
  have hvz:val b32 zs=R:=by
   have h0:=B9d (rs.getD 0 0) (show (2:Int)^s≠0 by omega)
   have h1:=B99 (rs.getD 0 0) hp
   rw [hR] at hv
   simp at hv
   have:2^s*(R-val b32 zs)=rs.getD 0 0%2^s:=by
    have:2^s*(R-val b32 zs)=R*2^s-2^s*val b32 zs:=by grind
    simp only [B95] at *
    omega
   have hz:R-val b32 zs=0:=by
    by_cases hc:R-val b32 zs<=0
    ·by_cases hc2:R-val b32 zs=0
     ·exact hc2
     ·have:=B8v (show R-val b32 zs <= -1 by omega) (B92 hp);omega
    ·have:=B8v (show 1<=R-val b32 zs by omega) (B92 hp);omega
   omega
  rw [hnq]
  refine X8 B21 dq (by omega) (by omega) ?_
  intro m1 hm1 hM1
  refine ⟨_,_,_,rfl,?_⟩
  rw [hrn,<- hzl]
  refine X8 (su zs) hd (by omega) (by omega) ?_
  intro m2 hm2 hM2
  rw [hQ] at hM1
  rw [hvz] at hM2
  exact ⟨_,_,_,rfl,hK _ _ _ _ _ _ _ (Kx hu hq hne) (by omega) (by omega) hM1 hM2⟩
theorem A3r{s mm N nq:Nat}{us0:List Int}{a b Y:Int}(hu:g bu=none)(hq:g bq=none)(hne:bu≠bq)(sv:SlI .u32 g VA vs)(dv:Dig b32 vs)(hn:vs.length=mm+2)(hv1:4294967296<=2*vs.getD (mm+1) 0)(hs:s<32)(hY:val b32 vs=Y)(hYb:Y=b*2^s)(du:Dig b32 us0)(hN:us0.length=N)(hua:val b32 us0=a*2^s)(hnq:N=nq+(mm+2))(hnq1:1<=nq)(hbig:N<=200000000)(htop:val b32 (us0.drop nq)<Y)
 (hK:∀ A1 m1 c1 A2 m2 c2 h',g.le h'->m1<=c1->m2<=c2->Mg h' A1 m1 (a/b)->Mg h' A2 m2 (a%b)->K (.tuple #[.slice A1 m1 c1,.slice A2 m2 c2]) h'):
 Lg prog K (s:Int) VA (mm+2) (some ⟨bu,0,none⟩) N N (some ⟨bq,0,none⟩) nq nq (V3 .u32 C2 g bu us0 bq (B9s nq 0)):=by
 have hp:0<(2:Int)^s:=B9c (by decide)
 have hYlt:Y<b32^(mm+2):=by rw [<- hY,<- hn];exact K7 (by decide) dv
 have hY0:0<Y:=by have:=C4 (by decide) (du.drop nq);omega
 have e0:B3 (B3 ((N:Int)-((mm+2:Nat):Int))-1)=(nq:Int)-1:=by rw [B5 (n:=(N:Int)-((mm+2:Nat):Int)) (by omega) (by omega),B5 (by omega) (by omega)];omega
 unfold Lg
 refine ⟨fun l h'=>∃ (k:Nat) (us qs:List Int),l=[I ((k:Int)-1)]/\k<=nq/\us.length=N/\qs.length=nq/\Dig b32 us/\Dig b32 qs/\h'=V3 .u32 C2 g bu us bq qs/\val b32 (us.drop k)<Y/\val b32 us0=val b32 (qs.drop k)*Y*b32^k+val b32 us,fun l _=>(iAt l 0+1).toNat,⟨nq,us0,_,by rw [e0],by omega,hN,by simp,du,H0 (by decide) _,rfl,htop,by simp [val]⟩,?_⟩
 rintro j hp11 ⟨k,us,qs,hli,hk,hul,hql,hdu,hdq,rfl,hlt,hv⟩
 obtain rfl:j=(k:Int)-1:=by simpa using hli
 have hle:g.le (V3 .u32 C2 g bu us bq qs):=Kx hu hq hne
 have su:SlI .u32 (V3 .u32 C2 g bu us bq qs) (some ⟨bu,0,none⟩) us:=Pq hne
 unfold Sr
 refine B4 (fun h1=>?_) (fun h1=>?_)
 ·obtain ⟨j,rfl⟩:∃ j,k=j+1:=⟨k-1,by omega⟩
  have ej:((j+1:Nat):Int)-1=(j:Int):=by omega
  rw [ej]
  have e1:B3 ((j:Int)+((mm+2:Nat):Int))=((j+(mm+2):Nat):Int):=by rw [B5 (by omega) (by omega)];omega
  have e2:B3 (((j+(mm+2):Nat):Int)-1)=((j+(mm+1):Nat):Int):=by rw [B5 (by omega) (by omega)];omega
  have e3:B3 (((mm+2:Nat):Int)-1)=((mm+1:Nat):Int):=by rw [B5 (by omega) (by omega)];omega
  rw [e1,e2,e3]
  have dws:=hdu.drop j
  have hwl:(us.drop j).length=N-j:=by rw [List.length_drop,hul]
  have hgd:∀ i,(us.drop j).getD i 0=us.getD (j+i) 0:=fun i=>Wx
  have hzero:val b32 ((us.drop j).drop (mm+3))=0:=by
   have:=Bi (B:=b32) (by decide) (n:=mm+2) (hdu.drop (j+1)) (by omega)
   rw [B9f] at this ⊢
   rw [show j+(mm+3)=j+1+(mm+2) by omega];exact this
  have hX1:=Vu b32 us j
  have hXB:val b32 (us.drop j)<Y*4294967296:=by
   have:=Az hdu j
   rw [hX1]
   have:b32*(val b32 (us.drop (j+1))+1)<=b32*Y:=B8v (by omega) (by decide)
   have e:b32*(val b32 (us.drop (j+1))+1)=b32*val b32 (us.drop (j+1))+4294967296:=by show (4294967296:Int)*_=_;grind
   have e':Y*4294967296=b32*Y:=B94 _ _
   omega
  have hsp:=F0 b32 (us.drop j) (i:=mm+3) (by omega)
  rw [hzero,B9m,Int.add_zero] at hsp
  have hts:=F7 b32 (us.drop j) (mm+2)
  have hX:val b32 (us.drop j)=val b32 ((us.drop j).take (mm+2))+b32^(mm+2)*(us.drop j).getD (mm+2) 0:=by rw [hsp];exact hts
  have es:=B1u (B:=b32) (by decide) (us:=(us.drop j).take (mm+3)) (m:=mm) (dws.take _) dv (by rw [B8z,hwl];omega) hn hv1 (by rw [<- hsp,hY];exact hXB)
  have gt:∀ i,i<mm+3->((us.drop j).take (mm+3)).getD i 0=us.getD (j+i) 0:=by
   intro i hi
   rw [<- hgd];simp [B95,hi]
  rw [gt (mm+2) (by omega),gt (mm+1) (by omega),gt mm (by omega),<- hsp,hY] at es
  refine ⟨fun l h'=>∃ us' q',l=[]/\h'=V3 .u32 C2 g bu us' bq (qs.set j q')/\us'.length=N/\Dig b32 us'/\(0<=q'/\q'<4294967296)/\val b32 (us'.drop j)<Y/\val b32 (us'.drop j)=val b32 (us.drop j)-q'*Y/\us'.take j=us.take j,?_,?_⟩
  ·refine su.load hul.symm (by omega) (by omega) ?_
   refine su.load hul.symm (by omega) (by omega) ?_
   refine (sv.mono hle).load hn.symm (by omega) (by omega) ?_
   simp only [B8u]
   have hv1':=Az dv (mm+1)
   have ew:B7 (vs.getD (mm+1) 0)=vs.getD (mm+1) 0:=C0 (by omega) (by omega)
   refine B4 (fun e=>absurd (ew.symm.trans e) (by omega)) (fun _=>?_)
   refine (sv.mono hle).load hn.symm (by omega) (by omega) ?_
   simp only [B8u]
   refine B4 (fun e=>absurd (ew.symm.trans e) (by omega)) (fun _=>?_)
   refine ⟨fun l h'=>∃ q,l=[U q]/\h'=V3 .u32 C2 g bu us bq qs/\0<=q/\q<=4294967296/\val b32 (us.drop j)<(q+1)*Y/\(q-1)*Y<=val b32 (us.drop j),?_,?_⟩
   ·have:=B09 (us:=us) (vs:=vs) (n:=mm+2) (j:=j) (J:=fun l h'=>∃ q,l=[U q]/\h'=V3 .u32 C2 g bu us bq qs/\0<=q/\q<=4294967296/\val b32 (us.drop j)<(q+1)*Y/\(q-1)*Y<=val b32 (us.drop j)) es (sv.mono hle) su hn.symm (by omega) (by omega) (by omega) rfl rfl (by rw [show j+(mm+2)-2=j+mm by omega]) (Az hdu (j+(mm+2))) (Az hdu (j+(mm+1))) rfl (fun q q0 q1 q2 q3=>⟨q,rfl,rfl,q0,q1,q2,q3⟩)
    rw [hul] at this
    exact this
   ·rintro q hp14 ⟨q',hl1,rfl,hq0,hq1,hqlt,hqge⟩
    obtain rfl:q=q':=by simpa using hl1
    unfold Sp
    have hpre:(us.take j).length=j:=by rw [B8z,hul];omega
    have:=A3i (g:=g) (bu:=bu) (bq:=bq) (pre:=us.take j) (qs:=qs) (VA:=VA) (vs:=vs) (n:=mm+2) (N:=N) (nq:=nq) (ws:=us.drop j) (q:=q) (X:=val b32 (us.drop j)) (Y:=Y)
     (J:=fun l h'=>∃ us' q',l=[]/\h'=V3 .u32 C2 g bu us' bq (qs.set j q')/\us'.length=N/\Dig b32 us'/\(0<=q'/\q'<4294967296)/\val b32 (us'.drop j)<Y/\val b32 (us'.drop j)=val b32 (us.drop j)-q'*Y/\us'.take j=us.take j)
     hu hq hne sv dv hn.symm dws (by rw [B9i,hul]) (by omega) hbig hql.symm (by omega) hX hY.symm hq0 hq1 hqlt hqge hXB ?_
    ·rw [B9i,hpre] at this
     exact this
    ·intro ws' q' w1 w2 w3 w4 w5 w6 w7 w8 w9
     refine ⟨us.take j++ws',q',rfl,by rw [hpre],by rw [B91,w1,hwl,hpre];omega,Dig.append (hdu.take j) w2,⟨w8,w9⟩,?_,?_,?_⟩
     all_goals first|(rw [List.drop_left' hpre])|(rw [List.take_left' hpre])
     all_goals
      have z1:=F0 b32 ws' (i:=mm+3) (by omega)
      rw [w3,hzero,F7,w4,w5] at z1
      simp at z1
      omega
  ·rintro hp23 ⟨us',q',_,rfl,u1,u2,u3,u4,u5,u6⟩
   unfold Sq
   have ej1:B3 ((j:Int)-1)=(j:Int)-1:=B5 (by omega) (by omega)
   rw [ej1]
   refine ⟨⟨j,us',qs.set j q',rfl,by omega,u1,by simpa using hql,u2,hdq.set u3,rfl,u4,?_⟩,by simp only [iAt,B8y];omega⟩
   have hs1:=F0 b32 us' (i:=j) (by omega)
   have hs2:=F0 b32 us (i:=j) (by omega)
   rw [hv,R8 (by omega),hs1,hs2,u5,u6,B96]
   simp only [val]
   grind
 ·have hk0:k=0:=by omega
  subst hk0
  simp at hlt hv
  have hb0:0<b:=by
   by_cases hc:0<b
   ·exact hc
   ·have:=B8t (show b<=0 by omega) (B92 hp);omega
  have hus0:=C4 (by decide) hdu
  have hR:val b32 us=(a-val b32 qs*b)*2^s:=by
   rw [hua,hYb] at hv
   grind
  have hr0:0<=a-val b32 qs*b:=by
   by_cases hc:0<=a-val b32 qs*b
   ·exact hc
   ·have:=B8t (show a-val b32 qs*b <= -1 by omega) (B92 hp);omega
  have hr1:a-val b32 qs*b<b:=by
   by_cases hc:a-val b32 qs*b<b
   ·exact hc
   ·have:=B8t (show b<=a-val b32 qs*b by omega) (B92 hp);omega
  have hdiv:a/b=val b32 qs:=by
   have:a=(a-val b32 qs*b)+val b32 qs*b:=by omega
   rw [this,Int.add_mul_ediv_right _ _ (by omega),Int.ediv_eq_zero_of_lt hr0 hr1,Int.zero_add]
  have hmod:a%b=a-val b32 qs*b:=by
   have:=Int.emod_def a b
   rw [this,hdiv,B94]
  rw [hdiv,hmod] at hK
  have hz:=Bi (B:=b32) (by decide) (n:=mm+2) hdu (by omega)
  have hspl:=F0 b32 us (i:=mm+2) (by omega)
  rw [hz,B9m,Int.add_zero] at hspl
  refine ⟨⟨by omega,by omega⟩,?_⟩
  rw [F8,B8u,Nat.sub_zero,Nat.sub_zero]
  have hlt2:(us.take (mm+2)).length=mm+2:=by rw [B8z,hul];omega
  have st:SlI .u32 (V3 .u32 C2 g bu us bq qs) (some ⟨bu,0,none⟩) (us.take (mm+2)):=by
   have:=su.cut (c:=N) (l:=0) (m:=mm+2) (by omega) (by omega) (by omega)
   simpa [F8] using this
  have tr:=Vw (K:=fun r7 hp24=>∃ (t259A:Option Addr) (t259n:Nat) (t259c:Nat),r7= .slice t259A t259n t259c/\Gk prog K (s:Int) (some ⟨bq,0,none⟩) nq nq t259A t259n t259c hp24) (ac:=N) st (by omega) (by omega) ?_
  ·rw [hlt2] at tr;exact tr
  ·intro m hm hnm hvm
   rw [hlt2] at hm
   rw [List.take_take,B90 hm] at hvm
   refine ⟨_,_,_,rfl,?_⟩
   have eus:us=us.take m++us.drop m:=(B9i m us).symm
   rw [eus]
   refine A5a (rs:=us.take m) (tl:=us.drop m) (qs:=qs) hu hq hne hs (by rw [B8z,hul];omega) (by omega) hql.symm (B9g _) hdq (hdu.take m) (by omega) (by omega) rfl ?_ hK
   rw [hvm,<- hspl,hR]
end
end Go.Proofs.YtajkakhfcokljaaGreatDoor
