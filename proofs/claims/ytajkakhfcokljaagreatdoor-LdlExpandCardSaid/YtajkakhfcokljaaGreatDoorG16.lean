/-
  Texts of this proof, merged by a program of ours.
-/
import Derived.Test.YtajkakhfcokljaaGreatDoorG14
import Derived.Test.YtajkakhfcokljaaGreatDoorG15
import Derived.Test.YtajkakhfcokljaaGreatDoorG12
open Go.Proofs.Tryz
set_option linter.all false
open Int renaming mul_le_mul_of_nonneg_right->C34,toNat_natCast->C35,mul_le_mul_of_nonneg_left->C36,dvd_mul_of_dvd_right->C37,mul_nonneg->C38,le_of_lt->C3d,mul_comm->C3g,pow_succ->C3i,mul_ediv_add_emod->C3k,emod_lt_of_pos->C3l,ediv_lt_of_lt_mul->C3n,pow_pos->C3p,emod_nonneg->C3q,ediv_nonneg->C3r,mul_zero->C3x,mul_pos->C3y,dvd_sub->C3z,tmod_eq_emod_of_nonneg->C40,tdiv_eq_ediv_of_nonneg->C41,fdiv_eq_ediv_of_nonneg->C42,mul_le_mul->C45
open List renaming getElem?_cons_zero->C39,length_take->C3a,length_append->C3c,take_length->C3e,take_of_length_le->C3f,getD->C3h,getElem?_cons_succ->C3j,getElem?_eq_none->C3m,drop_drop->C3s,drop_of_length_le->C3t,take_append_drop->C3u,length_set->C3v,take_set_of_le->C3w,replicate->C43,drop_eq_getElem_cons->C44
open Nat renaming min_eq_left->C3b,le_refl->C3o
namespace Go.Proofs.YtajkakhfcokljaaGreatDoor
set_option maxRecDepth 20000
open Go
section
variable {h g:Heap} {K:VP} {A B:Option Addr} {ac bc:Nat}
theorem Qr{x y:Int}{an bn:Nat}(ma:Mg h A an x)(mb:Mg h B bn y)(hxy:y<=x)(hl:an<=100000000)(hK:∀ A' m c' h',h.le h'->m<=c'->Mg h' A' m (x-y)->K (.slice A' m c') h'):FCall prog Ku #[.slice A an ac,.slice B bn bc] h K:=by
 have hbn:bn<=an:=by
  have h1:=ma.lt (by decide)
  exact mb.len_le (by decide) (Int.lt_of_le_of_lt hxy h1)
 obtain ⟨xs,rfl,sx,dx,nx,rfl⟩:=ma
 obtain ⟨ys,rfl,sy,dy,ny,rfl⟩:=mb
 refine A6o _ _ _ _ _ _ ?_
 unfold B0s
 refine J3 Mo (by omega) (by omega) (by omega) ?_
 intro b hb
 rw [C35]
 refine ⟨_,_,_,rfl,?_⟩
 refine ⟨fun l h'=>∃ (k:Nat) (c:Int) (zs:List Int),l=[U c,I k]/\k<=xs.length/\zs.length=xs.length/\Dig b32 zs/\(0<=c/\c<=1)/\h'=blk .u32 C4 h b zs/\val b32 (zs.take k)=val b32 (xs.take k)-val b32 (ys.take k)+c*b32^k,fun l _=>xs.length-(iAt l 1).toNat,⟨0,0,_,rfl,by omega,by simp,H0 (by decide) _,by omega,rfl,by simp [val]⟩,?_⟩
 rintro c i hp ⟨k,c',zs,hli,hk,hzl,hd,hc,rfl,hv⟩
 obtain ⟨rfl,rfl⟩:c=c'/\i=(k:Int):=by simpa using hli
 have hle:=T0 (k:=.u32) (e:=C4) hb zs
 refine B6 (fun h1=>?_) (fun h1=>?_)
 ·have gx:=Au dx k
  have gy:=Au dy k
  have vx:=C5 b32 xs k
  have vy:=C5 b32 ys k
  refine (sx.mono hle).load rfl (by omega) (by omega) ?_
  rw [C35]
  refine ⟨fun l h'=>l=[U (C0 (xs.getD k 0-c-ys.getD k 0))]/\h'=blk .u32 C4 h b zs,B6 (fun h2=>?_) (fun h2=>?_),?_⟩
  ·refine (sy.mono hle).load rfl (by omega) (by omega) ?_
   rw [C35]
   refine ⟨?_,rfl⟩
   rw [C2 (n:=xs.getD k 0) (by omega) (by omega),C2 (n:=ys.getD k 0) (by omega) (by omega),E8,E8,E8]
   have em:((xs.getD k 0-c)%18446744073709551616-ys.getD k 0)%18446744073709551616=(xs.getD k 0-c-ys.getD k 0)%18446744073709551616:=by omega
   rw [em]
  ·refine ⟨?_,rfl⟩
   have e0:ys.getD k 0=0:=by simp [C3h,C3m (show ys.length<=k by omega)]
   rw [e0,C2 (n:=xs.getD k 0) (by omega) (by omega),Int.sub_zero]
  ·rintro d hp3 ⟨hl1,rfl⟩
   obtain rfl:d=C0 (xs.getD k 0-c-ys.getD k 0):=by simpa using hl1
   refine ⟨_,rfl,by omega,by omega,?_⟩
   refine P8 (k:=.u32) (zs:=zs) (i:=(k:Int)) J6 (by rw [C35];omega) ?_
   rw [C35,V1,Ts,E8,B7 (n:=(k:Int)+1) (by omega) (by omega),Vl (by omega)]
   refine ⟨⟨k+1,_,zs.set k ((xs.getD k 0-c-ys.getD k 0)%18446744073709551616%4294967296),rfl,by omega,by simpa using hzl,hd.set (A0d _),by omega,rfl,?_⟩,by simp only [iAt,C39,C3j];omega⟩
   rw [C9 (by omega),E9,C3a,C3b (by omega),C3i,vx,vy,hv]
   have key:(xs.getD k 0-c-ys.getD k 0)%18446744073709551616%4294967296=xs.getD k 0-c-ys.getD k 0+4294967296*((xs.getD k 0-c-ys.getD k 0)%18446744073709551616/4294967296%2):=by omega
   rw [key]
   grind
 ·have hkk:k=xs.length:=by omega
  subst hkk
  rw [C3e,C3f (show ys.length<=xs.length by omega),C3f (show zs.length<=xs.length by omega)] at hv
  have hc0:c=0:=by
   have h1:=K6 (by decide) hd
   rw [hzl] at h1
   by_cases h0:c=0
   ·exact h0
   ·have:c=1:=by omega
    subst this
    omega
  subst hc0
  rw [<- hzl]
  refine V4 (Bv _ _ _ _ _) hd (C3o _) (by omega) ?_
  intro m hm hM
  have e:val b32 zs=val b32 xs-val b32 ys:=by omega
  rw [e] at hM
  exact ⟨_,_,_,rfl,hK _ _ _ _ (T0 hb _) hm hM⟩
theorem A9f{xs:List Int}{i:Nat}(hi:i<xs.length):xs.drop i=xs.getD i 0::xs.drop (i+1):=by
 rw [C44 hi];simp [C3h,hi]
theorem Jq(B:Int){xs:List Int}{i:Nat}(hi:i<xs.length):val B (xs.drop i)=xs.getD i 0+B*val B (xs.drop (i+1)):=by
 rw [A9f hi];rfl
theorem S9{xs:List Int}{i:Nat}{v:Int}(hi:i<xs.length):(xs.set i v).drop i=v::xs.drop (i+1):=by
 rw [C44 (by simpa using hi)]
 simp [List.drop_set_of_lt]
theorem Jy{x d:Int}{an:Nat}(ma:Mg h A an x)(hd0:0<d/\d<4294967296)(hl:an<=100000000)(hK:∀ A' m c' h',h.le h'->m<=c'->m<=an->Mg h' A' m (x/d)->K (.tuple #[.slice A' m c',U32 (x%d)]) h'):FCall prog Ed #[.slice A an ac,U32 d] h K:=by
 obtain ⟨xs,rfl,sx,dx,nx,rfl⟩:=ma
 refine A1g _ _ _ _ ?_
 unfold A1h
 refine J3 Mo (by omega) (by omega) (by omega) ?_
 intro b hb
 rw [C35]
 refine ⟨_,_,_,rfl,?_⟩
 refine ⟨fun l h'=>∃ (k:Nat) (r:Int) (zs:List Int),l=[U r,I ((k:Int)-1)]/\k<=xs.length/\zs.length=xs.length/\Dig b32 zs/\(0<=r/\r<d)/\h'=blk .u32 C4 h b zs/\val b32 (xs.drop k)=val b32 (zs.drop k)*d+r,fun l _=>(iAt l 1+1).toNat,⟨xs.length,0,_,by rw [B7 (by omega) (by omega)],by omega,by simp,H0 (by decide) _,by omega,rfl,by simp [val]⟩,?_⟩
 rintro r i hp ⟨k,r',zs,hli,hk,hzl,hd,hr,rfl,hv⟩
 obtain ⟨rfl,rfl⟩:r=r'/\i=(k:Int)-1:=by simpa using hli
 have hle:=T0 (k:=.u32) (e:=C4) hb zs
 refine B6 (fun h1=>?_) (fun h1=>?_)
 ·obtain ⟨j,rfl⟩:∃ j,k=j+1:=⟨k-1,by omega⟩
  have e:((j+1:Nat):Int)-1=(j:Int):=by omega
  rw [e]
  have gx:=Au dx j
  refine (sx.mono hle).load rfl (by omega) (by omega) ?_
  rw [C35]
  have e1:C0 d=d:=C2 (by omega) (by omega)
  have e2:bor .u64 (C0 (r*2^(min ((32:Int)).toNat 64))) (C0 (xs.getD j 0))=r*4294967296+xs.getD j 0:=by
   rw [show (2:Int)^(min ((32:Int)).toNat 64)=4294967296 by decide,C2 (n:=xs.getD j 0) (by omega) (by omega),C2 (n:=r*4294967296) (by omega) (by omega)]
   exact Yi (by omega) gx
  rw [e1,e2]
  have hT:0<=r*4294967296+xs.getD j 0:=by omega
  have et:Int.tdiv (r*4294967296+xs.getD j 0) d=(r*4294967296+xs.getD j 0)/d:=C41 hT
  have em:Int.tmod (r*4294967296+xs.getD j 0) d=(r*4294967296+xs.getD j 0)%d:=C40 hT
  rw [et,em]
  have hq:0<=(r*4294967296+xs.getD j 0)/d/\(r*4294967296+xs.getD j 0)/d<4294967296:=by
   constructor
   ·exact C3r hT (by omega)
   ·apply C3n (by omega)
    have:(r+1)*4294967296<=d*4294967296:=C34 (by omega) (by decide)
    omega
  refine B6 (fun e=>absurd e (by omega)) (fun _=>?_)
  refine ⟨_,rfl,by omega,by omega,?_⟩
  refine P8 (k:=.u32) (zs:=zs) (i:=(j:Int)) J6 (by rw [C35];omega) ?_
  rw [C35,C2 (by omega) (by omega),N5 (by omega) (by omega),B7 (by omega) (by omega)]
  refine B6 (fun e=>absurd e (by omega)) (fun _=>?_)
  refine ⟨⟨j,_,zs.set j ((r*4294967296+xs.getD j 0)/d),rfl,by omega,by simpa using hzl,hd.set hq,⟨C3q _ (by omega),C3l _ (by omega)⟩,rfl,?_⟩,by simp only [iAt,C39,C3j];omega⟩
  rw [S9 (by omega),Jq b32 (by omega),hv]
  have:=C3k (r*4294967296+xs.getD j 0) d
  simp only [val]
  grind
 ·have hk0:k=0:=by omega
  subst hk0
  rw [List.drop_zero,List.drop_zero] at hv
  rw [<- hzl]
  refine V4 (Bv _ _ _ _ _) hd (C3o _) (by omega) ?_
  intro m hm hM
  have hq:val b32 xs/d=val b32 zs:=by
   rw [hv,Int.add_comm,Int.add_mul_ediv_right _ _ (by omega),Int.ediv_eq_zero_of_lt hr.1 hr.2,Int.zero_add]
  have hrm:val b32 xs%d=r:=by
   rw [hv,Int.add_comm,Int.add_mul_emod_self_right,Int.emod_eq_of_lt hr.1 hr.2]
  rw [<- hq] at hM
  rw [N5 (by omega) (by omega),<- hrm]
  exact ⟨_,_,_,rfl,hK _ _ _ _ (T0 hb _) hm (by omega) hM⟩
end
theorem B8m{a b:Int}(ha:0<=a/\a<4294967296)(hb:0<=b/\b<4294967296):0<=a*b/\a*b<=18446744065119617025:=by
 refine ⟨C38 ha.1 hb.1,?_⟩
 have:=C45 (show a<=4294967295 by omega) (show b<=4294967295 by omega) hb.1 (by decide)
 omega
theorem E5{xs ys:List Int}{i:Nat}(h:xs.drop i=ys.drop i):xs.getD i 0=ys.getD i 0:=by
 have h1:(xs.drop i)[0]? = (ys.drop i)[0]? :=by rw [h]
 simp at h1
 simp [C3h,h1]
theorem D7{xs ys:List Int}{i:Nat}(h:xs.drop i=ys.drop i):xs.drop (i+1)=ys.drop (i+1):=by
 rw [<- C3s,<- C3s,h]
theorem D5{xs:List Int}{i j:Nat}{v:Int}(h:i<j):(xs.set i v).drop j=xs.drop j:=List.drop_set_of_lt h
section
variable {h g:Heap} {K:VP} {A B:Option Addr} {ac bc:Nat}
theorem Rb{x y:Int}{an bn:Nat}(ma:Mg h A an x)(mb:Mg h B bn y)(hl:an<=100000000)(hl2:bn<=100000000)(hK:∀ A' m c' h',h.le h'->m<=c'->Mg h' A' m (x*y)->K (.slice A' m c') h'):FCall prog Kw #[.slice A an ac,.slice B bn bc] h K:=by
 have hx0:=ma.len_zero (by decide)
 have hy0:=mb.len_zero (by decide)
 obtain ⟨xs,rfl,sx,dx,nx,rfl⟩:=ma
 obtain ⟨ys,rfl,sy,dy,ny,rfl⟩:=mb
 refine A6q _ _ _ _ _ _ ?_
 unfold B0w
 refine D9 (fun h0=>?_) (fun hx=>D9 (fun h0=>?_) (fun hy=>?_))
 ·have:=hK none 0 0 h (B4 h) (C3o _) (by rw [hx0.2 (by omega),Int.zero_mul];exact Mag.zero)
  exact this
 ·have:=hK none 0 0 h (B4 h) (C3o _) (by rw [hy0.2 (by omega),C3x];exact Mag.zero)
  exact this
 have e1:B5 ((xs.length:Int)+ys.length)=((xs.length+ys.length:Nat):Int):=by rw [B7 (by omega) (by omega)];omega
 rw [e1]
 refine J3 Mo (by omega) (by omega) (by omega) ?_
 intro b hb
 rw [C35]
 refine ⟨_,_,_,rfl,?_⟩
 refine ⟨fun l h'=>∃ (k:Nat) (zs:List Int),l=[I k]/\k<=xs.length/\zs.length=xs.length+ys.length/\Dig b32 zs/\h'=blk .u32 C4 h b zs/\zs.drop (k+ys.length)=C43 (xs.length-k) 0/\val b32 (zs.take (k+ys.length))=val b32 (xs.take k)*val b32 ys,fun l _=>xs.length-(iAt l 0).toNat,⟨0,_,rfl,by omega,by simp,H0 (by decide) _,rfl,by simp,?_⟩,?_⟩
 ·rw [List.take_replicate,Be];simp [val]
 rintro i hp ⟨k,zs0,hli,hk,hzl0,hd0,rfl,hdr0,hv0⟩
 obtain rfl:=sI1 hli
 refine B6 (fun h1=>?_) (fun h1=>?_)
 ·have gx:=Au dx k
  have vx:=C5 b32 xs k
  refine ⟨fun l h'=>∃ (m:Nat) (c:Int) (zs:List Int),l=[U c,I m]/\m<=ys.length/\zs.length=xs.length+ys.length/\Dig b32 zs/\(0<=c/\c<4294967296)/\h'=blk .u32 C4 h b zs/\zs.drop (k+m)=zs0.drop (k+m)/\val b32 (zs.take (k+m))+c*b32^(k+m)=val b32 (zs0.take (k+m))+b32^k*(xs.getD k 0*val b32 (ys.take m)),fun l _=>ys.length-(iAt l 1).toNat,⟨0,0,zs0,rfl,by omega,hzl0,hd0,by omega,rfl,rfl,by simp [val]⟩,?_⟩
  rintro c j hp2 ⟨m,c',zs,hlj,hm,hzl,hd,hc,rfl,hdr,hv⟩
  obtain ⟨rfl,rfl⟩:c=c'/\j=(m:Int):=by simpa using hlj
  have hle:=T0 (k:=.u32) (e:=C4) hb zs
  refine B6 (fun h2=>?_) (fun h2=>?_)
  ·have gy:=Au dy m
   have vy:=C5 b32 ys m
   have gz:=Au hd (k+m)
   have hzz:=E5 hdr
   have vz:=C5 b32 zs0 (k+m)
   have ekm:B5 ((k:Int)+m)=((k+m:Nat):Int):=by rw [B7 (by omega) (by omega)];omega
   rw [ekm]
   refine (sx.mono hle).load rfl (by omega) (by omega) ?_
   refine (sy.mono hle).load rfl (by omega) (by omega) ?_
   refine (Bv .u32 C4 h b zs).load hzl.symm (by omega) (by omega) ?_
   simp only [C35]
   have hp:=B8m gx gy
   have ec:C0 (c+C0 (C0 (C0 (xs.getD k 0)*C0 (ys.getD m 0))+C0 (zs.getD (k+m) 0)))=c+(xs.getD k 0*ys.getD m 0+zs.getD (k+m) 0):=by
    rw [C2 (n:=xs.getD k 0) (by omega) (by omega),C2 (n:=ys.getD m 0) (by omega) (by omega),C2 (n:=zs.getD (k+m) 0) (by omega) (by omega),C2 (n:=xs.getD k 0*ys.getD m 0) (by omega) (by omega),C2 (n:=xs.getD k 0*ys.getD m 0+zs.getD (k+m) 0) (by omega) (by omega),C2 (by omega) (by omega)]
   rw [ec]
   refine ⟨_,rfl,by omega,by omega,?_⟩
   refine P8 (k:=.u32) (zs:=zs) (i:=((k+m:Nat):Int)) J6 (by rw [C35];omega) ?_
   rw [C35,V1,Ts,B7 (n:=(m:Int)+1) (by omega) (by omega)]
   refine ⟨⟨m+1,_,zs.set (k+m) ((c+(xs.getD k 0*ys.getD m 0+zs.getD (k+m) 0))%4294967296),rfl,by omega,by simpa using hzl,hd.set (A0d _),by omega,rfl,?_,?_⟩,by simp only [iAt,C39,C3j];omega⟩
   ·rw [D5 (by omega)];exact D7 hdr
   ·rw [<- Nat.add_assoc,C9 (by omega),E9,C3a,C3b (by omega),C3i,Az,vy,vz,<- hzz]
    have:b32^(k+m)=b32^k*b32^m:=Int.pow_add _ _ _
    grind
  ·have hmm:m=ys.length:=by omega
   subst hmm
   have ekm:B5 ((k:Int)+ys.length)=((k+ys.length:Nat):Int):=by rw [B7 (by omega) (by omega)];omega
   rw [ekm]
   refine ⟨_,rfl,by omega,by omega,?_⟩
   refine P8 (k:=.u32) (zs:=zs) (i:=((k+ys.length:Nat):Int)) J6 (by rw [C35];omega) ?_
   rw [C35,N5 (by omega) (by omega),B7 (n:=(k:Int)+1) (by omega) (by omega)]
   have ea:k+1+ys.length=k+ys.length+1:=by omega
   refine ⟨⟨k+1,zs.set (k+ys.length) c,rfl,by omega,by simpa using hzl,hd.set hc,rfl,?_,?_⟩,by simp only [iAt,C39];omega⟩
   ·rw [ea,D5 (by omega),D7 hdr,<- C3s,hdr0,List.drop_replicate]
    congr 1
   ·rw [ea,C9 (by omega),E9,C3a,C3b (by omega)]
    rw [C3e] at hv
    rw [vx]
    grind
 ·have hkk:k=xs.length:=by omega
  subst hkk
  rw [C3e,C3f (show zs0.length<=xs.length+ys.length by omega)] at hv0
  rw [<- hzl0]
  refine V4 (Bv _ _ _ _ _) hd0 (C3o _) (by omega) ?_
  intro m hm hM
  rw [hv0] at hM
  exact ⟨_,_,_,rfl,hK _ _ _ _ (T0 hb _) hm hM⟩
theorem A4d{x z:Int}{s:Nat}(hs:s<=32)(_hx:0<=x/\x<4294967296)(hz:0<=z/\z<(2:Int)^s):
 bor .u32 z (x*2^s%4294967296)=z+x*2^s%4294967296/\z+x*2^s%4294967296<4294967296:=by
 have hp:(2:Int)^s*2^(32-s)=4294967296:=by
  rw [<- Int.pow_add,show s+(32-s)=32 by omega];decide
 have hps:0<(2:Int)^s:=C3p (by decide)
 have hpt:0<(2:Int)^(32-s):=C3p (by decide)
 have hz32:z<4294967296:=by
  have:(2:Int)^s*1<=2^s*2^(32-s):=C36 (by omega) (by omega)
  omega
 have em:x*2^s%4294967296=2^s*(x%2^(32-s)):=by
  rw [<- hp,C3g x,Int.mul_emod_mul_of_pos _ _ hps]
 have hm:=A0d (x*2^s)
 have hor:bor .u32 z (x*2^s%4294967296)=z+x*2^s%4294967296:=by
  rw [B9a ⟨hz.1,hz32⟩ hm]
  have ha0:0<=x%2^(32-s):=C3q _ (by omega)
  have e1:(x*2^s%4294967296).toNat=2^s*(x%2^(32-s)).toNat:=by
   rw [em,Int.toNat_mul (by omega) ha0]
   rw [Int.toNat_pow_of_nonneg (by decide)];rfl
  have hzn:z.toNat<2^s:=by
   have:((2^s:Nat):Int)=(2:Int)^s:=by simp
   omega
  rw [e1,Nat.or_comm,A4e hzn,<- e1]
  omega
 refine ⟨hor,?_⟩
 rw [<- hor,B9a ⟨hz.1,hz32⟩ hm]
 have:z.toNat ||| (x*2^s%4294967296).toNat<2^32:=Nat.or_lt_two_pow (by omega) (by have:=hm.2;show _<_;omega)
 omega
theorem If{xs:List Int}{s:Nat}(sx:SlI .u32 h A xs)(dx:Dig b32 xs)(hs:s<32)(hl:xs.length<=100000000)(hK:∀ b zs,h b=none->zs.length=xs.length+1->Dig b32 zs->val b32 zs=val b32 xs*2^s->K (.slice (some ⟨b,0,none⟩) (xs.length+1) (xs.length+1)) (blk .u32 C4 h b zs)):FCall prog Bu #[.slice A xs.length ac,U s] h K:=by
 refine Yw _ _ _ _ ?_
 unfold Vv
 have e1:B5 ((xs.length:Int)+1)=((xs.length+1:Nat):Int):=by rw [B7 (by omega) (by omega)];omega
 rw [e1]
 refine J3 Mo (by omega) (by omega) (by omega) ?_
 intro b hb
 rw [C35]
 refine ⟨_,_,_,rfl,?_⟩
 have hps:0<(2:Int)^s:=C3p (by decide)
 have hps2:(2:Int)^s<=2147483648:=by
  have:=D0 (B:=2) (by decide) (show s<=31 by omega)
  have e:(2:Int)^31=2147483648:=by decide
  omega
 refine ⟨fun l h'=>∃ (k:Nat) (zs:List Int),l=[I k]/\k<=xs.length/\zs.length=xs.length+1/\Dig b32 zs/\h'=blk .u32 C4 h b zs/\zs.drop (k+1)=C43 (xs.length-k) 0/\zs.getD k 0<2^s/\val b32 (zs.take (k+1))=val b32 (xs.take k)*2^s,fun l _=>xs.length-(iAt l 0).toNat,⟨0,_,rfl,by omega,by simp,H0 (by decide) _,rfl,by simp,by simpa using hps,by simp [val]⟩,?_⟩
 rintro i hp ⟨k,zs,hli,hk,hzl,hd,rfl,hdr,hg,hv⟩
 obtain rfl:=sI1 hli
 have hle:=T0 (k:=.u32) (e:=C4) hb zs
 refine B6 (fun h1=>?_) (fun h1=>?_)
 ·have gx:=Au dx k
  have gz:=Au hd k
  have vx:=C5 b32 xs k
  have vz:=C5 b32 zs k
  refine (sx.mono hle).load rfl (by omega) (by omega) ?_
  refine B6 (fun e=>absurd e (by omega)) (fun _=>?_)
  refine (Bv .u32 C4 h b zs).load hzl.symm (by omega) (by omega) ?_
  simp only [C35]
  obtain ⟨o1,o2⟩:=A4d (Nat.le_of_lt hs) gx ⟨gz.1,hg⟩
  have hv0:0<=xs.getD k 0*2^s:=C38 gx.1 (by omega)
  have hv1:xs.getD k 0*2^s<4294967296*2^s:=Int.mul_lt_mul_of_pos_right gx.2 hps
  have ev:C0 (C0 (xs.getD k 0)*2^(min s 64))=xs.getD k 0*2^s:=by
   rw [C2 (n:=xs.getD k 0) (by omega) (by omega),C3b (by omega),C2 (by omega) (by omega)]
  rw [ev]
  refine ⟨_,rfl,by omega,by omega,?_⟩
  refine P8 (k:=.u32) (zs:=zs) (i:=(k:Int)) J6 (by rw [C35];omega) ?_
  rw [C35,V1 (xs.getD k 0*2^s),o1,Ts]
  have ek:B5 ((k:Int)+1)=((k+1:Nat):Int):=by rw [B7 (by omega) (by omega)];omega
  rw [ek]
  have hq:0<=xs.getD k 0*2^s/4294967296/\xs.getD k 0*2^s/4294967296<2^s:=⟨C3r hv0 (by decide),C3n (by decide) (by rw [C3g (2^s)];exact hv1)⟩
  refine ⟨_,rfl,by omega,by omega,?_⟩
  refine P8 (k:=.u32) (zs:=zs.set k (zs.getD k 0+xs.getD k 0*2^s%4294967296)) (i:=((k+1:Nat):Int)) J6 (by rw [C35,C3v];omega) ?_
  rw [C35,N5 (by omega) (by omega)]
  have hm0:=A0d (xs.getD k 0*2^s)
  refine ⟨⟨k+1,(zs.set k (zs.getD k 0+xs.getD k 0*2^s%4294967296)).set (k+1) (xs.getD k 0*2^s/4294967296),rfl,by omega,by simpa using hzl,(hd.set ⟨by omega,o2⟩).set ⟨hq.1,by show _<(4294967296:Int);omega⟩,rfl,?_,?_,?_⟩,by simp only [iAt,C39];omega⟩
  ·rw [D5 (by omega),D5 (by omega),<- C3s,hdr,List.drop_replicate]
   congr 1
  ·have:((zs.set k (zs.getD k 0+xs.getD k 0*2^s%4294967296)).set (k+1) (xs.getD k 0*2^s/4294967296)).getD (k+1) 0=xs.getD k 0*2^s/4294967296:=by
    rw [C3h,List.getElem?_set_self (by rw [C3v];omega)];rfl
   rw [this];exact hq.2
  ·rw [C9 (by rw [C3v];omega),E9,C9 (by omega),E9]
   simp only [C3a,C3c,List.length_singleton]
   rw [C3b (show k<=zs.length by omega),C3i,vx]
   have:=Int.emod_add_mul_ediv (xs.getD k 0*2^s) 4294967296
   rw [vz] at hv
   grind
 ·have hkk:k=xs.length:=by omega
  subst hkk
  rw [C3e,C3f (by omega)] at hv
  exact hK b zs hb hzl hd hv
end
structure Est (B P top u2 ul v1 v2 vl U V:Int):Prop where
 hB:1<B
 hP:0<P
 hU:U=(top*B+u2)*P+ul
 hV:V=(v1*B+v2)*P+vl
 u2r:0<=u2/\u2<B
 ulr:0<=ul/\ul<P
 v2r:0<=v2/\v2<B
 vlr:0<=vl/\vl<P
 top0:0<=top
 v1r:B<=2*v1/\v1<B
 lt:U<V*B
section
variable {B P top u2 ul v1 v2 vl U V:Int}
theorem Est.U0(e:Est B P top u2 ul v1 v2 vl U V):0<=U:=by
 obtain ⟨hB,hP,hU,hV,u2r,ulr,v2r,vlr,top0,v1r,lt⟩:=e
 have h1:0<=top*B:=C38 top0 (by omega)
 have:0<=(top*B+u2)*P:=C38 (by omega) (by omega)
 omega
theorem Est.V0(e:Est B P top u2 ul v1 v2 vl U V):0<V:=by
 obtain ⟨hB,hP,hU,hV,u2r,ulr,v2r,vlr,top0,v1r,lt⟩:=e
 have h1:0<v1*B:=C3y (by omega) (by omega)
 have:0<(v1*B+v2)*P:=C3y (by omega) hP
 omega
theorem Est.V2(e:Est B P top u2 ul v1 v2 vl U V):B<=v1*B+v2:=by
 obtain ⟨hB,hP,hU,hV,u2r,ulr,v2r,vlr,top0,v1r,lt⟩:=e
 have:1*B<=v1*B:=C34 (by omega) (by omega)
 omega
theorem Est.low(e:Est B P top u2 ul v1 v2 vl U V){q:Int}(h0:0<=q)(h:top*B+u2<q*(v1*B+v2)):U<q*V:=by
 obtain ⟨hB,hP,hU,hV,u2r,ulr,v2r,vlr,top0,v1r,lt⟩:=e
 have h1:(top*B+u2+1)*P<=q*(v1*B+v2)*P:=C34 (by omega) (by omega)
 have h2:0<=q*vl:=C38 h0 vlr.1
 have h3:q*V=q*(v1*B+v2)*P+q*vl:=by rw [hV];grind
 have h4:(top*B+u2+1)*P=(top*B+u2)*P+P:=by grind
 omega
theorem Est.big(e:Est B P top u2 ul v1 v2 vl U V){q:Int}(h:B<=q):U<q*V:=by
 have:=C34 h (C3d e.V0)
 have:=e.lt
 rw [C3g V] at this
 omega
theorem Est.init(e:Est B P top u2 ul v1 v2 vl U V):U<(top/v1+1)*V:=by
 obtain ⟨hB,hP,hU,hV,u2r,ulr,v2r,vlr,top0,v1r,lt⟩:=e
 have hq:0<=top/v1:=C3r top0 (by omega)
 have h1:top+1<=(top/v1+1)*v1:=by
  have:=C3k top v1
  have:=C3l top (show 0<v1 by omega)
  grind
 have hBP:0<B*P:=C3y (by omega) hP
 have h2:(top+1)*(B*P)<=(top/v1+1)*v1*(B*P):=C34 h1 (by omega)
 have h3:0<=(top/v1+1)*(v2*P+vl):=C38 (by omega) (by have:=C38 v2r.1 (C3d hP);omega)
 have h4:(top/v1+1)*V=(top/v1+1)*v1*(B*P)+(top/v1+1)*(v2*P+vl):=by rw [hV];grind
 have h5:(top+1)*(B*P)=top*B*P+B*P:=by grind
 have h6:(u2+1)*P<=B*P:=C34 (by omega) (by omega)
 have h7:U=top*B*P+u2*P+ul:=by rw [hU];grind
 have h8:(u2+1)*P=u2*P+P:=by grind
 omega
theorem Est.up(e:Est B P top u2 ul v1 v2 vl U V){q:Int}(hq:q<=B)(h:q*(v1*B+v2)<=top*B+u2):(q-1)*V<=U:=by
 have hV2:=e.V2
 have hV0:=e.V0
 have hU0:=e.U0
 obtain ⟨hB,hP,hU,hV,u2r,ulr,v2r,vlr,top0,v1r,lt⟩:=e
 by_cases h1:q<=0
 ·have:(q-1)*V<=0:=Int.mul_nonpos_of_nonpos_of_nonneg (by omega) (by omega)
  omega
 ·have h2:(q-1)*vl<=(q-1)*P:=C36 (by omega) (by omega)
  have h3:(q*(v1*B+v2))*P<=(top*B+u2)*P:=C34 h (by omega)
  have h4:(q-1)*V=(q*(v1*B+v2))*P-(v1*B+v2)*P+(q-1)*vl:=by rw [hV];grind
  have h5:(q-1)*P<=(v1*B+v2)*P:=C34 (by omega) (by omega)
  omega
theorem Est.first(e:Est B P top u2 ul v1 v2 vl U V):top<(v1+1)*B/\top/v1<=B+1:=by
 obtain ⟨hB,hP,hU,hV,u2r,ulr,v2r,vlr,top0,v1r,lt⟩:=e
 have hBP:0<B*P:=C3y (by omega) hP
 have h1:top*(B*P)<=U:=by
  have:0<=u2*P:=C38 u2r.1 (by omega)
  have:U=top*(B*P)+u2*P+ul:=by rw [hU];grind
  omega
 have h2:V<(v1+1)*(B*P):=by
  have h3:(v2+1)*P<=B*P:=C34 (by omega) (by omega)
  have:V=v1*(B*P)+v2*P+vl:=by rw [hV];grind
  have:(v1+1)*(B*P)=v1*(B*P)+B*P:=by grind
  have:(v2+1)*P=v2*P+P:=by grind
  omega
 have h3:V*B<=(v1+1)*(B*P)*B:=C34 (by omega) (by omega)
 have h4:top*(B*P)<(v1+1)*B*(B*P):=by
  have:(v1+1)*(B*P)*B=(v1+1)*B*(B*P):=by grind
  omega
 have h5:top<(v1+1)*B:=Int.lt_of_mul_lt_mul_right h4 (by omega)
 refine ⟨h5,?_⟩
 have:top/v1<B+2:=by
  apply C3n (by omega)
  have:(v1+1)*B=v1*B+B:=by grind
  have:v1*(B+2)=v1*B+2*v1:=by grind
  have:(B+2)*v1=v1*B+2*v1:=by grind
  omega
 omega
end
def Y4(k:IntKind)(e:TypeId)(g:Heap)(bu:Nat)(us:List Int)(bq:Nat)(qs:List Int):Heap:=blk k e (blk k e g bu us) bq qs
section
variable {k:IntKind} {e:TypeId} {g:Heap} {bu bq:Nat} {us qs:List Int}
theorem Nq(hu:g bu=none)(hq:g bq=none)(hne:bu≠bq):g.le (Y4 k e g bu us bq qs):=
 B0 (T0 hu us) (T0 (by unfold blk;rw [B8 _ _ hne.symm];exact hq) qs)
theorem Gq(hne:bu≠bq):Y4 k e g bu us bq qs=blk k e (blk k e g bq qs) bu us:=by
 unfold Y4 blk;exact Heap.put_comm g _ _ hne
theorem Sk(hne:bu≠bq):SlI k (Y4 k e g bu us bq qs) (some ⟨bu,0,none⟩) us:=by
 rw [Gq hne];exact Bv k e _ bu us
theorem B4w:SlI k (Y4 k e g bu us bq qs) (some ⟨bq,0,none⟩) qs:=Bv k e _ bq qs
theorem N9{P:Program}{t:TypeId}(one:P.cellsOf t=1/\(P.info? t).isSome=true)(hne:bu≠bq){n i:Int}(hi:i.toNat<us.length){K:Unit->Heap->Prop}
 (x:K () (Y4 k e g bu (us.set i.toNat n) bq qs)):wpH P (Instr.storeAt t (.pointer (some (Addr.add ⟨bu,0,none⟩ (i.toNat*1)))) (.int k n)) K (Y4 k e g bu us bq qs):=by
 rw [Gq hne]
 rw [Gq hne] at x
 exact P8 one hi x
theorem Sl{P:Program}{t:TypeId}(one:P.cellsOf t=1/\(P.info? t).isSome=true){n i:Int}(hi:i.toNat<qs.length){K:Unit->Heap->Prop}
 (x:K () (Y4 k e g bu us bq (qs.set i.toNat n))):wpH P (Instr.storeAt t (.pointer (some (Addr.add ⟨bq,0,none⟩ (i.toNat*1)))) (.int k n)) K (Y4 k e g bu us bq qs):=
 P8 one hi x
end
theorem A0k{xs:List Int}{j i:Nat}:(xs.drop j).getD i 0=xs.getD (j+i) 0:=by simp [C3h]
section
variable {g:Heap} {bu bq:Nat} {us qs:List Int} {VA:Option Addr} {vs:List Int}
theorem B2x{n j:Nat}{J:LP}{hp:Heap}{UA:Option Addr}{top u2 ul v1 v2 vl X Y P:Int}{t87 t96:Int}(es:Est 4294967296 P top u2 ul v1 v2 vl X Y)(sv:SlI .u32 hp VA vs)(su:SlI .u32 hp UA us)(hn:n=vs.length)(hn2:2<=n)(hul:j+n<us.length)(hbig:us.length<=200000000)
 (hv1:vs.getD (n-1) 0=v1) (hv2:vs.getD (n-2) 0=v2) (hu2:us.getD (j+n-2) 0=u2) (h87:0<=t87/\t87<4294967296) (h96:0<=t96/\t96<4294967296) (htop:top=t87*4294967296+t96)
 (hJ:∀ q,0<=q->q<=4294967296->X<(q+1)*Y->(q-1)*Y<=X->J [U q] hp):Nz prog VA n UA us.length j t87 t96 v1 v1 J hp:=by
 obtain ⟨f1,f2⟩:=es.first
 have hin:=es.init
 have hv0:=es.V0
 have hU0:=es.U0
 have v1r:=es.v1r
 have v2r:=es.v2r
 have u2r:=es.u2r
 have top0:=es.top0
 have e87:bor .u64 (C0 (C0 t87*2^(min ((32:Int)).toNat 64))) (C0 t96)=top:=by
  rw [show (2:Int)^(min ((32:Int)).toNat 64)=4294967296 by decide,C2 (n:=t87) (by omega) (by omega),C2 (n:=t96) (by omega) (by omega),C2 (n:=t87*4294967296) (by omega) (by omega),Yi h87 h96,htop]
 have ev1:C0 v1=v1:=C2 (by omega) (by omega)
 unfold Nz
 rw [e87,ev1,C41 top0,C40 top0]
 have hq0:0<=top/v1:=C3r top0 (by omega)
 have hdm:=C3k top v1
 have hm0:=C3q top (show v1≠0 by omega)
 have hm1:=C3l top (show 0<v1 by omega)
 refine ⟨fun l h'=>∃ q r:Int,l=[U q,U r]/\h'=hp/\0<=q/\q<=4294967297/\0<=r/\r<4294967296/\q*v1+r=top/\X<(q+1)*Y,fun l _=>match l with|[.int _ q,_]=>q.toNat|_=>0,⟨_,_,rfl,rfl,?_,?_,hm0,by omega,?_,?_⟩,?_⟩
 ·rw [C2 (by omega) (by omega)];exact hq0
 ·rw [C2 (by omega) (by omega)];omega
 ·rw [C2 (by omega) (by omega),C3g];exact hdm
 ·rw [C2 (by omega) (by omega)];exact hin
 rintro q r hp12 ⟨q',r',hl,rfl,hq,hq2,hr,hr2,hqr,hlt⟩
 obtain ⟨rfl,rfl⟩:q=q'/\r=r':=by simpa using hl
 have en1:B5 ((n:Int)-1)=((n-1:Nat):Int):=by rw [B7 (by omega) (by omega)];omega
 have en2:B5 ((n:Int)-2)=((n-2:Nat):Int):=by rw [B7 (by omega) (by omega)];omega
 have ej2:B5 (B5 ((j:Int)+(n:Int))-2)=((j+n-2:Nat):Int):=by rw [B7 (n:=(j:Int)+n) (by omega) (by omega),B7 (by omega) (by omega)];omega
 refine ⟨fun l h'=>l=[]/\h'=hp12/\X<q*Y,?_,?_⟩
 ·refine B6 (fun h1=>⟨rfl,rfl,es.big h1⟩) (fun h1=>?_)
  rw [en2,ej2]
  refine sv.load hn (by omega) (by omega) ?_
  refine su.load rfl (by omega) (by omega) ?_
  rw [C35,C35,hv2,hu2]
  have hp:=B8m (a:=q) (b:=v2) (by omega) v2r
  have eq2:C0 (q*C0 v2)=q*v2:=by rw [C2 (n:=v2) (by omega) (by omega),C2 (by omega) (by omega)]
  have er2:bor .u64 (C0 (r*2^(min ((32:Int)).toNat 64))) (C0 u2)=r*4294967296+u2:=by
   rw [show (2:Int)^(min ((32:Int)).toNat 64)=4294967296 by decide,C2 (n:=u2) (by omega) (by omega),C2 (n:=r*4294967296) (by omega) (by omega),Yi ⟨hr,hr2⟩ u2r]
  rw [eq2,er2]
  have key:q*(v1*4294967296+v2)=(top-r)*4294967296+q*v2:=by rw [<- hqr];grind
  refine B6 (fun h2=>⟨rfl,rfl,es.low hq (by omega)⟩) (fun h2=>?_)
  refine hJ q hq (by omega) hlt (es.up (by omega) (by omega))
 ·rintro hp13 ⟨_,rfl,hlq⟩
  have hq1:1<=q:=by
   by_cases h0:1<=q
   ·exact h0
   ·have:q=0:=by omega
    subst this;omega
  rw [en1]
  refine sv.load hn (by omega) (by omega) ?_
  rw [C35,hv1,ev1,C2 (n:=r+v1) (by omega) (by omega),C2 (n:=q-1) (by omega) (by omega)]
  have hlt':X<(q-1+1)*Y:=by rw [Int.sub_add_cancel];exact hlq
  have hqr':(q-1)*v1+(r+v1)=top:=by grind
  refine B6 (fun h3=>?_) (fun h3=>?_)
  ·have key:(q-1)*(v1*4294967296+v2)=(top-(r+v1))*4294967296+(q-1)*v2:=by rw [<- hqr'];grind
   have hb:(q-1)*v2<=4294967296*v2:=C34 (by omega) v2r.1
   exact hJ (q-1) (by omega) (by omega) hlt' (es.up (by omega) (by omega))
  ·exact ⟨⟨q-1,r+v1,rfl,rfl,by omega,by omega,by omega,by omega,hqr',hlt'⟩,by simp only;omega⟩
end
theorem F9(B:Int)(xs:List Int)(i:Nat):val B (xs.take (i+1))=val B (xs.take i)+B^i*xs.getD i 0:=by
 by_cases hi:i<xs.length
 ·exact N7 B hi
 ·rw [C3f (by omega),C3f (by omega)]
  simp [C3h,C3m (Nat.le_of_not_lt hi)]
theorem B1u(B:Int){vs:List Int}{m:Nat}(hn:vs.length=m+2):val B vs=(vs.getD (m+1) 0*B+vs.getD m 0)*B^m+val B (vs.take m):=by
 have h1:=F9 B vs (m+1)
 have h2:=F9 B vs m
 rw [show m+1+1=vs.length by omega,C3e] at h1
 rw [h1,h2,C3i]
 grind
theorem B1t(B:Int){us:List Int}{m:Nat}(hn:us.length=m+3):val B us=((us.getD (m+2) 0*B+us.getD (m+1) 0)*B+us.getD m 0)*B^m+val B (us.take m):=by
 have h1:=F9 B us (m+2)
 have h2:=F9 B us (m+1)
 have h3:=F9 B us m
 rw [show m+2+1=us.length by omega,C3e] at h1
 rw [show m+2=m+1+1 by omega] at h1
 rw [h1,h2,h3,C3i,C3i]
 grind
theorem B4q{B:Int}(hB:1<B){us vs:List Int}{m:Nat}(du:Dig B us)(dv:Dig B vs)(hu:us.length=m+3)(hv:vs.length=m+2)(h1:B<=2*vs.getD (m+1) 0)(hlt:val B us<val B vs*B):
 Est B (B^m) (us.getD (m+2) 0*B+us.getD (m+1) 0) (us.getD m 0) (val B (us.take m)) (vs.getD (m+1) 0) (vs.getD m 0) (val B (vs.take m)) (val B us) (val B vs):=by
 have hB0:0<B:=by omega
 have hlu:=K6 hB0 (du.take m)
 have hlv:=K6 hB0 (dv.take m)
 rw [C3a,C3b (by omega)] at hlu hlv
 refine ⟨hB,C3p hB0,B1t B hu,B1u B hv,du.getD hB0 _,⟨C7 hB0 (du.take m),hlu⟩,dv.getD hB0 _,⟨C7 hB0 (dv.take m),hlv⟩,?_,⟨h1,(dv.getD hB0 _).2⟩,hlt⟩
 have:=C38 (du.getD hB0 (m+2)).1 (C3d hB0)
 have:=(du.getD hB0 (m+1)).1
 omega
theorem Est.top{B P top u2 ul v1 v2 vl U V:Int}(e:Est B P top u2 ul v1 v2 vl U V)(h:v1*B<=top):(B-1-1)*V<=U/\U<(B-1+1)*V:=by
 have hl:=e.lt
 obtain ⟨hB,hP,hU,hV,u2r,ulr,v2r,vlr,top0,v1r,lt⟩:=e
 constructor
 ·have h1:v1*B*B*P<=U:=by
   have h2:v1*B*B<=top*B:=C34 h (by omega)
   have h3:v1*B*B*P<=(top*B+u2)*P:=C34 (by omega) (by omega)
   omega
  have h2:V<=(v1+1)*B*P:=by
   have h3:(v2+1)*P<=B*P:=C34 (by omega) (by omega)
   have:V=v1*B*P+v2*P+vl:=by rw [hV];grind
   have:(v1+1)*B*P=v1*B*P+B*P:=by grind
   have:(v2+1)*P=v2*P+P:=by grind
   omega
  have h3:(B-1-1)*V<=(B-1-1)*((v1+1)*B*P):=C36 h2 (by omega)
  have h4:(B-1-1)*((v1+1)*B*P)=v1*B*B*P-(2*v1+2-B)*(B*P):=by grind
  have h5:0<=(2*v1+2-B)*(B*P):=C38 (by omega) (C38 (by omega) (by omega))
  omega
 ·rw [Int.sub_add_cancel,C3g];exact hl
structure LS (F S first second u0 v0 u1 v1 u2 v2:Int) (odd:Bool):Prop where
 hF:F=v2*first+v1*second
 hS:S=u2*first+u1*second
 det:u1*v2-u2*v1=if odd then -1 else 1
 ord:0<=second/\second<=first
 st:(u0=0/\v0=0/\u1=1/\v1=0/\u2=0/\v2=1)\/
  (((u0=1/\v0=0/\u1=0/\v1=1/\0<=u2/\u2<=v2/\1<=u2)\/(0<=u0/\u0<=v0/\1<=v0/\1<=u1/\u1<=v1/\1<=u2/\u2<=v2))/\
   (u0*v1-u1*v0=if odd then 1 else -1)/\∃ f0,F=v1*f0+v0*first/\S=u1*f0+u0*first/\v0+v1<=f0-first/\v1<=first)
theorem LS.init{F S:Int}(h0:0<=S)(h:S<=F):LS F S F S 0 0 1 0 0 1 false:=
 ⟨by omega,by omega,by simp,⟨h0,h⟩,.inl ⟨rfl,rfl,rfl,rfl,rfl,rfl⟩⟩
theorem LS.v2pos{F S first second u0 v0 u1 v1 u2 v2:Int}{odd:Bool}(l:LS F S first second u0 v0 u1 v1 u2 v2 odd):1<=v2/\0<=v1/\0<=u1/\0<=u2/\0<=u0/\0<=v0:=by
 obtain ⟨hF,hS,det,ord,st⟩:=l
 rcases st with st|⟨st,_⟩<;>omega
theorem LS.step{F S first second u0 v0 u1 v1 u2 v2:Int}{odd:Bool}(l:LS F S first second u0 v0 u1 v1 u2 v2 odd)(h1:v2<=second)(h2:v1+v2<=first-second):
 LS F S second (first%second) u1 v1 u2 v2 (u1+first/second*u2) (v1+first/second*v2) (!odd):=by
 have hp:=l.v2pos
 obtain ⟨hF,hS,det,ord,st⟩:=l
 have hs:0<second:=by omega
 have hq:1<=first/second:=by
  rw [Int.le_ediv_iff_mul_le hs];omega
 have hdm:=C3k first second
 have hm0:=C3q first (show second≠0 by omega)
 have hm1:=C3l first hs
 have hu:u2<=first/second*u2:=by
  have:=C34 hq (show 0<=u2 by omega);omega
 have hv:v2<=first/second*v2:=by
  have:=C34 hq (show 0<=v2 by omega);omega
 have huv:first/second*u2<=first/second*v2:=C36 (by omega) (by omega)
 refine ⟨?_,?_,?_,⟨hm0,by omega⟩,.inr ⟨?_,?_,first,?_,?_,by omega,h1⟩⟩
 ·rw [hF]
  generalize hq':first/second=q at *
  generalize first%second=r at *
  subst hdm
  grind
 ·rw [hS]
  generalize hq':first/second=q at *
  generalize first%second=r at *
  subst hdm
  grind
 ·cases odd<;>simp at det ⊢ <;> grind
 ·rcases st with st|⟨st,_⟩
  ·left
   obtain ⟨rfl,rfl,rfl,rfl,rfl,rfl⟩:=st
   omega
  ·right;omega
 ·cases odd<;>simp at det ⊢ <;> omega
 ·rw [hF]
 ·rw [hS]
theorem LS.bound{F S first second u0 v0 u1 v1 u2 v2:Int}{odd:Bool}(l:LS F S first second u0 v0 u1 v1 u2 v2 odd)(hf:1<=first):v2<=F/\u2<=F/\u2<=v2:=by
 have hp:=l.v2pos
 obtain ⟨hF,hS,det,ord,st⟩:=l
 have h1:v2*1<=v2*first:=C36 hf (by omega)
 have h2:0<=v1*second:=C38 (by omega) (by omega)
 clear det hS
 rcases st with st|⟨st,_⟩<;>omega
theorem LS.bound2{F S first second u0 v0 u1 v1 u2 v2:Int}{odd:Bool}(l:LS F S first second u0 v0 u1 v1 u2 v2 odd)(hs:1<=second):v1+v2<=F:=by
 have hp:=l.v2pos
 obtain ⟨hF,hS,det,ord,st⟩:=l
 have h1:v2*1<=v2*first:=C36 (by omega) (by omega)
 have h2:v1*1<=v1*second:=C36 hs (by omega)
 clear st
 omega
structure Leh (a b u0 v0 u1 v1 X0 X1:Int):Prop where
 ord:0<=X1/\X1<X0
 ha:a=v1*X0+v0*X1
 hb:b=u1*X0+u0*X1
 le:X0<=b
def Iv(a b u0 v0:Int)(odd:Bool):Int:=if odd then u0*a-v0*b else v0*b-u0*a
def Iu(a b u1 v1:Int)(odd:Bool):Int:=if odd then v1*b-u1*a else u1*a-v1*b
theorem LS.leh{F S first second u0 v0 u1 v1 u2 v2 a b al bl W:Int}{odd:Bool}(l:LS F S first second u0 v0 u1 v1 u2 v2 odd)(hv0:v0≠0)(hW:0<W)(ha:a=F*W+al)(hb:b=S*W+bl)(hal:0<=al/\al<W)(hbl:0<=bl/\bl<W):
 Leh a b u0 v0 u1 v1 (Iv a b u0 v0 odd) (Iu a b u1 v1 odd):=by
 have hp:=l.v2pos
 obtain ⟨hF,hS,det,ord,st⟩:=l
 rcases st with st|⟨st,det0,f0,hF0,hS0,hd,hf1⟩
 ·omega
 have st2:0<=u0/\u0<=v0/\1<=v0/\1<=u1/\u1<=v1:=by omega
 have e1:u0*F-v0*S=(u0*v1-u1*v0)*f0:=by rw [hF0,hS0];grind
 have e2:u1*F-v1*S=(u1*v0-u0*v1)*first:=by rw [hF0,hS0];grind
 have p1:first*W>=v1*W:=C34 hf1 (by omega)
 have p2:(f0-first)*W>=(v0+v1)*W:=C34 hd (by omega)
 have q1:v1*bl<=v1*W:=C36 (by omega) (by omega)
 have q2:u1*al<=u1*W:=C36 (by omega) (by omega)
 have q3:u1*W<=v1*W:=C34 (by omega) (by omega)
 have q4:0<=u1*al:=C38 (by omega) (by omega)
 have q5:0<=v1*bl:=C38 (by omega) (by omega)
 have q6:(v0+v1)*(bl+1)<=(v0+v1)*W:=C36 (by omega) (by omega)
 have q7:(u0+u1)*(al+1)<=(u0+u1)*W:=C36 (by omega) (by omega)
 have q8:(u0+u1)*W<=(v0+v1)*W:=C34 (by omega) (by omega)
 have q9:0<=(u0+u1)*al:=C38 (by omega) (by omega)
 have q10:0<=(v0+v1)*bl:=C38 (by omega) (by omega)
 have fin:∀ X0 X1:Int,0<=X1->X1<X0->b=u1*X0+u0*X1->X0<=b:=by
  intro X0 X1 h0 h1 e
  have r1:1*X0<=u1*X0:=C34 (by omega) (by omega)
  have r2:0<=u0*X1:=C38 (by omega) h0
  omega
 cases odd with
 | true=>
  simp only [Iv,Iu,if_true] at det0 ⊢
  have x1:v1*b-u1*a=first*W+v1*bl-u1*al:=by
   rw [det0.symm.symm] at e1
   have:v1*S-u1*F=first:=by
    have:u1*v0-u0*v1= -1:=by omega
    rw [this] at e2;omega
   rw [ha,hb,<- this];grind
  have x01:u0*a-v0*b-(v1*b-u1*a)=(f0-first)*W+(u0+u1)*al-(v0+v1)*bl:=by
   have t1:u0*F-v0*S=f0:=by rw [det0] at e1;omega
   have t2:v1*S-u1*F=first:=by
    have:u1*v0-u0*v1= -1:=by omega
    rw [this] at e2;omega
   rw [ha,hb,<- t1,<- t2];grind
  have hX1:0<=v1*b-u1*a:=by omega
  have hX01:v1*b-u1*a<u0*a-v0*b:=by
   have:(v0+v1)*(bl+1)=(v0+v1)*bl+(v0+v1):=by grind
   omega
  have ea:a=v1*(u0*a-v0*b)+v0*(v1*b-u1*a):=by
   have:v1*(u0*a-v0*b)+v0*(v1*b-u1*a)=(u0*v1-u1*v0)*a:=by grind
   rw [this,det0];omega
  have eb:b=u1*(u0*a-v0*b)+u0*(v1*b-u1*a):=by
   have:u1*(u0*a-v0*b)+u0*(v1*b-u1*a)=(u0*v1-u1*v0)*b:=by grind
   rw [this,det0];omega
  exact ⟨⟨hX1,hX01⟩,ea,eb,fin _ _ hX1 hX01 eb⟩
 | false=>
  simp only [Iv,Iu,Bool.false_eq_true,if_false] at det0 ⊢
  have t1:v0*S-u0*F=f0:=by rw [det0] at e1;omega
  have t2:u1*F-v1*S=first:=by
   have:u1*v0-u0*v1=1:=by omega
   rw [this] at e2;omega
  have x1:u1*a-v1*b=first*W+u1*al-v1*bl:=by
   rw [ha,hb,<- t2];grind
  have x01:v0*b-u0*a-(u1*a-v1*b)=(f0-first)*W+(v0+v1)*bl-(u0+u1)*al:=by
   rw [ha,hb,<- t1,<- t2];grind
  have hX1:0<=u1*a-v1*b:=by omega
  have hX01:u1*a-v1*b<v0*b-u0*a:=by
   have:(u0+u1)*(al+1)=(u0+u1)*al+(u0+u1):=by grind
   omega
  have ea:a=v1*(v0*b-u0*a)+v0*(u1*a-v1*b):=by
   have:v1*(v0*b-u0*a)+v0*(u1*a-v1*b)=(u1*v0-u0*v1)*a:=by grind
   have d:u1*v0-u0*v1=1:=by omega
   rw [this,d];omega
  have eb:b=u1*(v0*b-u0*a)+u0*(u1*a-v1*b):=by
   have:u1*(v0*b-u0*a)+u0*(u1*a-v1*b)=(u1*v0-u0*v1)*b:=by grind
   have d:u1*v0-u0*v1=1:=by omega
   rw [this,d];omega
  exact ⟨⟨hX1,hX01⟩,ea,eb,fin _ _ hX1 hX01 eb⟩
theorem Leh.gcd{a b u0 v0 u1 v1:Int}{odd:Bool}(l:Leh a b u0 v0 u1 v1 (Iv a b u0 v0 odd) (Iu a b u1 v1 odd)):Int.gcd (Iv a b u0 v0 odd) (Iu a b u1 v1 odd)=Int.gcd a b:=by
 apply Nat.dvd_antisymm
 ·have ha:=l.ha
  have hb:=l.hb
  generalize Iv a b u0 v0 odd=p at *
  generalize Iu a b u1 v1 odd=q at *
  have dp:(Int.gcd p q:Int)∣p:=Int.gcd_dvd_left p q
  have dq:(Int.gcd p q:Int)∣q:=Int.gcd_dvd_right p q
  rw [<- Int.ofNat_dvd]
  apply Int.dvd_coe_gcd
  ·rw [ha];exact Int.dvd_add (C37 dp) (C37 dq)
  ·rw [hb];exact Int.dvd_add (C37 dp) (C37 dq)
 ·have da:(Int.gcd a b:Int)∣a:=Int.gcd_dvd_left a b
  have db:(Int.gcd a b:Int)∣b:=Int.gcd_dvd_right a b
  rw [<- Int.ofNat_dvd]
  apply Int.dvd_coe_gcd
  ·unfold Iv;split
   ·exact C3z (C37 da) (C37 db)
   ·exact C3z (C37 db) (C37 da)
  ·unfold Iu;split
   ·exact C3z (C37 db) (C37 da)
   ·exact C3z (C37 da) (C37 db)
theorem Dw(pre ws:List Int)(i:Nat):(pre++ws).getD (i+pre.length) 0=ws.getD i 0:=by
 simp [C3h,List.getElem?_append_right (Nat.le_add_left pre.length i)]
theorem Iq(pre ws:List Int)(i:Nat)(v:Int):(pre++ws).set (i+pre.length) v=pre++ws.set i v:=by
 rw [List.set_append_right _ _ (by omega),Nat.add_sub_cancel]
theorem Ca{B:Int}(hB:0<B){ws:List Int}{n:Nat}(d:Dig B ws)(h:val B ws<B^n):val B (ws.drop n)=0:=by
 by_cases hn:n<=ws.length
 ·have h1:=F1 B ws hn
  have h2:=C7 hB (d.take n)
  have h3:=C7 hB (d.drop n)
  by_cases h0:val B (ws.drop n)=0
  ·exact h0
  ·have:B^n*1<=B^n*val B (ws.drop n):=C36 (by omega) (C3d (D6 hB n))
   omega
 ·rw [C3t (by omega)];rfl
section
variable {g:Heap} {bu bq:Nat} {pre qs:List Int} {VA:Option Addr} {vs:List Int}
theorem A9x{n N:Nat}{ws:List Int}{q:Int}{J:LP}(hu:g bu=none)(hq:g bq=none)(hne:bu≠bq)(sv:SlI .u32 g VA vs)(dv:Dig b32 vs)(hn:n=vs.length)(dw:Dig b32 ws)(hN:N=(pre++ws).length)(hl:n<ws.length)(hbig:N<=200000000)
 (hD:val b32 (ws.take n)+val b32 vs<2*b32^n) (hD0:b32^n<=val b32 (ws.take n)+val b32 vs) (htop:ws.getD n 0=4294967295)
 (hJ:∀ ws',ws'.length=ws.length->Dig b32 ws'->ws'.drop (n+1)=ws.drop (n+1)->ws'.getD n 0=0->val b32 (ws'.take n)=val b32 (ws.take n)+val b32 vs-b32^n->J [U (C0 (q-1))] (Y4 .u32 C4 g bu (pre++ws') bq qs)):
 Nx prog VA n (some ⟨bu,0,none⟩) N (pre.length:Int) q J (Y4 .u32 C4 g bu (pre++ws) bq qs):=by
 unfold Nx
 refine ⟨fun l h'=>∃ (k:Nat) (c:Int) (zs:List Int),l=[U c,I k]/\k<=n/\zs.length=ws.length/\Dig b32 zs/\(0<=c/\c<=1)/\h'=Y4 .u32 C4 g bu (pre++zs) bq qs/\zs.drop k=ws.drop k/\val b32 (zs.take k)+c*b32^k=val b32 (ws.take k)+val b32 (vs.take k),fun l _=>n-(iAt l 1).toNat,⟨0,0,ws,rfl,by omega,rfl,dw,by omega,rfl,rfl,by simp [val]⟩,?_⟩
 rintro c i hp ⟨k,c',zs,hli,hk,hzl,hd,hc,rfl,hdr,hv⟩
 obtain ⟨rfl,rfl⟩:c=c'/\i=(k:Int):=by simpa using hli
 have hle:g.le (Y4 .u32 C4 g bu (pre++zs) bq qs):=Nq hu hq hne
 have su:SlI .u32 (Y4 .u32 C4 g bu (pre++zs) bq qs) (some ⟨bu,0,none⟩) (pre++zs):=Sk hne
 have hNz:N=(pre++zs).length:=by rw [hN,C3c,C3c,hzl]
 have hNl:N=pre.length+zs.length:=by rw [hNz,C3c]
 have ejk:B5 ((k:Int)+pre.length)=((k+pre.length:Nat):Int):=by rw [B7 (by omega) (by omega)];omega
 have ejn:B5 ((pre.length:Int)+n)=((n+pre.length:Nat):Int):=by rw [B7 (by omega) (by omega)];omega
 refine B6 (fun h1=>?_) (fun h1=>?_)
 ·have gv:=Au dv k
  have gz:=Au hd k
  have hzz:=E5 hdr
  have vv:=C5 b32 vs k
  have vw:=C5 b32 ws k
  rw [ejk]
  refine su.load hNz (by omega) (by omega) ?_
  refine (sv.mono hle).load hn (by omega) (by omega) ?_
  simp only [C35,Dw]
  have es:C0 (c+C0 (C0 (zs.getD k 0)+C0 (vs.getD k 0)))=c+zs.getD k 0+vs.getD k 0:=by
   rw [C2 (n:=zs.getD k 0) (by omega) (by omega),C2 (n:=vs.getD k 0) (by omega) (by omega),C2 (n:=zs.getD k 0+vs.getD k 0) (by omega) (by omega),C2 (by omega) (by omega)];omega
  rw [es]
  refine ⟨_,rfl,by omega,by omega,?_⟩
  refine N9 (us:=pre++zs) (i:=((k+pre.length:Nat):Int)) J6 hne (by rw [C35];omega) ?_
  rw [C35,Iq,V1,Ts,B7 (n:=(k:Int)+1) (by omega) (by omega)]
  refine ⟨⟨k+1,_,zs.set k ((c+zs.getD k 0+vs.getD k 0)%4294967296),rfl,by omega,by simpa using hzl,hd.set (A0d _),by omega,rfl,?_,?_⟩,by simp only [iAt,C39,C3j];omega⟩
  ·rw [D5 (by omega)];exact D7 hdr
  ·rw [C9 (by omega),E9,C3a,C3b (by omega),C3i,Az,vv,vw,<- hzz]
   grind
 ·have hkn:k=n:=by omega
  subst hkn
  have hzz:=E5 hdr
  rw [ejn]
  refine su.load hNz (by omega) (by omega) ?_
  rw [C35,Dw,hzz,htop]
  refine ⟨_,rfl,by omega,by omega,?_⟩
  refine N9 (us:=pre++zs) (i:=((k+pre.length:Nat):Int)) J6 hne (by rw [C35];omega) ?_
  rw [C35,Iq]
  have hvs:vs.take k=vs:=by rw [hn,C3e]
  rw [hvs] at hv
  have hlt:=K6 (by decide) (hd.take k)
  rw [C3a,C3b (by omega)] at hlt
  have h0:=C7 (by decide) (hd.take k)
  have hc1:c=1:=by
   by_cases hc0:c=0
   ·subst hc0;omega
   ·omega
  subst hc1
  have e0:F4 (4294967295+F4 1)=0:=by rw [N5 (n:=1) (by omega) (by omega),V1];omega
  rw [e0]
  refine hJ (zs.set k 0) (by simpa using hzl) (hd.set (by decide)) (by rw [D5 (by omega)];exact D7 hdr) (by simp [C3h,show k<zs.length by omega]) ?_
  rw [C3w (by omega)]
  omega
theorem A64{n N nq:Nat}{ws:List Int}{q X Y:Int}{J:LP}(hu:g bu=none)(hq:g bq=none)(hne:bu≠bq)(sv:SlI .u32 g VA vs)(dv:Dig b32 vs)(hn:n=vs.length)(dw:Dig b32 ws)(hN:N=(pre++ws).length)(hl:n<ws.length)(hbig:N<=200000000)
 (hnq:nq=qs.length) (hjq:pre.length<qs.length)
 (hX:X=val b32 (ws.take n)+b32^n*ws.getD n 0) (hY:Y=val b32 vs) (hq0:0<=q) (hq1:q<=4294967296) (hlt:X<(q+1)*Y) (hge:(q-1)*Y<=X) (hXB:X<Y*4294967296)
 (hJ:∀ ws' q',ws'.length=ws.length->Dig b32 ws'->ws'.drop (n+1)=ws.drop (n+1)->ws'.getD n 0=0->val b32 (ws'.take n)=X-q'*Y->0<=X-q'*Y->X-q'*Y<Y->0<=q'->q'<4294967296->J [] (Y4 .u32 C4 g bu (pre++ws') bq (qs.set pre.length q'))):
 Ny prog VA n (some ⟨bu,0,none⟩) N (some ⟨bq,0,none⟩) nq (pre.length:Int) J q (Y4 .u32 C4 g bu (pre++ws) bq qs):=by
 have hYlt:Y<b32^n:=by rw [hY,hn];exact K6 (by decide) dv
 have hX0:0<=X:=by
  have h1:=C7 (by decide) (dw.take n)
  have h2:=C38 (C3d (D6 (B:=b32) (by decide) n)) (Au dw n).1
  omega
 have hY0:0<Y:=by
  by_cases h0:0<Y
  ·exact h0
  ·have:Y=0:=by have:=C7 (by decide) dv;omega
   rw [this] at hXB;omega
 have fin:∀ ws' q',ws'.length=ws.length->Dig b32 ws'->ws'.drop (n+1)=ws.drop (n+1)->ws'.getD n 0=0->val b32 (ws'.take n)=X-q'*Y->0<=X-q'*Y->X-q'*Y<Y->0<=q'->Ob prog (some ⟨bq,0,none⟩) nq (pre.length:Int) J q' (Y4 .u32 C4 g bu (pre++ws') bq qs):=by
  intro ws' q' h1 h2 h3 h4 h5 h6 h7 h8
  have hlt':q'<4294967296:=by
   by_cases hc:q'<4294967296
   ·exact hc
   ·have:=C34 (show 4294967296<=q' by omega) (C3d hY0)
    rw [C3g Y] at hXB;omega
  unfold Ob
  refine ⟨_,rfl,by omega,by omega,?_⟩
  refine Sl (i:=(pre.length:Int)) J6 (by rw [C35];omega) ?_
  rw [C35,N5 h8 (by omega)]
  exact hJ ws' q' h1 h2 h3 h4 h5 h6 h7 h8 hlt'
 unfold Ny
 refine ⟨fun l h'=>∃ (k:Nat) (c b:Int) (zs:List Int),l=[U c,U b,I k]/\k<=n/\zs.length=ws.length/\Dig b32 zs/\(0<=c/\c<4294967296)/\(0<=b/\b<=1)/\h'=Y4 .u32 C4 g bu (pre++zs) bq qs/\zs.drop k=ws.drop k/\val b32 (zs.take k)=val b32 (ws.take k)-q*val b32 (vs.take k)+(c+b)*b32^k,fun l _=>n-(iAt l 2).toNat,⟨0,0,0,ws,rfl,by omega,rfl,dw,by omega,by omega,rfl,rfl,by simp [val]⟩,?_⟩
 rintro c b i hp ⟨k,c',b',zs,hli,hk,hzl,hd,hc,hb,rfl,hdr,hv⟩
 obtain ⟨rfl,rfl,rfl⟩:c=c'/\b=b'/\i=(k:Int):=by simpa using hli
 have hle:g.le (Y4 .u32 C4 g bu (pre++zs) bq qs):=Nq hu hq hne
 have su:SlI .u32 (Y4 .u32 C4 g bu (pre++zs) bq qs) (some ⟨bu,0,none⟩) (pre++zs):=Sk hne
 have hNz:N=(pre++zs).length:=by rw [hN,C3c,C3c,hzl]
 have hNl:N=pre.length+zs.length:=by rw [hNz,C3c]
 have ejk:B5 ((k:Int)+pre.length)=((k+pre.length:Nat):Int):=by rw [B7 (by omega) (by omega)];omega
 have ejn:B5 ((pre.length:Int)+n)=((n+pre.length:Nat):Int):=by rw [B7 (by omega) (by omega)];omega
 refine B6 (fun h1=>?_) (fun h1=>?_)
 ·have gv:=Au dv k
  have gz:=Au hd k
  have hzz:=E5 hdr
  have vv:=C5 b32 vs k
  have vw:=C5 b32 ws k
  refine (sv.mono hle).load hn (by omega) (by omega) ?_
  rw [ejk]
  refine su.load hNz (by omega) (by omega) ?_
  simp only [C35,Dw]
  have hm:0<=q*vs.getD k 0/\q*vs.getD k 0<=4294967296*4294967295:=⟨C38 hq0 gv.1,C45 hq1 (by omega) gv.1 (by decide)⟩
  have ep:C0 (C0 (q*C0 (vs.getD k 0))+c)=q*vs.getD k 0+c:=by
   rw [C2 (n:=vs.getD k 0) (by omega) (by omega),C2 (n:=q*vs.getD k 0) (by omega) (by omega),C2 (by omega) (by omega)]
  rw [ep,Ba (by omega),Ts,Ts,C2 (n:=zs.getD k 0) (by omega) (by omega)]
  generalize hP:q*vs.getD k 0+c=p at *
  have hp2:0<=p/\p<18446744073709551616:=by omega
  have ed:C0 (C0 (zs.getD k 0-p%4294967296)-b)=(zs.getD k 0-p%4294967296-b)%18446744073709551616:=by
   rw [E8,E8];omega
  rw [ed,Vl (by omega)]
  refine ⟨_,rfl,by omega,by omega,?_⟩
  refine N9 (us:=pre++zs) (i:=((k+pre.length:Nat):Int)) J6 hne (by rw [C35];omega) ?_
  rw [C35,Iq,V1,B7 (n:=(k:Int)+1) (by omega) (by omega)]
  refine ⟨⟨k+1,_,_,zs.set k ((zs.getD k 0-p%4294967296-b)%18446744073709551616%4294967296),rfl,by omega,by simpa using hzl,hd.set (A0d _),by omega,by omega,rfl,?_,?_⟩,by simp only [iAt,C39,C3j];omega⟩
  ·rw [D5 (by omega)];exact D7 hdr
  ·rw [C9 (by omega),E9,C3a,C3b (by omega),C3i,vv,vw,<- hzz,hv]
   have key:(zs.getD k 0-p%4294967296-b)%18446744073709551616%4294967296=zs.getD k 0-p-b+4294967296*(p/4294967296+(zs.getD k 0-p%4294967296-b)%18446744073709551616/4294967296%2):=by omega
   rw [key,<- hP]
   grind
 ·have hkn:k=n:=by omega
  subst hkn
  have hzz:=E5 hdr
  have gz:=Au hd k
  have hvs:vs.take k=vs:=by rw [hn,C3e]
  rw [hvs,<- hY] at hv
  have hl2:=K6 (by decide) (hd.take k)
  rw [C3a,C3b (by omega)] at hl2
  have hl0:=C7 (by decide) (hd.take k)
  rw [ejn]
  refine su.load hNz (by omega) (by omega) ?_
  rw [C35,Dw]
  have hD:X-q*Y=val b32 (zs.take k)+(zs.getD k 0-c-b)*b32^k:=by
   rw [hv,hX,hzz];grind
  have hDlt:X-q*Y<Y:=by
   have:(q+1)*Y=q*Y+Y:=by grind
   omega
  have hDge: -Y<=X-q*Y:=by
   have:(q-1)*Y=q*Y-Y:=by grind
   omega
  have hP:0<b32^k:=D6 (by decide) k
  have hdel:zs.getD k 0-c-b=0\/zs.getD k 0-c-b= -1:=by
   have h2:zs.getD k 0-c-b<1:=by
    by_cases hc:zs.getD k 0-c-b<1
    ·exact hc
    ·have:=C34 (show 1<=zs.getD k 0-c-b by omega) (C3d hP);omega
   have h3: -2<zs.getD k 0-c-b:=by
    by_cases hc: -2<zs.getD k 0-c-b
    ·exact hc
    ·have:=C34 (show zs.getD k 0-c-b <= -2 by omega) (C3d hP);omega
   omega
  have ed:C0 (C0 (C0 (zs.getD k 0)-c)-b)=(zs.getD k 0-c-b)%18446744073709551616:=by
   rw [C2 (n:=zs.getD k 0) (by omega) (by omega),E8,E8];omega
  rw [ed]
  have e63:∀ x:Int,Int.fdiv x (2^(min ((63:Int)).toNat 64))=x/9223372036854775808:=by
   intro x;rw [show (2:Int)^(min ((63:Int)).toNat 64)=9223372036854775808 by decide];exact C42 x (by decide)
  refine ⟨_,rfl,by omega,by omega,?_⟩
  refine N9 (us:=pre++zs) (i:=((k+pre.length:Nat):Int)) J6 hne (by rw [C35];omega) ?_
  rw [C35,Iq,V1,e63]
  have hgs:∀ v,(zs.set k v).getD k 0=v:=by intro v;simp [C3h,show k<zs.length by omega]
  refine ⟨fun l h'=>∃ ws' q',l=[U q']/\h'=Y4 .u32 C4 g bu (pre++ws') bq qs/\ws'.length=ws.length/\Dig b32 ws'/\ws'.drop (k+1)=ws.drop (k+1)/\ws'.getD k 0=0/\val b32 (ws'.take k)=X-q'*Y/\0<=X-q'*Y/\X-q'*Y<Y/\0<=q',?_,?_⟩
  ·rcases hdel with hdel|hdel
   ·rw [hdel] at hD ⊢
    refine D9 (fun e=>absurd e (by decide)) (fun _=>?_)
    refine ⟨zs.set k (0%18446744073709551616%4294967296),q,rfl,rfl,by simpa using hzl,hd.set (by decide),by rw [D5 (by omega)];exact D7 hdr,hgs _,?_,by omega,hDlt,hq0⟩
    rw [C3w (by omega)];omega
   ·rw [hdel] at hD ⊢
    refine D9 (fun _=>?_) (fun e=>absurd (by decide) e)
    have hqpos:1<=q:=by
     by_cases hc:1<=q
     ·exact hc
     ·have:q=0:=by omega
      subst this;omega
    have ht:(zs.set k (-1%18446744073709551616%4294967296)).take k=zs.take k:=C3w (by omega)
    have e1:(q-1)*Y=q*Y-Y:=by grind
    refine A9x (ws:=zs.set k (-1%18446744073709551616%4294967296)) hu hq hne sv dv hn (hd.set (by decide)) (by rw [hNz];simp) (by simpa using (show k<zs.length by omega)) hbig ?_ ?_ (hgs _) ?_
    ·rw [ht,<- hY];omega
    ·rw [ht,<- hY];omega
    ·intro ws' g1 g2 g3 g4 g5
     rw [ht,<- hY] at g5
     rw [C2 (n:=q-1) (by omega) (by omega)]
     refine ⟨ws',q-1,rfl,rfl,by rw [g1];simpa using hzl,g2,?_,g4,by omega,by omega,by omega,by omega⟩
     rw [g3,D5 (by omega)];exact D7 hdr
  ·rintro q2 hp21 ⟨ws',q',hl1,rfl,g1,g2,g3,g4,g5,g6,g7,g8⟩
   obtain rfl:q2=q':=by simpa using hl1
   exact fin ws' q2 g1 g2 g3 g4 g5 g6 g7 g8
end
theorem Zo(B:Int)(xs:List Int)(i:Nat):val B (xs.drop i)=xs.getD i 0+B*val B (xs.drop (i+1)):=by
 by_cases hi:i<xs.length
 ·exact Jq B hi
 ·rw [C3t (by omega),C3t (by omega)]
  simp [val,C3h,C3m (Nat.le_of_not_lt hi)]
theorem Ju{s:Nat}(hs:s<=32):(2:Int)^s*2^(32-s)=4294967296:=by
 rw [<- Int.pow_add,show s+(32-s)=32 by omega];decide
section
variable {h g:Heap} {K:VP} {A B:Option Addr} {ac bc:Nat} {bu bq:Nat} {VA:Option Addr} {vs us0:List Int}
theorem A7y{s nq cq rn cr:Nat}{rs tl qs:List Int}{Q R:Int}(hu:g bu=none)(hq:g bq=none)(hne:bu≠bq)(hs:s<32)(hrn:rn=rs.length)(hcr:rn<=cr)(hnq:nq=qs.length)(hcq:nq<=cq)(dq:Dig b32 qs)(dr:Dig b32 rs)(hb1:nq<=200000000)(hb2:rn<=200000000)(hQ:val b32 qs=Q)(hR:val b32 rs=R*2^s)
 (hK:∀ A1 m1 c1 A2 m2 c2 h',g.le h'->m1<=c1->m2<=c2->Mg h' A1 m1 Q->Mg h' A2 m2 R->K (.tuple #[.slice A1 m1 c1,.slice A2 m2 c2]) h'):
 Ia prog K (s:Int) (some ⟨bq,0,none⟩) nq cq (some ⟨bu,0,none⟩) rn cr (Y4 .u32 C4 g bu (rs++tl) bq qs):=by
 have hp:0<(2:Int)^s:=C3p (by decide)
 have hps:=Ju (Nat.le_of_lt hs)
 have hpt:0<(2:Int)^(32-s):=C3p (by decide)
 unfold Ia
 refine ⟨fun l h'=>∃ (k:Nat) (zs:List Int),l=[I k]/\k<=rn/\zs.length=rs.length/\Dig b32 zs/\h'=Y4 .u32 C4 g bu (zs++tl) bq qs/\zs.drop k=rs.drop k/\2^s*val b32 (zs.take k)+rs.getD 0 0%2^s=val b32 (rs.take k)+b32^k*(rs.getD k 0%2^s),fun l _=>rn-(iAt l 0).toNat,⟨0,rs,rfl,by omega,rfl,dr,rfl,rfl,by simp [val]⟩,?_⟩
 rintro i hp1 ⟨k,zs,hli,hk,hzl,hd,rfl,hdr,hv⟩
 obtain rfl:=sI1 hli
 have su:∀ zs:List Int,SlI .u32 (Y4 .u32 C4 g bu (zs++tl) bq qs) (some ⟨bu,0,none⟩) zs:=by
  intro zs
  have:=(Sk (g:=g) (k:=.u32) (e:=C4) (us:=zs++tl) (qs:=qs) hne).cut (c:=(zs++tl).length) (l:=0) (m:=zs.length) (by omega) (by simp) (C3o _)
  simpa [G9] using this
 have ek1:B5 ((k:Int)+1)=((k+1:Nat):Int):=by rw [B7 (by omega) (by omega)];omega
 have gz:=Au hd k
 have hzz:=E5 hdr
 refine B6 (fun h1=>?_) (fun h1=>?_)
 ·refine (su zs).load (by omega) (by omega) (by omega) ?_
  refine B6 (fun e=>absurd e (by omega)) (fun _=>?_)
  refine ⟨_,rfl,by omega,by omega,?_⟩
  simp only [C35]
  rw [C3b (by omega),C42 _ (C3d hp)]
  refine N9 (us:=zs++tl) (i:=(k:Int)) J6 hne (by rw [C35,C3c];omega) ?_
  rw [C35,List.set_append_left _ _ (by omega),ek1]
  have hq0:0<=zs.getD k 0/2^s:=C3r gz.1 (by omega)
  have hq1:zs.getD k 0/2^s<2^(32-s):=by
   apply C3n hp
   rw [C3g,hps];exact gz.2
  have hpt2:(2:Int)^(32-s)<=4294967296:=by
   rw [<- hps]
   have:=C34 (show 1<=(2:Int)^s by omega) (C3d hpt);omega
  have d1:Dig b32 (zs.set k (zs.getD k 0/2^s)):=hd.set ⟨hq0,by show _<(4294967296:Int);omega⟩
  have l1:(zs.set k (zs.getD k 0/2^s)).length=rs.length:=by rw [C3v];exact hzl
  have g1:(zs.set k (zs.getD k 0/2^s)).getD k 0=zs.getD k 0/2^s:=by simp [C3h,show k<zs.length by omega]
  have g2:(zs.set k (zs.getD k 0/2^s)).getD (k+1) 0=rs.getD (k+1) 0:=by
   rw [A2c (by omega)];exact E5 (D7 hdr)
  have vr:=C5 b32 rs k
  have fin:∀ z:Int,(0<=z/\z<4294967296)->2^s*z=zs.getD k 0-zs.getD k 0%2^s+4294967296*(rs.getD (k+1) 0%2^s)->
   2^s*val b32 ((zs.set k z).take (k+1))+rs.getD 0 0%2^s=val b32 (rs.take (k+1))+b32^(k+1)*(rs.getD (k+1) 0%2^s):=by
   intro z hz ez
   rw [C9 (by omega),E9,C3a,C3b (by omega),vr,C3i,<- hzz]
   rw [<- hzz] at hv
   have e1:2^s*(val b32 (zs.take k)+b32^k*z)=2^s*val b32 (zs.take k)+b32^k*(2^s*z):=by grind
   rw [e1,ez]
   grind
  have hdm:=C3k (zs.getD k 0) (2^s)
  refine B6 (fun h2=>?_) (fun h2=>?_)
  ·refine (su _).load (by omega) (by omega) (by omega) ?_
   refine (su _).load (by omega) (by omega) (by omega) ?_
   simp only [C35,g1,g2]
   have es:C0 ((32:Int)-s)=((32-s:Nat):Int):=by rw [C2 (by omega) (by omega)];omega
   rw [es]
   refine B6 (fun e=>absurd e (by omega)) (fun _=>?_)
   refine ⟨_,rfl,by omega,by omega,?_⟩
   have gr:=Au dr (k+1)
   have hx0:0<=rs.getD (k+1) 0*2^(32-s):=C38 gr.1 (by omega)
   have hx1:rs.getD (k+1) 0*2^(32-s)<18446744073709551616:=by
    have:=C45 (show rs.getD (k+1) 0<=4294967295 by omega) hpt2 (by omega) (by decide)
    omega
   rw [C35,C3b (show 32-s<=64 by omega),C2 (n:=rs.getD (k+1) 0) (by omega) (by omega),C2 hx0 hx1,V1]
   obtain ⟨o1,o2⟩:=A4d (s:=32-s) (by omega) gr ⟨hq0,hq1⟩
   rw [o1]
   refine N9 (us:=zs.set k (zs.getD k 0/2^s)++tl) (i:=(k:Int)) J6 hne (by rw [C35,C3c];omega) ?_
   rw [C35,List.set_append_left _ _ (by omega),List.set_set]
   have hm0:=A0d (rs.getD (k+1) 0*2^(32-s))
   refine ⟨⟨k+1,zs.set k (zs.getD k 0/2^s+rs.getD (k+1) 0*2^(32-s)%4294967296),rfl,by omega,by simpa using hzl,hd.set ⟨by omega,o2⟩,rfl,by rw [D5 (by omega)];exact D7 hdr,fin _ ⟨by omega,o2⟩ ?_⟩,by simp only [iAt,C39];omega⟩
   have em:rs.getD (k+1) 0*2^(32-s)%4294967296=2^(32-s)*(rs.getD (k+1) 0%2^s):=by
    rw [<- hps,C3g (2^s),C3g (rs.getD (k+1) 0),Int.mul_emod_mul_of_pos _ _ hpt]
   rw [em,Int.mul_add,<- Int.mul_assoc,hps]
   omega
  ·have hlast:k+1=rs.length:=by omega
   have e0:rs.getD (k+1) 0=0:=by simp [C3h,C3m (show rs.length<=k+1 by omega)]
   refine ⟨⟨k+1,zs.set k (zs.getD k 0/2^s),rfl,by omega,l1,d1,rfl,by rw [D5 (by omega)];exact D7 hdr,fin _ ⟨hq0,by omega⟩ ?_⟩,by simp only [iAt,C39];omega⟩
   rw [e0,Int.zero_emod,C3x,Int.add_zero];omega
 ·have hkr:k=rs.length:=by omega
  subst hkr
  have e0:rs.getD rs.length 0=0:=by simp [C3h]
  rw [C3e,<- hzl,C3e,hzl,e0] at hv
  have hvz:val b32 zs=R:=by
   have h0:=C3q (rs.getD 0 0) (show (2:Int)^s≠0 by omega)
   have h1:=C3l (rs.getD 0 0) hp
   rw [hR] at hv
   simp at hv
   have:2^s*(R-val b32 zs)=rs.getD 0 0%2^s:=by
    have:2^s*(R-val b32 zs)=R*2^s-2^s*val b32 zs:=by grind
    simp only [C3h] at *
    omega
   have hz:R-val b32 zs=0:=by
    by_cases hc:R-val b32 zs<=0
    ·by_cases hc2:R-val b32 zs=0
     ·exact hc2
     ·have:=C36 (show R-val b32 zs <= -1 by omega) (C3d hp);omega
    ·have:=C36 (show 1<=R-val b32 zs by omega) (C3d hp);omega
   omega
  rw [hnq]
  refine V4 B4w dq (by omega) (by omega) ?_
  intro m1 hm1 hM1
  refine ⟨_,_,_,rfl,?_⟩
  rw [hrn,<- hzl]
  refine V4 (su zs) hd (by omega) (by omega) ?_
  intro m2 hm2 hM2
  rw [hQ] at hM1
  rw [hvz] at hM2
  exact ⟨_,_,_,rfl,hK _ _ _ _ _ _ _ (Nq hu hq hne) (by omega) (by omega) hM1 hM2⟩
theorem A6b{s mm N nq:Nat}{us0:List Int}{a b Y:Int}(hu:g bu=none)(hq:g bq=none)(hne:bu≠bq)(sv:SlI .u32 g VA vs)(dv:Dig b32 vs)(hn:vs.length=mm+2)(hv1:4294967296<=2*vs.getD (mm+1) 0)(hs:s<32)(hY:val b32 vs=Y)(hYb:Y=b*2^s)(du:Dig b32 us0)(hN:us0.length=N)(hua:val b32 us0=a*2^s)(hnq:N=nq+(mm+2))(hnq1:1<=nq)(hbig:N<=200000000)(htop:val b32 (us0.drop nq)<Y)
 (hK:∀ A1 m1 c1 A2 m2 c2 h',g.le h'->m1<=c1->m2<=c2->Mg h' A1 m1 (a/b)->Mg h' A2 m2 (a%b)->K (.tuple #[.slice A1 m1 c1,.slice A2 m2 c2]) h'):
 Oa prog K (s:Int) VA (mm+2) (some ⟨bu,0,none⟩) N N (some ⟨bq,0,none⟩) nq nq (Y4 .u32 C4 g bu us0 bq (C43 nq 0)):=by
 have hp:0<(2:Int)^s:=C3p (by decide)
 have hYlt:Y<b32^(mm+2):=by rw [<- hY,<- hn];exact K6 (by decide) dv
 have hY0:0<Y:=by have:=C7 (by decide) (du.drop nq);omega
 have e0:B5 (B5 ((N:Int)-((mm+2:Nat):Int))-1)=(nq:Int)-1:=by rw [B7 (n:=(N:Int)-((mm+2:Nat):Int)) (by omega) (by omega),B7 (by omega) (by omega)];omega
 unfold Oa
 refine ⟨fun l h'=>∃ (k:Nat) (us qs:List Int),l=[I ((k:Int)-1)]/\k<=nq/\us.length=N/\qs.length=nq/\Dig b32 us/\Dig b32 qs/\h'=Y4 .u32 C4 g bu us bq qs/\val b32 (us.drop k)<Y/\val b32 us0=val b32 (qs.drop k)*Y*b32^k+val b32 us,fun l _=>(iAt l 0+1).toNat,⟨nq,us0,_,by rw [e0],by omega,hN,by simp,du,H0 (by decide) _,rfl,htop,by simp [val]⟩,?_⟩
 rintro j hp11 ⟨k,us,qs,hli,hk,hul,hql,hdu,hdq,rfl,hlt,hv⟩
 obtain rfl:j=(k:Int)-1:=by simpa using hli
 have hle:g.le (Y4 .u32 C4 g bu us bq qs):=Nq hu hq hne
 have su:SlI .u32 (Y4 .u32 C4 g bu us bq qs) (some ⟨bu,0,none⟩) us:=Sk hne
 unfold Vy
 refine B6 (fun h1=>?_) (fun h1=>?_)
 ·obtain ⟨j,rfl⟩:∃ j,k=j+1:=⟨k-1,by omega⟩
  have ej:((j+1:Nat):Int)-1=(j:Int):=by omega
  rw [ej]
  have e1:B5 ((j:Int)+((mm+2:Nat):Int))=((j+(mm+2):Nat):Int):=by rw [B7 (by omega) (by omega)];omega
  have e2:B5 (((j+(mm+2):Nat):Int)-1)=((j+(mm+1):Nat):Int):=by rw [B7 (by omega) (by omega)];omega
  have e3:B5 (((mm+2:Nat):Int)-1)=((mm+1:Nat):Int):=by rw [B7 (by omega) (by omega)];omega
  rw [e1,e2,e3]
  have dws:=hdu.drop j
  have hwl:(us.drop j).length=N-j:=by rw [List.length_drop,hul]
  have hgd:∀ i,(us.drop j).getD i 0=us.getD (j+i) 0:=fun i=>A0k
  have hzero:val b32 ((us.drop j).drop (mm+3))=0:=by
   have:=Ca (B:=b32) (by decide) (n:=mm+2) (hdu.drop (j+1)) (by omega)
   rw [C3s] at this ⊢
   rw [show j+(mm+3)=j+1+(mm+2) by omega];exact this
  have hX1:=Zo b32 us j
  have hXB:val b32 (us.drop j)<Y*4294967296:=by
   have:=Au hdu j
   rw [hX1]
   have:b32*(val b32 (us.drop (j+1))+1)<=b32*Y:=C36 (by omega) (by decide)
   have e:b32*(val b32 (us.drop (j+1))+1)=b32*val b32 (us.drop (j+1))+4294967296:=by show (4294967296:Int)*_=_;grind
   have e':Y*4294967296=b32*Y:=C3g _ _
   omega
  have hsp:=F1 b32 (us.drop j) (i:=mm+3) (by omega)
  rw [hzero,C3x,Int.add_zero] at hsp
  have hts:=F9 b32 (us.drop j) (mm+2)
  have hX:val b32 (us.drop j)=val b32 ((us.drop j).take (mm+2))+b32^(mm+2)*(us.drop j).getD (mm+2) 0:=by rw [hsp];exact hts
  have es:=B4q (B:=b32) (by decide) (us:=(us.drop j).take (mm+3)) (m:=mm) (dws.take _) dv (by rw [C3a,hwl];omega) hn hv1 (by rw [<- hsp,hY];exact hXB)
  have gt:∀ i,i<mm+3->((us.drop j).take (mm+3)).getD i 0=us.getD (j+i) 0:=by
   intro i hi
   rw [<- hgd];simp [C3h,hi]
  rw [gt (mm+2) (by omega),gt (mm+1) (by omega),gt mm (by omega),<- hsp,hY] at es
  refine ⟨fun l h'=>∃ us' q',l=[]/\h'=Y4 .u32 C4 g bu us' bq (qs.set j q')/\us'.length=N/\Dig b32 us'/\(0<=q'/\q'<4294967296)/\val b32 (us'.drop j)<Y/\val b32 (us'.drop j)=val b32 (us.drop j)-q'*Y/\us'.take j=us.take j,?_,?_⟩
  ·refine su.load hul.symm (by omega) (by omega) ?_
   refine su.load hul.symm (by omega) (by omega) ?_
   refine (sv.mono hle).load hn.symm (by omega) (by omega) ?_
   simp only [C35]
   have hv1':=Au dv (mm+1)
   have ew:C0 (vs.getD (mm+1) 0)=vs.getD (mm+1) 0:=C2 (by omega) (by omega)
   refine B6 (fun e=>absurd (ew.symm.trans e) (by omega)) (fun _=>?_)
   refine (sv.mono hle).load hn.symm (by omega) (by omega) ?_
   simp only [C35]
   refine B6 (fun e=>absurd (ew.symm.trans e) (by omega)) (fun _=>?_)
   refine ⟨fun l h'=>∃ q,l=[U q]/\h'=Y4 .u32 C4 g bu us bq qs/\0<=q/\q<=4294967296/\val b32 (us.drop j)<(q+1)*Y/\(q-1)*Y<=val b32 (us.drop j),?_,?_⟩
   ·have:=B2x (us:=us) (vs:=vs) (n:=mm+2) (j:=j) (J:=fun l h'=>∃ q,l=[U q]/\h'=Y4 .u32 C4 g bu us bq qs/\0<=q/\q<=4294967296/\val b32 (us.drop j)<(q+1)*Y/\(q-1)*Y<=val b32 (us.drop j)) es (sv.mono hle) su hn.symm (by omega) (by omega) (by omega) rfl rfl (by rw [show j+(mm+2)-2=j+mm by omega]) (Au hdu (j+(mm+2))) (Au hdu (j+(mm+1))) rfl (fun q q0 q1 q2 q3=>⟨q,rfl,rfl,q0,q1,q2,q3⟩)
    rw [hul] at this
    exact this
   ·rintro q hp14 ⟨q',hl1,rfl,hq0,hq1,hqlt,hqge⟩
    obtain rfl:q=q':=by simpa using hl1
    unfold Vw
    have hpre:(us.take j).length=j:=by rw [C3a,hul];omega
    have:=A64 (g:=g) (bu:=bu) (bq:=bq) (pre:=us.take j) (qs:=qs) (VA:=VA) (vs:=vs) (n:=mm+2) (N:=N) (nq:=nq) (ws:=us.drop j) (q:=q) (X:=val b32 (us.drop j)) (Y:=Y)
     (J:=fun l h'=>∃ us' q',l=[]/\h'=Y4 .u32 C4 g bu us' bq (qs.set j q')/\us'.length=N/\Dig b32 us'/\(0<=q'/\q'<4294967296)/\val b32 (us'.drop j)<Y/\val b32 (us'.drop j)=val b32 (us.drop j)-q'*Y/\us'.take j=us.take j)
     hu hq hne sv dv hn.symm dws (by rw [C3u,hul]) (by omega) hbig hql.symm (by omega) hX hY.symm hq0 hq1 hqlt hqge hXB ?_
    ·rw [C3u,hpre] at this
     exact this
    ·intro ws' q' w1 w2 w3 w4 w5 w6 w7 w8 w9
     refine ⟨us.take j++ws',q',rfl,by rw [hpre],by rw [C3c,w1,hwl,hpre];omega,Dig.append (hdu.take j) w2,⟨w8,w9⟩,?_,?_,?_⟩
     all_goals first|(rw [List.drop_left' hpre])|(rw [List.take_left' hpre])
     all_goals
      have z1:=F1 b32 ws' (i:=mm+3) (by omega)
      rw [w3,hzero,F9,w4,w5] at z1
      simp at z1
      omega
  ·rintro hp23 ⟨us',q',_,rfl,u1,u2,u3,u4,u5,u6⟩
   unfold Vx
   have ej1:B5 ((j:Int)-1)=(j:Int)-1:=B7 (by omega) (by omega)
   rw [ej1]
   refine ⟨⟨j,us',qs.set j q',rfl,by omega,u1,by simpa using hql,u2,hdq.set u3,rfl,u4,?_⟩,by simp only [iAt,C39];omega⟩
   have hs1:=F1 b32 us' (i:=j) (by omega)
   have hs2:=F1 b32 us (i:=j) (by omega)
   rw [hv,S9 (by omega),hs1,hs2,u5,u6,C3i]
   simp only [val]
   grind
 ·have hk0:k=0:=by omega
  subst hk0
  simp at hlt hv
  have hb0:0<b:=by
   by_cases hc:0<b
   ·exact hc
   ·have:=C34 (show b<=0 by omega) (C3d hp);omega
  have hus0:=C7 (by decide) hdu
  have hR:val b32 us=(a-val b32 qs*b)*2^s:=by
   rw [hua,hYb] at hv
   grind
  have hr0:0<=a-val b32 qs*b:=by
   by_cases hc:0<=a-val b32 qs*b
   ·exact hc
   ·have:=C34 (show a-val b32 qs*b <= -1 by omega) (C3d hp);omega
  have hr1:a-val b32 qs*b<b:=by
   by_cases hc:a-val b32 qs*b<b
   ·exact hc
   ·have:=C34 (show b<=a-val b32 qs*b by omega) (C3d hp);omega
  have hdiv:a/b=val b32 qs:=by
   have:a=(a-val b32 qs*b)+val b32 qs*b:=by omega
   rw [this,Int.add_mul_ediv_right _ _ (by omega),Int.ediv_eq_zero_of_lt hr0 hr1,Int.zero_add]
  have hmod:a%b=a-val b32 qs*b:=by
   have:=Int.emod_def a b
   rw [this,hdiv,C3g]
  rw [hdiv,hmod] at hK
  have hz:=Ca (B:=b32) (by decide) (n:=mm+2) hdu (by omega)
  have hspl:=F1 b32 us (i:=mm+2) (by omega)
  rw [hz,C3x,Int.add_zero] at hspl
  refine ⟨⟨by omega,by omega⟩,?_⟩
  rw [G9,C35,Nat.sub_zero,Nat.sub_zero]
  have hlt2:(us.take (mm+2)).length=mm+2:=by rw [C3a,hul];omega
  have st:SlI .u32 (Y4 .u32 C4 g bu us bq qs) (some ⟨bu,0,none⟩) (us.take (mm+2)):=by
   have:=su.cut (c:=N) (l:=0) (m:=mm+2) (by omega) (by omega) (by omega)
   simpa [G9] using this
  have tr:=Zr (K:=fun r7 hp24=>∃ (t259A:Option Addr) (t259n:Nat) (t259c:Nat),r7= .slice t259A t259n t259c/\Ia prog K (s:Int) (some ⟨bq,0,none⟩) nq nq t259A t259n t259c hp24) (ac:=N) st (by omega) (by omega) ?_
  ·rw [hlt2] at tr;exact tr
  ·intro m hm hnm hvm
   rw [hlt2] at hm
   rw [List.take_take,C3b hm] at hvm
   refine ⟨_,_,_,rfl,?_⟩
   have eus:us=us.take m++us.drop m:=(C3u m us).symm
   rw [eus]
   refine A7y (rs:=us.take m) (tl:=us.drop m) (qs:=qs) hu hq hne hs (by rw [C3a,hul];omega) (by omega) hql.symm (C3o _) hdq (hdu.take m) (by omega) (by omega) rfl ?_ hK
   rw [hvm,<- hspl,hR]
end
end Go.Proofs.YtajkakhfcokljaaGreatDoor
