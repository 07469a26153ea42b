/-
  Texts of this proof, merged by a program of ours.
-/
import Derived.Test.YtajkakhfcokljaaGreatDoorG12
import Derived.Test.YtajkakhfcokljaaGreatDoorG13
open Go.Proofs.Tryz
set_option linter.all false
open Int renaming toNat_natCast->C34
open List renaming take_of_length_le->C35,getD->C36,drop_eq_getElem_cons->C37
namespace Go.Proofs.YtajkakhfcokljaaGreatDoor
set_option maxRecDepth 20000
open Go
def blk(k:IntKind)(e:TypeId)(g:Heap)(b:Nat)(zs:List Int):Heap:=g.put b (.cells (zs.map (Value.int k)).toArray e)
theorem T0{k:IntKind}{e:TypeId}{g:Heap}{b:Nat}(hb:g b=none)(zs:List Int):g.le (blk k e g b zs):=Heap.le_put _ hb
theorem Bv(k:IntKind)(e:TypeId)(g:Heap)(b:Nat)(zs:List Int):SlI k (blk k e g b zs) (some ⟨b,0,none⟩) zs:=SlI.new g b zs e _
theorem J3{P:Program}{k:IntKind}{t e:TypeId}{bytes:Nat}(s:SliceT P t e (.int k 0) 1 bytes){n:Int}(h0:0<=n)(h2:n*bytes<=281474976710656)(h3:n<=9223372036854775807){K:VP}{h:Heap}
 (x:∀ b,h b=none->K (.slice (some ⟨b,0,none⟩) n.toNat n.toNat) (blk k e h b (List.replicate n.toNat 0))):wpH P (Instr.makeSlice t (I n) (I n)) K h:=by
 refine A8j s h0 (Int.le_refl n) h2 h3 ?_
 intro b hb
 have:=x b hb
 unfold blk at this
 rw [List.map_replicate] at this
 rw [show (Value.int k 0).cells=#[.int k 0] from rfl,A04]
 exact this
theorem P8{P:Program}{t:TypeId}(one:P.cellsOf t=1/\(P.info? t).isSome=true){k:IntKind}{n i:Int}{g:Heap}{b:Nat}{e:TypeId}{zs:List Int}(hi:i.toNat<zs.length){K:Unit->Heap->Prop}
 (x:K () (blk k e g b (zs.set i.toNat n))):wpH P (Instr.storeAt t (.pointer (some (Addr.add ⟨b,0,none⟩ (i.toNat*1)))) (.int k n)) K (blk k e g b zs):=by
 refine A7p one (by simpa using hi) ?_
 unfold blk at x
 rw [List.map_set] at x
 simpa using x
def Mag(k:IntKind)(B:Int)(h:Heap)(A:Option Addr)(len:Nat)(n:Int):Prop:=∃ xs:List Int,len=xs.length/\SlI k h A xs/\Dig B xs/\Norm xs/\val B xs=n
theorem Mag.mono{k:IntKind}{B:Int}{h h':Heap}(hl:h.le h'){A:Option Addr}{len:Nat}{n:Int}(m:Mag k B h A len n):Mag k B h' A len n:=by
 obtain ⟨xs,h1,h2,h3⟩:=m;exact ⟨xs,h1,h2.mono hl,h3⟩
theorem Mag.zero{k:IntKind}{B:Int}{h:Heap}{A:Option Addr}:Mag k B h A 0 0:=⟨[],rfl,SlI.nil,Dig.nil,Norm.nil,rfl⟩
theorem Mag.nonneg{k:IntKind}{B:Int}(hB:0<B){h:Heap}{A:Option Addr}{len:Nat}{n:Int}(m:Mag k B h A len n):0<=n:=by
 obtain ⟨xs,_,_,h3,_,rfl⟩:=m;exact C7 hB h3
theorem Mag.len_zero{k:IntKind}{B:Int}(hB:0<B){h:Heap}{A:Option Addr}{len:Nat}{n:Int}(m:Mag k B h A len n):n=0↔len=0:=by
 obtain ⟨xs,rfl,_,h3,h4,rfl⟩:=m;exact A23 hB h3 h4
theorem Mag.lt{k:IntKind}{B:Int}(hB:0<B){h:Heap}{A:Option Addr}{len:Nat}{n:Int}(m:Mag k B h A len n):n<B^len:=by
 obtain ⟨xs,rfl,_,h3,_,rfl⟩:=m;exact K6 hB h3
theorem Mag.ge{k:IntKind}{B:Int}(hB:0<B){h:Heap}{A:Option Addr}{len:Nat}{n:Int}(m:Mag k B h A len n)(hl:len≠0):B^(len-1)<=n:=by
 obtain ⟨xs,rfl,_,h3,h4,rfl⟩:=m;exact A7a hB h3 h4 hl
theorem Mag.len_le{k:IntKind}{B:Int}(hB:1<B){h:Heap}{A:Option Addr}{len:Nat}{n:Int}(m:Mag k B h A len n){j:Nat}(hn:n<B^j):len<=j:=by
 by_cases hl:len=0
 ·omega
 ·have h1:=m.ge (by omega) hl
  by_cases hj:len<=j
  ·exact hj
  ·have:=D0 (B:=B) (by omega) (show j<=len-1 by omega)
   omega
abbrev b32:Int:=4294967296
abbrev Mg(h:Heap)(A:Option Addr)(len:Nat)(n:Int):Prop:=Mag .u32 b32 h A len n
section
variable {h g:Heap} {K:VP} {A B:Option Addr} {ac bc:Nat}
theorem Zr{xs:List Int}(s:SlI .u32 h A xs)(hc:xs.length<=ac)(hl:xs.length<=1000000000)(hK:∀ m,m<=xs.length->Norm (xs.take m)->val b32 (xs.take m)=val b32 xs->K (.slice A m ac) h):FCall prog R4 #[.slice A xs.length ac] h K:=by
 refine B3k _ _ _ ?_
 unfold B9l
 refine ⟨fun l h'=>∃ m:Nat,l=[.slice A m ac]/\m<=xs.length/\h'=h/\val b32 (xs.take m)=val b32 xs,fun l _=>match l with|[.slice _ m _]=>m|_=>0,⟨xs.length,rfl,Nat.le_refl _,rfl,by rw [List.take_length]⟩,?_⟩
 rintro A1 n1 c1 hp ⟨m,hl1,hm,rfl,hv⟩
 obtain ⟨rfl,rfl,rfl⟩:A1=A/\n1=m/\c1=ac:=by simpa using hl1
 refine B6 (fun h1=>?_) (fun h1=>?_)
 ·obtain ⟨j,rfl⟩:∃ j,n1=j+1:=⟨n1-1,by omega⟩
  have e:B5 (((j+1:Nat):Int)-1)=(j:Int):=by rw [B7 (by omega) (by omega)];omega
  rw [e]
  obtain ⟨a,ha,hc1⟩:=SlV.at s (i:=j) (by simp;omega)
  have hv1:=N7 b32 (xs:=xs) (i:=j) (by omega)
  refine ⟨a,ha,by omega,by omega,xs.getD j 0,by rw [C34,Nat.mul_one,hc1];simp [C36,show j<xs.length by omega],?_⟩
  refine D9 (fun h2=>?_) (fun h2=>?_)
  ·refine ⟨⟨by omega,by omega⟩,⟨j,?_,by omega,rfl,?_⟩,?_⟩
   ·simp [G9]
   ·rw [h2] at hv1;omega
   ·simp
  ·refine hK (j+1) hm ?_ hv
   rw [Fn (by omega)];exact A0a h2
 ·have:n1=0:=by omega
  subst this
  exact hK 0 (by omega) Norm.nil hv
theorem V4{xs:List Int}(s:SlI .u32 h A xs)(hd:Dig b32 xs)(hc:xs.length<=ac)(hl:xs.length<=1000000000)(hK:∀ m,m<=xs.length->Mg h A m (val b32 xs)->K (.slice A m ac) h):FCall prog R4 #[.slice A xs.length ac] h K:=by
 refine Zr s hc hl ?_
 intro m hm hn hv
 refine hK m hm ⟨xs.take m,by simp;omega,?_,hd.take m,hn,hv⟩
 have:=s.cut (c:=ac) (l:=0) (m:=m) (by omega) hm hc
 simpa [G9] using this
theorem Si{x y:Int}{an bn:Nat}(ma:Mg h A an x)(mb:Mg h B bn y)(hl:an<=1000000000)(hK:K (I (if x<y then -1 else if x>y then 1 else 0)) h):FCall prog Kz #[.slice A an ac,.slice B bn bc] h K:=by
 obtain ⟨xs,rfl,sx,dx,nx,rfl⟩:=ma
 obtain ⟨ys,rfl,sy,dy,ny,rfl⟩:=mb
 refine A6t _ _ _ _ _ _ ?_
 unfold B10
 refine H1 (fun h1=>B6 (fun h2=>?_) (fun h2=>?_)) (fun h1=>?_)
 ·have:=Hj (by decide) dx dy ny (by omega)
  rw [if_pos this] at hK;exact hK
 ·have:=Hj (by decide) dy dx nx (by omega)
  rw [if_neg (by omega),if_pos (by omega)] at hK;exact hK
 ·have hlen:xs.length=ys.length:=by omega
  refine ⟨fun l h'=>∃ k:Nat,l=[I ((k:Int)-1)]/\k<=xs.length/\h'=h/\xs.drop k=ys.drop k,fun l _=>(iAt l 0+1).toNat,⟨xs.length,?_,Nat.le_refl _,rfl,?_⟩,?_⟩
  ·rw [B7 (by omega) (by omega)]
  ·rw [List.drop_length,hlen,List.drop_length]
  rintro i hp ⟨k,hl1,hk,rfl,hd⟩
  obtain rfl:i=(k:Int)-1:=by simpa using hl1
  refine B6 (fun h2=>?_) (fun h2=>?_)
  ·obtain ⟨j,rfl⟩:∃ j,k=j+1:=⟨k-1,by omega⟩
   have e:((j+1:Nat):Int)-1=(j:Int):=by omega
   rw [e]
   refine sx.load rfl (by omega) (by omega) ?_
   refine sy.load rfl (by omega) (by omega) ?_
   rw [C34]
   refine H1 (fun h3=>?_) (fun h3=>?_)
   ·refine sx.load rfl (by omega) (by omega) ?_
    refine sy.load rfl (by omega) (by omega) ?_
    rw [C34]
    refine B6 (fun h4=>?_) (fun h4=>?_)
    ·have:=Hi (by decide) dx dy (i:=j) (by omega) (by omega) hd h4
     rw [if_pos this] at hK;exact hK
    ·have:=Hi (by decide) dy dx (i:=j) (by omega) (by omega) hd.symm (by omega)
     rw [if_neg (by omega),if_pos (by omega)] at hK;exact hK
   ·rw [B7 (by omega) (by omega)]
    refine ⟨⟨j,rfl,by omega,rfl,?_⟩,by simp only [iAt,List.getElem?_cons_zero];omega⟩
    rw [C37 (show j<xs.length by omega),C37 (show j<ys.length by omega),hd]
    congr 1
    simpa [C36,show j<xs.length by omega,show j<ys.length by omega] using h3
  ·have hk0:k=0:=by omega
   subst hk0
   simp at hd
   subst hd
   rw [if_neg (by omega),if_neg (by omega)] at hK;exact hK
end
theorem C5(B:Int)(xs:List Int)(i:Nat):val B (xs.take (i+1))=val B (xs.take i)+B^i*xs.getD i 0:=by
 by_cases hi:i<xs.length
 ·exact N7 B hi
 ·rw [C35 (by omega),C35 (by omega)]
  simp [C36,List.getElem?_eq_none (Nat.le_of_not_lt hi)]
theorem Ts{c:Int}:Int.fdiv c (2^(min ((32:Int)).toNat 64))=c/4294967296:=by
 rw [show (2:Int)^(min ((32:Int)).toNat 64)=4294967296 by decide];exact Int.fdiv_eq_ediv_of_nonneg c (by decide)
theorem Au{xs:List Int}(d:Dig b32 xs)(i:Nat):0<=xs.getD i 0/\xs.getD i 0<4294967296:=d.getD (by decide) i
theorem A0d(c:Int):0<=c%4294967296/\c%4294967296<b32:=⟨Int.emod_nonneg _ (by decide),Int.emod_lt_of_pos _ (by decide)⟩
theorem A2c{xs:List Int}{i j:Nat}{v:Int}(h:i≠j):(xs.set i v).getD j 0=xs.getD j 0:=by
 simp [C36,List.getElem?_set_ne h]
theorem Az{B P v c:Int}:v+P*(c%B)+c/B*(P*B)=v+P*c:=by
 have:=Int.emod_add_mul_ediv c B
 grind
section
variable {h g:Heap} {K:VP} {A B:Option Addr} {ac bc:Nat}
theorem A3e{x y:Int}{an bn:Nat}(ma:Mg h A an x)(mb:Mg h B bn y)(hab:bn<=an)(hl:an<=100000000)(hK:∀ A' m c' h',h.le h'->m<=c'->Mg h' A' m (x+y)->K (.slice A' m c') h'):
 wpH prog (Instr.makeSlice A3w (I (B5 ((an:Int)+1))) (I (B5 ((an:Int)+1)))) (fun v hp1=>∃ (t18A:Option Addr) (t18n:Nat) (t18c:Nat),v= .slice t18A t18n t18c/\∃ (Invv:LP) (muv:LN),Invv [U (0:Int),I (0:Int)] hp1/\
 ∀ (c:Int) (i:Int),∀ hp2,Invv [U c,I i] hp2->Br (decide (i<((an:Nat):Int))) (∃ a2,A=some a2/\0<=i/\i<((an:Nat):Int)/\∃ (t29:Int),Heap.cell? hp2 (Addr.add a2 ((i).toNat*1))=some (U32 t29)/\∃ (Jv1:LP),(Br (decide (i<((bn:Nat):Int))) (∃ a3,B=some a3/\0<=i/\i<((bn:Nat):Int)/\∃ (t40:Int),Heap.cell? hp2 (Addr.add a3 ((i).toNat*1))=some (U32 t40)/\Jv1 [U (C0 ((C0 (c+(C0 t29)))+(C0 t40)))] hp2)
 (Jv1 [U (C0 (c+(C0 t29)))] hp2))/\
 ∀ (c1:Int),∀ hp3,Jv1 [U c1] hp3->∃ a4,t18A=some a4/\0<=i/\i<((t18n:Nat):Int)/\wpH prog (Instr.storeAt C4 (.pointer (some (Addr.add a4 ((i).toNat*1)))) (U32 (F4 c1))) (fun _ hp4=>Invv [U (Int.fdiv c1 (2^(min ((32:Int)).toNat 64))),I (B5 (i+(1:Int)))] hp4/\muv [U (Int.fdiv c1 (2^(min ((32:Int)).toNat 64))),I (B5 (i+(1:Int)))] hp4<muv [U c,I i] hp2) hp3)
 (∃ a5,t18A=some a5/\0<=((an:Nat):Int)/\((an:Nat):Int)<((t18n:Nat):Int)/\wpH prog (Instr.storeAt C4 (.pointer (some (Addr.add a5 ((((an:Nat):Int)).toNat*1)))) (U32 (F4 c))) (fun _ hp5=>FCall prog R4 #[.slice t18A t18n t18c] hp5 (fun r hp6=>∃ (t57A:Option Addr) (t57n:Nat) (t57c:Nat),r= .slice t57A t57n t57c/\K (.slice t57A t57n t57c) hp6)) hp2)) h:=by
 obtain ⟨xs,rfl,sx,dx,nx,rfl⟩:=ma
 obtain ⟨ys,rfl,sy,dy,ny,rfl⟩:=mb
 have e1:B5 ((xs.length:Int)+1)=(xs.length:Int)+1:=B7 (by omega) (by omega)
 rw [e1]
 refine J3 Mo (by omega) (by omega) (by omega) ?_
 intro b hb
 have e2:((xs.length:Int)+1).toNat=xs.length+1:=by omega
 rw [e2]
 refine ⟨_,_,_,rfl,?_⟩
 refine ⟨fun l h'=>∃ (k:Nat) (c:Int) (zs:List Int),l=[U c,I k]/\k<=xs.length/\zs.length=xs.length+1/\Dig b32 zs/\(0<=c/\c<=1)/\h'=blk .u32 C4 h b zs/\val b32 (zs.take k)+c*b32^k=val b32 (xs.take k)+val b32 (ys.take k),fun l _=>xs.length-(iAt l 1).toNat,⟨0,0,_,rfl,by omega,by simp,H0 (by decide) _,by omega,rfl,by simp [val]⟩,?_⟩
 rintro c i hp ⟨k,c',zs,hli,hk,hzl,hd,hc,rfl,hv⟩
 obtain ⟨rfl,rfl⟩:c=c'/\i=(k:Int):=by simpa using hli
 have hle:=T0 (k:=.u32) (e:=C4) hb zs
 refine B6 (fun h1=>?_) (fun h1=>?_)
 ·have gx:=Au dx k
  have gy:=Au dy k
  have vx:=C5 b32 xs k
  have vy:=C5 b32 ys k
  refine (sx.mono hle).load rfl (by omega) (by omega) ?_
  rw [C34]
  refine ⟨fun l h'=>l=[U (c+xs.getD k 0+ys.getD k 0)]/\h'=blk .u32 C4 h b zs,B6 (fun h2=>?_) (fun h2=>?_),?_⟩
  ·refine (sy.mono hle).load rfl (by omega) (by omega) ?_
   rw [C34]
   refine ⟨?_,rfl⟩
   rw [C2 (n:=xs.getD k 0) (by omega) (by omega),C2 (n:=ys.getD k 0) (by omega) (by omega),C2 (n:=c+xs.getD k 0) (by omega) (by omega),C2 (by omega) (by omega)]
  ·refine ⟨?_,rfl⟩
   have e0:ys.getD k 0=0:=by simp [C36,List.getElem?_eq_none (show ys.length<=k by omega)]
   rw [e0,C2 (n:=xs.getD k 0) (by omega) (by omega),C2 (by omega) (by omega)];simp
  ·rintro c1 hp3 ⟨hl1,rfl⟩
   obtain rfl:c1=c+xs.getD k 0+ys.getD k 0:=by simpa using hl1
   refine ⟨_,rfl,by omega,by omega,?_⟩
   refine P8 (k:=.u32) (zs:=zs) (i:=(k:Int)) J6 (by rw [C34];omega) ?_
   rw [C34,V1,Ts,B7 (n:=(k:Int)+1) (by omega) (by omega)]
   refine ⟨⟨k+1,_,zs.set k ((c+xs.getD k 0+ys.getD k 0)%4294967296),rfl,by omega,by simpa using hzl,hd.set (A0d _),by omega,rfl,?_⟩,by simp only [iAt,List.getElem?_cons_zero,List.getElem?_cons_succ];omega⟩
   rw [C9 (by omega),E9,List.length_take,Nat.min_eq_left (by omega),Int.pow_succ,Az,vx,vy]
   grind
 ·have hkk:k=xs.length:=by omega
  subst hkk
  refine ⟨_,rfl,by omega,by omega,?_⟩
  refine P8 J6 (by rw [C34];omega) ?_
  rw [C34,N5 (by omega) (by omega)]
  have hzl2:(zs.set xs.length c).length=xs.length+1:=by simpa using hzl
  have hval:val b32 (zs.set xs.length c)=val b32 xs+val b32 ys:=by
   have e3:zs.set xs.length c=zs.take xs.length++[c]:=by
    rw [<- C9 (by omega),C35 (by rw [hzl2];omega)]
   rw [e3,E9,List.length_take,Nat.min_eq_left (by omega)]
   rw [List.take_length,C35 (show ys.length<=xs.length by omega)] at hv
   grind
  rw [<- hzl2]
  refine V4 (Bv _ _ _ _ _) (hd.set ⟨by omega,by show c<4294967296;omega⟩) (Nat.le_refl _) (by rw [hzl2];omega) ?_
  intro m hm hM
  rw [hval] at hM
  exact ⟨_,_,_,rfl,hK _ _ _ _ (T0 hb _) hm hM⟩
theorem Sq{x y:Int}{an bn:Nat}(ma:Mg h A an x)(mb:Mg h B bn y)(hl:an<=100000000)(hl2:bn<=100000000)(hK:∀ A' m c' h',h.le h'->m<=c'->Mg h' A' m (x+y)->K (.slice A' m c') h'):FCall prog La #[.slice A an ac,.slice B bn bc] h K:=by
 refine A6u _ _ _ _ _ _ ?_
 unfold B11
 refine ⟨fun l h'=>h'=h/\∃ (A1 B1:Option Addr) (n1 n2 c1 c2:Nat) (x1 y1:Int),l=[.slice A1 n1 c1,.slice B1 n2 c2]/\Mg h A1 n1 x1/\Mg h B1 n2 y1/\n2<=n1/\n1<=100000000/\x1+y1=x+y,B6 (fun h1=>?_) (fun h1=>?_),?_⟩
 ·exact ⟨rfl,_,_,_,_,_,_,y,x,rfl,mb,ma,by omega,hl2,Int.add_comm _ _⟩
 ·exact ⟨rfl,_,_,_,_,_,_,x,y,rfl,ma,mb,by omega,hl,rfl⟩
 ·rintro A1 n1 c1 B1 n2 c2 hp ⟨rfl,A1',B1',n1',n2',c1',c2',x1,y1,hli,m1,m2,hn,hn1,hxy⟩
  obtain ⟨⟨rfl,rfl,rfl⟩,rfl,rfl,rfl⟩:(A1=A1'/\n1=n1'/\c1=c1')/\B1=B1'/\n2=n2'/\c2=c2':=by simpa using hli
  rw [<- hxy] at hK
  exact A3e m1 m2 hn hn1 hK
end
end Go.Proofs.YtajkakhfcokljaaGreatDoor
