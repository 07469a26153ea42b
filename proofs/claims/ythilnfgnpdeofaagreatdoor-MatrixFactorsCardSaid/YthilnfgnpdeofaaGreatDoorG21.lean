/-
  Texts of this proof, merged by a program of ours.
-/
import Derived.Test.YthilnfgnpdeofaaGreatDoorG08
import Derived.Test.YthilnfgnpdeofaaGreatDoorG20
import Derived.Test.YthilnfgnpdeofaaGreatDoorRows
import Derived.Below
import Derived.ChangeSame
import Derived.WideShapes
import Derived.LaidLaws
import Derived.Lib.LaidTab
import Derived.Orders
import Derived.Test.YthilnfgnpdeofaaGreatDoorG17
namespace Go.Proofs.YthilnfgnpdeofaaGreatDoor
set_option maxRecDepth 20000
open Go
abbrev dgt(c:UInt8):Bool:=decide (I5 c)
theorem Ip(l:List UInt8):∀ c∈l.takeWhile dgt,I5 c:=by
 induction l with
 | nil=>simp
 | cons d r ih=>
  intro c hc
  by_cases hd:I5 d
  ·simp [hd] at hc
   rcases hc with rfl|hc
   ·exact hd
   ·exact ih c hc
  ·simp [hd] at hc
def A8c(l:List UInt8):Bool:=decide ([45] <+: l)
def Bv(l:List UInt8):List UInt8:=if [45] <+: l then l.drop 1 else l
theorem A17(l:List UInt8):l=(if A8c l then [45] else [])++Bv l:=by
 unfold A8c Bv
 by_cases h:[45] <+: l
 ·obtain ⟨t,rfl⟩:=h;simp
 ·simp [h]
theorem A4n(l:List UInt8):A8c l=(l.head? == some 45):=by
 unfold A8c
 cases l with
 | nil=>simp
 | cons c r=>
  rw [List.head?_cons,Bool.eq_iff_iff,decide_eq_true_iff,beq_iff_eq,Option.some.injEq]
  constructor
  ·rintro ⟨t,e⟩;simp at e;exact e.1.symm
  ·rintro rfl;exact ⟨r,rfl⟩
theorem Form.parts{l:List UInt8}{neg:Bool}{a b:List UInt8}(f:Form l neg a b):neg=A8c l/\a=(Bv l).takeWhile dgt/\(if b=[] then [] else 47::b)=(Bv l).dropWhile dgt:=by
 have hn:neg=A8c l:=by rw [A4n];exact f.head
 have e:=A17 l
 rw [<- hn] at e
 have e2:=e.symm.trans f.eq
 rw [List.append_assoc] at e2
 have e3:=List.append_cancel_left e2
 have hr:∀ c,(if b=[] then [] else 47::b:List UInt8).head? = some c->¬ I5 c:=by
  intro c hc
  split at hc
  ·simp at hc
  ·simp at hc;subst hc;decide
 have:=Cr f.da hr
 rw [<- e3] at this
 exact ⟨hn,this.1.symm,this.2.symm⟩
section
variable {h g:Heap} {K:Value->Heap->Prop} {l:List UInt8}
theorem Gv(hl:l.length<=1000000000)(hK:K (.tuple #[.string (bs (l.takeWhile dgt)),.string (bs (l.dropWhile dgt))]) h):FCall Tryz.prog U6 #[.string (bs l)] h K:=by
 refine Vf _ ?_
 unfold Sr
 simp only [P5]
 refine ⟨fun L hp=>L=[I (((l.takeWhile dgt).length:Nat):Int)]/\hp=h,?_,?_⟩
 ·refine ⟨fun L hp=>∃ k:Nat,L=[I k]/\hp=h/\k<=l.length/\(∀ c∈l.take k,I5 c),fun L _=>l.length-(iAt L 0).toNat,⟨0,rfl,rfl,by omega,by simp⟩,?_⟩
  rintro n hp ⟨k,hL,rfl,hk,hd⟩
  obtain rfl:n=(k:Int):=by simpa using hL
  have stop:(∀ c,(l.drop k).head? = some c->¬ I5 c)->[I (k:Int)]=[I (((l.takeWhile dgt).length:Nat):Int)]/\hp=hp:=by
   intro hs
   have:=Cr hd hs
   rw [List.take_append_drop] at this
   refine ⟨?_,rfl⟩
   rw [this.1,List.length_take,Nat.min_eq_left hk]
  refine B7 (fun h1=>?_) (fun h1=>?_)
  ·have hkl:k<l.length:=by omega
   have hget:(bs l)[(k:Int).toNat]? = some l[k]:=by rw [Int.toNat_natCast,Sn,List.getElem?_eq_getElem hkl]
   have hh:(l.drop k).head? = some l[k]:=by rw [List.head?_drop,List.getElem?_eq_getElem hkl]
   refine ⟨l[k],⟨by omega,hget⟩,B7 (fun h2=>?_) (fun h2=>?_)⟩
   ·refine ⟨l[k],⟨by omega,hget⟩,B7 (fun h3=>?_) (fun h3=>?_)⟩
    ·rw [B6 (by omega) (by omega)]
     refine ⟨⟨k+1,rfl,rfl,by omega,?_⟩,by simp only [iAt,List.getElem?_cons_zero];omega⟩
     rw [List.take_succ_eq_append_getElem hkl]
     intro c hc
     rcases List.mem_append.1 hc with h4|h4
     ·exact hd c h4
     ·rw [List.mem_singleton.1 h4];exact ⟨by omega,by omega⟩
    ·exact stop (fun c hc=>by rw [hh] at hc;cases hc;intro hd;exact h3 (by have:=hd.2;omega))
   ·exact stop (fun c hc=>by rw [hh] at hc;cases hc;intro hd;exact h2 (by have:=hd.1;omega))
  ·exact stop (fun c hc=>by rw [List.drop_of_length_le (by omega)] at hc;cases hc)
 ·rintro n hp ⟨hL,rfl⟩
  obtain rfl:n=(((l.takeWhile dgt).length:Nat):Int):=by simpa using hL
  have hle:(l.takeWhile dgt).length<=l.length:=(List.takeWhile_sublist _).length_le
  have e1:l.take (l.takeWhile dgt).length=l.takeWhile dgt:=by
   conv=>lhs;rw [<- List.takeWhile_append_dropWhile (p:=dgt) (l:=l)]
   rw [List.takeWhile_append_dropWhile,List.prefix_iff_eq_take.1 (List.takeWhile_prefix _)]
   rw [List.length_take,Nat.min_eq_left hle]
  have e2:l.drop (l.takeWhile dgt).length=l.dropWhile dgt:=by
   have h5:l.takeWhile dgt++l.drop (l.takeWhile dgt).length=l.takeWhile dgt++l.dropWhile dgt:=by
    rw [List.takeWhile_append_dropWhile]
    conv=>lhs;lhs;rw [<- e1]
    exact List.take_append_drop _ _
   exact List.append_cancel_left h5
  refine ⟨⟨by omega,by omega⟩,⟨by omega,by omega⟩,?_⟩
  rw [Int.toNat_natCast,P0,P0,List.drop_zero,Nat.sub_zero,e1,e2,List.take_of_length_le (by rw [<- e2,List.length_drop];omega)]
  exact hK
theorem T1(a:List UInt8):((bs a).toList==({ data:=#[] }:ByteArray).toList)=decide (a=[]):=Pu a []
theorem Ko(hl:l.length<=1000000000)(hK1:∀ neg a b,Form l neg a b->K (.tuple #[.agg #[.bool neg,.string (bs a),.string (bs b)],.bool true]) h)(hK0:(∀ neg a b,¬ Form l neg a b)->∀ neg a b,K (.tuple #[.agg #[.bool neg,.string (bs a),.string (bs b)],.bool false]) h):FCall Tryz.prog Jo #[.string (bs l)] h K:=by
 refine A6n _ ?_
 unfold B0i
 refine Re (q:=[45]) ⟨_,_,rfl,?_⟩
 have hpl:(Bv l).length<=l.length:=by unfold Bv;split<;>simp
 show FCall Tryz.prog U6 #[.string (bs (Bv l))] h _
 refine Gv (by omega) ⟨_,_,rfl,?_⟩
 show Br _ _ _
 have hspl:Bv l=(Bv l).takeWhile dgt++(Bv l).dropWhile dgt:=List.takeWhile_append_dropWhile.symm
 have hda:∀ c∈(Bv l).takeWhile dgt,I5 c:=Ip _
 have hfp:∀ neg a b,Form l neg a b->neg=A8c l/\a=(Bv l).takeWhile dgt/\(if b=[] then [] else 47::b)=(Bv l).dropWhile dgt:=fun neg a b f=>f.parts
 have hl2:=A17 l
 have hal:((Bv l).takeWhile dgt).length<=l.length:=Nat.le_trans (List.takeWhile_sublist _).length_le hpl
 have hrl:((Bv l).dropWhile dgt).length<=l.length:=Nat.le_trans (List.dropWhile_sublist _).length_le hpl
 have hrh:∀ c,((Bv l).dropWhile dgt).head? = some c->¬ I5 c:=fun c hc=>by
  have:=List.head?_dropWhile_not dgt (Bv l)
  rw [hc] at this
  simpa using this
 show Br _ _ _
 have hneg:decide ([45] <+: l)=A8c l:=rfl
 rw [hneg]
 generalize A8c l=neg at *
 generalize (Bv l).takeWhile dgt=a at *
 generalize (Bv l).dropWhile dgt=r at *
 generalize Bv l=t at *
 subst hspl
 have e48:((bs a).toList==({ data:=#[48] }:ByteArray).toList)=decide (a=[48]):=Pu a [48]
 rw [e48,T1,T1]
 refine B7 (fun h1=>?_) (fun h1=>?_)
 ·subst h1
  refine Cj (Br.of (fun hn=>?_) (fun hn=>?_))
  ·subst hn
   refine hK0 ?_ _ _ []
   intro n' a' b' f
   obtain ⟨rfl,rfl,_⟩:=hfp _ _ _ f
   rcases f.ha with h2|h2
   ·exact h2 rfl
   ·cases h2.2.1
  ·subst hn
   by_cases hr:r=[]
   ·rw [decide_eq_true hr]
    subst hr
    refine hK1 false [48] [] ⟨by simpa using hl2,by simpa using hda,by simp,by simp,.inr ⟨rfl,rfl,rfl⟩,by simp,by simp⟩
   ·rw [decide_eq_false hr]
    refine hK0 ?_ _ _ []
    intro n' a' b' f
    obtain ⟨rfl,rfl,h3⟩:=hfp _ _ _ f
    rcases f.ha with h2|h2
    ·exact h2 rfl
    ·rw [h2.2.2] at h3;exact hr (by simpa using h3.symm)
 ·refine ⟨fun L hp=>L=[.bool (decide (a=[]\/a.head? = some 48))]/\hp=h,?_,?_⟩
  ·refine B7 (fun h2=>⟨by simp [h2],rfl⟩) (fun h2=>?_)
   obtain ⟨c,r2,rfl⟩:=List.exists_cons_of_ne_nil h2
   refine ⟨c,⟨by omega,by rw [Sn];rfl⟩,?_,rfl⟩
   congr 2
   rw [Bool.eq_iff_iff,beq_iff_eq,decide_eq_true_iff]
   simp only [reduceCtorEq,false_or,List.head?_cons,Option.some.injEq]
   constructor
   ·intro e;apply UInt8.toNat_inj.1;show c.toNat=48;omega
   ·rintro rfl;rfl
  rintro t31 hp ⟨hL,rfl⟩
  obtain rfl:t31=decide (a=[]\/a.head? = some 48):=by simpa using hL
  refine B7 (fun h2=>?_) (fun h2=>?_)
  ·refine hK0 ?_ _ _ []
   intro n' a' b' f
   obtain ⟨rfl,rfl,_⟩:=hfp _ _ _ f
   rcases h2 with h2|h2
   ·exact f.ne h2
   ·rcases f.ha with h3|h3
    ·exact h3 h2
    ·exact h1 h3.1
  ·have hane:a≠[]:=fun e=>h2 (.inl e)
   have hah:a.head? ≠ some 48:=fun e=>h2 (.inr e)
   refine B7 (fun h3=>?_) (fun h3=>?_)
   ·subst h3
    exact hK1 neg a [] ⟨by simpa using hl2,hda,by simp,hane,.inl hah,by simp,by simp⟩
   ·obtain ⟨c,r2,rfl⟩:=List.exists_cons_of_ne_nil h3
    refine ⟨c,⟨by omega,by rw [Sn];rfl⟩,K7 (fun h4=>?_) (fun h4=>?_)⟩
    ·refine hK0 ?_ _ _ []
     intro n' a' b' f
     obtain ⟨rfl,rfl,h5⟩:=hfp _ _ _ f
     by_cases hb:b'=[]
     ·simp [hb] at h5
     ·rw [if_neg hb] at h5
      simp at h5
      exact h4 (by rw [<- h5.1];rfl)
    ·have hc:c=47:=by apply UInt8.toNat_inj.1;show c.toNat=47;omega
     subst hc
     refine ⟨⟨by omega,by rw [P5];simp;omega⟩,?_⟩
     rw [P0,show ((1:Int)).toNat=1 from rfl,P5,List.take_of_length_le (by simp),List.drop_succ_cons,List.drop_zero]
     refine Gv (by simp at hrl;omega) ⟨_,_,rfl,?_⟩
     have hsp2:r2=r2.takeWhile dgt++r2.dropWhile dgt:=List.takeWhile_append_dropWhile.symm
     have hdb:∀ c∈r2.takeWhile dgt,I5 c:=Ip _
     have hbp:∀ b':List UInt8,(∀ c∈b',I5 c)->b'=r2->r2.takeWhile dgt=b'/\r2.dropWhile dgt=[]:=by
      intro b' hd e
      subst e
      have:=Cr (r:=[]) hd (by simp)
      simpa using this
     generalize r2.takeWhile dgt=b at *
     generalize r2.dropWhile dgt=s at *
     have no:(s≠[]\/b=[]\/b.head? = some 48\/b=[49])->∀ neg' a' b',¬ Form (((if neg=true then [45] else [])++(a++47::r2))) neg' a' b':=by
      rintro hbad n' a' b' f
      rw [<- hl2] at f
      obtain ⟨rfl,rfl,h5⟩:=hfp _ _ _ f
      by_cases hb:b'=[]
      ·simp [hb] at h5
      ·rw [if_neg hb] at h5
       simp at h5
       obtain ⟨e6,e7⟩:=hbp b' f.db h5
       subst e6
       rcases hbad with h6|h6|h6|h6
       ·exact h6 e7
       ·exact hb h6
       ·exact f.hb h6
       ·exact f.b1 h6
     rw [T1,T1]
     have e49:((bs b).toList==({ data:=#[49] }:ByteArray).toList)=decide (b=[49]):=Pu b [49]
     rw [e49]
     refine B7 (fun h6=>?_) (fun h6=>hK0 (by rw [hl2];exact no (.inl h6)) _ _ _)
     subst h6
     rw [List.append_nil] at hsp2
     subst hsp2
     refine Cj (B7 (fun h7=>hK0 (by rw [hl2];exact no (.inr (.inl h7))) _ _ _) (fun h7=>?_))
     obtain ⟨c,r3,rfl⟩:=List.exists_cons_of_ne_nil h7
     refine ⟨c,⟨by omega,by rw [Sn];rfl⟩,K7 (fun h8=>?_) (fun h8=>?_)⟩
     ·by_cases h9:c::r3=[49]
      ·rw [decide_eq_true h9]
       exact hK0 (by rw [hl2];exact no (.inr (.inr (.inr h9)))) _ _ _
      ·rw [decide_eq_false h9]
       refine hK1 neg a (c::r3) ⟨by simpa using hl2,hda,hdb,hane,.inl hah,?_,h9⟩
       intro e;simp at e;exact h8 (by rw [e];rfl)
     ·have hh:(c::r3).head? = some 48:=by
       simp only [List.head?_cons,Option.some.injEq]
       apply UInt8.toNat_inj.1;show c.toNat=48;omega
      exact hK0 (by rw [hl2];exact no (.inr (.inr (.inl hh)))) _ _ _
end
theorem A7n{q:Rat}(h:q.den=1):N2 q=Oh q.num:=by unfold N2;rw [if_pos h,List.append_nil]
theorem A41{q:Rat}(h:q.den≠1):N2 q=Oh q.num++[47]++Oh (q.den:Int):=by
 unfold N2;rw [if_neg h,Nl (i:=(q.den:Int)) (by omega),Int.natAbs_natCast];simp
section
variable {h g:Heap} {K:Value->Heap->Prop} {l:List UInt8}
theorem B5p{k:Nat}(h:k<=18):10^k<=1000000000000000000:=Nat.le_trans (Nat.pow_le_pow_right (by decide) h) (by decide)
theorem Dq(hd:∀ c∈l,I5 c)(hl:l.length<=18)(hK:K (I (N8 l:Int)) h):FCall Tryz.prog T9 #[.string (bs l)] h K:=by
 refine Qn _ ?_
 unfold Mm
 simp only [P5]
 refine ⟨fun L hp=>∃ k:Nat,L=[I (N8 (l.take k):Int),I k]/\hp=h/\k<=l.length,fun L _=>l.length-(iAt L 1).toNat,⟨0,rfl,rfl,by omega⟩,?_⟩
 rintro n t7 hp ⟨k,hL,rfl,hk⟩
 simp only [List.cons.injEq,Value.int.injEq,and_true,true_and] at hL
 obtain ⟨rfl,rfl⟩:=hL
 refine B7 (fun h1=>?_) (fun h1=>?_)
 ·have hkl:k<l.length:=by omega
  have hdc:=hd l[k] (List.getElem_mem hkl)
  have hlt:=Hv (l:=l.take (k+1)) (fun c hc=>hd c (List.mem_of_mem_take hc))
  rw [List.length_take,Nat.min_eq_left (by omega)] at hlt
  have ht:=B5p (k:=k+1) (by omega)
  have hs:N8 (l.take (k+1))=10*N8 (l.take k)+(l[k].toNat-48):=by rw [List.take_succ_eq_append_getElem hkl,Jr]
  unfold I5 at hdc
  refine ⟨l[k],⟨by omega,by rw [Int.toNat_natCast,Sn,List.getElem?_eq_getElem hkl]⟩,?_⟩
  have e:B4 (B4 (10*((N8 (l.take k):Nat):Int))+B4 (wu8 (((l[k].toNat:Nat):Int)-48)))=((N8 (l.take (k+1)):Nat):Int):=by
   rw [A0u (by omega) (by omega),B6 (n:=((l[k].toNat:Nat):Int)-48) (by omega) (by omega),B6 (n:=10*((N8 (l.take k):Nat):Int)) (by omega) (by omega),B6 (by omega) (by omega)]
   omega
  rw [e,B6 (n:=(k:Int)+1) (by omega) (by omega)]
  exact ⟨⟨k+1,rfl,rfl,by omega⟩,by simp only [iAt,List.getElem?_cons_zero,List.getElem?_cons_succ];omega⟩
 ·obtain rfl:k=l.length:=by omega
  rw [List.take_length];exact hK
theorem A45{a b:Nat}(hK:K (I (Nat.gcd a b:Int)) h):FCall Tryz.prog A5e #[I (a:Int),I (b:Int)] h K:=by
 refine B2i _ _ ?_
 unfold B7h
 refine ⟨fun L hp=>∃ x y:Nat,L=[I x,I y]/\hp=h/\Nat.gcd x y=Nat.gcd a b,fun L _=>(iAt L 1).toNat,⟨a,b,rfl,rfl,rfl⟩,?_⟩
 rintro a1 b1 hp ⟨x,y,hL,rfl,hg⟩
 obtain ⟨rfl,rfl⟩:a1=(x:Int)/\b1=(y:Int):=by simpa using hL
 refine K7 (fun h1=>?_) (fun h1=>?_)
 ·have hy:y≠0:=by omega
  refine B7 (fun e=>absurd e h1) (fun _=>?_)
  have e:Int.tmod (x:Int) (y:Int)=((x%y:Nat):Int):=(Int.ofNat_tmod x y).symm
  rw [e]
  have hlt:=Nat.mod_lt x (Nat.pos_of_ne_zero hy)
  refine ⟨⟨y,x%y,rfl,rfl,?_⟩,by simp only [iAt,List.getElem?_cons_zero,List.getElem?_cons_succ];omega⟩
  rw [<- hg,Nat.gcd_comm x y,Nat.gcd_rec y x,Nat.gcd_comm]
 ·obtain rfl:y=0:=by omega
  rw [Nat.gcd_zero_right] at hg
  rw [hg];exact hK
theorem Ra(hK1:∀ q,l=N2 q->q.num.natAbs<1000000000->q.den<1000000000->K (.tuple #[.agg #[I q.num,I (q.den:Int)],.bool true]) h)(hK0:K (.tuple #[.agg #[I 0,I 0],.bool false]) h):FCall Tryz.prog Eu #[.string (bs l)] h K:=by
 refine Ve _ ?_
 unfold Sq
 rw [P5]
 refine B7 (fun _=>hK0) (fun h1=>?_)
 refine Ko (by omega) ?_ ?_
 ·intro neg a b f
  refine ⟨_,_,_,_,rfl,?_⟩
  simp only [P5]
  refine ⟨fun L hp=>L=[.bool (decide (a.length>9\/b.length>9))]/\hp=h,Br.of (fun e=>by cases e) (fun _=>B7 (fun h2=>⟨?_,rfl⟩) (fun h2=>⟨?_,rfl⟩)),?_⟩
  ·rw [decide_eq_true (show a.length>9\/b.length>9 by omega)]
  ·by_cases hb9:b.length>9
   ·rw [decide_eq_true (show a.length>9\/b.length>9 by omega)]
    exact congrArg (fun x=>[Value.bool x]) (decide_eq_true (show ((b.length:Nat):Int)>9 by omega))
   ·rw [decide_eq_false (show ¬ (a.length>9\/b.length>9) by omega)]
    exact congrArg (fun x=>[Value.bool x]) (decide_eq_false (show ¬ ((b.length:Nat):Int)>9 by omega))
  rintro t29 hp ⟨hL,rfl⟩
  obtain rfl:t29=decide (a.length>9\/b.length>9):=by simpa using hL
  refine B7 (fun _=>hK0) (fun h2=>?_)
  have habs:(Me neg a).natAbs=N8 a:=by unfold Me;split<;>simp
  have hva:=Hv f.da
  have hvb:=Hv f.db
  have h9:∀ k,k<=9->10^k<=1000000000:=fun k hk=>Nat.le_trans (Nat.pow_le_pow_right (by decide) hk) (by decide)
  have h9a:=h9 a.length (by omega)
  have h9b:=h9 b.length (by omega)
  refine Dq f.da (by omega) ⟨_,rfl,?_⟩
  refine ⟨fun L hp'=>L=[I 0,I 0,I (N8 a:Int),I (Ie b:Int)]/\hp'=hp/\Nat.gcd (N8 a) (Ie b)=1,?_,?_⟩
  ·rw [T1]
   refine Cj (B7 (fun h3=>?_) (fun h3=>?_))
   ·subst h3;exact ⟨rfl,rfl,by unfold Ie;simp⟩
   ·refine Dq f.db (by omega) ⟨_,rfl,A45 ⟨_,rfl,K7 (fun _=>hK0) (fun h4=>?_)⟩⟩
    have hfd:Ie b=N8 b:=by unfold Ie;rw [if_neg h3]
    rw [hfd]
    exact ⟨rfl,rfl,by omega⟩
  ·rintro t20 t21 x0 x1 hp5 ⟨hL5,rfl,hg⟩
   simp only [List.cons.injEq,Value.int.injEq,and_true,true_and] at hL5
   obtain ⟨_,_,rfl,rfl⟩:=hL5
   obtain ⟨q,hq⟩:=f.isNum.2 hg
   have hqf:=f.of_txt hq
   have hfd1:Ie b<1000000000:=by unfold Ie;split<;>omega
   refine ⟨fun L hp'=>L=[I q.num,I (q.den:Int)]/\hp'=hp5,Br.of (fun e=>?_) (fun e=>?_),?_⟩
   ·rw [hqf.1,hqf.2,e,B6 (by omega) (by omega)]
    exact ⟨by unfold Me;simp,rfl⟩
   ·rw [hqf.1,hqf.2,e]
    exact ⟨by unfold Me;simp,rfl⟩
   ·rintro y0 y1 hp6 ⟨hL6,rfl⟩
    simp only [List.cons.injEq,Value.int.injEq,and_true,true_and] at hL6
    obtain ⟨rfl,rfl⟩:=hL6
    exact hK1 q hq (by rw [hqf.1,habs];omega) (by rw [hqf.2];exact hfd1)
 ·intro hf neg a b
  refine ⟨_,_,_,_,rfl,?_⟩
  refine ⟨fun L hp=>L=[.bool true]/\hp=h,Cj ⟨rfl,rfl⟩,?_⟩
  rintro t29 hp ⟨hL,rfl⟩
  obtain rfl:t29=true:=by simpa using hL
  exact Br.of (fun _=>hK0) (fun e=>by cases e)
end
structure RQ (h:Heap) (w:QV) (q:Rat):Prop where
 num:ZI h w.s w.A w.n w.c q.num
 den:ZI h w.s2 w.A2 w.n2 w.c2 (if q.den=1 then 0 else (q.den:Int))
theorem ZB.gcd{m:Nat}{x y:Int}(hy:y≠0)(h:ZB m y):ZB m (Int.gcd x y:Int):=by
 refine h.le ?_
 rw [Int.natAbs_natCast]
 exact Nat.le_of_dvd (by omega) (Int.natAbs_dvd_natAbs.2 (Int.gcd_dvd_right x y))
section
variable {h h':Heap} {K:Value->Heap->Prop} {A B:Option Addr} {n c n' c':Nat} {s s':Bool} {x y z:Int} {m:Nat} {p q:Rat} {a b w:QV} {l:List UInt8}
theorem RQ.mono(hl:h.le h')(i:RQ h w q):RQ h' w q:=⟨i.num.mono hl,i.den.mono hl⟩
theorem RQ.whole(i:ZI h s A n c z):RQ h ⟨s,A,n,c,false,none,0,0⟩ (z:Rat):=⟨by simpa using i,by simpa using ZI.zero⟩
theorem RQ.zero:RQ h ⟨false,none,0,0,false,none,0,0⟩ 0:=⟨ZI.zero,ZI.zero⟩
theorem Gf(i:RQ h w q)(hK:K (.bool (decide (q.den=1))) h):FCall Tryz.prog G0 #[.agg #[.bool w.s2,.slice w.A2 w.n2 w.c2]] h K:=by
 refine F6 i.den ?_
 have:=q.den_nz
 have e:decide ((if q.den=1 then (0:Int) else (q.den:Int))=0)=decide (q.den=1):=by
  rw [decide_eq_decide];split<;>omega
 rw [e];exact hK
theorem Af(i:ZI h s A n c z)(j:ZI h s' B n' c' y)(h1:q.num=z)(h2:(q.den:Int)=y)(hK:∀ w,RQ h w q->K w.v h):FCall Tryz.prog Ak #[.agg #[.bool s,.slice A n c],.agg #[.bool s',.slice B n' c']] h K:=by
 subst h1 h2
 refine A3b _ _ _ _ _ _ _ _ ?_
 unfold A6p
 refine Q3 j ⟨_,rfl,B7 (fun e=>?_) (fun e=>?_)⟩
 ·exact hK ⟨s,A,n,c,false,none,0,0⟩ ⟨i,by rw [if_pos (by omega)];exact ZI.zero⟩
 ·exact hK ⟨s,A,n,c,s',B,n',c'⟩ ⟨i,by rw [if_neg (by omega)];exact j⟩
theorem Iy(i:RQ h w q)(hK:∀ s A n c h',h.le h'->ZI h' s A n c (q.den:Int)->K (.agg #[.bool s,.slice A n c]) h'):FCall Tryz.prog Si #[w.v] h K:=by
 refine B2n _ _ _ _ _ _ _ _ ?_
 unfold B7l
 refine Gf i ⟨_,rfl,B7 (fun e=>?_) (fun e=>?_)⟩
 ·refine Bn (by decide) (by decide) ?_
  intro s A n c h1 l1 i1
  exact ⟨_,_,_,_,rfl,hK _ _ _ _ _ l1 (by rw [e];exact i1)⟩
 ·have:=i.den
  rw [if_neg e] at this
  exact hK _ _ _ _ _ (B3 _) this
theorem Pt(gl:Gtz h)(i:ZI h s A n c x)(j:ZI h s' B n' c' y)(hx:ZB m x)(hy:ZB m y)(hm:m<=6400000000)(hy0:0<y)(hK:∀ s1 A1 n1 c1 s2 A2 n2 c2 h',h.le h'->ZI h' s1 A1 n1 c1 (x.tdiv (Int.gcd x y))->ZI h' s2 A2 n2 c2 (y.tdiv (Int.gcd x y))->K (.tuple #[.agg #[.bool s1,.slice A1 n1 c1],.agg #[.bool s2,.slice A2 n2 c2]]) h'):FCall Tryz.prog Jp #[.agg #[.bool s,.slice A n c],.agg #[.bool s',.slice B n' c']] h K:=by
 refine A3c _ _ _ _ _ _ _ _ ?_
 unfold A6q
 refine Q3 j ⟨_,rfl,B7 (fun e=>?_) (fun e=>?_)⟩
 ·subst e
  have hg:Int.gcd x 1=1:=by simp
  rw [hg] at hK
  exact hK _ _ _ _ _ _ _ _ _ (B3 _) (by simpa using i) (by simpa using j)
 ·refine Ea gl i j hx hy hm ?_
  intro A1 n1 c1 h1 l1 i1
  have hg:=Int.gcd_pos_of_ne_zero_right x (show y≠0 by omega)
  have hgb:ZB m (Int.gcd x y:Int):=ZB.gcd (by omega) hy
  refine ⟨_,_,_,_,rfl,Z9 (i.mono l1) i1 hx hgb hm (by omega) ?_⟩
  intro s2 A2 n2 c2 h2 l2 i2
  refine ⟨_,_,_,_,rfl,l2,Z9 (j.mono (A0 l1 l2)) (i1.mono l2) hy hgb hm (by omega) ?_⟩
  intro s3 A3 n3 c3 h3 l3 i3
  exact ⟨_,_,_,_,rfl,l3,hK _ _ _ _ _ _ _ _ _ (A0 l1 (A0 l2 l3)) (i2.mono l3) i3⟩
theorem A2f(i:RQ h w q)(hK:∀ w',RQ h w' (-q)->K w'.v h):FCall Tryz.prog A5f #[w.v] h K:=by
 refine B2k _ _ _ _ _ _ _ _ ?_
 unfold B7i
 refine Aa i.num ?_
 intro s' i'
 exact ⟨_,_,_,_,rfl,B3 _,hK ⟨s',w.A,w.n,w.c,w.s2,w.A2,w.n2,w.c2⟩ ⟨by simpa using i',by simpa using i.den⟩⟩
end
structure Gl (h:Heap):Prop where
 tz:Gtz h
 p10:Gp h
theorem Gl.mono{h h':Heap}(g:Gl h)(l:h.le h'):Gl h':=⟨g.tz.mono l,g.p10.mono l⟩
section
variable {h h':Heap} {K:Value->Heap->Prop} {A B:Option Addr} {n c n' c':Nat} {s s':Bool} {x y z:Int} {m:Nat} {p q:Rat} {a b w:QV} {l:List UInt8}
theorem Rz(gl:Gtz h)(i:RQ h a p)(j:RQ h b q)(hp:Sz m p)(hq:Sz m q)(hm:m<=6400000000)(hK:∀ w h',h.le h'->RQ h' w (p*q)->K w.v h'):FCall Tryz.prog A1g #[a.v,b.v] h K:=by
 have hpd:=p.den_nz
 have hqd:=q.den_nz
 refine B2l _ _ _ _ _ _ _ _ _ _ _ _ _ _ _ _ ?_
 unfold B7j
 refine ⟨fun L hp=>L=[.bool (decide (p.num=0\/q.num=0))]/\hp=h,F6 i.num ⟨_,rfl,B7 (fun e=>?_) (fun e=>?_)⟩,?_⟩
 ·exact ⟨by simp [e],rfl⟩
 ·exact F6 j.num ⟨_,rfl,by simp [e],rfl⟩
 rintro t16 hp2 ⟨hL,rfl⟩
 obtain rfl:t16=decide (p.num=0\/q.num=0):=by simpa using hL
 refine B7 (fun e=>?_) (fun e=>?_)
 ·have:p*q=0:=by
   rw [Rat.num_eq_zero,Rat.num_eq_zero] at e
   exact Rat.mul_eq_zero.2 e
  rw [this] at hK
  exact hK ⟨false,none,0,0,false,none,0,0⟩ _ (B3 _) RQ.zero
 ·refine ⟨fun L hp=>L=[.bool (decide (p.den=1/\q.den=1))]/\hp=hp2,Gf i ⟨_,rfl,B7 (fun e=>?_) (fun e=>?_)⟩,?_⟩
  ·exact Gf j ⟨_,rfl,by simp [e],rfl⟩
  ·exact ⟨by simp [e],rfl⟩
  rintro t25 hp5 ⟨hL,rfl⟩
  obtain rfl:t25=decide (p.den=1/\q.den=1):=by simpa using hL
  refine B7 (fun e=>?_) (fun e=>?_)
  ·refine Bo i.num j.num hp.num hq.num hm ?_
   intro s1 A1 n1 c1 h1 l1 i1
   refine ⟨_,_,_,_,rfl,hK ⟨s1,A1,n1,c1,false,none,0,0⟩ _ l1 ?_⟩
   have:=RQ.whole i1
   rw [Rat.intCast_mul,<- B05 e.1,<- B05 e.2] at this
   exact this
  ·have hpp:=A50 p q
   refine Iy j ?_
   intro s1 A1 n1 c1 h1 l1 jd
   refine ⟨_,_,_,_,rfl,l1,Pt (gl.mono l1) (i.num.mono l1) jd hp.num hq.den hm (by omega) ?_⟩
   intro s2 A2 n2 c2 s3 A3 n3 c3 h2 l2 i2 i3
   have l12:=A0 l1 l2
   refine ⟨_,_,_,_,_,_,_,_,rfl,l2,Iy (i.mono l12) ?_⟩
   intro s4 A4 n4 c4 h4 l4 idn
   refine ⟨_,_,_,_,rfl,l4,Pt (gl.mono (A0 l12 l4)) (j.num.mono (A0 l12 l4)) idn hq.num hp.den hm (by omega) ?_⟩
   intro s5 A5 n5 c5 s6 A6 n6 c6 h5 l5 i5 i6
   have e1:Int.gcd p.num (q.den:Int)=Nat.gcd p.num.natAbs q.den:=rfl
   have e2:Int.gcd q.num (p.den:Int)=Nat.gcd q.num.natAbs p.den:=rfl
   rw [e1] at i2 i3
   rw [e2] at i5 i6
   rw [<- Int.ofNat_tdiv] at i3 i6
   refine ⟨_,_,_,_,_,_,_,_,rfl,l5,Bo (i2.mono (A0 l4 l5)) i5 hp.num.tdiv hq.num.tdiv hm ?_⟩
   intro s7 A7 n7 c7 h7 l7 i7
   have b1:ZB m ((p.den/Nat.gcd q.num.natAbs p.den:Nat):Int):=hp.den.le (by rw [Int.natAbs_natCast,Int.natAbs_natCast];exact Nat.div_le_self _ _)
   have b2:ZB m ((q.den/Nat.gcd p.num.natAbs q.den:Nat):Int):=hq.den.le (by rw [Int.natAbs_natCast,Int.natAbs_natCast];exact Nat.div_le_self _ _)
   refine ⟨_,_,_,_,rfl,l7,Bo (i6.mono l7) (i3.mono (A0 l4 (A0 l5 l7))) b1 b2 hm ?_⟩
   intro s8 A8 n8 c8 h8 l8 i8
   refine ⟨_,_,_,_,rfl,l8,Af (q:=p*q) (i7.mono l8) i8 hpp.1 (by rw [hpp.2,Int.natCast_mul]) ?_⟩
   intro w iw
   exact ⟨_,_,_,_,_,_,_,_,rfl,B3 _,hK _ _ (A0 l12 (A0 l4 (A0 l5 (A0 l7 l8)))) iw⟩
theorem Tp(i:RQ h w q)(hK:∀ w h',h.le h'->RQ h' w q⁻¹->K w.v h'):FCall Tryz.prog Lc #[w.v] h K:=by
 have hqd:=q.den_nz
 refine A0o _ _ _ _ _ _ _ _ ?_
 unfold A1y
 refine Rr i.num ⟨_,rfl,E9 (fun e=>?_) (fun e=>?_)⟩
 ·have h0:q.num=0:=Int.sign_eq_zero_iff_zero.1 e
  have:q⁻¹=0:=by rw [Rat.num_eq_zero.1 h0];exact Rat.inv_zero
  rw [this] at hK
  exact hK ⟨false,none,0,0,false,none,0,0⟩ _ (B3 _) RQ.zero
 ·have h0:q.num≠0:=fun e0=>e (by rw [e0];rfl)
  refine E9 (fun e1=>?_) (fun e1=>?_)
  ·have hneg:q.num<0:=Int.sign_neg_iff.1 (by omega)
   refine Iy i ?_
   intro s1 A1 n1 c1 h1 l1 i1
   refine ⟨_,_,_,_,rfl,l1,Aa i1 ?_⟩
   intro s2 i2
   refine ⟨_,_,_,_,rfl,B3 _,Aa (i.num.mono l1) ?_⟩
   intro s3 i3
   refine ⟨_,_,_,_,rfl,B3 _,Af (q:=q⁻¹) i2 i3 ?_ ?_ ?_⟩
   ·rw [Rat.num_inv,e1];omega
   ·rw [Rat.den_inv,if_neg h0];omega
   ·intro w iw
    exact ⟨_,_,_,_,_,_,_,_,rfl,B3 _,hK _ _ l1 iw⟩
  ·have hpos:0<q.num:=by
    rcases Int.lt_trichotomy q.num 0 with h1|h1|h1
    ·exact absurd (Int.sign_eq_neg_one_of_neg h1) e1
    ·exact absurd h1 h0
    ·exact h1
   refine Iy i ?_
   intro s1 A1 n1 c1 h1 l1 i1
   refine ⟨_,_,_,_,rfl,l1,Af (q:=q⁻¹) i1 (i.num.mono l1) ?_ ?_ ?_⟩
   ·rw [Rat.num_inv,Int.sign_eq_one_of_pos hpos,Int.one_mul]
   ·rw [Rat.den_inv,if_neg h0];omega
   ·intro w iw
    exact ⟨_,_,_,_,_,_,_,_,rfl,B3 _,hK _ _ l1 iw⟩
theorem Kq(gl:Gtz h)(i:RQ h a p)(j:RQ h b q)(hp:Sz m p)(hq:Sz m q)(hm1:1<=m)(hm:m<=6400000000)(hK:∀ w h',h.le h'->RQ h' w (p/q)->K w.v h'):FCall Tryz.prog Xd #[a.v,b.v] h K:=by
 refine B2m _ _ _ _ _ _ _ _ _ _ _ _ _ _ _ _ ?_
 unfold B7k
 refine Tp j ?_
 intro w1 h1 l1 j1
 refine ⟨_,_,_,_,_,_,_,_,rfl,l1,Rz (gl.mono l1) (i.mono l1) j1 hp (hq.inv hm1) hm ?_⟩
 intro w2 h2 l2 i2
 rw [<- Rat.div_def] at i2
 exact ⟨_,_,_,_,_,_,_,_,rfl,l2,hK _ _ (A0 l1 l2) i2⟩
theorem Lf{t:List UInt8}{k:Nat}(h:∀ c∈t,I5 c)(hk:t.length<=k):ZB (4*k) (N8 t:Int):=by
 unfold ZB
 rw [Int.natAbs_natCast]
 exact Nat.lt_of_lt_of_le (A08 h) (Nat.pow_le_pow_right (by decide) (by omega))
theorem Form.lens{neg:Bool}{a b:List UInt8}(f:Form l neg a b):a.length<=l.length/\b.length<=l.length:=by
 have:=congrArg List.length f.eq
 simp only [List.length_append] at this
 by_cases hb:b=[]
 ·rw [if_pos hb] at this;subst hb;simp at this ⊢;omega
 ·rw [if_neg hb] at this;simp at this;omega
theorem A2h(gl:Gtz h)(hl:l.length<=100000000)(hK1:∀ q,l=N2 q->∀ w h',h.le h'->RQ h' w q->K (.tuple #[w.v,.bool true]) h')(hK0:¬ IsNum l->∀ (w:QV) h',h.le h'->RQ h' w 0->K (.tuple #[w.v,.bool false]) h'):FCall Tryz.prog A05 #[.string (bs l)] h K:=by
 refine A9d _ ?_
 unfold B4p
 refine Ko (by omega) ?_ ?_
 ·intro neg a b f
  refine ⟨_,_,_,_,rfl,Cj ?_⟩
  have hlen:=f.lens
  refine Ge f.da (by omega) ?_
  intro A1 n1 c1 h1 l1 i1
  refine ⟨_,_,_,_,rfl,?_⟩
  refine ⟨fun L hp=>∃ s2:Bool,L=[.bool s2,.slice A1 n1 c1,.bool false,.slice none 0 0]/\hp=h1/\ZI h1 s2 A1 n1 c1 (Me neg a),Br.of (fun e=>?_) (fun e=>?_),?_⟩
  ·refine Aa i1 ?_
   intro s2 i2
   exact ⟨_,_,_,_,rfl,s2,rfl,rfl,by unfold Me;rw [e];exact i2⟩
  ·exact ⟨false,rfl,rfl,by unfold Me;rw [e];exact i1⟩
  rintro x0 x1A x1n x1c x2 x3A x3n x3c hp3 ⟨s2,hL,rfl,i2⟩
  simp only [List.cons.injEq,Value.slice.injEq,Value.bool.injEq,and_true] at hL
  obtain ⟨rfl,⟨rfl,rfl,rfl⟩,rfl,rfl,rfl,rfl⟩:=hL
  have habs:(Me neg a).natAbs=N8 a:=by unfold Me;split<;>simp
  rw [T1]
  refine B7 (fun hb=>?_) (fun hb=>?_)
  ·subst hb
   obtain ⟨q,hq⟩:=f.isNum.2 (by unfold Ie;simp)
   obtain ⟨h2,h3⟩:=f.of_txt hq
   refine hK1 q hq ⟨x0,x1A,x1n,x1c,false,none,0,0⟩ _ l1 ⟨by rw [h2];exact i2,?_⟩
   rw [h3,show Ie []=1 from rfl,if_pos rfl];exact ZI.zero
  ·refine Ge f.db (by omega) ?_
   intro A4 n4 c4 h4 l4 i4
   have hnb:ZB (4*l.length) (Me neg a):=(Lf f.da (k:=l.length) (by omega)).le (by rw [habs,Int.natAbs_natCast];exact Nat.le_refl _)
   refine ⟨_,_,_,_,rfl,Ea (gl.mono (A0 l1 l4)) (i2.mono l4) i4 hnb (Lf f.db (k:=l.length) (by omega)) (by omega) ?_⟩
   intro A5 n5 c5 h5 l5 i5
   refine ⟨_,_,_,_,rfl,Q3 i5 ⟨_,rfl,?_⟩⟩
   have hfd:Ie b=N8 b:=by unfold Ie;rw [if_neg hb]
   have hgg:Int.gcd (Me neg a) (N8 b:Int)=Nat.gcd (N8 a) (Ie b):=by
    rw [hfd];show Nat.gcd (Me neg a).natAbs (N8 b)=_;rw [habs]
   rw [hgg]
   refine Cj (B7 (fun e1=>?_) (fun e1=>?_))
   ·obtain ⟨q,hq⟩:=f.isNum.2 (by omega)
    obtain ⟨h2,h3⟩:=f.of_txt hq
    have hd1:Ie b≠1:=by
     intro e2
     have h6:=Jt f.db hb (.inl f.hb)
     rw [<- hfd,e2] at h6
     apply f.b1
     rw [<- h6];simp [N7,Am,K6,dch]
    refine hK1 q hq ⟨x0,x1A,x1n,x1c,false,A4,n4,c4⟩ _ (A0 l1 (A0 l4 l5)) ⟨by rw [h2];exact i2.mono (A0 l4 l5),?_⟩
    rw [h3,if_neg hd1,hfd];exact i4.mono l5
   ·refine hK0 ?_ ⟨false,none,0,0,false,none,0,0⟩ _ (A0 l1 (A0 l4 l5)) RQ.zero
    intro hn
    exact e1 (by rw [f.isNum.1 hn];rfl)
 ·intro hf neg a b
  refine ⟨_,_,_,_,rfl,Cj ?_⟩
  refine hK0 ?_ ⟨false,none,0,0,false,none,0,0⟩ _ (B3 _) RQ.zero
  intro hn
  obtain ⟨neg',a',b',f⟩:=hn.form
  exact hf _ _ _ f
theorem Lu(gp:Gp h)(i:RQ h w q)(hq:Sz m q)(hm:m<=40000000)(hK:K (.string (bs (N2 q))) h):FCall Tryz.prog Jq #[w.v] h K:=by
 refine FCall.pure (A3d _ _ _ _ _ _ _ _ ?_)
 unfold A6t
 refine Gf i ⟨_,rfl,B7 (fun e=>?_) (fun e=>?_)⟩
 ·rw [A7n e] at hK
  refine Yu i.num (fun h1 h2=>?_) (fun h1=>?_)
  ·refine ⟨_,_,rfl,Br.of (fun _=>A0n _ ?_) (fun e=>by cases e)⟩
   unfold A1x
   exact Rd gp h1 h2 ⟨_,rfl,_,rfl,B3 _,hK⟩
  ·refine ⟨_,_,rfl,Br.of (fun e=>by cases e) (fun _=>?_)⟩
   exact Vq gp i.num hq.num (by omega) ⟨_,rfl,B3 _,hK⟩
 ·rw [A41 e] at hK
  have idn:=i.den
  rw [if_neg e] at idn
  refine Ec (l:=[]) (eT:=G1) gp (Priv.nil _ _ _ _) i.num hq.num (by omega) (by omega) ?_
  intro A1 n1 c1 e1 g1 h1 x1
  refine ⟨_,_,_,rfl,?_⟩
  have hl1:(Oh q.num).length<=50000000:=by
   unfold Oh
   have:=Hx hq.num
   split<;>simp<;>omega
  have hx1:=x1.len
  refine Iz (ch:=47) rfl x1.priv (by omega) ?_
  intro A2 n2 c2 e2 g2 h2 x2
  have x12:=x1.trans x2
  have hx2:=x12.len
  rw [List.length_append,List.length_singleton] at hx2
  refine Ec (gp.mono x12.le) x2.priv (idn.mono x12.le) hq.den (by omega) (by omega) ?_
  intro A3 n3 c3 e3 g3 h3 x3
  refine ⟨_,_,_,rfl,?_⟩
  rw [List.append_assoc] at x3
  have x123:=x12.trans x3
  have hx3:=x123.len
  refine Nm Gt.und Ef Z6 x123.priv.slV (by simpa using hx3) ⟨_,rfl,?_⟩
  refine ⟨A0 x123.le x123.priv.le,?_⟩
  simpa using hK
end
structure Tx (m:Nat) (l:List UInt8):Prop where
 len:l.length<=100000000
 sz:Sz m (rv l)
theorem A7p{m:Nat}{z:Int}(h:ZB m z):(Oh z).length<=m+2:=by
 have:=Hx h
 unfold Oh;split
 ·rw [List.length_cons];omega
 ·omega
theorem Tf{m:Nat}{q:Rat}(h:Sz m q):(N2 q).length<=2*m+4:=by
 have h1:=A7p h.num
 have h2:=Hx (n:=q.den) (m:=m) (by have:=h.den;unfold ZB at this;simpa using this)
 unfold N2
 split
 ·simp;omega
 ·simp;omega
theorem Tx.of{m:Nat}{q:Rat}(h:Sz m q)(hm:m<=40000000):Tx m (N2 q):=⟨by have:=Tf h;omega,by rw [It];exact h⟩
theorem A40(q:Rat):∃ c r,N2 q=c::r/\(c=45↔q<0):=by
 have f:=Eh q
 have hne:N2 q≠[]:=by
  intro e
  have:=f.eq
  rw [e] at this
  have h2:=f.ne
  have:=congrArg List.length this
  simp only [List.length_append,List.length_nil] at this
  exact h2 (List.eq_nil_of_length_eq_zero (by omega))
 obtain ⟨c,r,e⟩:=List.exists_cons_of_ne_nil hne
 refine ⟨c,r,e,?_⟩
 have hh:=f.head
 rw [e,List.head?_cons,Bool.eq_iff_iff,decide_eq_true_iff,beq_iff_eq,Option.some.injEq] at hh
 rw [<- hh,Rat.lt_iff];simp
section
variable {h:Heap} {K:Value->Heap->Prop} {m:Nat} {a b:List UInt8}
theorem A24(gl:Gl h)(hl:a.length<=100000000)(hK1:IsNum a->K (.bool true) h)(hK0:¬ IsNum a->K (.bool false) h):FCall Tryz.prog Ul #[.string (bs a)] h K:=by
 refine FCall.pure (A6m _ ?_)
 unfold B0h
 refine Ra ?_ ?_
 ·intro q e _ _
  exact ⟨_,_,_,rfl,Br.of (fun _=>⟨B3 _,hK1 ⟨q,e⟩⟩) (fun e=>by cases e)⟩
 ·refine ⟨_,_,_,rfl,Br.of (fun e=>by cases e) (fun _=>?_)⟩
  refine Ko (by omega) ?_ ?_
  ·intro neg x y f
   refine ⟨_,_,_,_,rfl,Br.of (fun e=>by cases e) (fun _=>?_)⟩
   have hlen:=f.lens
   rw [T1]
   refine B7 (fun e=>?_) (fun e=>?_)
   ·subst e
    exact ⟨B3 _,hK1 (f.isNum.2 (by unfold Ie;simp))⟩
   ·refine Ge f.da (by omega) ?_
    intro A1 n1 c1 h1 l1 i1
    refine ⟨_,_,_,_,rfl,l1,Ge f.db (by omega) ?_⟩
    intro A2 n2 c2 h2 l2 i2
    refine ⟨_,_,_,_,rfl,l2,Ea (gl.tz.mono (A0 l1 l2)) (i1.mono l2) i2 (Lf f.da (k:=a.length) (by omega)) (Lf f.db (k:=a.length) (by omega)) (by omega) ?_⟩
    intro A3 n3 c3 h3 l3 i3
    refine ⟨_,_,_,_,rfl,l3,Q3 i3 ⟨_,rfl,B3 _,A0 l1 (A0 l2 l3),?_⟩⟩
    rw [Int.gcd_natCast_natCast]
    have hfd:Ie y=N8 y:=by unfold Ie;rw [if_neg e]
    by_cases hg:Nat.gcd (N8 x) (N8 y)=1
    ·rw [decide_eq_true (by rw [hg];rfl)]
     exact hK1 (f.isNum.2 (by rw [hfd];exact hg))
    ·rw [decide_eq_false (by omega)]
     exact hK0 (fun hn=>hg (by rw [<- hfd];exact f.isNum.1 hn))
  ·intro hf neg x y
   refine ⟨_,_,_,_,rfl,Br.of (fun _=>⟨B3 _,hK0 ?_⟩) (fun e=>by cases e)⟩
   intro hn
   obtain ⟨neg',a',b',f⟩:=hn.form
   exact hf _ _ _ f
end
def B6l(h:Heap)(r:Value)(h':Heap):Prop:=r= .bool true/\h.le h'
theorem B1c{x:List UInt8}{k:Nat}(hl:x.length<=k)(hk:1<=k):Sz (4*k) (rv x):=by
 by_cases hn:IsNum x
 ·obtain ⟨neg,a,b,f⟩:=hn.form
  obtain ⟨h1,h2⟩:=f.rv_num hn
  have hlen:=f.lens
  have habs:(Me neg a).natAbs=N8 a:=by unfold Me;split<;>simp
  refine ⟨?_,?_⟩
  ·rw [h1];exact (Lf f.da (k:=k) (by omega)).le (by rw [habs,Int.natAbs_natCast];exact Nat.le_refl _)
  ·rw [h2]
   unfold Ie
   split
   ·exact ZB.one (by omega)
   ·exact Lf f.db (by omega)
 ·rw [A9l hn];exact Sz.zero (by omega)
end Go.Proofs.YthilnfgnpdeofaaGreatDoor
namespace Go.Proofs.YthilnfgnpdeofaaGreatDoor
set_option maxRecDepth 20000
open Go Go.RowKit
def memOf(W:World):Heap:=fun b=>W.heap[b]?
theorem frame_of{P:Program}{f:FuncId}{args:Array Value}{W:World}(x:FCall P f args (memOf W) (B6l (memOf W))):Calls P f args W fun e w'=>e= .returned (.bool true)/\Below W.heap.size W w':=by
 refine (x W (fun b o e=>e)).mono ?_
 rintro e W' ⟨r,h',he,⟨hr,hle⟩,fr⟩
 subst hr
 refine ⟨he,fr.os,fr.tape,fr.output,fr.size,fun k hk=>?_⟩
 have e0:memOf W k=some W.heap[k]:=Array.getElem?_eq_getElem hk
 have:=fr.sim k _ (hle k _ e0)
 rw [this];exact e0.symm
theorem Kw{W:World}{a:Addr}{v:Value}(e:W.cell? a=some v):(memOf W).cell? a=some v:=by
 unfold World.cell? at e
 unfold Heap.cell? memOf
 exact e
theorem A1d{P:Program}{W:World}{x:String × DataW Unit}{rest:List (String × DataW Unit)}(h:laidMet P (x::rest) W):laidMet P rest W:=by
 obtain ⟨n,d⟩:=x
 obtain ⟨ps,⟨g,t,cs,fuel,p,q,h1,h2,h3,h4,h5,rfl⟩,h6,h7⟩:=h
 exact ⟨q,h5,(List.nodup_append.1 h6).2.1,fun b off hb=>h7 b off (List.mem_append_right _ hb)⟩
def B5q:List Int:=[0,1,28,2,29,14,24,3,30,22,20,15,25,17,4,8,31,27,13,23,21,19,16,7,26,12,18,6,11,5,10,9]
def A7x:List Int:=[0,1,56,2,57,49,28,3,61,58,42,50,38,29,17,4,62,47,59,36,45,43,51,22,53,39,33,30,24,18,12,5,63,55,48,27,60,41,37,16,46,35,44,21,52,32,23,11,54,26,40,15,34,20,31,10,25,14,19,9,13,8,7,6]
def B17:List Int:=[1,10,100,1000,10000,100000,1000000,10000000,100000000,1000000000,10000000000,100000000000,1000000000000,10000000000000,100000000000000,1000000000000000,10000000000000000,100000000000000000,1000000000000000000,10000000000000000000]
theorem A9t:Tryz.prog.globalNamed "math/bits.deBruijn64tab" = some 3:=by kernel_rfl
theorem A9u:Tryz.prog.globalNamed "internal/strconv.uint64pow10" = some 2:=by kernel_rfl
theorem tabs_gl{W:World}(h:laidMet Tryz.prog [("math/bits.deBruijn32tab",Rows.laid_math_bits_deBruijn32tab),("math/bits.deBruijn64tab",Rows.laid_math_bits_deBruijn64tab),("internal/strconv.uint64pow10",Rows.laid_internal_strconv_uint64pow10)] W):Gl (memOf W):=by
 have h2:=A1d h
 have h3:=A1d h2
 have t64:Lib.TabIs Tryz.prog W "math/bits.deBruijn64tab" .u8 A7x:=Lib.tabIs_of_head (rest:=[("internal/strconv.uint64pow10",Rows.laid_internal_strconv_uint64pow10)]) A9t (by kernel_rfl) Tryz.underlying273 Tryz.underlying5 (by kernel_rfl) (by kernel_rfl) h2
 have t10:Lib.TabIs Tryz.prog W "internal/strconv.uint64pow10" .u64 B17:=Lib.tabIs_of_head (rest:=[]) A9u (by kernel_rfl) Tryz.underlying264 Tryz.underlying157 (by kernel_rfl) (by kernel_rfl) h3
 have k64:∀ k,k<64->Vw k<A7x.length/\A7x.getD (Vw k) 0=(k:Int):=by decide +kernel
 have k10:∀ k,k<20->B17.getD k 0=((10^k:Nat):Int):=by decide +kernel
 refine ⟨fun k hk=>?_,fun k hk=>?_⟩
 ·obtain ⟨a,b⟩:=k64 k hk
  have:=Kw (t64.cell A9t (Vw k) a)
  rw [D3,Nat.mul_one,Nat.zero_add,this,b]
 ·have:=Kw (t10.cell A9u k (by show k<20;exact hk))
  rw [D3,Nat.mul_one,Nat.zero_add,this,k10 k hk]
def A55(zs:List Int)(k:IntKind):Obj->Obj
 | .cells _ t frozen=>.cells (zs.map (Value.int k)).toArray t frozen
 | o=>o
def layTabs(a:Array Obj):Array Obj:=((a.modify 4 (A55 B5q .u8)).modify 3 (A55 A7x .u8)).modify 2 (A55 B17 .u64)
end Go.Proofs.YthilnfgnpdeofaaGreatDoor
namespace Go.Proofs.YthilnfgnpdeofaaGreatDoor
set_option maxRecDepth 20000
def sm:Nat->(Nat->Rat)->Rat
 | 0,_=>0
 | n+1,f=>sm n f+f n
theorem F0{n:Nat}{f g:Nat->Rat}(h:∀ i,i<n->f i=g i):sm n f=sm n g:=by
 induction n with
 | zero=>rfl
 | succ n ih=>rw [sm,sm,ih (fun i hi=>h i (by omega)),h n (by omega)]
theorem Tk{n:Nat}{f:Nat->Rat}(h:∀ i,i<n->f i=0):sm n f=0:=by
 induction n with
 | zero=>rfl
 | succ n ih=>rw [sm,ih (fun i hi=>h i (by omega)),h n (by omega)];exact Rat.add_zero 0
theorem We(n:Nat)(f g:Nat->Rat):sm n (fun i=>f i+g i)=sm n f+sm n g:=by
 induction n with
 | zero=>simp only [sm];exact (Rat.add_zero 0).symm
 | succ n ih=>simp only [sm];rw [ih];grind
theorem Ry(n:Nat)(a:Rat)(f:Nat->Rat):sm n (fun i=>a*f i)=a*sm n f:=by
 induction n with
 | zero=>simp only [sm];grind
 | succ n ih=>simp only [sm];rw [ih];grind
theorem A13(n:Nat)(f:Nat->Rat):sm n (fun i=> - f i)= - sm n f:=by
 induction n with
 | zero=>simp only [sm];grind
 | succ n ih=>simp only [sm];rw [ih];grind
theorem B19(n m:Nat)(f:Nat->Nat->Rat):sm n (fun i=>sm m (f i))=sm m (fun j=>sm n (fun i=>f i j)):=by
 induction n with
 | zero=>rw [sm];exact (Tk fun _ _=>rfl).symm
 | succ n ih=>simp only [sm];rw [ih,<- We]
theorem A4e{n k:Nat}(hk:k<n){f:Nat->Rat}(h:∀ i,i<n->i≠k->f i=0):sm n f=f k:=by
 induction n with
 | zero=>omega
 | succ n ih=>
  rw [sm]
  by_cases e:k=n
  ·subst e;rw [Tk fun i hi=>h i (by omega) (by omega)];exact Rat.zero_add _
  ·rw [ih (by omega) fun i hi hne=>h i (by omega) hne,h n (by omega) (by omega)];exact Rat.add_zero _
def rhx(l i:Nat):Nat:=if i<l then i else i+1
theorem B3j(l i:Nat):rhx l i≠l:=by unfold rhx;split<;>omega
theorem A15{l i k:Nat}(hi:i<k):rhx l i<k+1:=by unfold rhx;split<;>omega
theorem B3e{k a:Nat}(ha:a<=k)(t:Nat->Rat):sm k (fun i=>t (rhx a i))=sm (k+1) (fun b=>if b=a then 0 else t b):=by
 induction k generalizing a with
 | zero=>
  show (0:Rat)=0+(if 0=a then 0 else t 0)
  rw [if_pos (by omega)];exact (Rat.add_zero 0).symm
 | succ k ih=>
  show sm k (fun i=>t (rhx a i))+t (rhx a k)=sm (k+1) (fun b=>if b=a then 0 else t b)+(if k+1=a then 0 else t (k+1))
  by_cases e:a=k+1
  ·rw [if_pos e.symm,Rat.add_zero]
   show sm k (fun i=>t (rhx a i))+t (rhx a k)=sm k (fun b=>if b=a then 0 else t b)+(if k=a then 0 else t k)
   rw [if_neg (by omega)]
   congr 1
   ·exact F0 fun i hi=>by rw [rhx,if_pos (by omega),if_neg (by omega)]
   ·rw [rhx,if_pos (by omega)]
  ·rw [ih (by omega),if_neg (fun x=>e x.symm)]
   congr 1
   rw [rhx,if_neg (by omega)]
def sg(n:Nat):Rat:=if n%2=0 then 1 else -1
def dt:Nat->(Nat->Nat->Rat)->Rat
 | 0,_=>1
 | k+1,X=>sm (k+1) fun l=>sg (k+l)*X k l*dt k (fun c r=>X c (rhx l r))
theorem R8{k:Nat}: ∀ {X Y:Nat->Nat->Rat},(∀ c r,c<k->r<k->X c r=Y c r)->dt k X=dt k Y:=by
 induction k with
 | zero=>intros;rfl
 | succ k ih=>
  intro X Y h
  rw [dt,dt]
  refine F0 fun l hl=>?_
  rw [h k l (by omega) hl,ih fun c r hc hr=>h c (rhx l r) (by omega) (A15 hr)]
def rc(X:Nat->Nat->Rat)(m:Nat)(y:Nat->Rat):Nat->Nat->Rat:=fun c r=>if c=m then y r else X c r
theorem Ct(X:Nat->Nat->Rat)(m:Nat)(y:Nat->Rat)(l:Nat):(fun c r=>rc X m y c (rhx l r))=rc (fun c r=>X c (rhx l r)) m (fun r=>y (rhx l r)):=by
 funext c r;unfold rc;split<;>rfl
theorem Xg{k:Nat}: ∀ (X:Nat->Nat->Rat) {m:Nat} (_:m<k) (y z:Nat->Rat),dt k (rc X m fun r=>y r+z r)=dt k (rc X m y)+dt k (rc X m z):=by
 induction k with
 | zero=>intros;omega
 | succ k ih=>
  intro X m hm y z
  rw [dt,dt,dt,<- We]
  refine F0 fun l hl=>?_
  by_cases e:m=k
  ·subst e
   have:∀ u:Nat->Rat,dt m (fun c r=>rc X m u c (rhx l r))=dt m (fun c r=>X c (rhx l r)):=fun u=>R8 fun c r hc _=>by rw [rc,if_neg (by omega)]
   rw [this,this,this]
   simp only [rc,if_true]
   grind
  ·rw [Ct,Ct,Ct,ih _ (by omega)]
   simp only [rc,if_neg (fun x:k=m=>e x.symm)]
   grind
theorem A5p{k:Nat}: ∀ (X:Nat->Nat->Rat) {m:Nat} (_:m<k) (a:Rat) (y:Nat->Rat),dt k (rc X m fun r=>a*y r)=a*dt k (rc X m y):=by
 induction k with
 | zero=>intros;omega
 | succ k ih=>
  intro X m hm a y
  rw [dt,dt,<- Ry]
  refine F0 fun l hl=>?_
  by_cases e:m=k
  ·subst e
   have:∀ u:Nat->Rat,dt m (fun c r=>rc X m u c (rhx l r))=dt m (fun c r=>X c (rhx l r)):=fun u=>R8 fun c r hc _=>by rw [rc,if_neg (by omega)]
   rw [this,this]
   simp only [rc,if_true]
   grind
  ·rw [Ct,Ct,ih _ (by omega)]
   simp only [rc,if_neg (fun x:k=m=>e x.symm)]
   grind
theorem B23{k:Nat}(X:Nat->Nat->Rat){m:Nat}(hm:m<k):dt k (rc X m fun _=>0)=0:=by
 have:=A5p X hm 0 (fun _=>0)
 rw [Rat.zero_mul] at this
 simpa only [Rat.zero_mul] using this
theorem B06{k:Nat}(X:Nat->Nat->Rat){m:Nat}(hm:m<k)(a:Nat->Rat)(Y:Nat->Nat->Rat):∀ n,dt k (rc X m fun r=>sm n fun t=>a t*Y t r)=sm n fun t=>a t*dt k (rc X m (Y t)):=by
 intro n
 induction n with
 | zero=>exact B23 X hm
 | succ n ih=>
  simp only [sm]
  rw [Xg X hm,ih,A5p X hm]
theorem Zp(X:Nat->Nat->Rat)(m:Nat):rc X m (X m)=X:=by
 funext c r;unfold rc;split
 ·rename_i e;rw [e]
 ·rfl
theorem A1m{k:Nat}(X:Nat->Nat->Rat)(h:∀ r,r<k+2->X k r=X (k+1) r):dt (k+2) X=0:=by
 let mn:Nat->Nat->Rat:=fun a b=>dt k (fun c r=>X c (if a<b then rhx a (rhx (b-1) r) else rhx b (rhx (a-1) r)))
 let G:Nat->Nat->Rat:=fun a b=>if a=b then 0 else if b<a then sg (a+b)*X (k+1) a*X (k+1) b*mn a b else-(sg (a+b)*X (k+1) a*X (k+1) b*mn a b)
 have hmn:∀ a b,mn a b=mn b a:=by
  intro a b
  show dt k _=dt k _
  refine R8 fun c r _ _=>?_
  by_cases h1:a<b
  ·rw [if_pos h1,if_neg (by omega)]
  ·by_cases h2:b<a
   ·rw [if_neg h1,if_pos h2]
   ·have:a=b:=by omega
    subst this;rfl
 have hG:∀ a b,G b a= - G a b:=by
  intro a b
  show (if b=a then 0 else if a<b then _ else _)= - (if a=b then 0 else if b<a then _ else _)
  by_cases e:a=b
  ·rw [if_pos e,if_pos e.symm];grind
  ·rw [if_neg e,if_neg (fun x=>e x.symm)]
   have hc:=hmn a b
   by_cases h1:a<b
   ·rw [if_pos h1,if_neg (by omega),Nat.add_comm b a];grind
   ·rw [if_neg h1,if_pos (by omega),Nat.add_comm b a];grind
 have main:dt (k+2) X=sm (k+2) fun a=>sm (k+2) fun b=>G a b*sg (k+1+k):=by
  rw [dt]
  refine F0 fun a ha=>?_
  have e1:(fun b=>G a b*sg (k+1+k))=(fun b=>if b=a then 0 else (fun b=>G a b*sg (k+1+k)) b):=by
   funext b
   by_cases e:b=a
   ·subst e;rw [if_pos rfl];show (if b=b then 0 else _)*_=_;rw [if_pos rfl];grind
   ·rw [if_neg e]
  rw [e1,<- B3e (by omega) (fun b=>G a b*sg (k+1+k)),dt,<- Ry]
  refine F0 fun i hi=>?_
  have hxe:X k (rhx a i)=X (k+1) (rhx a i):=h _ (A15 hi)
  have hmin:dt k (fun c r=>X c (rhx a (rhx i r)))=mn a (rhx a i):=by
   show _=dt k _
   refine R8 fun c r _ _=>?_
   by_cases h1:i<a
   ·have e2:rhx a i=i:=by rw [rhx,if_pos h1]
    rw [e2,if_neg (by omega)]
    congr 1
    simp only [rhx]
    repeat' split
    all_goals omega
   ·have e2:rhx a i=i+1:=by rw [rhx,if_neg h1]
    rw [e2,if_pos (by omega),Nat.add_sub_cancel]
  rw [hxe,hmin]
  show _=(if a=rhx a i then 0 else if rhx a i<a then _ else _)*_
  rw [if_neg (fun e=>B3j a i e.symm)]
  have hs:∀ x y:Nat,x%2=y%2->sg x=sg y:=fun x y e=>by unfold sg;rw [e]
  by_cases h1:i<a
  ·have e2:rhx a i=i:=by rw [rhx,if_pos h1]
   rw [e2,if_pos h1]
   have e3:sg (k+1+a)*sg (k+i)=sg (a+i)*sg (k+1+k):=by
    unfold sg
    repeat' split
    all_goals first|omega|grind
   grind
  ·have e2:rhx a i=i+1:=by rw [rhx,if_neg h1]
   rw [e2,if_neg (by omega)]
   have e3:sg (k+1+a)*sg (k+i)= - sg (a+(i+1))*sg (k+1+k):=by
    unfold sg
    repeat' split
    all_goals first|omega|grind
   grind
 have h2:dt (k+2) X= - dt (k+2) X:=by
  have:dt (k+2) X=sm (k+2) fun a=>sm (k+2) fun b=>G b a*sg (k+1+k):=by
   rw [main];exact B19 _ _ _
  refine this.trans ?_
  rw [main,<- A13]
  refine F0 fun a _=>?_
  rw [<- A13]
  exact F0 fun b _=>by rw [hG];grind
 grind
theorem B25:∀ {k:Nat} (X:Nat->Nat->Rat) {p q:Nat} (_:p<q) (_:q<k) (_:∀ r,r<k->X p r=X q r),dt k X=0:=by
 intro k
 induction k with
 | zero=>intros;omega
 | succ k ih=>
  intro X p q hpq hq h
  by_cases e:q=k
  ·subst e
   by_cases e2:p+1=q
   ·subst e2
    exact A1m X h
   ·
    obtain ⟨k',rfl⟩:∃ k',q=k'+1:=⟨q-1,by omega⟩
    have hp:p<k':=by omega
    have swap:∀ (Z:Nat->Nat->Rat),dt (k'+1) (rc (rc Z p (Z k')) k' (Z p))= - dt (k'+1) Z:=by
     intro Z
     have z0:∀ y:Nat->Rat,dt (k'+1) (rc (rc Z p y) k' y)=0:=fun y=>ih _ hp (by omega) fun r _=>by
      unfold rc;rw [if_neg (by omega),if_pos rfl,if_pos rfl]
     have comm:∀ y z:Nat->Rat,rc (rc Z p y) k' z=rc (rc Z k' z) p y:=by
      intro y z;funext c r;unfold rc
      by_cases h1:c=k'
      ·by_cases h2:c=p
       ·omega
       ·rw [if_pos h1,if_neg h2,if_pos h1]
      ·by_cases h2:c=p
       ·rw [if_neg h1,if_pos h2,if_pos h2]
       ·rw [if_neg h1,if_neg h2,if_neg h2,if_neg h1]
     have s1:=z0 (fun r=>Z p r+Z k' r)
     rw [Xg _ (by omega)] at s1
     rw [comm _ (Z p),comm _ (Z k'),Xg _ (by omega),Xg _ (by omega)] at s1
     rw [<- comm,<- comm,<- comm,<- comm] at s1
     rw [z0 (Z p),z0 (Z k')] at s1
     have e3:rc (rc Z p (Z p)) k' (Z k')=Z:=by rw [Zp,Zp]
     rw [e3] at s1
     grind
    have hX:dt (k'+1+1) X= - dt (k'+1+1) (rc (rc X p (X k')) k' (X p)):=by
     rw [dt,dt,<- A13]
     refine F0 fun l _=>?_
     have e4:rc (rc X p (X k')) k' (X p) (k'+1) l=X (k'+1) l:=by unfold rc;rw [if_neg (by omega),if_neg (by omega)]
     have e5:(fun c r=>rc (rc X p (X k')) k' (X p) c (rhx l r))=rc (rc (fun c r=>X c (rhx l r)) p (fun r=>X k' (rhx l r))) k' (fun r=>X p (rhx l r)):=by
      rw [Ct,Ct]
     have:=swap (fun c r=>X c (rhx l r))
     rw [e4,e5,this]
     grind
    rw [hX,A1m _ fun r hr=>?_]
    ·grind
    ·have e6:rc (rc X p (X k')) k' (X p) k' r=X p r:=by unfold rc;rw [if_pos rfl]
     have e7:rc (rc X p (X k')) k' (X p) (k'+1) r=X (k'+1) r:=by unfold rc;rw [if_neg (by omega),if_neg (by omega)]
     rw [e6,e7];exact h r hr
  ·rw [dt]
   refine Tk fun l _=>?_
   rw [ih _ hpq (by omega) fun r hr=>h (rhx l r) (A15 hr)]
   grind
theorem B24{k:Nat}(X:Nat->Nat->Rat)(h:∀ r,r<k->X k r=0):dt (k+1) X=X k k*dt k X:=by
 rw [dt,A4e (k:=k) (by omega) fun i hi hne=>by rw [h i (by omega)];grind]
 have:dt k (fun c r=>X c (rhx k r))=dt k X:=R8 fun c r _ hr=>by rw [rhx,if_pos hr]
 have hs:sg (k+k)=1:=by unfold sg;rw [if_pos (by omega)]
 rw [this,hs,Rat.one_mul]
def Wh(q:Rat):Prop:=∃ z:Int,q=(z:Rat)
theorem Wh.add{p q:Rat}(hp:Wh p)(hq:Wh q):Wh (p+q):=by
 obtain ⟨a,rfl⟩:=hp;obtain ⟨b,rfl⟩:=hq
 exact ⟨a+b,by rw [Rat.intCast_add]⟩
theorem Wh.mul{p q:Rat}(hp:Wh p)(hq:Wh q):Wh (p*q):=by
 obtain ⟨a,rfl⟩:=hp;obtain ⟨b,rfl⟩:=hq
 exact ⟨a*b,by rw [Rat.intCast_mul]⟩
theorem Wh.sg(n:Nat):Wh (sg n):=by
 unfold Go.Proofs.YthilnfgnpdeofaaGreatDoor.sg
 split
 ·exact ⟨1,rfl⟩
 ·exact ⟨-1,by decide +kernel⟩
theorem Wh.sm{n:Nat}{f:Nat->Rat}(h:∀ i,i<n->Wh (f i)):Wh (sm n f):=by
 induction n with
 | zero=>exact ⟨0,rfl⟩
 | succ n ih=>exact (ih fun i hi=>h i (by omega)).add (h n (by omega))
theorem B4b{k:Nat}: ∀ {X:Nat->Nat->Rat},(∀ c r,c<k->r<k->Wh (X c r))->Wh (dt k X):=by
 induction k with
 | zero=>intro X _;exact ⟨1,rfl⟩
 | succ k ih=>
  intro X h
  rw [dt]
  refine Wh.sm fun l hl=>?_
  exact ((Wh.sg _).mul (h k l (by omega) hl)).mul (ih fun c r hc hr=>h c _ (by omega) (A15 hr))
structure Elim (n w:Nat) (B R:Nat->Nat->Rat) (cs:Nat->Nat) (k:Nat):Prop where
 kn:k<=n
 cw:∀ m,m<k->cs m<w
 piv:∀ l m,l<k->m<k->R l (cs m)=if l=m then 1 else 0
 low:∀ i m,i<n->k<=i->m<k->R i (cs m)=0
 top:∀ l j,l<k->j<w->B l j=sm k fun m=>B l (cs m)*R m j
 bot:∀ i j,i<n->k<=i->j<w->B i j=R i j+sm k fun m=>B i (cs m)*R m j
def dp(B:Nat->Nat->Rat)(cs:Nat->Nat)(k:Nat):Rat:=dt k fun c r=>B r (cs c)
section
variable {n w:Nat} {B R:Nat->Nat->Rat} {cs:Nat->Nat} {k:Nat}
theorem Elim.below(E:Elim n w B R cs k){i j:Nat}(hi:i<n)(hk:k<=i)(hj:j<w):dp B cs k*R i j=dt (k+1) fun c r=>B (if r<k then r else i) (if c<k then cs c else j):=by
 have e0:(fun c r=>B (if r<k then r else i) (if c<k then cs c else j))=rc (fun c r=>B (if r<k then r else i) (cs c)) k (fun r=>B (if r<k then r else i) j)\/True:=.inr trivial
 clear e0
 let X:Nat->Nat->Rat:=fun c r=>B (if r<k then r else i) (cs c)
 have h1:dt (k+1) (fun c r=>B (if r<k then r else i) (if c<k then cs c else j))=dt (k+1) (rc X k fun r=>(sm k fun t=>R t j*X t r)+(if r<k then 0 else R i j)):=by
  refine R8 fun c r hc hr=>?_
  unfold rc
  by_cases h:c=k
  ·subst h
   rw [if_neg (Nat.lt_irrefl c),if_pos rfl]
   show _=(sm c fun t=>R t j*X t r)+(if r<c then 0 else R i j)
   by_cases h2:r<c
   ·rw [if_pos h2,if_pos h2,Rat.add_zero,E.top r j h2 hj]
    refine F0 fun m _=>?_
    show _=_*B (if r<c then r else i) (cs m)
    rw [if_pos h2,Rat.mul_comm]
   ·rw [if_neg h2,if_neg h2,E.bot i j hi hk hj,Rat.add_comm]
    congr 1
    refine F0 fun m _=>?_
    show _=_*B (if r<c then r else i) (cs m)
    rw [if_neg h2,Rat.mul_comm]
  ·rw [if_neg h,if_pos (show c<k by omega)]
 rw [h1,Xg _ (by omega),B06 X (by omega) (fun t=>R t j) X]
 rw [Tk fun t ht=>by
  rw [B25 (rc X k (X t)) (p:=t) (q:=k) ht (by omega) fun r _=>by unfold rc;rw [if_neg (by omega),if_pos rfl]]
  exact Rat.mul_zero _]
 rw [B24 _ fun r hr=>by unfold rc;rw [if_pos rfl];show (if r<k then 0 else R i j)=0;rw [if_pos hr]]
 have e2:dt k (rc X k fun r=>if r<k then 0 else R i j)=dp B cs k:=by
  refine R8 fun c r hc hr=>?_
  unfold rc
  rw [if_neg (by omega)]
  show B (if r<k then r else i) (cs c)=_
  rw [if_pos hr]
 rw [e2]
 unfold rc
 rw [if_pos rfl]
 show _=0+(if k<k then 0 else R i j)*_
 rw [if_neg (Nat.lt_irrefl k)]
 grind
theorem Elim.above(E:Elim n w B R cs k){i j:Nat}(hi:i<k)(hj:j<w):dp B cs k*R i j=dt k (rc (fun c r=>B r (cs c)) i fun r=>B r j):=by
 let X:Nat->Nat->Rat:=fun c r=>B r (cs c)
 have h1:dt k (rc X i fun r=>B r j)=dt k (rc X i fun r=>sm k fun t=>R t j*X t r):=by
  refine R8 fun c r hc hr=>?_
  unfold rc
  split
  ·show B r j=sm k fun t=>R t j*X t r
   rw [E.top r j hr hj]
   exact F0 fun m _=>Rat.mul_comm _ _
  ·rfl
 show _=dt k (rc X i fun r=>B r j)
 rw [h1,B06 X hi (fun t=>R t j) X,A4e (k:=i) hi fun t ht hne=>?_]
 ·rw [Zp,Rat.mul_comm];rfl
 ·rcases Nat.lt_or_ge t i with h|h
  ·rw [B25 (rc X i (X t)) (p:=t) (q:=i) h hi fun r _=>by unfold rc;rw [if_neg (by omega),if_pos rfl]]
   exact Rat.mul_zero _
  ·rw [B25 (rc X i (X t)) (p:=i) (q:=t) (by omega) ht fun r _=>by unfold rc;rw [if_pos rfl,if_neg (by omega)]]
   exact Rat.mul_zero _
theorem Elim.whole(E:Elim n w B R cs k)(hB:∀ i j,i<n->j<w->Wh (B i j)){i j:Nat}(hi:i<n)(hj:j<w):Wh (dp B cs k*R i j):=by
 by_cases h:i<k
 ·rw [E.above h hj]
  refine B4b fun c r hc hr=>?_
  have:=E.kn
  unfold rc
  split
  ·exact hB r j (by omega) hj
  ·exact hB r _ (by omega) (E.cw c hc)
 ·rw [E.below hi (by omega) hj]
  refine B4b fun c r hc hr=>?_
  refine hB _ _ ?_ ?_
  ·split<;>omega
  ·split
   ·exact E.cw c (by assumption)
   ·exact hj
theorem Elim.next(E:Elim n w B R cs k){j:Nat}(hk:k<n)(hj:j<w)(hc:cs k=j):dp B cs (k+1)=dp B cs k*R k j:=by
 rw [E.below hk (Nat.le_refl _) hj]
 refine R8 fun c r hc' hr=>?_
 have e1:(if r<k then r else k)=r:=by split<;>omega
 have e2:(if c<k then cs c else j)=cs c:=by
  split
  ·rfl
  ·have:c=k:=by omega
   rw [this,hc]
 rw [e1,e2]
def Z2(R:Nat->Nat->Rat)(k j:Nat):Nat->Nat->Rat:=fun a b=>if a=k then R k b/R k j else R a b-R a j*(R k b/R k j)
theorem Elim.step(E:Elim n w B R cs k){j:Nat}(hk:k<n)(hj:j<w)(hc:cs k=j)(hne:R k j≠0):Elim n w B (Z2 R k j) cs (k+1):=by
 have piv0:∀ m,m<k->R k (cs m)=0:=fun m hm=>E.low k m hk (Nat.le_refl _) hm
 have hkk:R k j/R k j=1:=by grind
 refine ⟨by omega,fun m hm=>?_,fun l m hl hm=>?_,fun i m hi hki hm=>?_,fun l b hl hb=>?_,fun i b hi hki hb=>?_⟩
 ·by_cases e:m=k
  ·rw [e,hc];exact hj
  ·exact E.cw m (by omega)
 ·unfold Z2
  by_cases em:m=k
  ·subst em
   rw [hc]
   by_cases el:l=m
   ·rw [if_pos el,if_pos el];exact hkk
   ·rw [if_neg el,if_neg el,hkk];grind
  ·have hm':m<k:=by omega
   rw [piv0 m hm']
   by_cases el:l=k
   ·subst el
    rw [if_pos rfl,if_neg (by omega)];grind
   ·rw [if_neg el,E.piv l m (by omega) hm']
    grind
 ·unfold Z2
  rw [if_neg (by omega)]
  by_cases em:m=k
  ·subst em
   rw [hc,hkk];grind
  ·have hm':m<k:=by omega
   rw [piv0 m hm',E.low i m hi (by omega) hm']
   grind
 ·rw [sm]
  have e1:(Z2 R k j) k b=R k b/R k j:=by unfold Z2;rw [if_pos rfl]
  have e2:sm k (fun m=>B l (cs m)*Z2 R k j m b)=sm k (fun m=>B l (cs m)*R m b)-sm k (fun m=>B l (cs m)*R m j)*(R k b/R k j):=by
   have:(fun m=>B l (cs m)*Z2 R k j m b)=fun m=>if m=k then B l (cs k)*(R k b/R k j) else B l (cs m)*R m b+(-(R k b/R k j))*(B l (cs m)*R m j):=by
    funext m
    unfold Z2
    by_cases e:m=k
    ·rw [if_pos e,if_pos e,e]
    ·rw [if_neg e,if_neg e];grind
   rw [this,F0 (g:=fun m=>B l (cs m)*R m b+(-(R k b/R k j))*(B l (cs m)*R m j)) fun m hm=>by rw [if_neg (by omega)]]
   rw [We,Ry];grind
  rw [e1,e2,hc]
  by_cases el:l=k
  ·subst el
   have t1:=E.bot l b hk (Nat.le_refl _) hb
   have t2:=E.bot l j hk (Nat.le_refl _) hj
   grind
  ·have t1:=E.top l b (by omega) hb
   have t2:=E.top l j (by omega) hj
   grind
 ·rw [sm]
  have e1:(Z2 R k j) k b=R k b/R k j:=by unfold Z2;rw [if_pos rfl]
  have e2:sm k (fun m=>B i (cs m)*Z2 R k j m b)=sm k (fun m=>B i (cs m)*R m b)-sm k (fun m=>B i (cs m)*R m j)*(R k b/R k j):=by
   have:(fun m=>B i (cs m)*Z2 R k j m b)=fun m=>if m=k then B i (cs k)*(R k b/R k j) else B i (cs m)*R m b+(-(R k b/R k j))*(B i (cs m)*R m j):=by
    funext m
    unfold Z2
    by_cases e:m=k
    ·rw [if_pos e,if_pos e,e]
    ·rw [if_neg e,if_neg e];grind
   rw [this,F0 (g:=fun m=>B i (cs m)*R m b+(-(R k b/R k j))*(B i (cs m)*R m j)) fun m hm=>by rw [if_neg (by omega)]]
   rw [We,Ry];grind
  have e3:Z2 R k j i b=R i b-R i j*(R k b/R k j):=by unfold Z2;rw [if_neg (by omega)]
  have t1:=E.bot i b hi (by omega) hb
  have t2:=E.bot i j hi (by omega) hj
  rw [e1,e2,e3,hc]
  grind
def xch(k l:Nat)(i:Nat):Nat:=if i=k then l else if i=l then k else i
theorem Elim.swap(E:Elim n w B R cs k){l:Nat}(hk:k<=l)(hl:l<n):Elim n w (fun i=>B (xch k l i)) (fun i=>R (xch k l i)) cs k:=by
 have hx:∀ i,i<k->xch k l i=i:=fun i hi=>by unfold xch;rw [if_neg (by omega),if_neg (by omega)]
 have hy:∀ i,i<n->k<=i->xch k l i<n/\k<=xch k l i:=fun i h1 h2=>by unfold xch;split<;>(try split)<;>omega
 refine ⟨E.kn,E.cw,fun a m ha hm=>?_,fun i m hi hki hm=>?_,fun a j ha hj=>?_,fun i j hi hki hj=>?_⟩
 ·show R (xch k l a) _=_
  rw [hx a ha];exact E.piv a m ha hm
 ·have:=hy i hi hki
  exact E.low _ m this.1 this.2 hm
 ·show B (xch k l a) j=sm k fun m=>B (xch k l a) (cs m)*R (xch k l m) j
  rw [hx a ha,E.top a j ha hj]
  exact F0 fun m hm=>by rw [hx m hm]
 ·have:=hy i hi hki
  show B (xch k l i) j=R (xch k l i) j+sm k fun m=>B (xch k l i) (cs m)*R (xch k l m) j
  rw [E.bot _ j this.1 this.2 hj]
  congr 1
  exact F0 fun m hm=>by rw [hx m hm]
theorem B26(B:Nat->Nat->Rat)(cs:Nat->Nat){k l:Nat}(hk:k<=l):dp (fun i=>B (xch k l i)) cs k=dp B cs k:=by
 refine R8 fun c r _ hr=>?_
 show B (xch k l r) _=_
 unfold xch;rw [if_neg (by omega),if_neg (by omega)]
theorem Elim.start:Elim n w B B cs 0:=by
 refine ⟨Nat.zero_le _,fun m hm=>by omega,fun l m hl=>by omega,fun i m _ _ hm=>by omega,fun l j hl=>by omega,fun i j _ _ _=>by rw [sm,Rat.add_zero]⟩
theorem Elim.cs_congr{cs':Nat->Nat}(E:Elim n w B R cs k)(h:∀ m,m<k->cs m=cs' m):Elim n w B R cs' k:=by
 refine ⟨E.kn,fun m hm=>by rw [<- h m hm];exact E.cw m hm,fun l m hl hm=>by rw [<- h m hm];exact E.piv l m hl hm,fun i m h1 h2 hm=>by rw [<- h m hm];exact E.low i m h1 h2 hm,fun l j hl hj=>?_,fun i j h1 h2 hj=>?_⟩
 ·rw [E.top l j hl hj];exact F0 fun m hm=>by rw [h m hm]
 ·rw [E.bot i j h1 h2 hj];congr 1;exact F0 fun m hm=>by rw [h m hm]
theorem A8u{cs':Nat->Nat}(h:∀ m,m<k->cs m=cs' m):dp B cs k=dp B cs' k:=R8 fun c r hc _=>by rw [h c hc]
end
end Go.Proofs.YthilnfgnpdeofaaGreatDoor
namespace Go.Proofs.YthilnfgnpdeofaaGreatDoor
set_option maxRecDepth 20000
def fnd(p:Nat->Bool):Nat->Nat->Nat
 | 0,i=>i
 | f+1,i=>bif p i then i else fnd p f (i+1)
theorem Xa(p:Nat->Bool):∀ f i,i<=fnd p f i/\fnd p f i<=i+f:=by
 intro f
 induction f with
 | zero=>intro i;simp [fnd]
 | succ f ih=>
  intro i
  unfold fnd
  cases p i with
  | true=>simp
  | false=>have:=ih (i+1);simp only [cond_false];omega
theorem Pb(p:Nat->Bool):∀ f i,fnd p f i<i+f->p (fnd p f i)=true:=by
 intro f
 induction f with
 | zero=>intro i h;simp [fnd] at h
 | succ f ih=>
  intro i h
  unfold fnd at h ⊢
  cases hp:p i with
  | true=>simp only [hp,cond_true]
  | false=>simp only [hp,cond_false] at h ⊢;exact ih (i+1) (by omega)
theorem Np(p:Nat->Bool):∀ f i j,i<=j->j<fnd p f i->p j=false:=by
 intro f
 induction f with
 | zero=>intro i j h1 h2;simp [fnd] at h2;omega
 | succ f ih=>
  intro i j h1 h2
  unfold fnd at h2
  cases hp:p i with
  | true=>simp only [hp,cond_true] at h2;omega
  | false=>
   simp only [hp,cond_false] at h2
   by_cases e:j=i
   ·rw [e];exact hp
   ·exact ih (i+1) j (by omega) h2
theorem Es{p q:Nat->Bool}: ∀ f i,(∀ j,i<=j->j<i+f->p j=q j)->fnd p f i=fnd q f i:=by
 intro f
 induction f with
 | zero=>intros;rfl
 | succ f ih=>
  intro i h
  unfold fnd
  rw [h i (by omega) (by omega),ih (i+1) fun j h1 h2=>h j (by omega) (by omega)]
theorem A9v(p:Nat->Bool){f i k:Nat}(h1:i<=k)(h2:k<=i+f)(h3:∀ j,i<=j->j<k->p j=false)(h4:k<i+f->p k=true):fnd p f i=k:=by
 have a:=Xa p f i
 rcases Nat.lt_trichotomy (fnd p f i) k with h|h|h
 ·have:=Pb p f i (by omega);rw [h3 _ a.1 h] at this;cases this
 ·exact h
 ·have:=Np p f i k h1 h;rw [h4 (by omega)] at this;cases this
structure ES where
 R:Nat->Nat->Rat
 cs:List Nat
 det:Rat
def V3(R:Nat->Nat->Rat)(k j:Nat):Nat->Nat->Rat:=fun a b=>if a=k then R k b/R k j else if R a j=0\/b<j then R a b else R a b-R a j*(R k b/R k j)
def Iw(n c:Nat)(s:ES):Nat:=fnd (fun i=>decide (s.R i c≠0)) (n-s.cs.length) s.cs.length
def Bf(n c:Nat)(s:ES):ES:=
 if s.cs.length<n then
  if Iw n c s<n then
   { R:=V3 (fun i=>s.R (xch s.cs.length (Iw n c s) i)) s.cs.length c
     cs:=s.cs++[c]
     det:=(if Iw n c s=s.cs.length then s.det else-s.det)*s.R (Iw n c s) c }
  else { s with det:=0 }
 else s
def Gc(n:Nat)(s:ES):Nat->ES
 | 0=>s
 | c+1=>Bf n c (Gc n s c)
structure PS where
 M:Nat->Nat->Int
 S:Nat->Rat
 cs:List Nat
 last:Int
 sgn:Int
def clr(M:Nat->Nat->Int)(r c:Nat)(d:Int):Nat->Nat->Int:=fun a b=>if a=r then M r b else (M r c*M a b-M a c*M r b).tdiv d
def Kp(n c:Nat)(s:PS):Nat:=fnd (fun i=>decide (s.M i c≠0)) (n-s.cs.length) s.cs.length
def Cq(n c:Nat)(s:PS):PS:=
 if Kp n c s<n then
  { M:=clr (fun i=>s.M (xch s.cs.length (Kp n c s) i)) s.cs.length c s.last
    S:=fun i=>s.S (xch s.cs.length (Kp n c s) i)
    cs:=s.cs++[c]
    last:=s.M (Kp n c s) c
    sgn:=if Kp n c s=s.cs.length then s.sgn else-s.sgn }
 else s
def As(n:Nat)(s:PS):Nat->PS
 | 0=>s
 | c+1=>Cq n c (As n s c)
def pr:Nat->(Nat->Rat)->Rat
 | 0,_=>1
 | n+1,f=>pr n f*f n
theorem A8b{n:Nat}{f g:Nat->Rat}(h:∀ i,i<n->f i=g i):pr n f=pr n g:=by
 induction n with
 | zero=>rfl
 | succ n ih=>rw [pr,pr,ih (fun i hi=>h i (by omega)),h n (by omega)]
theorem B5t{n:Nat}{f:Nat->Rat}(h:∀ i,i<n->f i≠0):pr n f≠0:=by
 induction n with
 | zero=>rw [pr];decide +kernel
 | succ n ih=>
  rw [pr]
  have h1:=ih fun i hi=>h i (by omega)
  have h2:=h n (by omega)
  intro e
  rcases Rat.mul_eq_zero.1 e with e|e
  ·exact h1 e
  ·exact h2 e
theorem Fw(k l:Nat):xch k l k=l:=by unfold xch;rw [if_pos rfl]
theorem If{k l i n:Nat}(hk:k<n)(hl:l<n)(hi:i<n):xch k l i<n:=by unfold xch;split<;>(try split)<;>omega
theorem Rs{k l i:Nat}(hkl:k<=l)(hi:k<=i):k<=xch k l i:=by unfold xch;split<;>(try split)<;>omega
theorem Ig{k l i:Nat}(hkl:k<=l)(hi:i<k):xch k l i=i:=by unfold xch;rw [if_neg (by omega),if_neg (by omega)]
theorem Zd{x d z:Int}(hd:d≠0)(h:x=d*z):x.tdiv d=z:=by
 rw [h,Int.mul_tdiv_cancel_left _ hd]
structure ERel (n w c:Nat) (A:Nat->Nat->Rat) (s:ES) (t:PS):Prop where
 cs:s.cs=t.cs
 elim:∃ B,(∀ i j,i<n->j<w->Wh (B i j))/\Elim n w B (fun i j=>if i<s.cs.length then s.R i j else t.S i*s.R i j) (fun m=>s.cs.getD m 0) s.cs.length/\(t.last:Rat)=dp B (fun m=>s.cs.getD m 0) s.cs.length
 last:t.last≠0
 val:∀ i j,i<n->j<w->(t.M i j:Rat)=t.last*(if i<s.cs.length then s.R i j else t.S i*s.R i j)
 scale:∀ i,i<n->t.S i≠0
 zero:∀ i j,i<n->s.cs.length<=i->j<c->s.R i j=0
 asc:s.cs.length<=c
 det:s.cs.length=c->s.det*pr s.cs.length t.S=t.sgn*t.last
 miss:s.cs.length<c->s.cs.length<n->s.det=0
 sgn:t.sgn=1\/t.sgn= -1
theorem J6{z:Int}(h:z≠0):(z:Rat)≠0:=by
 intro e
 exact h (by exact_mod_cast e)
theorem ERel.start{n w:Nat}{A:Nat->Nat->Rat}{M:Nat->Nat->Int}{S:Nat->Rat}(h:∀ i j,i<n->j<w->(M i j:Rat)=S i*A i j)(hS:∀ i,i<n->S i≠0):ERel n w 0 A ⟨A,[],1⟩ ⟨M,S,[],1,1⟩:=by
 have e:∀ (x:Rat),((1:Int):Rat)*x=x:=fun x=>by
  have:((1:Int):Rat)=1:=rfl
  rw [this,Rat.one_mul]
 refine ⟨rfl,⟨fun i j=>S i*A i j,fun i j hi hj=>⟨M i j,(h i j hi hj).symm⟩,?_,rfl⟩,(by decide:(1:Int)≠0),fun i j hi hj=>?_,hS,fun i j _ _ hj=>by omega,Nat.le_refl _,fun _=>?_,fun h=>by simp at h,.inl rfl⟩
 ·have:(fun i j=>if i<([]:List Nat).length then A i j else S i*A i j)=fun i j=>S i*A i j:=by
   funext i j;rw [if_neg (by simp)]
  show Elim n w _ (fun i j=>if i<([]:List Nat).length then A i j else S i*A i j) _ 0
  rw [this]
  exact Elim.start
 ·show (M i j:Rat)=((1:Int):Rat)*(if i<([]:List Nat).length then A i j else S i*A i j)
  rw [e,if_neg (by simp),h i j hi hj]
 ·show (1:Rat)*pr 0 S=((1:Int):Rat)*((1:Int):Rat)
  rw [e]
  exact Rat.one_mul _
theorem Wx(l:List Nat)(c:Nat):∀ m,m<l.length->(l++[c]).getD m 0=l.getD m 0:=by
 intro m hm
 rw [List.getD_eq_getElem?_getD,List.getD_eq_getElem?_getD,List.getElem?_append_left hm]
theorem Wy(l:List Nat)(c:Nat):(l++[c]).getD l.length 0=c:=by
 rw [List.getD_eq_getElem?_getD,List.getElem?_append_right (Nat.le_refl _)];simp
theorem ERel.row{n w c:Nat}{A:Nat->Nat->Rat}{s:ES}{t:PS}(h:ERel n w c A s t)(hc:c<w):Kp n c t=Iw n c s:=by
 unfold Kp Iw
 rw [<- h.cs]
 refine Es _ _ fun j h1 h2=>?_
 have hv:=h.val j c (by omega) hc
 rw [if_neg (by omega)] at hv
 have h3:=J6 h.last
 have h4:=h.scale j (by omega)
 refine decide_eq_decide.2 (not_congr ⟨fun e=>?_,fun e=>?_⟩)
 ·rw [e] at hv
  have h0:((0:Int):Rat)=0:=rfl
  rw [h0] at hv
  rcases Rat.mul_eq_zero.1 hv.symm with e1|e1
  ·exact absurd e1 h3
  ·rcases Rat.mul_eq_zero.1 e1 with e2|e2
   ·exact absurd e2 h4
   ·exact e2
 ·rw [e,Rat.mul_zero,Rat.mul_zero] at hv
  exact_mod_cast hv
theorem ERel.step{n w c:Nat}{A:Nat->Nat->Rat}{s:ES}{t:PS}(h:ERel n w c A s t)(hc:c<w):ERel n w (c+1) A (Bf n c s) (Cq n c t):=by
 have hrow:=h.row hc
 have hlen:=Xa (fun i=>decide (s.R i c≠0)) (n-s.cs.length) s.cs.length
 have hmiss:=Np (fun i=>decide (s.R i c≠0)) (n-s.cs.length) s.cs.length
 have hhit:=Pb (fun i=>decide (s.R i c≠0)) (n-s.cs.length) s.cs.length
 have hR:fnd (fun i=>decide (s.R i c≠0)) (n-s.cs.length) s.cs.length=Iw n c s:=rfl
 rw [hR] at hlen hmiss hhit
 obtain ⟨B,hB,E,hD⟩:=h.elim
 unfold Bf Cq
 rw [hrow]
 by_cases hk:Iw n c s<n
 ·have hkn:s.cs.length<n:=by omega
  rw [if_pos hkn,if_pos hk,if_pos hk,<- h.cs]
  generalize hr:Iw n c s=r at *
  generalize hl:s.cs.length=k at *
  have hne:s.R r c≠0:=by
   have:=hhit (by omega)
   simpa using this
  have E1:=E.swap (l:=r) hlen.1 hk
  have hcs1:∀ m,m<k->s.cs.getD m 0=(s.cs++[c]).getD m 0:=fun m hm=>(Wx s.cs c m (by omega)).symm
  have E2:=E1.cs_congr hcs1
  have hlast:(s.cs++[c]).getD k 0=c:=by rw [<- hl];exact Wy _ _
  have hlen':(s.cs++[c]).length=k+1:=by rw [List.length_append,hl];rfl
  have xk:xch k r k=r:=Fw k r
  have hp0:(if xch k r k<k then s.R (xch k r k) c else t.S (xch k r k)*s.R (xch k r k) c)=t.S r*s.R r c:=by rw [xk,if_neg (by omega)]
  have hSr:=h.scale r hk
  have hpne:t.S r*s.R r c≠0:=by
   intro e
   rcases Rat.mul_eq_zero.1 e with e|e
   ·exact hSr e
   ·exact hne e
  have E3:=E2.step (j:=c) hkn hc hlast (by show (if xch k r k<k then _ else _)≠0;rw [hp0];exact hpne)
  have hDn:=E2.next (j:=c) hkn hc hlast
  have hD1:dp (fun i=>B (xch k r i)) (fun m=>(s.cs++[c]).getD m 0) k=(t.last:Rat):=by
   rw [hD,<- A8u hcs1,B26 B _ hlen.1]
  rw [hD1] at hDn
  have hpv:(if xch k r k<k then s.R (xch k r k) c else t.S (xch k r k)*s.R (xch k r k) c)=t.S r*s.R r c:=hp0
  have hnl:(t.M r c:Rat)=t.last*(t.S r*s.R r c):=by
   have:=h.val r c hk hc
   rw [if_neg (by omega)] at this;exact this
  have hDn':dp (fun i=>B (xch k r i)) (fun m=>(s.cs++[c]).getD m 0) (k+1)=(t.M r c:Rat):=by
   rw [hDn,hnl]
   show (t.last:Rat)*(if xch k r k<k then s.R (xch k r k) c else t.S (xch k r k)*s.R (xch k r k) c)=_
   rw [hpv]
  have hlne:=J6 h.last
  have hMne:t.M r c≠0:=by
   intro e
   rw [e] at hnl
   have h0:((0:Int):Rat)=0:=rfl
   rw [h0] at hnl
   rcases Rat.mul_eq_zero.1 hnl.symm with e1|e1
   ·exact hlne e1
   ·exact hpne e1
  have hz:∀ b,b<c->s.R r b=0:=fun b hb=>h.zero r b hk (by omega) hb
  have hQ:∀ i j,(if i<k+1 then V3 (fun i=>s.R (xch k r i)) k c i j else t.S (xch k r i)*V3 (fun i=>s.R (xch k r i)) k c i j)=Z2 (fun i j=>if xch k r i<k then s.R (xch k r i) j else t.S (xch k r i)*s.R (xch k r i) j) k c i j:=by
   intro i j
   unfold V3 Z2
   by_cases e:i=k
   ·subst e
    simp only [if_true,xk,if_neg (show ¬ r<i by omega),if_pos (show i<i+1 by omega)]
    grind
   ·have hb:s.R r j=0\/¬ j<c:=by
     by_cases hj:j<c
     ·exact .inl (hz j hj)
     ·exact .inr hj
    simp only [if_neg e,xk,if_neg (show ¬ r<k by omega)]
    by_cases hi:i<k
    ·rw [if_pos (show i<k+1 by omega),Ig hlen.1 hi,if_pos hi,if_pos hi]
     split
     ·rename_i h1
      rcases h1 with h1|h1
      ·rw [h1];grind
      ·rw [hz j h1];grind
     ·grind
    ·have hx:¬ xch k r i<k:=by have:=Rs (i:=i) hlen.1 (by omega);omega
     rw [if_neg (show ¬ i<k+1 by omega),if_neg hx,if_neg hx]
     split
     ·rename_i h1
      rcases h1 with h1|h1
      ·rw [h1];grind
      ·rw [hz j h1];grind
     ·grind
  have hQf:(fun i j=>if i<k+1 then V3 (fun i=>s.R (xch k r i)) k c i j else t.S (xch k r i)*V3 (fun i=>s.R (xch k r i)) k c i j)=Z2 (fun i j=>if xch k r i<k then s.R (xch k r i) j else t.S (xch k r i)*s.R (xch k r i) j) k c:=by
   funext i j;exact hQ i j
  have hxn:∀ i,i<n->xch k r i<n:=fun i hi=>If hkn hk hi
  refine ⟨rfl,⟨fun i=>B (xch k r i),fun i j hi hj=>hB _ j (hxn i hi) hj,?_,?_⟩,hMne,fun i j hi hj=>?_,fun i hi=>h.scale _ (hxn i hi),fun i j hi hki hj=>?_,?_,fun he=>?_,fun he _=>?_,?_⟩
  ·show Elim n w _ (fun i j=>if i<(s.cs++[c]).length then V3 (fun i=>s.R (xch k r i)) k c i j else t.S (xch k r i)*V3 (fun i=>s.R (xch k r i)) k c i j) _ (s.cs++[c]).length
   rw [hlen',hQf]
   exact E3
  ·show (t.M r c:Rat)=dp _ _ (s.cs++[c]).length
   rw [hlen',hDn']
  ·show (clr (fun i=>t.M (xch k r i)) k c t.last i j:Rat)=(t.M r c:Rat)*(if i<(s.cs++[c]).length then V3 (fun i=>s.R (xch k r i)) k c i j else t.S (xch k r i)*V3 (fun i=>s.R (xch k r i)) k c i j)
   rw [hlen',hQ i j]
   unfold clr
   by_cases e:i=k
   ·subst e
    rw [if_pos rfl]
    show (t.M (xch i r i) j:Rat)=_
    rw [xk]
    unfold Z2
    simp only [if_true,xk,if_neg (show ¬ r<i by omega)]
    have:=h.val r j hk hj
    rw [if_neg (by omega)] at this
    rw [this,hnl]
    grind
   ·rw [if_neg e]
    show (((t.M (xch k r k) c*t.M (xch k r i) j-t.M (xch k r i) c*t.M (xch k r k) j).tdiv t.last:Int):Rat)=_
    rw [xk]
    have hw:=E3.whole (fun i j hi hj=>hB _ j (hxn i hi) hj) hi hj
    rw [hDn'] at hw
    obtain ⟨z,hz'⟩:=hw
    have v1:=h.val (xch k r i) j (hxn i hi) hj
    have v2:=h.val (xch k r i) c (hxn i hi) hc
    have v3:=h.val r j hk hj
    rw [hl] at v1 v2 v3
    rw [if_neg (show ¬ r<k by omega)] at v3
    have hx:t.M r c*t.M (xch k r i) j-t.M (xch k r i) c*t.M r j=t.last*z:=by
     have:((t.M r c*t.M (xch k r i) j-t.M (xch k r i) c*t.M r j:Int):Rat)=((t.last*z:Int):Rat):=by
      rw [Rat.intCast_sub,Rat.intCast_mul,Rat.intCast_mul,Rat.intCast_mul,<- hz',v1,v2,v3,hnl]
      unfold Z2
      simp only [if_neg e,xk,if_neg (show ¬ r<k by omega)]
      generalize (if xch k r i<k then s.R (xch k r i) j else t.S (xch k r i)*s.R (xch k r i) j)=u1
      generalize (if xch k r i<k then s.R (xch k r i) c else t.S (xch k r i)*s.R (xch k r i) c)=u2
      have h1:t.S r*s.R r j/(t.S r*s.R r c)*(t.S r*s.R r c)=t.S r*s.R r j:=by
       rw [Rat.div_mul_cancel hpne]
      grind
     exact_mod_cast this
    rw [Zd h.last hx,<- hz']
  ·show V3 (fun i=>s.R (xch k r i)) k c i j=0
   have hki':k+1<=i:=by
    have:(s.cs++[c]).length<=i:=hki
    omega
   have hge:=Rs (i:=i) hlen.1 (show k<=i by omega)
   unfold V3
   rw [if_neg (by omega)]
   simp only [xk]
   by_cases e:j=c
   ·subst e
    split
    ·rename_i h1
     rcases h1 with h1|h1
     ·exact h1
     ·omega
    ·grind
   ·rw [if_pos (.inr (by omega))]
    exact h.zero _ j (hxn i hi) (by omega) (by omega)
  ·show (s.cs++[c]).length<=c+1
   have:=h.asc
   omega
  ·show (if r=k then s.det else -s.det)*s.R r c*pr (s.cs++[c]).length (fun i=>t.S (xch k r i))=((if r=k then t.sgn else -t.sgn:Int):Rat)*(t.M r c:Rat)
   have hkc:k=c:=by
    have:(s.cs++[c]).length=c+1:=he
    omega
   have hd:=h.det (by omega)
   rw [hl] at hd
   rw [hlen',pr,xk,A8b (g:=t.S) fun i hi=>by rw [Ig hlen.1 hi],hnl]
   by_cases e:r=k
   ·rw [if_pos e,if_pos e];grind
   ·rw [if_neg e,if_neg e,Rat.intCast_neg];grind
  ·show (if r=k then s.det else -s.det)*s.R r c=0
   have:(s.cs++[c]).length<c+1:=he
   have hd:=h.miss (by omega) (by omega)
   rw [hd]
   split<;>grind
  ·show (if r=k then t.sgn else -t.sgn)=1\/(if r=k then t.sgn else -t.sgn)= -1
   have:=h.sgn
   split<;>omega
 ·rw [if_neg hk,if_neg hk]
  have hall:∀ i,i<n->s.cs.length<=i->s.R i c=0:=by
   intro i hi hki
   have:=hmiss i hki (by omega)
   simpa using this
  have hzero:∀ i j,i<n->s.cs.length<=i->j<c+1->s.R i j=0:=by
   intro i j hi hki hj
   by_cases e:j=c
   ·rw [e];exact hall i hi hki
   ·exact h.zero i j hi hki (by omega)
  by_cases hkn:s.cs.length<n
  ·rw [if_pos hkn]
   exact ⟨h.cs,⟨B,hB,E,hD⟩,h.last,h.val,h.scale,hzero,Nat.le_succ_of_le h.asc,fun he=>by have:=h.asc;have:s.cs.length=c+1:=he;omega,fun _ _=>rfl,h.sgn⟩
  ·rw [if_neg hkn]
   exact ⟨h.cs,⟨B,hB,E,hD⟩,h.last,h.val,h.scale,hzero,Nat.le_succ_of_le h.asc,fun he=>by have:=h.asc;omega,fun _ hx=>absurd hx hkn,h.sgn⟩
theorem ERel.run{n w:Nat}{A:Nat->Nat->Rat}{s:ES}{t:PS}(h:ERel n w 0 A s t):∀ c,c<=w->ERel n w c A (Gc n s c) (As n t c):=by
 intro c
 induction c with
 | zero=>exact fun _=>h
 | succ c ih=>exact fun hc=>(ih (by omega)).step (by omega)
end Go.Proofs.YthilnfgnpdeofaaGreatDoor
namespace Go.Proofs.YthilnfgnpdeofaaGreatDoor
set_option maxRecDepth 20000
structure SzE (n w m:Nat) (s:ES):Prop where
 R:∀ a b,a<n->b<w->Sz (7^s.cs.length*m) (s.R a b)
 det:Sz (7^s.cs.length*m) s.det
 len:s.cs.length<=n
theorem A18(k m:Nat)(hm:1<=m):1<=7^k*m:=by
 have:0<7^k:=Nat.pow_pos (by decide)
 exact Nat.mul_pos this hm
theorem A99{m:Nat}{x d:Int}(h:ZB m x):ZB m (x.tdiv d):=by
 refine h.le ?_
 rw [Int.natAbs_tdiv]
 exact Nat.div_le_self _ _
theorem ZB.clr{n w k j m:Nat}{M:Nat->Nat->Int}{d:Int}(hM:∀ a b,a<n->b<w->ZB m (M a b))(hk:k<n)(hj:j<w){a b:Nat}(ha:a<n)(hb:b<w):ZB (2*m+1) (clr M k j d a b):=by
 unfold Go.Proofs.YthilnfgnpdeofaaGreatDoor.clr
 split
 ·exact (hM k b hk hb).mono (by omega)
 ·refine A99 ?_
  have h1:=(hM k j hk hj).mul (hM a b ha hb)
  have h2:=(hM a j ha hj).mul (hM k b hk hb)
  exact (h1.sub h2).mono (by omega)
theorem Zk(n c:Nat)(s:PS)(h:s.cs.length<=n):s.cs.length<=Kp n c s/\Kp n c s<=n:=by
 have:=Xa (fun i=>decide (s.M i c≠0)) (n-s.cs.length) s.cs.length
 unfold Kp
 omega
structure ZbP (n w m l:Nat) (s:PS):Prop where
 M:∀ a b,a<n->b<w->ZB (3^s.cs.length*m) (s.M a b)
 last:ZB (3^s.cs.length*m) s.last
 S:∀ a,a<n->Sz l (s.S a)
 len:s.cs.length<=n
theorem Tr(k m:Nat)(hm:1<=m):1<=3^k*m:=by
 have:0<3^k:=Nat.pow_pos (by decide)
 exact Nat.mul_pos this hm
theorem ZbP.step{n w m l c:Nat}{s:PS}(h:ZbP n w m l s)(hm:1<=m)(hc:c<w):ZbP n w m l (Cq n c s):=by
 have hr:=Zk n c s h.len
 have h1:=Tr s.cs.length m hm
 unfold Cq
 by_cases hx:Kp n c s<n
 ·rw [if_pos hx]
  have hk:s.cs.length<n:=by omega
  have e:(s.cs++[c]).length=s.cs.length+1:=by simp
  have e3:3^(s.cs.length+1)*m=3*(3^s.cs.length*m):=by rw [Nat.pow_succ,Nat.mul_comm (3^s.cs.length) 3,Nat.mul_assoc]
  refine ⟨fun a b ha hb=>?_,?_,fun a ha=>h.S _ (If hk hx ha),?_⟩
  ·show ZB (3^(s.cs++[c]).length*m) _
   rw [e,e3]
   exact (ZB.clr (n:=n) (w:=w) (fun a b ha hb=>h.M _ b (If hk hx ha) hb) hk hc ha hb).mono (by omega)
  ·show ZB (3^(s.cs++[c]).length*m) (s.M (Kp n c s) c)
   rw [e,e3]
   exact (h.M _ c hx hc).mono (by omega)
  ·show (s.cs++[c]).length<=n
   omega
 ·rw [if_neg hx];exact h
theorem ZbP.run{n w m l:Nat}{s:PS}(h:ZbP n w m l s)(hm:1<=m):∀ c,c<=w->ZbP n w m l (As n s c):=by
 intro c
 induction c with
 | zero=>exact fun _=>h
 | succ c ih=>exact fun hc=>(ih (by omega)).step hm (by omega)
structure Asc (l:List Nat) (c:Nat):Prop where
 lt:∀ x∈l,x<c
 asc:l.Pairwise (· < ·)
theorem Asc.snoc{l:List Nat}{c:Nat}(h:Asc l c):Asc (l++[c]) (c+1):=by
 refine ⟨fun x hx=>?_,?_⟩
 ·rcases List.mem_append.1 hx with hx|hx
  ·have:=h.lt x hx;omega
  ·simp at hx;omega
 ·rw [List.pairwise_append]
  refine ⟨h.asc,by simp,fun a ha b hb=>?_⟩
  simp at hb;subst hb;exact h.lt a ha
theorem Asc.mono{l:List Nat}{c d:Nat}(h:Asc l c)(hcd:c<=d):Asc l d:=⟨fun x hx=>Nat.lt_of_lt_of_le (h.lt x hx) hcd,h.asc⟩
theorem A88(n:Nat)(s:ES)(h:s.cs=[]):∀ c,Asc (Gc n s c).cs c:=by
 intro c
 induction c with
 | zero=>show Asc s.cs 0;rw [h];exact ⟨by simp,.nil⟩
 | succ c ih=>
  show Asc (Bf n c (Gc n s c)).cs (c+1)
  unfold Bf
  split
  ·split
   ·exact ih.snoc
   ·exact ih.mono (by omega)
  ·exact ih.mono (by omega)
end Go.Proofs.YthilnfgnpdeofaaGreatDoor
namespace Go.Proofs.YthilnfgnpdeofaaGreatDoor
set_option maxRecDepth 20000
def ZrE(n c:Nat)(s:ES):Prop:=∀ i j,i<n->s.cs.length<=i->j<c->s.R i j=0
theorem A2e(n c:Nat)(s:ES)(h:s.cs.length<=n):s.cs.length<=Iw n c s/\Iw n c s<=n/\(Iw n c s<n->s.R (Iw n c s) c≠0)/\(∀ i,s.cs.length<=i->i<Iw n c s->s.R i c=0):=by
 have hlen:=Xa (fun i=>decide (s.R i c≠0)) (n-s.cs.length) s.cs.length
 have hmiss:=Np (fun i=>decide (s.R i c≠0)) (n-s.cs.length) s.cs.length
 have hhit:=Pb (fun i=>decide (s.R i c≠0)) (n-s.cs.length) s.cs.length
 have hR:fnd (fun i=>decide (s.R i c≠0)) (n-s.cs.length) s.cs.length=Iw n c s:=rfl
 rw [hR] at hlen hmiss hhit
 refine ⟨hlen.1,by omega,fun hx=>?_,fun i h1 h2=>?_⟩
 ·have:=hhit (by omega);simpa using this
 ·have:=hmiss i h1 h2;simpa using this
theorem A8s{R:Nat->Nat->Rat}{k c:Nat}(hz:∀ b,b<c->R k b=0):V3 R k c=Z2 R k c:=by
 funext a b
 unfold V3 Z2
 by_cases e:a=k
 ·rw [if_pos e,if_pos e]
 ·rw [if_neg e,if_neg e]
  split
  ·rename_i h1
   rcases h1 with h1|h1
   ·rw [h1];grind
   ·rw [hz b h1];grind
  ·rfl
structure EqA (n w c:Nat) (A:Nat->Nat->Rat) (s:ES):Prop where
 len:s.cs.length<=n
 zero:ZrE n c s
 lt:∀ x∈s.cs,x<c
 elim:∃ B,Elim n w B s.R (fun m=>s.cs.getD m 0) s.cs.length/\(∀ i,i<n->∃ i',i'<n/\∀ j,B i' j=A i j)/\(∀ i,i<n->∃ i',i'<n/\∀ j,B i j=A i' j)
 comb:∃ T:Nat->Nat->Rat,∀ i j,i<n->j<w->s.R i j=sm n fun l=>T i l*A l j
theorem B10{k l i:Nat}:xch k l (xch k l i)=i:=by unfold xch;repeat' split
                                                 all_goals omega
theorem EqA.start(n w:Nat)(A:Nat->Nat->Rat):EqA n w 0 A ⟨A,[],1⟩:=by
 refine ⟨Nat.zero_le _,fun i j _ _ hj=>by omega,fun x hx=>(by cases hx),⟨A,Elim.start,fun i hi=>⟨i,hi,fun _=>rfl⟩,fun i hi=>⟨i,hi,fun _=>rfl⟩⟩,⟨fun i l=>if l=i then 1 else 0,fun i j hi _=>?_⟩⟩
 show A i j=sm n fun l=>(if l=i then (1:Rat) else 0)*A l j
 rw [A4e hi fun l _ hne=>by rw [if_neg hne,Rat.zero_mul],if_pos rfl,Rat.one_mul]
theorem EqA.step{n w c:Nat}{A:Nat->Nat->Rat}{s:ES}(h:EqA n w c A s)(hc:c<w):EqA n w (c+1) A (Bf n c s):=by
 obtain ⟨f1,f2,f3,f4⟩:=A2e n c s h.len
 unfold Bf
 by_cases hk:s.cs.length<n
 ·rw [if_pos hk]
  by_cases hx:Iw n c s<n
  ·rw [if_pos hx]
   have hne:=f3 hx
   generalize Iw n c s=r at *
   obtain ⟨B,E,hB1,hB2⟩:=h.elim
   obtain ⟨T,hT⟩:=h.comb
   have hz:∀ b,b<c->s.R r b=0:=fun b hb=>h.zero r b hx f1 hb
   have xk:=Fw s.cs.length r
   have hxn:∀ i,i<n->xch s.cs.length r i<n:=fun i hi=>If hk hx hi
   have hlen:(s.cs++[c]).length=s.cs.length+1:=by simp
   have hE:V3 (fun i=>s.R (xch s.cs.length r i)) s.cs.length c=Z2 (fun i=>s.R (xch s.cs.length r i)) s.cs.length c:=A8s fun b hb=>by rw [xk];exact hz b hb
   refine ⟨by show (s.cs++[c]).length<=n;omega,fun i j hi hki hj=>?_,fun x hx'=>?_,⟨fun i=>B (xch s.cs.length r i),?_,fun i hi=>?_,fun i hi=>?_⟩,?_⟩
   ·show V3 (fun i=>s.R (xch s.cs.length r i)) s.cs.length c i j=0
    have hki':s.cs.length+1<=i:=by have:(s.cs++[c]).length<=i:=hki;omega
    have hge:=Rs (i:=i) f1 (show s.cs.length<=i by omega)
    unfold V3
    rw [if_neg (by omega)]
    simp only [xk]
    by_cases e:j=c
    ·subst e
     split
     ·rename_i h1
      rcases h1 with h1|h1
      ·exact h1
      ·omega
     ·grind
    ·rw [if_pos (.inr (by omega))]
     exact h.zero _ j (hxn i hi) hge (by omega)
   ·rcases List.mem_append.1 hx' with hx'|hx'
    ·have:=h.lt x hx';omega
    ·simp at hx';omega
   ·show Elim n w _ (V3 (fun i=>s.R (xch s.cs.length r i)) s.cs.length c) _ (s.cs++[c]).length
    rw [hE,hlen]
    refine ((E.swap f1 hx).cs_congr fun m hm=>(Wx s.cs c m hm).symm).step hk hc (Wy _ _) ?_
    show s.R (xch s.cs.length r s.cs.length) c≠0
    rw [xk];exact hne
   ·obtain ⟨i',h1,h2⟩:=hB1 i hi
    exact ⟨xch s.cs.length r i',hxn i' h1,fun j=>by show B (xch _ _ (xch _ _ i')) j=_;rw [B10];exact h2 j⟩
   ·exact hB2 _ (hxn i hi)
   ·refine ⟨fun i l=>if i=s.cs.length then T r l/s.R r c else T (xch s.cs.length r i) l-s.R (xch s.cs.length r i) c*(T r l/s.R r c),fun i j hi hj=>?_⟩
    show V3 (fun i=>s.R (xch s.cs.length r i)) s.cs.length c i j=_
    rw [hE]
    unfold Z2
    simp only [xk]
    have t1:sm n (fun l=>T r l/s.R r c*A l j)=s.R r j/s.R r c:=by
     rw [hT r j hx hj,Rat.div_def,Rat.mul_comm _ (s.R r c)⁻¹,<- Ry]
     exact F0 fun l _=>by rw [Rat.div_def];grind
    by_cases e:i=s.cs.length
    ·simp only [if_pos e]
     exact t1.symm
    ·simp only [if_neg e]
     have t2:=hT (xch s.cs.length r i) j (hxn i hi) hj
     rw [<- t1,t2,<- Ry]
     have:∀ f g:Nat->Rat,sm n f-sm n g=sm n fun l=>f l-g l:=fun f g=>by
      rw [Rat.sub_eq_add_neg,<- A13,<- We]
      exact F0 fun l _=>(Rat.sub_eq_add_neg _ _).symm
     rw [this]
     exact F0 fun l _=>by grind
  ·rw [if_neg hx]
   refine ⟨h.len,fun i j hi hki hj=>?_,fun x hx'=>by have:=h.lt x hx';omega,h.elim,h.comb⟩
   show s.R i j=0
   by_cases e:j=c
   ·rw [e];exact f4 i hki (by omega)
   ·exact h.zero i j hi hki (by omega)
 ·rw [if_neg hk]
  exact ⟨h.len,fun i j hi hki hj=>by omega,fun x hx'=>by have:=h.lt x hx';omega,h.elim,h.comb⟩
theorem EqA.run{n w:Nat}(A:Nat->Nat->Rat):∀ c,c<=w->EqA n w c A (Gc n ⟨A,[],1⟩ c):=by
 intro c
 induction c with
 | zero=>exact fun _=>EqA.start n w A
 | succ c ih=>exact fun hc=>(ih (by omega)).step (by omega)
end Go.Proofs.YthilnfgnpdeofaaGreatDoor
namespace Go.Proofs.YthilnfgnpdeofaaGreatDoor
set_option maxRecDepth 20000
structure LUS where
 R:Nat->Nat->Rat
 L:Nat->Nat->Rat
 p:Nat->Nat
def I4(n c:Nat)(s:LUS):Nat:=fnd (fun i=>decide (s.R i c≠0)) (n-c) c
def Dy(R:Nat->Nat->Rat)(c:Nat):Nat->Nat->Rat:=fun i j=>if i<=c\/j<c then R i j else R i j-R i c/R c c*R c j
def Ab(R L:Nat->Nat->Rat)(c:Nat):Nat->Nat->Rat:=fun i j=>if j=c then (if i=c then 1 else if c<i then R i c/R c c else 0) else L i j
def A4d(n c:Nat)(s:LUS):LUS:=
 { R:=Dy (fun i=>s.R (xch c (I4 n c s) i)) c
   L:=Ab (fun i=>s.R (xch c (I4 n c s) i)) (fun i=>s.L (xch c (I4 n c s) i)) c
   p:=fun i=>s.p (xch c (I4 n c s) i) }
def T5(n:Nat)(M:Nat->Nat->Rat):Nat->LUS
 | 0=>⟨M,fun _ _=>0,fun i=>i⟩
 | c+1=>A4d n c (T5 n M c)
def B2q(n:Nat)(M:Nat->Nat->Rat):Prop:=∀ c,c<n->I4 n c (T5 n M c)<n
theorem Gd{n c:Nat}(s:LUS)(h:c<=n):c<=I4 n c s/\I4 n c s<=n/\(I4 n c s<n->s.R (I4 n c s) c≠0)/\(∀ i,c<=i->i<I4 n c s->s.R i c=0):=by
 have hlen:=Xa (fun i=>decide (s.R i c≠0)) (n-c) c
 have hmiss:=Np (fun i=>decide (s.R i c≠0)) (n-c) c
 have hhit:=Pb (fun i=>decide (s.R i c≠0)) (n-c) c
 have hR:fnd (fun i=>decide (s.R i c≠0)) (n-c) c=I4 n c s:=rfl
 rw [hR] at hlen hmiss hhit
 refine ⟨hlen.1,by omega,fun hx=>?_,fun i h1 h2=>?_⟩
 ·have:=hhit (by omega);simpa using this
 ·have:=hmiss i h1 h2;simpa using this
structure LuI (n c m:Nat) (M:Nat->Nat->Rat) (s:LUS):Prop where
 zero:∀ i j,i<n->c<=i->j<c->s.R i j=0
 lz:∀ i j,c<=j->s.L i j=0
 szR:∀ i j,i<n->j<n->Sz (7^c*m) (s.R i j)
 szL:∀ i j,i<n->j<n->Sz (7^c*m) (s.L i j)
 len:(Gc n ⟨M,[],1⟩ c).cs.length=c
 sync:∀ i j,i<n->c<=i->(Gc n ⟨M,[],1⟩ c).R i j=s.R i j
theorem LuI.start{n m:Nat}{M:Nat->Nat->Rat}(hs:∀ i j,i<n->j<n->Sz m (M i j))(hm:1<=m):LuI n 0 m M (T5 n M 0):=by
 refine ⟨fun i j _ _ hj=>by omega,fun _ _ _=>rfl,fun i j hi hj=>by rw [Nat.pow_zero,Nat.one_mul];exact hs i j hi hj,fun _ _ _ _=>Sz.zero (by rw [Nat.pow_zero,Nat.one_mul];exact hm),rfl,fun _ _ _ _=>rfl⟩
theorem LuI.row{n c m:Nat}{M:Nat->Nat->Rat}{s:LUS}(h:LuI n c m M s):Iw n c (Gc n ⟨M,[],1⟩ c)=I4 n c s:=by
 unfold Iw I4
 rw [h.len]
 exact Es _ _ fun j h1 h2=>by rw [h.sync j c (by omega) h1]
theorem LuI.step{n c m:Nat}{M:Nat->Nat->Rat}{s:LUS}(h:LuI n c m M s)(hm:1<=m)(hc:c<n)(hr:I4 n c s<n):LuI n (c+1) m M (A4d n c s):=by
 obtain ⟨f1,f2,f3,f4⟩:=Gd s (show c<=n by omega)
 have hrow:=h.row
 have hne:=f3 hr
 have xk:=Fw c (I4 n c s)
 have hxn:∀ i,i<n->xch c (I4 n c s) i<n:=fun i hi=>If hc hr hi
 have hxg:∀ i,c<=i->c<=xch c (I4 n c s) i:=fun i hi=>Rs f1 hi
 have h1:=A18 c m hm
 have e7:7^(c+1)*m=7*(7^c*m):=by rw [Nat.pow_succ,Nat.mul_comm (7^c) 7,Nat.mul_assoc]
 have hE:Gc n ⟨M,[],1⟩ (c+1)=Bf n c (Gc n ⟨M,[],1⟩ c):=rfl
 have hlen:=h.len
 have hsync:=h.sync
 generalize Gc n ⟨M,[],1⟩ c=e at hE hlen hsync hrow
 have hE2:Bf n c e={ R:=V3 (fun i=>e.R (xch c (I4 n c s) i)) c c,cs:=e.cs++[c],det:=(if Iw n c e=e.cs.length then e.det else-e.det)*e.R (Iw n c e) c }:=by
  unfold Bf
  rw [hlen,if_pos hc,hrow,if_pos hr]
 rw [hE2] at hE
 have szR1:∀ i j,i<n->j<n->Sz (7^c*m) (s.R (xch c (I4 n c s) i) j):=fun i j hi hj=>h.szR _ j (hxn i hi) hj
 refine ⟨fun i j hi hci hj=>?_,fun i j hj=>?_,fun i j hi hj=>?_,fun i j hi hj=>?_,?_,fun i j hi hci=>?_⟩
 ·show Dy (fun i=>s.R (xch c (I4 n c s) i)) c i j=0
  unfold Dy
  by_cases e1:j<c
  ·rw [if_pos (.inr e1)]
   exact h.zero _ j (hxn i hi) (hxg i (by omega)) e1
  ·rw [if_neg (by omega)]
   have:j=c:=by omega
   subst this
   simp only [xk]
   grind
 ·show Ab (fun i=>s.R (xch c (I4 n c s) i)) (fun i=>s.L (xch c (I4 n c s) i)) c i j=0
  unfold Ab
  rw [if_neg (by omega)]
  exact h.lz _ j (by omega)
 ·show Sz (7^(c+1)*m) (Dy (fun i=>s.R (xch c (I4 n c s) i)) c i j)
  unfold Dy
  rw [e7]
  split
  ·exact (szR1 i j hi hj).mono (by omega)
  ·exact ((szR1 i j hi hj).sub (((szR1 i c hi hc).div (szR1 c c hc hc) h1).mul (szR1 c j hc hj))).mono (by omega)
 ·show Sz (7^(c+1)*m) (Ab (fun i=>s.R (xch c (I4 n c s) i)) (fun i=>s.L (xch c (I4 n c s) i)) c i j)
  unfold Ab
  rw [e7]
  split
  ·split
   ·exact ⟨ZB.one (by omega),ZB.one (by omega)⟩
   ·split
    ·exact ((szR1 i c hi hc).div (szR1 c c hc hc) h1).mono (by omega)
    ·exact Sz.zero (by omega)
  ·exact (h.szL _ j (hxn i hi) hj).mono (by omega)
 ·rw [hE]
  show (e.cs++[c]).length=c+1
  rw [List.length_append,hlen];rfl
 ·rw [hE]
  show V3 (fun i=>e.R (xch c (I4 n c s) i)) c c i j=Dy (fun i=>s.R (xch c (I4 n c s) i)) c i j
  unfold V3 Dy
  have s1:=hsync (xch c (I4 n c s) i)
  have s2:=hsync (xch c (I4 n c s) c)
  rw [if_neg (show ¬ i=c by omega)]
  simp only [s1 _ (hxn i hi) (hxg i (by omega)),s2 _ (hxn c hc) (hxg c (by omega))]
  by_cases e1:j<c
  ·rw [if_pos (.inr e1),if_pos (.inr e1)]
  ·rw [if_neg (show ¬ (i<=c\/j<c) by omega)]
   split
   ·rename_i h2
    rcases h2 with h2|h2
    ·rw [h2];grind
    ·omega
   ·grind
theorem LuI.run{n m:Nat}{M:Nat->Nat->Rat}(hs:∀ i j,i<n->j<n->Sz m (M i j))(hm:1<=m):∀ c,c<=n->(∀ c',c'<c->I4 n c' (T5 n M c')<n)->LuI n c m M (T5 n M c):=by
 intro c
 induction c with
 | zero=>intro _ _;exact LuI.start hs hm
 | succ c ih=>exact fun hc hr=>(ih (by omega) fun c' h=>hr c' (by omega)).step hm (by omega) (hr c (by omega))
end Go.Proofs.YthilnfgnpdeofaaGreatDoor
