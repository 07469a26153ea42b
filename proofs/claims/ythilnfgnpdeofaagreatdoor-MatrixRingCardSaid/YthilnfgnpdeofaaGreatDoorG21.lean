/-
  Texts of this proof, merged by a program of ours.
-/
import Derived.Test.YthilnfgnpdeofaaGreatDoorG08
import Derived.Test.YthilnfgnpdeofaaGreatDoorG20
import Derived.Test.YthilnfgnpdeofaaGreatDoorRows
import Derived.Below
import Derived.ChangeSame
import Derived.WideShapes
import Derived.LaidLaws
import Derived.Lib.LaidTab
namespace Go.Proofs.YthilnfgnpdeofaaGreatDoor
set_option maxRecDepth 20000
open Go
abbrev dgt(c:UInt8):Bool:=decide (H9 c)
theorem Hh(l:List UInt8):∀ c∈l.takeWhile dgt,H9 c:=by
 induction l with
 | nil=>simp
 | cons d r ih=>
  intro c hc
  by_cases hd:H9 d
  ·simp [hd] at hc
   rcases hc with rfl|hc
   ·exact hd
   ·exact ih c hc
  ·simp [hd] at hc
def A6k(l:List UInt8):Bool:=decide ([45] <+: l)
def As(l:List UInt8):List UInt8:=if [45] <+: l then l.drop 1 else l
theorem Zt(l:List UInt8):l=(if A6k l then [45] else [])++As l:=by
 unfold A6k As
 by_cases h:[45] <+: l
 ·obtain ⟨t,rfl⟩:=h;simp
 ·simp [h]
theorem A2v(l:List UInt8):A6k l=(l.head? == some 45):=by
 unfold A6k
 cases l with
 | nil=>simp
 | cons c r=>
  rw [List.head?_cons,Bool.eq_iff_iff,decide_eq_true_iff,beq_iff_eq,Option.some.injEq]
  constructor
  ·rintro ⟨t,e⟩;simp at e;exact e.1.symm
  ·rintro rfl;exact ⟨r,rfl⟩
theorem Form.parts{l:List UInt8}{neg:Bool}{a b:List UInt8}(f:Form l neg a b):neg=A6k l/\a=(As l).takeWhile dgt/\(if b=[] then [] else 47::b)=(As l).dropWhile dgt:=by
 have hn:neg=A6k l:=by rw [A2v];exact f.head
 have e:=Zt l
 rw [<- hn] at e
 have e2:=e.symm.trans f.eq
 rw [List.append_assoc] at e2
 have e3:=List.append_cancel_left e2
 have hr:∀ c,(if b=[] then [] else 47::b:List UInt8).head? = some c->¬ H9 c:=by
  intro c hc
  split at hc
  ·simp at hc
  ·simp at hc;subst hc;decide
 have:=Bq f.da hr
 rw [<- e3] at this
 exact ⟨hn,this.1.symm,this.2.symm⟩
section
variable {h g:Heap} {K:Value->Heap->Prop} {l:List UInt8}
theorem Fq(hl:l.length<=1000000000)(hK:K (.tuple #[.string (bs (l.takeWhile dgt)),.string (bs (l.dropWhile dgt))]) h):FCall Tryz.prog T3 #[.string (bs l)] h K:=by
 refine Tm _ ?_
 unfold Rc
 simp only [O6]
 refine ⟨fun L hp=>L=[I (((l.takeWhile dgt).length:Nat):Int)]/\hp=h,?_,?_⟩
 ·refine ⟨fun L hp=>∃ k:Nat,L=[I k]/\hp=h/\k<=l.length/\(∀ c∈l.take k,H9 c),fun L _=>l.length-(iAt L 0).toNat,⟨0,rfl,rfl,by omega,by simp⟩,?_⟩
  rintro n hp ⟨k,hL,rfl,hk,hd⟩
  obtain rfl:n=(k:Int):=by simpa using hL
  have stop:(∀ c,(l.drop k).head? = some c->¬ H9 c)->[I (k:Int)]=[I (((l.takeWhile dgt).length:Nat):Int)]/\hp=hp:=by
   intro hs
   have:=Bq hd hs
   rw [List.take_append_drop] at this
   refine ⟨?_,rfl⟩
   rw [this.1,List.length_take,Nat.min_eq_left hk]
  refine B8 (fun h1=>?_) (fun h1=>?_)
  ·have hkl:k<l.length:=by omega
   have hget:(bs l)[(k:Int).toNat]? = some l[k]:=by rw [Int.toNat_natCast,Qv,List.getElem?_eq_getElem hkl]
   have hh:(l.drop k).head? = some l[k]:=by rw [List.head?_drop,List.getElem?_eq_getElem hkl]
   refine ⟨l[k],⟨by omega,hget⟩,B8 (fun h2=>?_) (fun h2=>?_)⟩
   ·refine ⟨l[k],⟨by omega,hget⟩,B8 (fun h3=>?_) (fun h3=>?_)⟩
    ·rw [B6 (by omega) (by omega)]
     refine ⟨⟨k+1,rfl,rfl,by omega,?_⟩,by simp only [iAt,List.getElem?_cons_zero];omega⟩
     rw [List.take_succ_eq_append_getElem hkl]
     intro c hc
     rcases List.mem_append.1 hc with h4|h4
     ·exact hd c h4
     ·rw [List.mem_singleton.1 h4];exact ⟨by omega,by omega⟩
    ·exact stop (fun c hc=>by rw [hh] at hc;cases hc;intro hd;exact h3 (by have:=hd.2;omega))
   ·exact stop (fun c hc=>by rw [hh] at hc;cases hc;intro hd;exact h2 (by have:=hd.1;omega))
  ·exact stop (fun c hc=>by rw [List.drop_of_length_le (by omega)] at hc;cases hc)
 ·rintro n hp ⟨hL,rfl⟩
  obtain rfl:n=(((l.takeWhile dgt).length:Nat):Int):=by simpa using hL
  have hle:(l.takeWhile dgt).length<=l.length:=(List.takeWhile_sublist _).length_le
  have e1:l.take (l.takeWhile dgt).length=l.takeWhile dgt:=by
   conv=>lhs;rw [<- List.takeWhile_append_dropWhile (p:=dgt) (l:=l)]
   rw [List.takeWhile_append_dropWhile,List.prefix_iff_eq_take.1 (List.takeWhile_prefix _)]
   rw [List.length_take,Nat.min_eq_left hle]
  have e2:l.drop (l.takeWhile dgt).length=l.dropWhile dgt:=by
   have h5:l.takeWhile dgt++l.drop (l.takeWhile dgt).length=l.takeWhile dgt++l.dropWhile dgt:=by
    rw [List.takeWhile_append_dropWhile]
    conv=>lhs;lhs;rw [<- e1]
    exact List.take_append_drop _ _
   exact List.append_cancel_left h5
  refine ⟨⟨by omega,by omega⟩,⟨by omega,by omega⟩,?_⟩
  rw [Int.toNat_natCast,O2,O2,List.drop_zero,Nat.sub_zero,e1,e2,List.take_of_length_le (by rw [<- e2,List.length_drop];omega)]
  exact hK
theorem S1(a:List UInt8):((bs a).toList==({ data:=#[] }:ByteArray).toList)=decide (a=[]):=Qw a []
theorem Jd(hl:l.length<=1000000000)(hK1:∀ neg a b,Form l neg a b->K (.tuple #[.agg #[.bool neg,.string (bs a),.string (bs b)],.bool true]) h)(hK0:(∀ neg a b,¬ Form l neg a b)->∀ neg a b,K (.tuple #[.agg #[.bool neg,.string (bs a),.string (bs b)],.bool false]) h):FCall Tryz.prog Ic #[.string (bs l)] h K:=by
 refine A4z _ ?_
 unfold A8l
 refine Pm (q:=[45]) ⟨_,_,rfl,?_⟩
 have hpl:(As l).length<=l.length:=by unfold As;split<;>simp
 show FCall Tryz.prog T3 #[.string (bs (As l))] h _
 refine Fq (by omega) ⟨_,_,rfl,?_⟩
 show Br _ _ _
 have hspl:As l=(As l).takeWhile dgt++(As l).dropWhile dgt:=List.takeWhile_append_dropWhile.symm
 have hda:∀ c∈(As l).takeWhile dgt,H9 c:=Hh _
 have hfp:∀ neg a b,Form l neg a b->neg=A6k l/\a=(As l).takeWhile dgt/\(if b=[] then [] else 47::b)=(As l).dropWhile dgt:=fun neg a b f=>f.parts
 have hl2:=Zt l
 have hal:((As l).takeWhile dgt).length<=l.length:=Nat.le_trans (List.takeWhile_sublist _).length_le hpl
 have hrl:((As l).dropWhile dgt).length<=l.length:=Nat.le_trans (List.dropWhile_sublist _).length_le hpl
 have hrh:∀ c,((As l).dropWhile dgt).head? = some c->¬ H9 c:=fun c hc=>by
  have:=List.head?_dropWhile_not dgt (As l)
  rw [hc] at this
  simpa using this
 show Br _ _ _
 have hneg:decide ([45] <+: l)=A6k l:=rfl
 rw [hneg]
 generalize A6k l=neg at *
 generalize (As l).takeWhile dgt=a at *
 generalize (As l).dropWhile dgt=r at *
 generalize As l=t at *
 subst hspl
 have e48:((bs a).toList==({ data:=#[48] }:ByteArray).toList)=decide (a=[48]):=Qw a [48]
 rw [e48,S1,S1]
 refine B8 (fun h1=>?_) (fun h1=>?_)
 ·subst h1
  refine Bi (Br.of (fun hn=>?_) (fun hn=>?_))
  ·subst hn
   refine hK0 ?_ _ _ []
   intro n' a' b' f
   obtain ⟨rfl,rfl,_⟩:=hfp _ _ _ f
   rcases f.ha with h2|h2
   ·exact h2 rfl
   ·cases h2.2.1
  ·subst hn
   by_cases hr:r=[]
   ·rw [decide_eq_true hr]
    subst hr
    refine hK1 false [48] [] ⟨by simpa using hl2,by simpa using hda,by simp,by simp,.inr ⟨rfl,rfl,rfl⟩,by simp,by simp⟩
   ·rw [decide_eq_false hr]
    refine hK0 ?_ _ _ []
    intro n' a' b' f
    obtain ⟨rfl,rfl,h3⟩:=hfp _ _ _ f
    rcases f.ha with h2|h2
    ·exact h2 rfl
    ·rw [h2.2.2] at h3;exact hr (by simpa using h3.symm)
 ·refine ⟨fun L hp=>L=[.bool (decide (a=[]\/a.head? = some 48))]/\hp=h,?_,?_⟩
  ·refine B8 (fun h2=>⟨by simp [h2],rfl⟩) (fun h2=>?_)
   obtain ⟨c,r2,rfl⟩:=List.exists_cons_of_ne_nil h2
   refine ⟨c,⟨by omega,by rw [Qv];rfl⟩,?_,rfl⟩
   congr 2
   rw [Bool.eq_iff_iff,beq_iff_eq,decide_eq_true_iff]
   simp only [reduceCtorEq,false_or,List.head?_cons,Option.some.injEq]
   constructor
   ·intro e;apply UInt8.toNat_inj.1;show c.toNat=48;omega
   ·rintro rfl;rfl
  rintro t31 hp ⟨hL,rfl⟩
  obtain rfl:t31=decide (a=[]\/a.head? = some 48):=by simpa using hL
  refine B8 (fun h2=>?_) (fun h2=>?_)
  ·refine hK0 ?_ _ _ []
   intro n' a' b' f
   obtain ⟨rfl,rfl,_⟩:=hfp _ _ _ f
   rcases h2 with h2|h2
   ·exact f.ne h2
   ·rcases f.ha with h3|h3
    ·exact h3 h2
    ·exact h1 h3.1
  ·have hane:a≠[]:=fun e=>h2 (.inl e)
   have hah:a.head? ≠ some 48:=fun e=>h2 (.inr e)
   refine B8 (fun h3=>?_) (fun h3=>?_)
   ·subst h3
    exact hK1 neg a [] ⟨by simpa using hl2,hda,by simp,hane,.inl hah,by simp,by simp⟩
   ·obtain ⟨c,r2,rfl⟩:=List.exists_cons_of_ne_nil h3
    refine ⟨c,⟨by omega,by rw [Qv];rfl⟩,L4 (fun h4=>?_) (fun h4=>?_)⟩
    ·refine hK0 ?_ _ _ []
     intro n' a' b' f
     obtain ⟨rfl,rfl,h5⟩:=hfp _ _ _ f
     by_cases hb:b'=[]
     ·simp [hb] at h5
     ·rw [if_neg hb] at h5
      simp at h5
      exact h4 (by rw [<- h5.1];rfl)
    ·have hc:c=47:=by apply UInt8.toNat_inj.1;show c.toNat=47;omega
     subst hc
     refine ⟨⟨by omega,by rw [O6];simp;omega⟩,?_⟩
     rw [O2,show ((1:Int)).toNat=1 from rfl,O6,List.take_of_length_le (by simp),List.drop_succ_cons,List.drop_zero]
     refine Fq (by simp at hrl;omega) ⟨_,_,rfl,?_⟩
     have hsp2:r2=r2.takeWhile dgt++r2.dropWhile dgt:=List.takeWhile_append_dropWhile.symm
     have hdb:∀ c∈r2.takeWhile dgt,H9 c:=Hh _
     have hbp:∀ b':List UInt8,(∀ c∈b',H9 c)->b'=r2->r2.takeWhile dgt=b'/\r2.dropWhile dgt=[]:=by
      intro b' hd e
      subst e
      have:=Bq (r:=[]) hd (by simp)
      simpa using this
     generalize r2.takeWhile dgt=b at *
     generalize r2.dropWhile dgt=s at *
     have no:(s≠[]\/b=[]\/b.head? = some 48\/b=[49])->∀ neg' a' b',¬ Form (((if neg=true then [45] else [])++(a++47::r2))) neg' a' b':=by
      rintro hbad n' a' b' f
      rw [<- hl2] at f
      obtain ⟨rfl,rfl,h5⟩:=hfp _ _ _ f
      by_cases hb:b'=[]
      ·simp [hb] at h5
      ·rw [if_neg hb] at h5
       simp at h5
       obtain ⟨e6,e7⟩:=hbp b' f.db h5
       subst e6
       rcases hbad with h6|h6|h6|h6
       ·exact h6 e7
       ·exact hb h6
       ·exact f.hb h6
       ·exact f.b1 h6
     rw [S1,S1]
     have e49:((bs b).toList==({ data:=#[49] }:ByteArray).toList)=decide (b=[49]):=Qw b [49]
     rw [e49]
     refine B8 (fun h6=>?_) (fun h6=>hK0 (by rw [hl2];exact no (.inl h6)) _ _ _)
     subst h6
     rw [List.append_nil] at hsp2
     subst hsp2
     refine Bi (B8 (fun h7=>hK0 (by rw [hl2];exact no (.inr (.inl h7))) _ _ _) (fun h7=>?_))
     obtain ⟨c,r3,rfl⟩:=List.exists_cons_of_ne_nil h7
     refine ⟨c,⟨by omega,by rw [Qv];rfl⟩,L4 (fun h8=>?_) (fun h8=>?_)⟩
     ·by_cases h9:c::r3=[49]
      ·rw [decide_eq_true h9]
       exact hK0 (by rw [hl2];exact no (.inr (.inr (.inr h9)))) _ _ _
      ·rw [decide_eq_false h9]
       refine hK1 neg a (c::r3) ⟨by simpa using hl2,hda,hdb,hane,.inl hah,?_,h9⟩
       intro e;simp at e;exact h8 (by rw [e];rfl)
     ·have hh:(c::r3).head? = some 48:=by
       simp only [List.head?_cons,Option.some.injEq]
       apply UInt8.toNat_inj.1;show c.toNat=48;omega
      exact hK0 (by rw [hl2];exact no (.inr (.inr (.inl hh)))) _ _ _
end
theorem A5x{q:Rat}(h:q.den=1):P4 q=Mh q.num:=by unfold P4;rw [if_pos h,List.append_nil]
theorem A2b{q:Rat}(h:q.den≠1):P4 q=Mh q.num++[47]++Mh (q.den:Int):=by
 unfold P4;rw [if_neg h,Lm (i:=(q.den:Int)) (by omega),Int.natAbs_natCast];simp
section
variable {h g:Heap} {K:Value->Heap->Prop} {l:List UInt8}
theorem B3l{k:Nat}(h:k<=18):10^k<=1000000000000000000:=Nat.le_trans (Nat.pow_le_pow_right (by decide) h) (by decide)
theorem Cs(hd:∀ c∈l,H9 c)(hl:l.length<=18)(hK:K (I (M0 l:Int)) h):FCall Tryz.prog S8 #[.string (bs l)] h K:=by
 refine Ot _ ?_
 unfold Kt
 simp only [O6]
 refine ⟨fun L hp=>∃ k:Nat,L=[I (M0 (l.take k):Int),I k]/\hp=h/\k<=l.length,fun L _=>l.length-(iAt L 1).toNat,⟨0,rfl,rfl,by omega⟩,?_⟩
 rintro n t7 hp ⟨k,hL,rfl,hk⟩
 simp only [List.cons.injEq,Value.int.injEq,and_true,true_and] at hL
 obtain ⟨rfl,rfl⟩:=hL
 refine B8 (fun h1=>?_) (fun h1=>?_)
 ·have hkl:k<l.length:=by omega
  have hdc:=hd l[k] (List.getElem_mem hkl)
  have hlt:=Gq (l:=l.take (k+1)) (fun c hc=>hd c (List.mem_of_mem_take hc))
  rw [List.length_take,Nat.min_eq_left (by omega)] at hlt
  have ht:=B3l (k:=k+1) (by omega)
  have hs:M0 (l.take (k+1))=10*M0 (l.take k)+(l[k].toNat-48):=by rw [List.take_succ_eq_append_getElem hkl,Ig]
  unfold H9 at hdc
  refine ⟨l[k],⟨by omega,by rw [Int.toNat_natCast,Qv,List.getElem?_eq_getElem hkl]⟩,?_⟩
  have e:B4 (B4 (10*((M0 (l.take k):Nat):Int))+B4 (wu8 (((l[k].toNat:Nat):Int)-48)))=((M0 (l.take (k+1)):Nat):Int):=by
   rw [Zf (by omega) (by omega),B6 (n:=((l[k].toNat:Nat):Int)-48) (by omega) (by omega),B6 (n:=10*((M0 (l.take k):Nat):Int)) (by omega) (by omega),B6 (by omega) (by omega)]
   omega
  rw [e,B6 (n:=(k:Int)+1) (by omega) (by omega)]
  exact ⟨⟨k+1,rfl,rfl,by omega⟩,by simp only [iAt,List.getElem?_cons_zero,List.getElem?_cons_succ];omega⟩
 ·obtain rfl:k=l.length:=by omega
  rw [List.take_length];exact hK
theorem A2f{a b:Nat}(hK:K (I (Nat.gcd a b:Int)) h):FCall Tryz.prog A3q #[I (a:Int),I (b:Int)] h K:=by
 refine B0e _ _ ?_
 unfold B5b
 refine ⟨fun L hp=>∃ x y:Nat,L=[I x,I y]/\hp=h/\Nat.gcd x y=Nat.gcd a b,fun L _=>(iAt L 1).toNat,⟨a,b,rfl,rfl,rfl⟩,?_⟩
 rintro a1 b1 hp ⟨x,y,hL,rfl,hg⟩
 obtain ⟨rfl,rfl⟩:a1=(x:Int)/\b1=(y:Int):=by simpa using hL
 refine L4 (fun h1=>?_) (fun h1=>?_)
 ·have hy:y≠0:=by omega
  refine B8 (fun e=>absurd e h1) (fun _=>?_)
  have e:Int.tmod (x:Int) (y:Int)=((x%y:Nat):Int):=(Int.ofNat_tmod x y).symm
  rw [e]
  have hlt:=Nat.mod_lt x (Nat.pos_of_ne_zero hy)
  refine ⟨⟨y,x%y,rfl,rfl,?_⟩,by simp only [iAt,List.getElem?_cons_zero,List.getElem?_cons_succ];omega⟩
  rw [<- hg,Nat.gcd_comm x y,Nat.gcd_rec y x,Nat.gcd_comm]
 ·obtain rfl:y=0:=by omega
  rw [Nat.gcd_zero_right] at hg
  rw [hg];exact hK
theorem Pi(hK1:∀ q,l=P4 q->q.num.natAbs<1000000000->q.den<1000000000->K (.tuple #[.agg #[I q.num,I (q.den:Int)],.bool true]) h)(hK0:K (.tuple #[.agg #[I 0,I 0],.bool false]) h):FCall Tryz.prog Ds #[.string (bs l)] h K:=by
 refine Tl _ ?_
 unfold Rb
 rw [O6]
 refine B8 (fun _=>hK0) (fun h1=>?_)
 refine Jd (by omega) ?_ ?_
 ·intro neg a b f
  refine ⟨_,_,_,_,rfl,?_⟩
  simp only [O6]
  refine ⟨fun L hp=>L=[.bool (decide (a.length>9\/b.length>9))]/\hp=h,Br.of (fun e=>by cases e) (fun _=>B8 (fun h2=>⟨?_,rfl⟩) (fun h2=>⟨?_,rfl⟩)),?_⟩
  ·rw [decide_eq_true (show a.length>9\/b.length>9 by omega)]
  ·by_cases hb9:b.length>9
   ·rw [decide_eq_true (show a.length>9\/b.length>9 by omega)]
    exact congrArg (fun x=>[Value.bool x]) (decide_eq_true (show ((b.length:Nat):Int)>9 by omega))
   ·rw [decide_eq_false (show ¬ (a.length>9\/b.length>9) by omega)]
    exact congrArg (fun x=>[Value.bool x]) (decide_eq_false (show ¬ ((b.length:Nat):Int)>9 by omega))
  rintro t29 hp ⟨hL,rfl⟩
  obtain rfl:t29=decide (a.length>9\/b.length>9):=by simpa using hL
  refine B8 (fun _=>hK0) (fun h2=>?_)
  have habs:(Kn neg a).natAbs=M0 a:=by unfold Kn;split<;>simp
  have hva:=Gq f.da
  have hvb:=Gq f.db
  have h9:∀ k,k<=9->10^k<=1000000000:=fun k hk=>Nat.le_trans (Nat.pow_le_pow_right (by decide) hk) (by decide)
  have h9a:=h9 a.length (by omega)
  have h9b:=h9 b.length (by omega)
  refine Cs f.da (by omega) ⟨_,rfl,?_⟩
  refine ⟨fun L hp'=>L=[I 0,I 0,I (M0 a:Int),I (Gy b:Int)]/\hp'=hp/\Nat.gcd (M0 a) (Gy b)=1,?_,?_⟩
  ·rw [S1]
   refine Bi (B8 (fun h3=>?_) (fun h3=>?_))
   ·subst h3;exact ⟨rfl,rfl,by unfold Gy;simp⟩
   ·refine Cs f.db (by omega) ⟨_,rfl,A2f ⟨_,rfl,L4 (fun _=>hK0) (fun h4=>?_)⟩⟩
    have hfd:Gy b=M0 b:=by unfold Gy;rw [if_neg h3]
    rw [hfd]
    exact ⟨rfl,rfl,by omega⟩
  ·rintro t20 t21 x0 x1 hp5 ⟨hL5,rfl,hg⟩
   simp only [List.cons.injEq,Value.int.injEq,and_true,true_and] at hL5
   obtain ⟨_,_,rfl,rfl⟩:=hL5
   obtain ⟨q,hq⟩:=f.isNum.2 hg
   have hqf:=f.of_txt hq
   have hfd1:Gy b<1000000000:=by unfold Gy;split<;>omega
   refine ⟨fun L hp'=>L=[I q.num,I (q.den:Int)]/\hp'=hp5,Br.of (fun e=>?_) (fun e=>?_),?_⟩
   ·rw [hqf.1,hqf.2,e,B6 (by omega) (by omega)]
    exact ⟨by unfold Kn;simp,rfl⟩
   ·rw [hqf.1,hqf.2,e]
    exact ⟨by unfold Kn;simp,rfl⟩
   ·rintro y0 y1 hp6 ⟨hL6,rfl⟩
    simp only [List.cons.injEq,Value.int.injEq,and_true,true_and] at hL6
    obtain ⟨rfl,rfl⟩:=hL6
    exact hK1 q hq (by rw [hqf.1,habs];omega) (by rw [hqf.2];exact hfd1)
 ·intro hf neg a b
  refine ⟨_,_,_,_,rfl,?_⟩
  refine ⟨fun L hp=>L=[.bool true]/\hp=h,Bi ⟨rfl,rfl⟩,?_⟩
  rintro t29 hp ⟨hL,rfl⟩
  obtain rfl:t29=true:=by simpa using hL
  exact Br.of (fun _=>hK0) (fun e=>by cases e)
end
structure RQ (h:Heap) (w:QV) (q:Rat):Prop where
 num:ZI h w.s w.A w.n w.c q.num
 den:ZI h w.s2 w.A2 w.n2 w.c2 (if q.den=1 then 0 else (q.den:Int))
theorem ZB.gcd{m:Nat}{x y:Int}(hy:y≠0)(h:ZB m y):ZB m (Int.gcd x y:Int):=by
 refine h.le ?_
 rw [Int.natAbs_natCast]
 exact Nat.le_of_dvd (by omega) (Int.natAbs_dvd_natAbs.2 (Int.gcd_dvd_right x y))
section
variable {h h':Heap} {K:Value->Heap->Prop} {A B:Option Addr} {n c n' c':Nat} {s s':Bool} {x y z:Int} {m:Nat} {p q:Rat} {a b w:QV} {l:List UInt8}
theorem RQ.mono(hl:h.le h')(i:RQ h w q):RQ h' w q:=⟨i.num.mono hl,i.den.mono hl⟩
theorem RQ.whole(i:ZI h s A n c z):RQ h ⟨s,A,n,c,false,none,0,0⟩ (z:Rat):=⟨by simpa using i,by simpa using ZI.zero⟩
theorem RQ.zero:RQ h ⟨false,none,0,0,false,none,0,0⟩ 0:=⟨ZI.zero,ZI.zero⟩
theorem Fa(i:RQ h w q)(hK:K (.bool (decide (q.den=1))) h):FCall Tryz.prog F8 #[.agg #[.bool w.s2,.slice w.A2 w.n2 w.c2]] h K:=by
 refine F4 i.den ?_
 have:=q.den_nz
 have e:decide ((if q.den=1 then (0:Int) else (q.den:Int))=0)=decide (q.den=1):=by
  rw [decide_eq_decide];split<;>omega
 rw [e];exact hK
theorem X9(i:ZI h s A n c z)(j:ZI h s' B n' c' y)(h1:q.num=z)(h2:(q.den:Int)=y)(hK:∀ w,RQ h w q->K w.v h):FCall Tryz.prog Y5 #[.agg #[.bool s,.slice A n c],.agg #[.bool s',.slice B n' c']] h K:=by
 subst h1 h2
 refine A1l _ _ _ _ _ _ _ _ ?_
 unfold A50
 refine P3 j ⟨_,rfl,B8 (fun e=>?_) (fun e=>?_)⟩
 ·exact hK ⟨s,A,n,c,false,none,0,0⟩ ⟨i,by rw [if_pos (by omega)];exact ZI.zero⟩
 ·exact hK ⟨s,A,n,c,s',B,n',c'⟩ ⟨i,by rw [if_neg (by omega)];exact j⟩
theorem Ho(i:RQ h w q)(hK:∀ s A n c h',h.le h'->ZI h' s A n c (q.den:Int)->K (.agg #[.bool s,.slice A n c]) h'):FCall Tryz.prog Qr #[w.v] h K:=by
 refine B0j _ _ _ _ _ _ _ _ ?_
 unfold B5f
 refine Fa i ⟨_,rfl,B8 (fun e=>?_) (fun e=>?_)⟩
 ·refine Gz (by decide) (by decide) ?_
  intro s A n c h1 l1 i1
  exact ⟨_,_,_,_,rfl,hK _ _ _ _ _ l1 (by rw [e];exact i1)⟩
 ·have:=i.den
  rw [if_neg e] at this
  exact hK _ _ _ _ _ (B3 _) this
theorem Ny(gl:Gtz h)(i:ZI h s A n c x)(j:ZI h s' B n' c' y)(hx:ZB m x)(hy:ZB m y)(hm:m<=6400000000)(hy0:0<y)(hK:∀ s1 A1 n1 c1 s2 A2 n2 c2 h',h.le h'->ZI h' s1 A1 n1 c1 (x.tdiv (Int.gcd x y))->ZI h' s2 A2 n2 c2 (y.tdiv (Int.gcd x y))->K (.tuple #[.agg #[.bool s1,.slice A1 n1 c1],.agg #[.bool s2,.slice A2 n2 c2]]) h'):FCall Tryz.prog Id #[.agg #[.bool s,.slice A n c],.agg #[.bool s',.slice B n' c']] h K:=by
 refine A1m _ _ _ _ _ _ _ _ ?_
 unfold A51
 refine P3 j ⟨_,rfl,B8 (fun e=>?_) (fun e=>?_)⟩
 ·subst e
  have hg:Int.gcd x 1=1:=by simp
  rw [hg] at hK
  exact hK _ _ _ _ _ _ _ _ _ (B3 _) (by simpa using i) (by simpa using j)
 ·refine Da gl i j hx hy hm ?_
  intro A1 n1 c1 h1 l1 i1
  have hg:=Int.gcd_pos_of_ne_zero_right x (show y≠0 by omega)
  have hgb:ZB m (Int.gcd x y:Int):=ZB.gcd (by omega) hy
  refine ⟨_,_,_,_,rfl,X5 (i.mono l1) i1 hx hgb hm (by omega) ?_⟩
  intro s2 A2 n2 c2 h2 l2 i2
  refine ⟨_,_,_,_,rfl,l2,X5 (j.mono (A0 l1 l2)) (i1.mono l2) hy hgb hm (by omega) ?_⟩
  intro s3 A3 n3 c3 h3 l3 i3
  exact ⟨_,_,_,_,rfl,l3,hK _ _ _ _ _ _ _ _ _ (A0 l1 (A0 l2 l3)) (i2.mono l3) i3⟩
theorem A0p(i:RQ h w q)(hK:∀ w',RQ h w' (-q)->K w'.v h):FCall Tryz.prog A3r #[w.v] h K:=by
 refine B0g _ _ _ _ _ _ _ _ ?_
 unfold B5c
 refine X6 i.num ?_
 intro s' i'
 exact ⟨_,_,_,_,rfl,B3 _,hK ⟨s',w.A,w.n,w.c,w.s2,w.A2,w.n2,w.c2⟩ ⟨by simpa using i',by simpa using i.den⟩⟩
end
structure Gl (h:Heap):Prop where
 tz:Gtz h
 p10:Gp h
theorem Gl.mono{h h':Heap}(g:Gl h)(l:h.le h'):Gl h':=⟨g.tz.mono l,g.p10.mono l⟩
section
variable {h h':Heap} {K:Value->Heap->Prop} {A B:Option Addr} {n c n' c':Nat} {s s':Bool} {x y z:Int} {m:Nat} {p q:Rat} {a b w:QV} {l:List UInt8}
theorem A0q(gl:Gtz h)(i:RQ h a p)(j:RQ h b q)(hp:Sz m p)(hq:Sz m q)(hm:m<=6400000000)(hK:∀ w h',h.le h'->RQ h' w (p*q)->K w.v h'):FCall Tryz.prog A3s #[a.v,b.v] h K:=by
 have hpd:=p.den_nz
 have hqd:=q.den_nz
 refine B0h _ _ _ _ _ _ _ _ _ _ _ _ _ _ _ _ ?_
 unfold B5d
 refine ⟨fun L hp=>L=[.bool (decide (p.num=0\/q.num=0))]/\hp=h,F4 i.num ⟨_,rfl,B8 (fun e=>?_) (fun e=>?_)⟩,?_⟩
 ·exact ⟨by simp [e],rfl⟩
 ·exact F4 j.num ⟨_,rfl,by simp [e],rfl⟩
 rintro t16 hp2 ⟨hL,rfl⟩
 obtain rfl:t16=decide (p.num=0\/q.num=0):=by simpa using hL
 refine B8 (fun e=>?_) (fun e=>?_)
 ·have:p*q=0:=by
   rw [Rat.num_eq_zero,Rat.num_eq_zero] at e
   exact Rat.mul_eq_zero.2 e
  rw [this] at hK
  exact hK ⟨false,none,0,0,false,none,0,0⟩ _ (B3 _) RQ.zero
 ·refine ⟨fun L hp=>L=[.bool (decide (p.den=1/\q.den=1))]/\hp=hp2,Fa i ⟨_,rfl,B8 (fun e=>?_) (fun e=>?_)⟩,?_⟩
  ·exact Fa j ⟨_,rfl,by simp [e],rfl⟩
  ·exact ⟨by simp [e],rfl⟩
  rintro t25 hp5 ⟨hL,rfl⟩
  obtain rfl:t25=decide (p.den=1/\q.den=1):=by simpa using hL
  refine B8 (fun e=>?_) (fun e=>?_)
  ·refine Aj i.num j.num hp.num hq.num hm ?_
   intro s1 A1 n1 c1 h1 l1 i1
   refine ⟨_,_,_,_,rfl,hK ⟨s1,A1,n1,c1,false,none,0,0⟩ _ l1 ?_⟩
   have:=RQ.whole i1
   rw [Rat.intCast_mul,<- A87 e.1,<- A87 e.2] at this
   exact this
  ·have hpp:=A38 p q
   refine Ho j ?_
   intro s1 A1 n1 c1 h1 l1 jd
   refine ⟨_,_,_,_,rfl,l1,Ny (gl.mono l1) (i.num.mono l1) jd hp.num hq.den hm (by omega) ?_⟩
   intro s2 A2 n2 c2 s3 A3 n3 c3 h2 l2 i2 i3
   have l12:=A0 l1 l2
   refine ⟨_,_,_,_,_,_,_,_,rfl,l2,Ho (i.mono l12) ?_⟩
   intro s4 A4 n4 c4 h4 l4 idn
   refine ⟨_,_,_,_,rfl,l4,Ny (gl.mono (A0 l12 l4)) (j.num.mono (A0 l12 l4)) idn hq.num hp.den hm (by omega) ?_⟩
   intro s5 A5 n5 c5 s6 A6 n6 c6 h5 l5 i5 i6
   have e1:Int.gcd p.num (q.den:Int)=Nat.gcd p.num.natAbs q.den:=rfl
   have e2:Int.gcd q.num (p.den:Int)=Nat.gcd q.num.natAbs p.den:=rfl
   rw [e1] at i2 i3
   rw [e2] at i5 i6
   rw [<- Int.ofNat_tdiv] at i3 i6
   refine ⟨_,_,_,_,_,_,_,_,rfl,l5,Aj (i2.mono (A0 l4 l5)) i5 hp.num.tdiv hq.num.tdiv hm ?_⟩
   intro s7 A7 n7 c7 h7 l7 i7
   have b1:ZB m ((p.den/Nat.gcd q.num.natAbs p.den:Nat):Int):=hp.den.le (by rw [Int.natAbs_natCast,Int.natAbs_natCast];exact Nat.div_le_self _ _)
   have b2:ZB m ((q.den/Nat.gcd p.num.natAbs q.den:Nat):Int):=hq.den.le (by rw [Int.natAbs_natCast,Int.natAbs_natCast];exact Nat.div_le_self _ _)
   refine ⟨_,_,_,_,rfl,l7,Aj (i6.mono l7) (i3.mono (A0 l4 (A0 l5 l7))) b1 b2 hm ?_⟩
   intro s8 A8 n8 c8 h8 l8 i8
   refine ⟨_,_,_,_,rfl,l8,X9 (q:=p*q) (i7.mono l8) i8 hpp.1 (by rw [hpp.2,Int.natCast_mul]) ?_⟩
   intro w iw
   exact ⟨_,_,_,_,_,_,_,_,rfl,B3 _,hK _ _ (A0 l12 (A0 l4 (A0 l5 (A0 l7 l8)))) iw⟩
theorem Rx(i:RQ h w q)(hK:∀ w h',h.le h'->RQ h' w q⁻¹->K w.v h'):FCall Tryz.prog Jq #[w.v] h K:=by
 have hqd:=q.den_nz
 refine Yy _ _ _ _ _ _ _ _ ?_
 unfold A0e
 refine Qc i.num ⟨_,rfl,D8 (fun e=>?_) (fun e=>?_)⟩
 ·have h0:q.num=0:=Int.sign_eq_zero_iff_zero.1 e
  have:q⁻¹=0:=by rw [Rat.num_eq_zero.1 h0];exact Rat.inv_zero
  rw [this] at hK
  exact hK ⟨false,none,0,0,false,none,0,0⟩ _ (B3 _) RQ.zero
 ·have h0:q.num≠0:=fun e0=>e (by rw [e0];rfl)
  refine D8 (fun e1=>?_) (fun e1=>?_)
  ·have hneg:q.num<0:=Int.sign_neg_iff.1 (by omega)
   refine Ho i ?_
   intro s1 A1 n1 c1 h1 l1 i1
   refine ⟨_,_,_,_,rfl,l1,X6 i1 ?_⟩
   intro s2 i2
   refine ⟨_,_,_,_,rfl,B3 _,X6 (i.num.mono l1) ?_⟩
   intro s3 i3
   refine ⟨_,_,_,_,rfl,B3 _,X9 (q:=q⁻¹) i2 i3 ?_ ?_ ?_⟩
   ·rw [Rat.num_inv,e1];omega
   ·rw [Rat.den_inv,if_neg h0];omega
   ·intro w iw
    exact ⟨_,_,_,_,_,_,_,_,rfl,B3 _,hK _ _ l1 iw⟩
  ·have hpos:0<q.num:=by
    rcases Int.lt_trichotomy q.num 0 with h1|h1|h1
    ·exact absurd (Int.sign_eq_neg_one_of_neg h1) e1
    ·exact absurd h1 h0
    ·exact h1
   refine Ho i ?_
   intro s1 A1 n1 c1 h1 l1 i1
   refine ⟨_,_,_,_,rfl,l1,X9 (q:=q⁻¹) i1 (i.num.mono l1) ?_ ?_ ?_⟩
   ·rw [Rat.num_inv,Int.sign_eq_one_of_pos hpos,Int.one_mul]
   ·rw [Rat.den_inv,if_neg h0];omega
   ·intro w iw
    exact ⟨_,_,_,_,_,_,_,_,rfl,B3 _,hK _ _ l1 iw⟩
theorem A0t(gl:Gtz h)(i:RQ h a p)(j:RQ h b q)(hp:Sz m p)(hq:Sz m q)(hm1:1<=m)(hm:m<=6400000000)(hK:∀ w h',h.le h'->RQ h' w (p/q)->K w.v h'):FCall Tryz.prog A3t #[a.v,b.v] h K:=by
 refine B0i _ _ _ _ _ _ _ _ _ _ _ _ _ _ _ _ ?_
 unfold B5e
 refine Rx j ?_
 intro w1 h1 l1 j1
 refine ⟨_,_,_,_,_,_,_,_,rfl,l1,A0q (gl.mono l1) (i.mono l1) j1 hp (hq.inv hm1) hm ?_⟩
 intro w2 h2 l2 i2
 rw [<- Rat.div_def] at i2
 exact ⟨_,_,_,_,_,_,_,_,rfl,l2,hK _ _ (A0 l1 l2) i2⟩
theorem Js{t:List UInt8}{k:Nat}(h:∀ c∈t,H9 c)(hk:t.length<=k):ZB (4*k) (M0 t:Int):=by
 unfold ZB
 rw [Int.natAbs_natCast]
 exact Nat.lt_of_lt_of_le (Yi h) (Nat.pow_le_pow_right (by decide) (by omega))
theorem Form.lens{neg:Bool}{a b:List UInt8}(f:Form l neg a b):a.length<=l.length/\b.length<=l.length:=by
 have:=congrArg List.length f.eq
 simp only [List.length_append] at this
 by_cases hb:b=[]
 ·rw [if_pos hb] at this;subst hb;simp at this ⊢;omega
 ·rw [if_neg hb] at this;simp at this;omega
theorem A0s(gl:Gtz h)(hl:l.length<=100000000)(hK1:∀ q,l=P4 q->∀ w h',h.le h'->RQ h' w q->K (.tuple #[w.v,.bool true]) h')(hK0:¬ IsNum l->∀ (w:QV) h',h.le h'->RQ h' w 0->K (.tuple #[w.v,.bool false]) h'):FCall Tryz.prog Ye #[.string (bs l)] h K:=by
 refine A7c _ ?_
 unfold B2k
 refine Jd (by omega) ?_ ?_
 ·intro neg a b f
  refine ⟨_,_,_,_,rfl,Bi ?_⟩
  have hlen:=f.lens
  refine Ez f.da (by omega) ?_
  intro A1 n1 c1 h1 l1 i1
  refine ⟨_,_,_,_,rfl,?_⟩
  refine ⟨fun L hp=>∃ s2:Bool,L=[.bool s2,.slice A1 n1 c1,.bool false,.slice none 0 0]/\hp=h1/\ZI h1 s2 A1 n1 c1 (Kn neg a),Br.of (fun e=>?_) (fun e=>?_),?_⟩
  ·refine X6 i1 ?_
   intro s2 i2
   exact ⟨_,_,_,_,rfl,s2,rfl,rfl,by unfold Kn;rw [e];exact i2⟩
  ·exact ⟨false,rfl,rfl,by unfold Kn;rw [e];exact i1⟩
  rintro x0 x1A x1n x1c x2 x3A x3n x3c hp3 ⟨s2,hL,rfl,i2⟩
  simp only [List.cons.injEq,Value.slice.injEq,Value.bool.injEq,and_true] at hL
  obtain ⟨rfl,⟨rfl,rfl,rfl⟩,rfl,rfl,rfl,rfl⟩:=hL
  have habs:(Kn neg a).natAbs=M0 a:=by unfold Kn;split<;>simp
  rw [S1]
  refine B8 (fun hb=>?_) (fun hb=>?_)
  ·subst hb
   obtain ⟨q,hq⟩:=f.isNum.2 (by unfold Gy;simp)
   obtain ⟨h2,h3⟩:=f.of_txt hq
   refine hK1 q hq ⟨x0,x1A,x1n,x1c,false,none,0,0⟩ _ l1 ⟨by rw [h2];exact i2,?_⟩
   rw [h3,show Gy []=1 from rfl,if_pos rfl];exact ZI.zero
  ·refine Ez f.db (by omega) ?_
   intro A4 n4 c4 h4 l4 i4
   have hnb:ZB (4*l.length) (Kn neg a):=(Js f.da (k:=l.length) (by omega)).le (by rw [habs,Int.natAbs_natCast];exact Nat.le_refl _)
   refine ⟨_,_,_,_,rfl,Da (gl.mono (A0 l1 l4)) (i2.mono l4) i4 hnb (Js f.db (k:=l.length) (by omega)) (by omega) ?_⟩
   intro A5 n5 c5 h5 l5 i5
   refine ⟨_,_,_,_,rfl,P3 i5 ⟨_,rfl,?_⟩⟩
   have hfd:Gy b=M0 b:=by unfold Gy;rw [if_neg hb]
   have hgg:Int.gcd (Kn neg a) (M0 b:Int)=Nat.gcd (M0 a) (Gy b):=by
    rw [hfd];show Nat.gcd (Kn neg a).natAbs (M0 b)=_;rw [habs]
   rw [hgg]
   refine Bi (B8 (fun e1=>?_) (fun e1=>?_))
   ·obtain ⟨q,hq⟩:=f.isNum.2 (by omega)
    obtain ⟨h2,h3⟩:=f.of_txt hq
    have hd1:Gy b≠1:=by
     intro e2
     have h6:=Ii f.db hb (.inl f.hb)
     rw [<- hfd,e2] at h6
     apply f.b1
     rw [<- h6];simp [L9,Y7,J8,dch]
    refine hK1 q hq ⟨x0,x1A,x1n,x1c,false,A4,n4,c4⟩ _ (A0 l1 (A0 l4 l5)) ⟨by rw [h2];exact i2.mono (A0 l4 l5),?_⟩
    rw [h3,if_neg hd1,hfd];exact i4.mono l5
   ·refine hK0 ?_ ⟨false,none,0,0,false,none,0,0⟩ _ (A0 l1 (A0 l4 l5)) RQ.zero
    intro hn
    exact e1 (by rw [f.isNum.1 hn];rfl)
 ·intro hf neg a b
  refine ⟨_,_,_,_,rfl,Bi ?_⟩
  refine hK0 ?_ ⟨false,none,0,0,false,none,0,0⟩ _ (B3 _) RQ.zero
  intro hn
  obtain ⟨neg',a',b',f⟩:=hn.form
  exact hf _ _ _ f
theorem Kd(gp:Gp h)(i:RQ h w q)(hq:Sz m q)(hm:m<=40000000)(hK:K (.string (bs (P4 q))) h):FCall Tryz.prog Ie #[w.v] h K:=by
 refine FCall.pure (A1n _ _ _ _ _ _ _ _ ?_)
 unfold A55
 refine Fa i ⟨_,rfl,B8 (fun e=>?_) (fun e=>?_)⟩
 ·rw [A5x e] at hK
  refine Wy i.num (fun h1 h2=>?_) (fun h1=>?_)
  ·refine ⟨_,_,rfl,Br.of (fun _=>Yx _ ?_) (fun e=>by cases e)⟩
   unfold A0d
   exact Pk gp h1 h2 ⟨_,rfl,_,rfl,B3 _,hK⟩
  ·refine ⟨_,_,rfl,Br.of (fun e=>by cases e) (fun _=>?_)⟩
   exact Ub gp i.num hq.num (by omega) ⟨_,rfl,B3 _,hK⟩
 ·rw [A2b e] at hK
  have idn:=i.den
  rw [if_neg e] at idn
  refine Dc (l:=[]) (eT:=F9) gp (Priv.nil _ _ _ _) i.num hq.num (by omega) (by omega) ?_
  intro A1 n1 c1 e1 g1 h1 x1
  refine ⟨_,_,_,rfl,?_⟩
  have hl1:(Mh q.num).length<=50000000:=by
   unfold Mh
   have:=Gs hq.num
   split<;>simp<;>omega
  have hx1:=x1.len
  refine Hp (ch:=47) rfl x1.priv (by omega) ?_
  intro A2 n2 c2 e2 g2 h2 x2
  have x12:=x1.trans x2
  have hx2:=x12.len
  rw [List.length_append,List.length_singleton] at hx2
  refine Dc (gp.mono x12.le) x2.priv (idn.mono x12.le) hq.den (by omega) (by omega) ?_
  intro A3 n3 c3 e3 g3 h3 x3
  refine ⟨_,_,_,rfl,?_⟩
  rw [List.append_assoc] at x3
  have x123:=x12.trans x3
  have hx3:=x123.len
  refine Ln Fn.und Df W9 x123.priv.slV (by simpa using hx3) ⟨_,rfl,?_⟩
  refine ⟨A0 x123.le x123.priv.le,?_⟩
  simpa using hK
end
structure Tx (m:Nat) (l:List UInt8):Prop where
 len:l.length<=100000000
 sz:Sz m (rv l)
theorem A5y{m:Nat}{z:Int}(h:ZB m z):(Mh z).length<=m+2:=by
 have:=Gs h
 unfold Mh;split
 ·rw [List.length_cons];omega
 ·omega
theorem Zj{m:Nat}{q:Rat}(h:Sz m q):(P4 q).length<=2*m+4:=by
 have h1:=A5y h.num
 have h2:=Gs (n:=q.den) (m:=m) (by have:=h.den;unfold ZB at this;simpa using this)
 unfold P4
 split
 ·simp;omega
 ·simp;omega
theorem Tx.of{m:Nat}{q:Rat}(h:Sz m q)(hm:m<=40000000):Tx m (P4 q):=⟨by have:=Zj h;omega,by rw [Ml];exact h⟩
theorem A2a(q:Rat):∃ c r,P4 q=c::r/\(c=45↔q<0):=by
 have f:=Hf q
 have hne:P4 q≠[]:=by
  intro e
  have:=f.eq
  rw [e] at this
  have h2:=f.ne
  have:=congrArg List.length this
  simp only [List.length_append,List.length_nil] at this
  exact h2 (List.eq_nil_of_length_eq_zero (by omega))
 obtain ⟨c,r,e⟩:=List.exists_cons_of_ne_nil hne
 refine ⟨c,r,e,?_⟩
 have hh:=f.head
 rw [e,List.head?_cons,Bool.eq_iff_iff,decide_eq_true_iff,beq_iff_eq,Option.some.injEq] at hh
 rw [<- hh,Rat.lt_iff];simp
section
variable {h:Heap} {K:Value->Heap->Prop} {m:Nat} {a b:List UInt8}
theorem A0j(gl:Gl h)(hl:a.length<=100000000)(hK1:IsNum a->K (.bool true) h)(hK0:¬ IsNum a->K (.bool false) h):FCall Tryz.prog Sr #[.string (bs a)] h K:=by
 refine FCall.pure (A4y _ ?_)
 unfold A8k
 refine Pi ?_ ?_
 ·intro q e _ _
  exact ⟨_,_,_,rfl,Br.of (fun _=>⟨B3 _,hK1 ⟨q,e⟩⟩) (fun e=>by cases e)⟩
 ·refine ⟨_,_,_,rfl,Br.of (fun e=>by cases e) (fun _=>?_)⟩
  refine Jd (by omega) ?_ ?_
  ·intro neg x y f
   refine ⟨_,_,_,_,rfl,Br.of (fun e=>by cases e) (fun _=>?_)⟩
   have hlen:=f.lens
   rw [S1]
   refine B8 (fun e=>?_) (fun e=>?_)
   ·subst e
    exact ⟨B3 _,hK1 (f.isNum.2 (by unfold Gy;simp))⟩
   ·refine Ez f.da (by omega) ?_
    intro A1 n1 c1 h1 l1 i1
    refine ⟨_,_,_,_,rfl,l1,Ez f.db (by omega) ?_⟩
    intro A2 n2 c2 h2 l2 i2
    refine ⟨_,_,_,_,rfl,l2,Da (gl.tz.mono (A0 l1 l2)) (i1.mono l2) i2 (Js f.da (k:=a.length) (by omega)) (Js f.db (k:=a.length) (by omega)) (by omega) ?_⟩
    intro A3 n3 c3 h3 l3 i3
    refine ⟨_,_,_,_,rfl,l3,P3 i3 ⟨_,rfl,B3 _,A0 l1 (A0 l2 l3),?_⟩⟩
    rw [Int.gcd_natCast_natCast]
    have hfd:Gy y=M0 y:=by unfold Gy;rw [if_neg e]
    by_cases hg:Nat.gcd (M0 x) (M0 y)=1
    ·rw [decide_eq_true (by rw [hg];rfl)]
     exact hK1 (f.isNum.2 (by rw [hfd];exact hg))
    ·rw [decide_eq_false (by omega)]
     exact hK0 (fun hn=>hg (by rw [<- hfd];exact f.isNum.1 hn))
  ·intro hf neg x y
   refine ⟨_,_,_,_,rfl,Br.of (fun _=>⟨B3 _,hK0 ?_⟩) (fun e=>by cases e)⟩
   intro hn
   obtain ⟨neg',a',b',f⟩:=hn.form
   exact hf _ _ _ f
end
def A7e(h:Heap)(r:Value)(h':Heap):Prop:=r= .bool true/\h.le h'
theorem Xl{x:List UInt8}{k:Nat}(hl:x.length<=k)(hk:1<=k):Sz (4*k) (rv x):=by
 by_cases hn:IsNum x
 ·obtain ⟨neg,a,b,f⟩:=hn.form
  obtain ⟨h1,h2⟩:=f.rv_num hn
  have hlen:=f.lens
  have habs:(Kn neg a).natAbs=M0 a:=by unfold Kn;split<;>simp
  refine ⟨?_,?_⟩
  ·rw [h1];exact (Js f.da (k:=k) (by omega)).le (by rw [habs,Int.natAbs_natCast];exact Nat.le_refl _)
  ·rw [h2]
   unfold Gy
   split
   ·exact ZB.one (by omega)
   ·exact Js f.db (by omega)
 ·rw [A7n hn];exact Sz.zero (by omega)
end Go.Proofs.YthilnfgnpdeofaaGreatDoor
namespace Go.Proofs.YthilnfgnpdeofaaGreatDoor
set_option maxRecDepth 20000
open Go Go.RowKit
def memOf(W:World):Heap:=fun b=>W.heap[b]?
theorem frame_of{P:Program}{f:FuncId}{args:Array Value}{W:World}(x:FCall P f args (memOf W) (A7e (memOf W))):Calls P f args W fun e w'=>e= .returned (.bool true)/\Below W.heap.size W w':=by
 refine (x W (fun b o e=>e)).mono ?_
 rintro e W' ⟨r,h',he,⟨hr,hle⟩,fr⟩
 subst hr
 refine ⟨he,fr.os,fr.tape,fr.output,fr.size,fun k hk=>?_⟩
 have e0:memOf W k=some W.heap[k]:=Array.getElem?_eq_getElem hk
 have:=fr.sim k _ (hle k _ e0)
 rw [this];exact e0.symm
theorem Jk{W:World}{a:Addr}{v:Value}(e:W.cell? a=some v):(memOf W).cell? a=some v:=by
 unfold World.cell? at e
 unfold Heap.cell? memOf
 exact e
theorem Zy{P:Program}{W:World}{x:String × DataW Unit}{rest:List (String × DataW Unit)}(h:laidMet P (x::rest) W):laidMet P rest W:=by
 obtain ⟨n,d⟩:=x
 obtain ⟨ps,⟨g,t,cs,fuel,p,q,h1,h2,h3,h4,h5,rfl⟩,h6,h7⟩:=h
 exact ⟨q,h5,(List.nodup_append.1 h6).2.1,fun b off hb=>h7 b off (List.mem_append_right _ hb)⟩
def B3m:List Int:=[0,1,28,2,29,14,24,3,30,22,20,15,25,17,4,8,31,27,13,23,21,19,16,7,26,12,18,6,11,5,10,9]
def A66:List Int:=[0,1,56,2,57,49,28,3,61,58,42,50,38,29,17,4,62,47,59,36,45,43,51,22,53,39,33,30,24,18,12,5,63,55,48,27,60,41,37,16,46,35,44,21,52,32,23,11,54,26,40,15,34,20,31,10,25,14,19,9,13,8,7,6]
def A98:List Int:=[1,10,100,1000,10000,100000,1000000,10000000,100000000,1000000000,10000000000,100000000000,1000000000000,10000000000000,100000000000000,1000000000000000,10000000000000000,100000000000000000,1000000000000000000,10000000000000000000]
theorem A7w:Tryz.prog.globalNamed "math/bits.deBruijn64tab" = some 3:=by kernel_rfl
theorem A7x:Tryz.prog.globalNamed "internal/strconv.uint64pow10" = some 2:=by kernel_rfl
theorem tabs_gl{W:World}(h:laidMet Tryz.prog [("math/bits.deBruijn32tab",Rows.laid_math_bits_deBruijn32tab),("math/bits.deBruijn64tab",Rows.laid_math_bits_deBruijn64tab),("internal/strconv.uint64pow10",Rows.laid_internal_strconv_uint64pow10)] W):Gl (memOf W):=by
 have h2:=Zy h
 have h3:=Zy h2
 have t64:Lib.TabIs Tryz.prog W "math/bits.deBruijn64tab" .u8 A66:=Lib.tabIs_of_head (rest:=[("internal/strconv.uint64pow10",Rows.laid_internal_strconv_uint64pow10)]) A7w (by kernel_rfl) Tryz.underlying273 Tryz.underlying5 (by kernel_rfl) (by kernel_rfl) h2
 have t10:Lib.TabIs Tryz.prog W "internal/strconv.uint64pow10" .u64 A98:=Lib.tabIs_of_head (rest:=[]) A7x (by kernel_rfl) Tryz.underlying264 Tryz.underlying157 (by kernel_rfl) (by kernel_rfl) h3
 have k64:∀ k,k<64->Ui k<A66.length/\A66.getD (Ui k) 0=(k:Int):=by decide +kernel
 have k10:∀ k,k<20->A98.getD k 0=((10^k:Nat):Int):=by decide +kernel
 refine ⟨fun k hk=>?_,fun k hk=>?_⟩
 ·obtain ⟨a,b⟩:=k64 k hk
  have:=Jk (t64.cell A7w (Ui k) a)
  rw [D7,Nat.mul_one,Nat.zero_add,this,b]
 ·have:=Jk (t10.cell A7x k (by show k<20;exact hk))
  rw [D7,Nat.mul_one,Nat.zero_add,this,k10 k hk]
def A3e(zs:List Int)(k:IntKind):Obj->Obj
 | .cells _ t frozen=>.cells (zs.map (Value.int k)).toArray t frozen
 | o=>o
def layTabs(a:Array Obj):Array Obj:=((a.modify 4 (A3e B3m .u8)).modify 3 (A3e A66 .u8)).modify 2 (A3e A98 .u64)
end Go.Proofs.YthilnfgnpdeofaaGreatDoor
