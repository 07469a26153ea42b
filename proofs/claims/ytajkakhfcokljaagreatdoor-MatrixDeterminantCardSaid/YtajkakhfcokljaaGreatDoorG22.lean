/-
  Texts of this proof, merged by a program of ours.
-/
import Derived.Test.YtajkakhfcokljaaGreatDoorG09
import Derived.Test.YtajkakhfcokljaaGreatDoorG21
import Derived.Test.YtajkakhfcokljaaGreatDoorRows
import Derived.Below
import Derived.ChangeSame
import Derived.WideShapes
import Derived.LaidLaws
import Derived.Lib.LaidTab
open Go.Proofs.Tryz
set_option linter.all false
open Bool renaming eq_iff_iff->B90
open Int renaming natAbs_natCast->B8g,gcd->B8m,toNat_natCast->B8w
open List renaming exists_cons_of_ne_nil->B8i,takeWhile_append_dropWhile->B8k,length_append->B8n,getElem?_eq_getElem->B8p,getElem?_cons_zero->B8q,head?_cons->B8r,take_succ_eq_append_getElem->B8u,append_assoc->B8v,length_take->B8y,replicate->B91
open List.cons renaming injEq->B8h
open Nat renaming gcd->B8l,pow_le_pow_right->B8t,le_trans->B8x,min_eq_left->B8z
open Option.some renaming injEq->B8o
open Rat renaming divInt->B8s
open _root_.Go.Value.int renaming injEq->B8j
namespace Go.Proofs.YtajkakhfcokljaaGreatDoor
set_option maxRecDepth 20000
open Go
abbrev dgt(c:UInt8):Bool:=decide (I0 c)
theorem Hz(l:List UInt8):∀ c∈l.takeWhile dgt,I0 c:=by
 induction l with
 | nil=>simp
 | cons d r ih=>
  intro c hc
  by_cases hd:I0 d
  ·simp [hd] at hc
   rcases hc with rfl|hc
   ·exact hd
   ·exact ih c hc
  ·simp [hd] at hc
def A92(l:List UInt8):Bool:=decide ([45] <+: l)
def Bl(l:List UInt8):List UInt8:=if [45] <+: l then l.drop 1 else l
theorem A1k(l:List UInt8):l=(if A92 l then [45] else [])++Bl l:=by
 unfold A92 Bl
 by_cases h:[45] <+: l
 ·obtain ⟨t,rfl⟩:=h;simp
 ·simp [h]
theorem A52(l:List UInt8):A92 l=(l.head? == some 45):=by
 unfold A92
 cases l with
 | nil=>simp
 | cons c r=>
  rw [B8r,B90,decide_eq_true_iff,beq_iff_eq,B8o]
  constructor
  ·rintro ⟨t,e⟩;simp at e;exact e.1.symm
  ·rintro rfl;exact ⟨r,rfl⟩
theorem Form.parts{l:List UInt8}{neg:Bool}{a b:List UInt8}(f:Form l neg a b):neg=A92 l/\a=(Bl l).takeWhile dgt/\(if b=[] then [] else 47::b)=(Bl l).dropWhile dgt:=by
 have hn:neg=A92 l:=by rw [A52];exact f.head
 have e:=A1k l
 rw [<- hn] at e
 have e2:=e.symm.trans f.eq
 rw [B8v] at e2
 have e3:=List.append_cancel_left e2
 have hr:∀ c,(if b=[] then [] else 47::b:List UInt8).head? = some c->¬ I0 c:=by
  intro c hc
  split at hc
  ·simp at hc
  ·simp at hc;subst hc;decide
 have:=Ck f.da hr
 rw [<- e3] at this
 exact ⟨hn,this.1.symm,this.2.symm⟩
section
variable {h g:Heap} {K:VP} {l:List UInt8}
theorem Gf(hl:l.length<=1000000000)(hK:K (.tuple #[.string (bs (l.takeWhile dgt)),.string (bs (l.dropWhile dgt))]) h):FCall prog U2 #[.string (bs l)] h K:=by
 refine Vi _ ?_
 unfold Sm
 simp only [O6]
 refine ⟨fun L hp=>L=[I (((l.takeWhile dgt).length:Nat):Int)]/\hp=h,?_,?_⟩
 ·refine ⟨fun L hp=>∃ k:Nat,L=[I k]/\hp=h/\k<=l.length/\(∀ c∈l.take k,I0 c),fun L _=>l.length-(iAt L 0).toNat,⟨0,rfl,rfl,by omega,by simp⟩,?_⟩
  rintro n hp ⟨k,hL,rfl,hk,hd⟩
  obtain rfl:=sI1 hL
  have stop:(∀ c,(l.drop k).head? = some c->¬ I0 c)->[I (k:Int)]=[I (((l.takeWhile dgt).length:Nat):Int)]/\hp=hp:=by
   intro hs
   have:=Ck hd hs
   rw [List.take_append_drop] at this
   refine ⟨?_,rfl⟩
   rw [this.1,B8y,B8z hk]
  refine B7 (fun h1=>?_) (fun h1=>?_)
  ·have hkl:k<l.length:=by omega
   have hget:(bs l)[(k:Int).toNat]? = some l[k]:=by rw [B8w,Sh,B8p hkl]
   have hh:(l.drop k).head? = some l[k]:=by rw [List.head?_drop,B8p hkl]
   refine ⟨l[k],⟨by omega,hget⟩,B7 (fun h2=>?_) (fun h2=>?_)⟩
   ·refine ⟨l[k],⟨by omega,hget⟩,B7 (fun h3=>?_) (fun h3=>?_)⟩
    ·rw [B8 (by omega) (by omega)]
     refine ⟨⟨k+1,rfl,rfl,by omega,?_⟩,by simp only [iAt,B8q];omega⟩
     rw [B8u hkl]
     intro c hc
     rcases List.mem_append.1 hc with h4|h4
     ·exact hd c h4
     ·rw [List.mem_singleton.1 h4];exact ⟨by omega,by omega⟩
    ·exact stop (fun c hc=>by rw [hh] at hc;cases hc;intro hd;exact h3 (by have:=hd.2;omega))
   ·exact stop (fun c hc=>by rw [hh] at hc;cases hc;intro hd;exact h2 (by have:=hd.1;omega))
  ·exact stop (fun c hc=>by rw [List.drop_of_length_le (by omega)] at hc;cases hc)
 ·rintro n hp ⟨hL,rfl⟩
  obtain rfl:n=(((l.takeWhile dgt).length:Nat):Int):=by simpa using hL
  have hle:(l.takeWhile dgt).length<=l.length:=(List.takeWhile_sublist _).length_le
  have e1:l.take (l.takeWhile dgt).length=l.takeWhile dgt:=by
   conv=>lhs;rw [<- B8k (p:=dgt) (l:=l)]
   rw [B8k,List.prefix_iff_eq_take.1 (List.takeWhile_prefix _)]
   rw [B8y,B8z hle]
  have e2:l.drop (l.takeWhile dgt).length=l.dropWhile dgt:=by
   have h5:l.takeWhile dgt++l.drop (l.takeWhile dgt).length=l.takeWhile dgt++l.dropWhile dgt:=by
    rw [B8k]
    conv=>lhs;lhs;rw [<- e1]
    exact List.take_append_drop _ _
   exact List.append_cancel_left h5
  refine ⟨⟨by omega,by omega⟩,⟨by omega,by omega⟩,?_⟩
  rw [B8w,O2,O2,List.drop_zero,Nat.sub_zero,e1,e2,List.take_of_length_le (by rw [<- e2,List.length_drop];omega)]
  exact hK
theorem S8(a:List UInt8):((bs a).toList==({ data:=#[] }:ByteArray).toList)=decide (a=[]):=Pk a []
theorem Jt(hl:l.length<=1000000000)(hK1:∀ neg a b,Form l neg a b->K (.tuple #[.agg #[.bool neg,.string (bs a),.string (bs b)],.bool true]) h)(hK0:(∀ neg a b,¬ Form l neg a b)->∀ neg a b,K (.tuple #[.agg #[.bool neg,.string (bs a),.string (bs b)],.bool false]) h):FCall prog It #[.string (bs l)] h K:=by
 refine A7e _ ?_
 unfold B1b
 refine Qv (q:=[45]) ⟨_,_,rfl,?_⟩
 have hpl:(Bl l).length<=l.length:=by unfold Bl;split<;>simp
 show FCall prog U2 #[.string (bs (Bl l))] h _
 refine Gf (by omega) ⟨_,_,rfl,?_⟩
 show Br _ _ _
 have hspl:Bl l=(Bl l).takeWhile dgt++(Bl l).dropWhile dgt:=List.takeWhile_append_dropWhile.symm
 have hda:∀ c∈(Bl l).takeWhile dgt,I0 c:=Hz _
 have hfp:∀ neg a b,Form l neg a b->neg=A92 l/\a=(Bl l).takeWhile dgt/\(if b=[] then [] else 47::b)=(Bl l).dropWhile dgt:=fun neg a b f=>f.parts
 have hl2:=A1k l
 have hal:((Bl l).takeWhile dgt).length<=l.length:=B8x (List.takeWhile_sublist _).length_le hpl
 have hrl:((Bl l).dropWhile dgt).length<=l.length:=B8x (List.dropWhile_sublist _).length_le hpl
 have hrh:∀ c,((Bl l).dropWhile dgt).head? = some c->¬ I0 c:=fun c hc=>by
  have:=List.head?_dropWhile_not dgt (Bl l)
  rw [hc] at this
  simpa using this
 show Br _ _ _
 have hneg:decide ([45] <+: l)=A92 l:=rfl
 rw [hneg]
 generalize A92 l=neg at *
 generalize (Bl l).takeWhile dgt=a at *
 generalize (Bl l).dropWhile dgt=r at *
 generalize Bl l=t at *
 subst hspl
 have e48:((bs a).toList==({ data:=#[48] }:ByteArray).toList)=decide (a=[48]):=Pk a [48]
 rw [e48,S8,S8]
 refine B7 (fun h1=>?_) (fun h1=>?_)
 ·subst h1
  refine R6 (Br.of (fun hn=>?_) (fun hn=>?_))
  ·subst hn
   refine hK0 ?_ _ _ []
   intro n' a' b' f
   obtain ⟨rfl,rfl,_⟩:=hfp _ _ _ f
   rcases f.ha with h2|h2
   ·exact h2 rfl
   ·cases h2.2.1
  ·subst hn
   by_cases hr:r=[]
   ·rw [decide_eq_true hr]
    subst hr
    refine hK1 false [48] [] ⟨by simpa using hl2,by simpa using hda,by simp,by simp,.inr ⟨rfl,rfl,rfl⟩,by simp,by simp⟩
   ·rw [decide_eq_false hr]
    refine hK0 ?_ _ _ []
    intro n' a' b' f
    obtain ⟨rfl,rfl,h3⟩:=hfp _ _ _ f
    rcases f.ha with h2|h2
    ·exact h2 rfl
    ·rw [h2.2.2] at h3;exact hr (by simpa using h3.symm)
 ·refine ⟨fun L hp=>L=[.bool (decide (a=[]\/a.head? = some 48))]/\hp=h,?_,?_⟩
  ·refine B7 (fun h2=>⟨by simp [h2],rfl⟩) (fun h2=>?_)
   obtain ⟨c,r2,rfl⟩:=B8i h2
   refine ⟨c,⟨by omega,by rw [Sh];rfl⟩,?_,rfl⟩
   congr 2
   rw [B90,beq_iff_eq,decide_eq_true_iff]
   simp only [reduceCtorEq,false_or,B8r,B8o]
   constructor
   ·intro e;apply UInt8.toNat_inj.1;show c.toNat=48;omega
   ·rintro rfl;rfl
  rintro t31 hp ⟨hL,rfl⟩
  obtain rfl:t31=decide (a=[]\/a.head? = some 48):=by simpa using hL
  refine B7 (fun h2=>?_) (fun h2=>?_)
  ·refine hK0 ?_ _ _ []
   intro n' a' b' f
   obtain ⟨rfl,rfl,_⟩:=hfp _ _ _ f
   rcases h2 with h2|h2
   ·exact f.ne h2
   ·rcases f.ha with h3|h3
    ·exact h3 h2
    ·exact h1 h3.1
  ·have hane:a≠[]:=fun e=>h2 (.inl e)
   have hah:a.head? ≠ some 48:=fun e=>h2 (.inr e)
   refine B7 (fun h3=>?_) (fun h3=>?_)
   ·subst h3
    exact hK1 neg a [] ⟨by simpa using hl2,hda,by simp,hane,.inl hah,by simp,by simp⟩
   ·obtain ⟨c,r2,rfl⟩:=B8i h3
    refine ⟨c,⟨by omega,by rw [Sh];rfl⟩,H9 (fun h4=>?_) (fun h4=>?_)⟩
    ·refine hK0 ?_ _ _ []
     intro n' a' b' f
     obtain ⟨rfl,rfl,h5⟩:=hfp _ _ _ f
     by_cases hb:b'=[]
     ·simp [hb] at h5
     ·rw [if_neg hb] at h5
      simp at h5
      exact h4 (by rw [<- h5.1];rfl)
    ·have hc:c=47:=by apply UInt8.toNat_inj.1;show c.toNat=47;omega
     subst hc
     refine ⟨⟨by omega,by rw [O6];simp;omega⟩,?_⟩
     rw [O2,show ((1:Int)).toNat=1 from rfl,O6,List.take_of_length_le (by simp),List.drop_succ_cons,List.drop_zero]
     refine Gf (by simp at hrl;omega) ⟨_,_,rfl,?_⟩
     have hsp2:r2=r2.takeWhile dgt++r2.dropWhile dgt:=List.takeWhile_append_dropWhile.symm
     have hdb:∀ c∈r2.takeWhile dgt,I0 c:=Hz _
     have hbp:∀ b':List UInt8,(∀ c∈b',I0 c)->b'=r2->r2.takeWhile dgt=b'/\r2.dropWhile dgt=[]:=by
      intro b' hd e
      subst e
      have:=Ck (r:=[]) hd (by simp)
      simpa using this
     generalize r2.takeWhile dgt=b at *
     generalize r2.dropWhile dgt=s at *
     have no:(s≠[]\/b=[]\/b.head? = some 48\/b=[49])->∀ neg' a' b',¬ Form (((if neg=true then [45] else [])++(a++47::r2))) neg' a' b':=by
      rintro hbad n' a' b' f
      rw [<- hl2] at f
      obtain ⟨rfl,rfl,h5⟩:=hfp _ _ _ f
      by_cases hb:b'=[]
      ·simp [hb] at h5
      ·rw [if_neg hb] at h5
       simp at h5
       obtain ⟨e6,e7⟩:=hbp b' f.db h5
       subst e6
       rcases hbad with h6|h6|h6|h6
       ·exact h6 e7
       ·exact hb h6
       ·exact f.hb h6
       ·exact f.b1 h6
     rw [S8,S8]
     have e49:((bs b).toList==({ data:=#[49] }:ByteArray).toList)=decide (b=[49]):=Pk b [49]
     rw [e49]
     refine B7 (fun h6=>?_) (fun h6=>hK0 (by rw [hl2];exact no (.inl h6)) _ _ _)
     subst h6
     rw [List.append_nil] at hsp2
     subst hsp2
     refine R6 (B7 (fun h7=>hK0 (by rw [hl2];exact no (.inr (.inl h7))) _ _ _) (fun h7=>?_))
     obtain ⟨c,r3,rfl⟩:=B8i h7
     refine ⟨c,⟨by omega,by rw [Sh];rfl⟩,H9 (fun h8=>?_) (fun h8=>?_)⟩
     ·by_cases h9:c::r3=[49]
      ·rw [decide_eq_true h9]
       exact hK0 (by rw [hl2];exact no (.inr (.inr (.inr h9)))) _ _ _
      ·rw [decide_eq_false h9]
       refine hK1 neg a (c::r3) ⟨by simpa using hl2,hda,hdb,hane,.inl hah,?_,h9⟩
       intro e;simp at e;exact h8 (by rw [e];rfl)
     ·have hh:(c::r3).head? = some 48:=by
       simp only [B8r,B8o]
       apply UInt8.toNat_inj.1;show c.toNat=48;omega
      exact hK0 (by rw [hl2];exact no (.inr (.inr (.inl hh)))) _ _ _
end
theorem A9s:(prog.info? A4b).map (fun i=>i.zero)=some (some (.agg (Array.replicate 48 (.int .u8 0)))):=by kernel_rfl
theorem Xt{x y:Int}(hy:0<y):(B8s x y).num=x.tdiv (B8m x y)/\((B8s x y).den:Int)=y.tdiv (B8m x y):=by
 have hg:(B8m x y:Int)∣x:=Int.gcd_dvd_left ..
 have hg2:(B8m x y:Int)∣y:=Int.gcd_dvd_right ..
 constructor
 ·rw [Rat.num_divInt,Int.sign_eq_one_of_pos hy,Int.one_mul,Int.gcd_comm,Int.tdiv_eq_ediv_of_dvd hg]
 ·rw [Rat.den_divInt,if_neg (by omega),Int.gcd_comm,Int.natCast_ediv,Int.natAbs_of_nonneg (by omega),Int.tdiv_eq_ediv_of_dvd hg2]
theorem A1c{q:Rat}(h:q.den=1):N8 q=Kz q.num:=by unfold N8;rw [if_pos h,List.append_nil]
theorem Wj{q:Rat}(h:q.den≠1):N8 q=Kz q.num++[47]++Kz (q.den:Int):=by
 unfold N8;rw [if_neg h,Hw (i:=(q.den:Int)) (by omega),B8g];simp
section
variable {h g:Heap} {K:VP} {l:List UInt8}
theorem B66{k:Nat}(h:k<=18):10^k<=1000000000000000000:=B8x (B8t (by decide) h) (by decide)
theorem Df(hd:∀ c∈l,I0 c)(hl:l.length<=18)(hK:K (I (L8 l:Int)) h):FCall prog T4 #[.string (bs l)] h K:=by
 refine Qd _ ?_
 unfold Lu
 simp only [O6]
 refine ⟨fun L hp=>∃ k:Nat,L=[I (L8 (l.take k):Int),I k]/\hp=h/\k<=l.length,fun L _=>l.length-(iAt L 1).toNat,⟨0,rfl,rfl,by omega⟩,?_⟩
 rintro n t7 hp ⟨k,hL,rfl,hk⟩
 simp only [B8h,B8j,and_true,true_and] at hL
 obtain ⟨rfl,rfl⟩:=hL
 refine B7 (fun h1=>?_) (fun h1=>?_)
 ·have hkl:k<l.length:=by omega
  have hdc:=hd l[k] (List.getElem_mem hkl)
  have hlt:=Hf (l:=l.take (k+1)) (fun c hc=>hd c (List.mem_of_mem_take hc))
  rw [B8y,B8z (by omega)] at hlt
  have ht:=B66 (k:=k+1) (by omega)
  have hs:L8 (l.take (k+1))=10*L8 (l.take k)+(l[k].toNat-48):=by rw [B8u hkl,Iw]
  unfold I0 at hdc
  refine ⟨l[k],⟨by omega,by rw [B8w,Sh,B8p hkl]⟩,?_⟩
  have e:B5 (B5 (10*((L8 (l.take k):Nat):Int))+B5 (wu8 (((l[k].toNat:Nat):Int)-48)))=((L8 (l.take (k+1)):Nat):Int):=by
   rw [A19 (by omega) (by omega),B8 (n:=((l[k].toNat:Nat):Int)-48) (by omega) (by omega),B8 (n:=10*((L8 (l.take k):Nat):Int)) (by omega) (by omega),B8 (by omega) (by omega)]
   omega
  rw [e,B8 (n:=(k:Int)+1) (by omega) (by omega)]
  exact ⟨⟨k+1,rfl,rfl,by omega⟩,by simp only [iAt,B8q,List.getElem?_cons_succ];omega⟩
 ·obtain rfl:k=l.length:=by omega
  rw [List.take_length];exact hK
theorem Wl{a b:Nat}(hK:K (I (B8l a b:Int)) h):FCall prog A1s #[I (a:Int),I (b:Int)] h K:=by
 refine B3a _ _ ?_
 unfold B7y
 refine ⟨fun L hp=>∃ x y:Nat,L=[I x,I y]/\hp=h/\B8l x y=B8l a b,fun L _=>(iAt L 1).toNat,⟨a,b,rfl,rfl,rfl⟩,?_⟩
 rintro a1 b1 hp ⟨x,y,hL,rfl,hg⟩
 obtain ⟨rfl,rfl⟩:a1=(x:Int)/\b1=(y:Int):=by simpa using hL
 refine H9 (fun h1=>?_) (fun h1=>?_)
 ·have hy:y≠0:=by omega
  refine B7 (fun e=>absurd e h1) (fun _=>?_)
  have e:Int.tmod (x:Int) (y:Int)=((x%y:Nat):Int):=(Int.ofNat_tmod x y).symm
  rw [e]
  have hlt:=Nat.mod_lt x (Nat.pos_of_ne_zero hy)
  refine ⟨⟨y,x%y,rfl,rfl,?_⟩,by simp only [iAt,B8q,List.getElem?_cons_succ];omega⟩
  rw [<- hg,Nat.gcd_comm x y,Nat.gcd_rec y x,Nat.gcd_comm]
 ·obtain rfl:y=0:=by omega
  rw [Nat.gcd_zero_right] at hg
  rw [hg];exact hK
theorem Au(hK1:∀ q,l=N8 q->q.num.natAbs<1000000000->q.den<1000000000->K (.tuple #[.agg #[I q.num,I (q.den:Int)],.bool true]) h)(hK0:K (.tuple #[.agg #[I 0,I 0],.bool false]) h):FCall prog U1 #[.string (bs l)] h K:=by
 refine Vh _ ?_
 unfold Sl
 rw [O6]
 refine B7 (fun _=>hK0) (fun h1=>?_)
 refine Jt (by omega) ?_ ?_
 ·intro neg a b f
  refine ⟨_,_,_,_,rfl,?_⟩
  simp only [O6]
  refine ⟨fun L hp=>L=[.bool (decide (a.length>9\/b.length>9))]/\hp=h,Br.of (fun e=>by cases e) (fun _=>B7 (fun h2=>⟨?_,rfl⟩) (fun h2=>⟨?_,rfl⟩)),?_⟩
  ·rw [decide_eq_true (show a.length>9\/b.length>9 by omega)]
  ·by_cases hb9:b.length>9
   ·rw [decide_eq_true (show a.length>9\/b.length>9 by omega)]
    exact congrArg (fun x=>[Value.bool x]) (decide_eq_true (show ((b.length:Nat):Int)>9 by omega))
   ·rw [decide_eq_false (show ¬ (a.length>9\/b.length>9) by omega)]
    exact congrArg (fun x=>[Value.bool x]) (decide_eq_false (show ¬ ((b.length:Nat):Int)>9 by omega))
  rintro t29 hp ⟨hL,rfl⟩
  obtain rfl:t29=decide (a.length>9\/b.length>9):=by simpa using hL
  refine B7 (fun _=>hK0) (fun h2=>?_)
  have habs:(Lm neg a).natAbs=L8 a:=by unfold Lm;split<;>simp
  have hva:=Hf f.da
  have hvb:=Hf f.db
  have h9:∀ k,k<=9->10^k<=1000000000:=fun k hk=>B8x (B8t (by decide) hk) (by decide)
  have h9a:=h9 a.length (by omega)
  have h9b:=h9 b.length (by omega)
  refine Df f.da (by omega) ⟨_,rfl,?_⟩
  refine ⟨fun L hp'=>L=[I 0,I 0,I (L8 a:Int),I (Hn b:Int)]/\hp'=hp/\B8l (L8 a) (Hn b)=1,?_,?_⟩
  ·rw [S8]
   refine R6 (B7 (fun h3=>?_) (fun h3=>?_))
   ·subst h3;exact ⟨rfl,rfl,by unfold Hn;simp⟩
   ·refine Df f.db (by omega) ⟨_,rfl,Wl ⟨_,rfl,H9 (fun _=>hK0) (fun h4=>?_)⟩⟩
    have hfd:Hn b=L8 b:=by unfold Hn;rw [if_neg h3]
    rw [hfd]
    exact ⟨rfl,rfl,by omega⟩
  ·rintro t20 t21 x0 x1 hp5 ⟨hL5,rfl,hg⟩
   simp only [B8h,B8j,and_true,true_and] at hL5
   obtain ⟨_,_,rfl,rfl⟩:=hL5
   obtain ⟨q,hq⟩:=f.isNum.2 hg
   have hqf:=f.of_txt hq
   have hfd1:Hn b<1000000000:=by unfold Hn;split<;>omega
   refine ⟨fun L hp'=>L=[I q.num,I (q.den:Int)]/\hp'=hp5,Br.of (fun e=>?_) (fun e=>?_),?_⟩
   ·rw [hqf.1,hqf.2,e,B8 (by omega) (by omega)]
    exact ⟨by unfold Lm;simp,rfl⟩
   ·rw [hqf.1,hqf.2,e]
    exact ⟨by unfold Lm;simp,rfl⟩
   ·rintro y0 y1 hp6 ⟨hL6,rfl⟩
    simp only [B8h,B8j,and_true,true_and] at hL6
    obtain ⟨rfl,rfl⟩:=hL6
    exact hK1 q hq (by rw [hqf.1,habs];omega) (by rw [hqf.2];exact hfd1)
 ·intro hf neg a b
  refine ⟨_,_,_,_,rfl,?_⟩
  refine ⟨fun L hp=>L=[.bool true]/\hp=h,R6 ⟨rfl,rfl⟩,?_⟩
  rintro t29 hp ⟨hL,rfl⟩
  obtain rfl:t29=true:=by simpa using hL
  exact Br.of (fun _=>hK0) (fun e=>by cases e)
theorem Wz{l':List UInt8}(hK1:∀ p q,l=N8 p->l'=N8 q->p.num.natAbs<1000000000->p.den<1000000000->q.num.natAbs<1000000000->q.den<1000000000->K (.tuple #[.agg #[I p.num,I (p.den:Int)],.agg #[I q.num,I (q.den:Int)],.bool true]) h)(hK0:K (.tuple #[.agg #[I 0,I 0],.agg #[I 0,I 0],.bool false]) h):FCall prog Kg #[.string (bs l),.string (bs l')] h K:=by
 refine A0x _ _ ?_
 unfold A27
 refine Au ?_ ⟨_,_,_,rfl,R6 hK0⟩
 intro p hp h1 h2
 refine ⟨_,_,_,rfl,R6 ?_⟩
 refine Au ?_ ⟨_,_,_,rfl,R6 hK0⟩
 intro q hq h3 h4
 exact ⟨_,_,_,rfl,R6 (hK1 p q hp hq h1 h2 h3 h4)⟩
theorem Mc{num den:Int}(gp:Gp h)(hd:den≠0)(h1:num.natAbs<4000000000000000000)(h2:den.natAbs<4000000000000000000)(hK:K (.string (bs (N8 (B8s num den)))) h):FCall prog Ay #[I num,I den] h K:=by
 refine FCall.pure (Qc _ _ ?_)
 unfold Ls
 refine ⟨fun L hp=>hp=h/\∃ n d:Int,L=[I n,I d]/\0<d/\B8s n d=B8s num den/\n.natAbs=num.natAbs/\d.natAbs=den.natAbs,B7 (fun h3=>⟨rfl,-num,-den,?_,by omega,Rat.neg_divInt_neg num den,by omega,by omega⟩) (fun h3=>⟨rfl,num,den,rfl,by omega,rfl,rfl,rfl⟩),?_⟩
 ·rw [B8 (by omega) (by omega),B8 (by omega) (by omega),Int.zero_sub,Int.zero_sub]
 rintro n1 d1 hp ⟨rfl,n,d,hL,hdp,hq,hn,hdn⟩
 simp only [B8h,B8j,and_true,true_and] at hL
 obtain ⟨rfl,rfl⟩:=hL
 rw [<- hq] at hK
 have hpq:=Xt (x:=n1) hdp
 have hsz:=Xu (a:=n1) (b:=d1) (by omega)
 generalize B8s n1 d1=q at *
 have hqd:=q.den_nz
 refine ⟨fun L hp'=>hp'=hp/\L=[I q.num,I (q.den:Int)],H9 (fun h3=>?_) (fun h3=>?_),?_⟩
 ·have e1:(if (B5 (0-n1))>n1 then B5 (0-n1) else n1)=((n1.natAbs:Nat):Int):=by
   rw [B8 (by omega) (by omega)];split<;>omega
  obtain ⟨k,rfl⟩:∃ k:Nat,d1=k:=⟨d1.toNat,by omega⟩
  rw [e1]
  refine Wl ⟨_,rfl,?_⟩
  have hg0:0<B8l n1.natAbs k:=Nat.gcd_pos_of_pos_right _ (by omega)
  refine B7 (fun e=>by omega) (fun _=>B7 (fun e=>by omega) (fun _=>⟨rfl,?_⟩))
  have e3:Int.tdiv n1 ((B8l n1.natAbs k:Nat):Int)=q.num:=hpq.1.symm
  have e4:Int.tdiv (k:Int) ((B8l n1.natAbs k:Nat):Int)=(q.den:Int):=hpq.2.symm
  rw [e3,e4,B8 (by omega) (by omega),B8 (by omega) (by omega)]
 ·subst h3
  have hg:B8m n1 1=1:=by simp
  rw [hg] at hpq
  simp at hpq
  refine ⟨rfl,?_⟩
  rw [hpq.1]
  simp only [B8h,B8j,and_true,true_and];omega
 rintro n2 d2 hp2 ⟨rfl,hL2⟩
 simp only [B8h,B8j,and_true,true_and] at hL2
 obtain ⟨rfl,rfl⟩:=hL2
 refine D9 (fun h3=>?_) (fun h3=>?_)
 ·rw [A1c (by omega)] at hK
  exact Ge gp (by omega) (by omega) ⟨_,rfl,B4 _,hK⟩
 ·rw [Wj (by omega)] at hK
  refine An A9s ?_
  intro b hb
  have hz:(Value.agg (Array.replicate 48 (.int .u8 0))).cells=(B91 48 (Value.int .u8 0)).toArray:=by rfl
  rw [hz]
  refine ⟨_,rfl,⟨by omega,by omega⟩,?_⟩
  have hcut:J1 (some ⟨b,0,none⟩) 48 0 1=some ⟨b,0,none⟩:=rfl
  rw [hcut,show ((0:Int)).toNat-0=0 from rfl,show 48-0=48 from rfl]
  have p0:Priv (hp2.put b (.cells (B91 48 (Value.int .u8 0)).toArray A4b)) hp2 A4b 1 (some ⟨b,0,none⟩) 0 48 (yv []):=⟨by simp [yv],by omega,.inr ⟨b,B91 48 (Value.int .u8 0),rfl,hb,rfl,by simp,by simp [yv]⟩⟩
  refine Gg gp p0 (by omega) (by omega) (by omega) ?_
  intro A1 n1' c1 e1 g1 h1' x1
  refine ⟨_,_,_,rfl,?_⟩
  have hl1:(Kz q.num).length<=20:=by
   unfold Kz
   have:(L6 q.num.natAbs).length<=19:=(Iy (by decide)).2 (Nat.lt_of_lt_of_le (show q.num.natAbs<10000000000000000000 by omega) (by decide))
   split<;>simp<;>omega
  have hx1:=x1.len
  refine Cn (ch:=47) rfl x1.priv (by omega) ?_
  intro A2 n2' c2 e2 g2 h2' x2
  have x12:=x1.trans x2
  have hx2:=x12.len
  rw [B8n,List.length_singleton] at hx2
  refine Gg (gp.mono x12.le) x2.priv (by omega) (by omega) (by omega) ?_
  intro A3 n3' c3 e3 g3 h3' x3
  refine ⟨_,_,_,rfl,?_⟩
  rw [B8v] at x3
  have x123:=x12.trans x3
  have hx3:=x123.len
  refine Hx Dv.und Bi R7 x123.priv.slV (by simpa using hx3) ⟨_,rfl,?_⟩
  refine ⟨B0 x123.le x123.priv.le,?_⟩
  simpa using hK
end
structure RQ (h:Heap) (w:QV) (q:Rat):Prop where
 num:ZI h w.s w.A w.n w.c q.num
 den:ZI h w.s2 w.A2 w.n2 w.c2 (if q.den=1 then 0 else (q.den:Int))
theorem ZB.gcd{m:Nat}{x y:Int}(hy:y≠0)(h:ZB m y):ZB m (B8m x y:Int):=by
 refine h.le ?_
 rw [B8g]
 exact Nat.le_of_dvd (by omega) (Int.natAbs_dvd_natAbs.2 (Int.gcd_dvd_right x y))
section
variable {h h':Heap} {K:VP} {A B:Option Addr} {n c n' c':Nat} {s s':Bool} {x y z:Int} {m:Nat} {p q:Rat} {a b w:QV} {l:List UInt8}
theorem RQ.mono(hl:h.le h')(i:RQ h w q):RQ h' w q:=⟨i.num.mono hl,i.den.mono hl⟩
theorem RQ.whole(i:ZI h s A n c z):RQ h ⟨s,A,n,c,false,none,0,0⟩ (z:Rat):=⟨by simpa using i,by simpa using ZI.zero⟩
theorem RQ.zero:RQ h ⟨false,none,0,0,false,none,0,0⟩ 0:=⟨ZI.zero,ZI.zero⟩
theorem Ft(i:RQ h w q)(hK:K (.bool (decide (q.den=1))) h):FCall prog F8 #[.agg #[.bool w.s2,.slice w.A2 w.n2 w.c2]] h K:=by
 refine F4 i.den ?_
 have:=q.den_nz
 have e:decide ((if q.den=1 then (0:Int) else (q.den:Int))=0)=decide (q.den=1):=by
  rw [decide_eq_decide];split<;>omega
 rw [e];exact hK
theorem Y6(i:ZI h s A n c z)(j:ZI h s' B n' c' y)(h1:q.num=z)(h2:(q.den:Int)=y)(hK:∀ w,RQ h w q->K w.v h):FCall prog Z2 #[.agg #[.bool s,.slice A n c],.agg #[.bool s',.slice B n' c']] h K:=by
 subst h1 h2
 refine A3k _ _ _ _ _ _ _ _ ?_
 unfold A7f
 refine P5 j ⟨_,rfl,B7 (fun e=>?_) (fun e=>?_)⟩
 ·exact hK ⟨s,A,n,c,false,none,0,0⟩ ⟨i,by rw [if_pos (by omega)];exact ZI.zero⟩
 ·exact hK ⟨s,A,n,c,s',B,n',c'⟩ ⟨i,by rw [if_neg (by omega)];exact j⟩
theorem Dz(i:RQ h w q)(hK:∀ s A n c h',h.le h'->ZI h' s A n c (q.den:Int)->K (.agg #[.bool s,.slice A n c]) h'):FCall prog Oz #[w.v] h K:=by
 refine B3g _ _ _ _ _ _ _ _ ?_
 unfold B83
 refine Ft i ⟨_,rfl,B7 (fun e=>?_) (fun e=>?_)⟩
 ·refine Ho (by decide) (by decide) ?_
  intro s A n c h1 l1 i1
  exact ⟨_,_,_,_,rfl,hK _ _ _ _ _ l1 (by rw [e];exact i1)⟩
 ·have:=i.den
  rw [if_neg e] at this
  exact hK _ _ _ _ _ (B4 _) this
theorem Pj(gl:Gtz h)(i:ZI h s A n c x)(j:ZI h s' B n' c' y)(hx:ZB m x)(hy:ZB m y)(hm:m<=6400000000)(hy0:0<y)(hK:∀ s1 A1 n1 c1 s2 A2 n2 c2 h',h.le h'->ZI h' s1 A1 n1 c1 (x.tdiv (B8m x y))->ZI h' s2 A2 n2 c2 (y.tdiv (B8m x y))->K (.tuple #[.agg #[.bool s1,.slice A1 n1 c1],.agg #[.bool s2,.slice A2 n2 c2]]) h'):FCall prog Iu #[.agg #[.bool s,.slice A n c],.agg #[.bool s',.slice B n' c']] h K:=by
 refine A3l _ _ _ _ _ _ _ _ ?_
 unfold A7g
 refine P5 j ⟨_,rfl,B7 (fun e=>?_) (fun e=>?_)⟩
 ·subst e
  have hg:B8m x 1=1:=by simp
  rw [hg] at hK
  exact hK _ _ _ _ _ _ _ _ _ (B4 _) (by simpa using i) (by simpa using j)
 ·refine Dn gl i j hx hy hm ?_
  intro A1 n1 c1 h1 l1 i1
  have hg:=Int.gcd_pos_of_ne_zero_right x (show y≠0 by omega)
  have hgb:ZB m (B8m x y:Int):=ZB.gcd (by omega) hy
  refine ⟨_,_,_,_,rfl,Y2 (i.mono l1) i1 hx hgb hm (by omega) ?_⟩
  intro s2 A2 n2 c2 h2 l2 i2
  refine ⟨_,_,_,_,rfl,l2,Y2 (j.mono (B0 l1 l2)) (i1.mono l2) hy hgb hm (by omega) ?_⟩
  intro s3 A3 n3 c3 h3 l3 i3
  exact ⟨_,_,_,_,rfl,l3,hK _ _ _ _ _ _ _ _ _ (B0 l1 (B0 l2 l3)) (i2.mono l3) i3⟩
theorem A2o(i:RQ h w q)(hK:∀ w',RQ h w' (-q)->K w'.v h):FCall prog A5w #[w.v] h K:=by
 refine B3d _ _ _ _ _ _ _ _ ?_
 unfold B80
 refine Y3 i.num ?_
 intro s' i'
 exact ⟨_,_,_,_,rfl,B4 _,hK ⟨s',w.A,w.n,w.c,w.s2,w.A2,w.n2,w.c2⟩ ⟨by simpa using i',by simpa using i.den⟩⟩
end
structure Gl (h:Heap):Prop where
 tz:Gtz h
 p10:Gp h
theorem Gl.mono{h h':Heap}(g:Gl h)(l:h.le h'):Gl h':=⟨g.tz.mono l,g.p10.mono l⟩
section
variable {h h':Heap} {K:VP} {A B:Option Addr} {n c n' c':Nat} {s s':Bool} {x y z:Int} {m:Nat} {p q:Rat} {a b w:QV} {l:List UInt8}
theorem Rt(gl:Gtz h)(i:RQ h a p)(j:RQ h b q)(hp:Sz m p)(hq:Sz m q)(hm:m<=6400000000)(hK:∀ w h',h.le h'->RQ h' w (p*q)->K w.v h'):FCall prog A1t #[a.v,b.v] h K:=by
 have hpd:=p.den_nz
 have hqd:=q.den_nz
 refine B3e _ _ _ _ _ _ _ _ _ _ _ _ _ _ _ _ ?_
 unfold B81
 refine ⟨fun L hp=>L=[.bool (decide (p.num=0\/q.num=0))]/\hp=h,F4 i.num ⟨_,rfl,B7 (fun e=>?_) (fun e=>?_)⟩,?_⟩
 ·exact ⟨by simp [e],rfl⟩
 ·exact F4 j.num ⟨_,rfl,by simp [e],rfl⟩
 rintro t16 hp2 ⟨hL,rfl⟩
 obtain rfl:t16=decide (p.num=0\/q.num=0):=by simpa using hL
 refine B7 (fun e=>?_) (fun e=>?_)
 ·have:p*q=0:=by
   rw [Rat.num_eq_zero,Rat.num_eq_zero] at e
   exact Rat.mul_eq_zero.2 e
  rw [this] at hK
  exact hK ⟨false,none,0,0,false,none,0,0⟩ _ (B4 _) RQ.zero
 ·refine ⟨fun L hp=>L=[.bool (decide (p.den=1/\q.den=1))]/\hp=hp2,Ft i ⟨_,rfl,B7 (fun e=>?_) (fun e=>?_)⟩,?_⟩
  ·exact Ft j ⟨_,rfl,by simp [e],rfl⟩
  ·exact ⟨by simp [e],rfl⟩
  rintro t25 hp5 ⟨hL,rfl⟩
  obtain rfl:t25=decide (p.den=1/\q.den=1):=by simpa using hL
  refine B7 (fun e=>?_) (fun e=>?_)
  ·refine Be i.num j.num hp.num hq.num hm ?_
   intro s1 A1 n1 c1 h1 l1 i1
   refine ⟨_,_,_,_,rfl,hK ⟨s1,A1,n1,c1,false,none,0,0⟩ _ l1 ?_⟩
   have:=RQ.whole i1
   rw [Rat.intCast_mul,<- B0v e.1,<- B0v e.2] at this
   exact this
  ·have hpp:=A5g p q
   refine Dz j ?_
   intro s1 A1 n1 c1 h1 l1 jd
   refine ⟨_,_,_,_,rfl,l1,Pj (gl.mono l1) (i.num.mono l1) jd hp.num hq.den hm (by omega) ?_⟩
   intro s2 A2 n2 c2 s3 A3 n3 c3 h2 l2 i2 i3
   have l12:=B0 l1 l2
   refine ⟨_,_,_,_,_,_,_,_,rfl,l2,Dz (i.mono l12) ?_⟩
   intro s4 A4 n4 c4 h4 l4 idn
   refine ⟨_,_,_,_,rfl,l4,Pj (gl.mono (B0 l12 l4)) (j.num.mono (B0 l12 l4)) idn hq.num hp.den hm (by omega) ?_⟩
   intro s5 A5 n5 c5 s6 A6 n6 c6 h5 l5 i5 i6
   have e1:B8m p.num (q.den:Int)=B8l p.num.natAbs q.den:=rfl
   have e2:B8m q.num (p.den:Int)=B8l q.num.natAbs p.den:=rfl
   rw [e1] at i2 i3
   rw [e2] at i5 i6
   rw [<- Int.ofNat_tdiv] at i3 i6
   refine ⟨_,_,_,_,_,_,_,_,rfl,l5,Be (i2.mono (B0 l4 l5)) i5 hp.num.tdiv hq.num.tdiv hm ?_⟩
   intro s7 A7 n7 c7 h7 l7 i7
   have b1:ZB m ((p.den/B8l q.num.natAbs p.den:Nat):Int):=hp.den.le (by rw [B8g,B8g];exact Nat.div_le_self _ _)
   have b2:ZB m ((q.den/B8l p.num.natAbs q.den:Nat):Int):=hq.den.le (by rw [B8g,B8g];exact Nat.div_le_self _ _)
   refine ⟨_,_,_,_,rfl,l7,Be (i6.mono l7) (i3.mono (B0 l4 (B0 l5 l7))) b1 b2 hm ?_⟩
   intro s8 A8 n8 c8 h8 l8 i8
   refine ⟨_,_,_,_,rfl,l8,Y6 (q:=p*q) (i7.mono l8) i8 hpp.1 (by rw [hpp.2,Int.natCast_mul]) ?_⟩
   intro w iw
   exact ⟨_,_,_,_,_,_,_,_,rfl,B4 _,hK _ _ (B0 l12 (B0 l4 (B0 l5 (B0 l7 l8)))) iw⟩
theorem Tr(i:RQ h w q)(hK:∀ w h',h.le h'->RQ h' w q⁻¹->K w.v h'):FCall prog Ki #[w.v] h K:=by
 have hqd:=q.den_nz
 refine A11 _ _ _ _ _ _ _ _ ?_
 unfold A2a
 refine Rj i.num ⟨_,rfl,D9 (fun e=>?_) (fun e=>?_)⟩
 ·have h0:q.num=0:=Int.sign_eq_zero_iff_zero.1 e
  have:q⁻¹=0:=by rw [Rat.num_eq_zero.1 h0];exact Rat.inv_zero
  rw [this] at hK
  exact hK ⟨false,none,0,0,false,none,0,0⟩ _ (B4 _) RQ.zero
 ·have h0:q.num≠0:=fun e0=>e (by rw [e0];rfl)
  refine D9 (fun e1=>?_) (fun e1=>?_)
  ·have hneg:q.num<0:=Int.sign_neg_iff.1 (by omega)
   refine Dz i ?_
   intro s1 A1 n1 c1 h1 l1 i1
   refine ⟨_,_,_,_,rfl,l1,Y3 i1 ?_⟩
   intro s2 i2
   refine ⟨_,_,_,_,rfl,B4 _,Y3 (i.num.mono l1) ?_⟩
   intro s3 i3
   refine ⟨_,_,_,_,rfl,B4 _,Y6 (q:=q⁻¹) i2 i3 ?_ ?_ ?_⟩
   ·rw [Rat.num_inv,e1];omega
   ·rw [Rat.den_inv,if_neg h0];omega
   ·intro w iw
    exact ⟨_,_,_,_,_,_,_,_,rfl,B4 _,hK _ _ l1 iw⟩
  ·have hpos:0<q.num:=by
    rcases Int.lt_trichotomy q.num 0 with h1|h1|h1
    ·exact absurd (Int.sign_eq_neg_one_of_neg h1) e1
    ·exact absurd h1 h0
    ·exact h1
   refine Dz i ?_
   intro s1 A1 n1 c1 h1 l1 i1
   refine ⟨_,_,_,_,rfl,l1,Y6 (q:=q⁻¹) i1 (i.num.mono l1) ?_ ?_ ?_⟩
   ·rw [Rat.num_inv,Int.sign_eq_one_of_pos hpos,Int.one_mul]
   ·rw [Rat.den_inv,if_neg h0];omega
   ·intro w iw
    exact ⟨_,_,_,_,_,_,_,_,rfl,B4 _,hK _ _ l1 iw⟩
theorem A2q(gl:Gtz h)(i:RQ h a p)(j:RQ h b q)(hp:Sz m p)(hq:Sz m q)(hm1:1<=m)(hm:m<=6400000000)(hK:∀ w h',h.le h'->RQ h' w (p/q)->K w.v h'):FCall prog A5x #[a.v,b.v] h K:=by
 refine B3f _ _ _ _ _ _ _ _ _ _ _ _ _ _ _ _ ?_
 unfold B82
 refine Tr j ?_
 intro w1 h1 l1 j1
 refine ⟨_,_,_,_,_,_,_,_,rfl,l1,Rt (gl.mono l1) (i.mono l1) j1 hp (hq.inv hm1) hm ?_⟩
 intro w2 h2 l2 i2
 rw [<- Rat.div_def] at i2
 exact ⟨_,_,_,_,_,_,_,_,rfl,l2,hK _ _ (B0 l1 l2) i2⟩
theorem Km{t:List UInt8}{k:Nat}(h:∀ c∈t,I0 c)(hk:t.length<=k):ZB (4*k) (L8 t:Int):=by
 unfold ZB
 rw [B8g]
 exact Nat.lt_of_lt_of_le (A0h h) (B8t (by decide) (by omega))
theorem Form.lens{neg:Bool}{a b:List UInt8}(f:Form l neg a b):a.length<=l.length/\b.length<=l.length:=by
 have:=congrArg List.length f.eq
 simp only [B8n] at this
 by_cases hb:b=[]
 ·rw [if_pos hb] at this;subst hb;simp at this ⊢;omega
 ·rw [if_neg hb] at this;simp at this;omega
theorem Ju(gl:Gtz h)(hl:l.length<=100000000)(hK1:∀ q,l=N8 q->∀ w h',h.le h'->RQ h' w q->K (.tuple #[w.v,.bool true]) h')(hK0:¬ IsNum l->∀ (w:QV) h',h.le h'->RQ h' w 0->K (.tuple #[w.v,.bool false]) h'):FCall prog Oy #[.string (bs l)] h K:=by
 refine A9z _ ?_
 unfold B5h
 refine Jt (by omega) ?_ ?_
 ·intro neg a b f
  refine ⟨_,_,_,_,rfl,R6 ?_⟩
  have hlen:=f.lens
  refine Fs f.da (by omega) ?_
  intro A1 n1 c1 h1 l1 i1
  refine ⟨_,_,_,_,rfl,?_⟩
  refine ⟨fun L hp=>∃ s2:Bool,L=[.bool s2,.slice A1 n1 c1,.bool false,.slice none 0 0]/\hp=h1/\ZI h1 s2 A1 n1 c1 (Lm neg a),Br.of (fun e=>?_) (fun e=>?_),?_⟩
  ·refine Y3 i1 ?_
   intro s2 i2
   exact ⟨_,_,_,_,rfl,s2,rfl,rfl,by unfold Lm;rw [e];exact i2⟩
  ·exact ⟨false,rfl,rfl,by unfold Lm;rw [e];exact i1⟩
  rintro x0 x1A x1n x1c x2 x3A x3n x3c hp3 ⟨s2,hL,rfl,i2⟩
  simp only [B8h,Value.slice.injEq,Value.bool.injEq,and_true] at hL
  obtain ⟨rfl,⟨rfl,rfl,rfl⟩,rfl,rfl,rfl,rfl⟩:=hL
  have habs:(Lm neg a).natAbs=L8 a:=by unfold Lm;split<;>simp
  rw [S8]
  refine B7 (fun hb=>?_) (fun hb=>?_)
  ·subst hb
   obtain ⟨q,hq⟩:=f.isNum.2 (by unfold Hn;simp)
   obtain ⟨h2,h3⟩:=f.of_txt hq
   refine hK1 q hq ⟨x0,x1A,x1n,x1c,false,none,0,0⟩ _ l1 ⟨by rw [h2];exact i2,?_⟩
   rw [h3,show Hn []=1 from rfl,if_pos rfl];exact ZI.zero
  ·refine Fs f.db (by omega) ?_
   intro A4 n4 c4 h4 l4 i4
   have hnb:ZB (4*l.length) (Lm neg a):=(Km f.da (k:=l.length) (by omega)).le (by rw [habs,B8g];exact Nat.le_refl _)
   refine ⟨_,_,_,_,rfl,Dn (gl.mono (B0 l1 l4)) (i2.mono l4) i4 hnb (Km f.db (k:=l.length) (by omega)) (by omega) ?_⟩
   intro A5 n5 c5 h5 l5 i5
   refine ⟨_,_,_,_,rfl,P5 i5 ⟨_,rfl,?_⟩⟩
   have hfd:Hn b=L8 b:=by unfold Hn;rw [if_neg hb]
   have hgg:B8m (Lm neg a) (L8 b:Int)=B8l (L8 a) (Hn b):=by
    rw [hfd];show B8l (Lm neg a).natAbs (L8 b)=_;rw [habs]
   rw [hgg]
   refine R6 (B7 (fun e1=>?_) (fun e1=>?_))
   ·obtain ⟨q,hq⟩:=f.isNum.2 (by omega)
    obtain ⟨h2,h3⟩:=f.of_txt hq
    have hd1:Hn b≠1:=by
     intro e2
     have h6:=Iz f.db hb (.inl f.hb)
     rw [<- hfd,e2] at h6
     apply f.b1
     rw [<- h6];simp [L6,Z6,K0,dch]
    refine hK1 q hq ⟨x0,x1A,x1n,x1c,false,A4,n4,c4⟩ _ (B0 l1 (B0 l4 l5)) ⟨by rw [h2];exact i2.mono (B0 l4 l5),?_⟩
    rw [h3,if_neg hd1,hfd];exact i4.mono l5
   ·refine hK0 ?_ ⟨false,none,0,0,false,none,0,0⟩ _ (B0 l1 (B0 l4 l5)) RQ.zero
    intro hn
    exact e1 (by rw [f.isNum.1 hn];rfl)
 ·intro hf neg a b
  refine ⟨_,_,_,_,rfl,R6 ?_⟩
  refine hK0 ?_ ⟨false,none,0,0,false,none,0,0⟩ _ (B4 _) RQ.zero
  intro hn
  obtain ⟨neg',a',b',f⟩:=hn.form
  exact hf _ _ _ f
theorem Rk(gl:Gtz h)(hl:l.length<=100000000)(hK:∀ w h',h.le h'->RQ h' w (rv l)->K w.v h'):FCall prog Nc #[.string (bs l)] h K:=by
 refine A7c _ ?_
 unfold B19
 refine Ju gl hl ?_ ?_
 ·intro q e w h1 l1 i1
  exact ⟨_,_,_,_,_,_,_,_,_,rfl,hK w h1 l1 (by rw [e,Af];exact i1)⟩
 ·intro hn w h1 l1 i1
  exact ⟨_,_,_,_,_,_,_,_,_,rfl,hK w h1 l1 (by rw [A4t hn];exact i1)⟩
theorem Dy(gp:Gp h)(i:RQ h w q)(hq:Sz m q)(hm:m<=40000000)(hK:K (.string (bs (N8 q))) h):FCall prog Ei #[w.v] h K:=by
 refine FCall.pure (A3m _ _ _ _ _ _ _ _ ?_)
 unfold A7j
 refine Ft i ⟨_,rfl,B7 (fun e=>?_) (fun e=>?_)⟩
 ·rw [A1c e] at hK
  refine Zf i.num (fun h1 h2=>?_) (fun h1=>?_)
  ·refine ⟨_,_,rfl,Br.of (fun _=>A0z _ ?_) (fun e=>by cases e)⟩
   unfold A29
   exact Ge gp h1 h2 ⟨_,rfl,_,rfl,B4 _,hK⟩
  ·refine ⟨_,_,rfl,Br.of (fun e=>by cases e) (fun _=>?_)⟩
   exact Vz gp i.num hq.num (by omega) ⟨_,rfl,B4 _,hK⟩
 ·rw [Wj e] at hK
  have idn:=i.den
  rw [if_neg e] at idn
  refine Dp (l:=[]) (eT:=F9) gp (Priv.nil _ _ _ _) i.num hq.num (by omega) (by omega) ?_
  intro A1 n1 c1 e1 g1 h1 x1
  refine ⟨_,_,_,rfl,?_⟩
  have hl1:(Kz q.num).length<=50000000:=by
   unfold Kz
   have:=Hh hq.num
   split<;>simp<;>omega
  have hx1:=x1.len
  refine Cn (ch:=47) rfl x1.priv (by omega) ?_
  intro A2 n2 c2 e2 g2 h2 x2
  have x12:=x1.trans x2
  have hx2:=x12.len
  rw [B8n,List.length_singleton] at hx2
  refine Dp (gp.mono x12.le) x2.priv (idn.mono x12.le) hq.den (by omega) (by omega) ?_
  intro A3 n3 c3 e3 g3 h3 x3
  refine ⟨_,_,_,rfl,?_⟩
  rw [B8v] at x3
  have x123:=x12.trans x3
  have hx3:=x123.len
  refine Hx Dv.und Bi R7 x123.priv.slV (by simpa using hx3) ⟨_,rfl,?_⟩
  refine ⟨B0 x123.le x123.priv.le,?_⟩
  simpa using hK
end
structure Tx (m:Nat) (l:List UInt8):Prop where
 len:l.length<=100000000
 sz:Sz m (rv l)
theorem A8g{m:Nat}{z:Int}(h:ZB m z):(Kz z).length<=m+2:=by
 have:=Hh h
 unfold Kz;split
 ·rw [List.length_cons];omega
 ·omega
theorem Mv{m:Nat}{q:Rat}(h:Sz m q):(N8 q).length<=2*m+4:=by
 have h1:=A8g h.num
 have h2:=Hh (n:=q.den) (m:=m) (by have:=h.den;unfold ZB at this;simpa using this)
 unfold N8
 split
 ·simp;omega
 ·simp;omega
theorem Tx.of{m:Nat}{q:Rat}(h:Sz m q)(hm:m<=40000000):Tx m (N8 q):=⟨by have:=Mv h;omega,by rw [Af];exact h⟩
theorem B0c{x y:Int}(hx:x.natAbs<1000000000)(hy:y.natAbs<1000000000):(x*y).natAbs<1000000000000000000:=by
 rw [Int.natAbs_mul]
 exact Nat.mul_lt_mul'' hx hy
theorem A4d(q:Rat):∃ c r,N8 q=c::r/\(c=45↔q<0):=by
 have f:=Dt q
 have hne:N8 q≠[]:=by
  intro e
  have:=f.eq
  rw [e] at this
  have h2:=f.ne
  have:=congrArg List.length this
  simp only [B8n,List.length_nil] at this
  exact h2 (List.eq_nil_of_length_eq_zero (by omega))
 obtain ⟨c,r,e⟩:=B8i hne
 refine ⟨c,r,e,?_⟩
 have hh:=f.head
 rw [e,B8r,B90,decide_eq_true_iff,beq_iff_eq,B8o] at hh
 rw [<- hh,Rat.lt_iff];simp
section
variable {h:Heap} {K:VP} {m:Nat} {a b:List UInt8}
theorem A2h(gl:Gl h)(hl:a.length<=100000000)(hK1:IsNum a->K (.bool true) h)(hK0:¬ IsNum a->K (.bool false) h):FCall prog Uo #[.string (bs a)] h K:=by
 refine FCall.pure (A7d _ ?_)
 unfold B1a
 refine Au ?_ ?_
 ·intro q e _ _
  exact ⟨_,_,_,rfl,Br.of (fun _=>⟨B4 _,hK1 ⟨q,e⟩⟩) (fun e=>by cases e)⟩
 ·refine ⟨_,_,_,rfl,Br.of (fun e=>by cases e) (fun _=>?_)⟩
  refine Jt (by omega) ?_ ?_
  ·intro neg x y f
   refine ⟨_,_,_,_,rfl,Br.of (fun e=>by cases e) (fun _=>?_)⟩
   have hlen:=f.lens
   rw [S8]
   refine B7 (fun e=>?_) (fun e=>?_)
   ·subst e
    exact ⟨B4 _,hK1 (f.isNum.2 (by unfold Hn;simp))⟩
   ·refine Fs f.da (by omega) ?_
    intro A1 n1 c1 h1 l1 i1
    refine ⟨_,_,_,_,rfl,l1,Fs f.db (by omega) ?_⟩
    intro A2 n2 c2 h2 l2 i2
    refine ⟨_,_,_,_,rfl,l2,Dn (gl.tz.mono (B0 l1 l2)) (i1.mono l2) i2 (Km f.da (k:=a.length) (by omega)) (Km f.db (k:=a.length) (by omega)) (by omega) ?_⟩
    intro A3 n3 c3 h3 l3 i3
    refine ⟨_,_,_,_,rfl,l3,P5 i3 ⟨_,rfl,B4 _,B0 l1 (B0 l2 l3),?_⟩⟩
    rw [Int.gcd_natCast_natCast]
    have hfd:Hn y=L8 y:=by unfold Hn;rw [if_neg e]
    by_cases hg:B8l (L8 x) (L8 y)=1
    ·rw [decide_eq_true (by rw [hg];rfl)]
     exact hK1 (f.isNum.2 (by rw [hfd];exact hg))
    ·rw [decide_eq_false (by omega)]
     exact hK0 (fun hn=>hg (by rw [<- hfd];exact f.isNum.1 hn))
  ·intro hf neg x y
   refine ⟨_,_,_,_,rfl,Br.of (fun _=>⟨B4 _,hK0 ?_⟩) (fun e=>by cases e)⟩
   intro hn
   obtain ⟨neg',a',b',f⟩:=hn.form
   exact hf _ _ _ f
theorem A4h(gl:Gl h)(ta:Tx m a)(tb:Tx m b)(hm:2*m<=40000000)(hK:K (.string (bs (N8 (rv a*rv b)))) h):FCall prog A5v #[.string (bs a),.string (bs b)] h K:=by
 refine FCall.pure (B39 _ _ ?_)
 unfold B7x
 refine Wz ?_ ?_
 ·intro p q e1 e2 h1 h2 h3 h4
  rw [e1,e2,Af,Af,Sa] at hK
  refine ⟨_,_,_,_,_,rfl,Br.of (fun _=>?_) (fun e=>by cases e)⟩
  have b1:=B0c h1 h3
  have b3:=B0c (show ((p.den:Nat):Int).natAbs<1000000000 by simpa using h2) (show ((q.den:Nat):Int).natAbs<1000000000 by simpa using h4)
  rw [B8 (n:=p.num*q.num) (by omega) (by omega),B8 (n:=(p.den:Int)*q.den) (by omega) (by omega)]
  exact Mc gl.p10 (Int.mul_ne_zero (den_ne p) (den_ne q)) (by omega) (by omega) ⟨_,rfl,B4 _,hK⟩
 ·refine ⟨_,_,_,_,_,rfl,Br.of (fun e=>by cases e) (fun _=>?_)⟩
  refine Rk gl.tz ta.len ?_
  intro w1 h1 l1 i1
  refine ⟨_,_,_,_,_,_,_,_,rfl,Rk (gl.tz.mono l1) tb.len ?_⟩
  intro w2 h2 l2 i2
  refine ⟨_,_,_,_,_,_,_,_,rfl,Rt (gl.tz.mono (B0 l1 l2)) (i1.mono l2) i2 ta.sz tb.sz (by omega) ?_⟩
  intro w3 h3 l3 i3
  have l13:=B0 l1 (B0 l2 l3)
  exact ⟨_,_,_,_,_,_,_,_,rfl,Dy (gl.p10.mono l13) i3 (ta.sz.mul tb.sz) (by omega) ⟨_,rfl,l13,hK⟩⟩
end
def B77(h:Heap)(r:Value)(h':Heap):Prop:=r= .bool true/\h.le h'
theorem B27{x:List UInt8}{k:Nat}(hl:x.length<=k)(hk:1<=k):Sz (4*k) (rv x):=by
 by_cases hn:IsNum x
 ·obtain ⟨neg,a,b,f⟩:=hn.form
  obtain ⟨h1,h2⟩:=f.rv_num hn
  have hlen:=f.lens
  have habs:(Lm neg a).natAbs=L8 a:=by unfold Lm;split<;>simp
  refine ⟨?_,?_⟩
  ·rw [h1];exact (Km f.da (k:=k) (by omega)).le (by rw [habs,B8g];exact Nat.le_refl _)
  ·rw [h2]
   unfold Hn
   split
   ·exact ZB.one (by omega)
   ·exact Km f.db (by omega)
 ·rw [A4t hn];exact Sz.zero (by omega)
end Go.Proofs.YtajkakhfcokljaaGreatDoor
namespace Go.Proofs.YtajkakhfcokljaaGreatDoor
set_option maxRecDepth 20000
open Go Go.RowKit
def memOf(W:World):Heap:=fun b=>W.heap[b]?
theorem frame_of{P:Program}{f:FuncId}{args:Array Value}{W:World}(x:FCall P f args (memOf W) (B77 (memOf W))):Calls P f args W fun e w'=>e= .returned (.bool true)/\Below W.heap.size W w':=by
 refine (x W (fun b o e=>e)).mono ?_
 rintro e W' ⟨r,h',he,⟨hr,hle⟩,fr⟩
 subst hr
 refine ⟨he,fr.os,fr.tape,fr.output,fr.size,fun k hk=>?_⟩
 have e0:memOf W k=some W.heap[k]:=Array.getElem?_eq_getElem hk
 have:=fr.sim k _ (hle k _ e0)
 rw [this];exact e0.symm
theorem Kb{W:World}{a:Addr}{v:Value}(e:W.cell? a=some v):(memOf W).cell? a=some v:=by
 unfold World.cell? at e
 unfold Heap.cell? memOf
 exact e
theorem A1p{P:Program}{W:World}{x:String × DataW Unit}{rest:List (String × DataW Unit)}(h:laidMet P (x::rest) W):laidMet P rest W:=by
 obtain ⟨n,d⟩:=x
 obtain ⟨ps,⟨g,t,cs,fuel,p,q,h1,h2,h3,h4,h5,rfl⟩,h6,h7⟩:=h
 exact ⟨q,h5,(List.nodup_append.1 h6).2.1,fun b off hb=>h7 b off (List.mem_append_right _ hb)⟩
def B67:List Int:=[0,1,28,2,29,14,24,3,30,22,20,15,25,17,4,8,31,27,13,23,21,19,16,7,26,12,18,6,11,5,10,9]
def A8o:List Int:=[0,1,56,2,57,49,28,3,61,58,42,50,38,29,17,4,62,47,59,36,45,43,51,22,53,39,33,30,24,18,12,5,63,55,48,27,60,41,37,16,46,35,44,21,52,32,23,11,54,26,40,15,34,20,31,10,25,14,19,9,13,8,7,6]
def B21:List Int:=[1,10,100,1000,10000,100000,1000000,10000000,100000000,1000000000,10000000000,100000000000,1000000000000,10000000000000,100000000000000,1000000000000000,10000000000000000,100000000000000000,1000000000000000000,10000000000000000000]
theorem B0n:prog.globalNamed "math/bits.deBruijn64tab" = some 3:=by kernel_rfl
theorem B0o:prog.globalNamed "internal/strconv.uint64pow10" = some 2:=by kernel_rfl
theorem tabs_gl{W:World}(h:laidMet prog [("math/bits.deBruijn32tab",Rows.laid_math_bits_deBruijn32tab),("math/bits.deBruijn64tab",Rows.laid_math_bits_deBruijn64tab),("internal/strconv.uint64pow10",Rows.laid_internal_strconv_uint64pow10)] W):Gl (memOf W):=by
 have h2:=A1p h
 have h3:=A1p h2
 have t64:Lib.TabIs prog W "math/bits.deBruijn64tab" .u8 A8o:=Lib.tabIs_of_head (rest:=[("internal/strconv.uint64pow10",Rows.laid_internal_strconv_uint64pow10)]) B0n (by kernel_rfl) underlying297 underlying5 (by kernel_rfl) (by kernel_rfl) h2
 have t10:Lib.TabIs prog W "internal/strconv.uint64pow10" .u64 B21:=Lib.tabIs_of_head (rest:=[]) B0o (by kernel_rfl) underlying287 underlying130 (by kernel_rfl) (by kernel_rfl) h3
 have k64:∀ k,k<64->Wf k<A8o.length/\A8o.getD (Wf k) 0=(k:Int):=by decide +kernel
 have k10:∀ k,k<20->B21.getD k 0=((10^k:Nat):Int):=by decide +kernel
 refine ⟨fun k hk=>?_,fun k hk=>?_⟩
 ·obtain ⟨a,b⟩:=k64 k hk
  have:=Kb (t64.cell B0n (Wf k) a)
  rw [D3,Nat.mul_one,Nat.zero_add,this,b]
 ·have:=Kb (t10.cell B0o k (by show k<20;exact hk))
  rw [D3,Nat.mul_one,Nat.zero_add,this,k10 k hk]
def A5l(zs:List Int)(k:IntKind):Obj->Obj
 | .cells _ t frozen=>.cells (zs.map (Value.int k)).toArray t frozen
 | o=>o
def layTabs(a:Array Obj):Array Obj:=((a.modify 4 (A5l B67 .u8)).modify 3 (A5l A8o .u8)).modify 2 (A5l B21 .u64)
end Go.Proofs.YtajkakhfcokljaaGreatDoor
