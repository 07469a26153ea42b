/- A part. -/
import Derived.Test.YtmbfcbbkbefgfaaGreatDoorG25
import Derived.Test.YtmbfcbbkbefgfaaGreatDoorG17
import Derived.Test.YtmbfcbbkbefgfaaGreatDoorG23
import Derived.Test.YtmbfcbbkbefgfaaGreatDoorG24
import Derived.Test.YtmbfcbbkbefgfaaGreatDoorRows
import Derived.Lib.LaidTab
open Go.Proofs.Tryz
set_option linter.all false
open _root_.Go.Addr renaming add->aE
open Bool renaming and_eq_true->aP
open Int renaming toNat_natCast->aD,natAbs_natCast->aN
open List renaming take_succ_eq_append_getElem->aC,flatMap_cons->aH,take_length->aI,getElem_mem->aJ,getElem?_append_right->aR,getElem?_append_left->aS,getElem?_eq_getElem->aT,getElem_cons_succ->aV
open List.cons renaming injEq->aL
open Nat renaming mul_one->aM,zero_le->aQ
open Rat renaming pow_succ->aU
open _root_.Go.Value renaming string->aF
open _root_.Go.Value.int renaming injEq->aK
open _root_.Go renaming Value->aO,Addr->aW
open _root_.Go.Proofs.YtmbfcbbkbefgfaaGreatDoor renaming FCall->aG
namespace Go.Proofs.YtmbfcbbkbefgfaaGreatDoor
set_option maxRecDepth 20000
open Go
section
variable {h h':Heap} {K:VP} {A B:Option aW} {n c n' c':Nat} {s s':Bool} {x y z:Int} {m:Nat}
end
def C1i(h:Heap)(r:aO)(h':Heap):Prop:=r= .bool true/\h.le h'
def A72{x:List UInt8}{k:Nat}(hl:x.length<=k)(hk:1<=k):Sz (4*k) (rv x):=by
 by_cases d:IsNum x
 ·obtain ⟨neg,a,b,f⟩:=d.form
  obtain ⟨i,g⟩:=f.rv_num d
  have e:=f.lens
  have c:(Nx neg a).natAbs=N2 a:=by unfold Nx;split<;>simp
  refine ⟨?_,?_⟩
  ·rw [i];exact (Ml f.da (k:=k) (by omega)).le (by rw [c,aN];exact Nat.le_refl _)
  ·rw [g]
   unfold Jb
   split
   ·exact ZB.one (by omega)
   ·exact Ml f.db (by omega)
 ·rw [A3g d];exact Sz.zero (by omega)
def W4{x:List UInt8}{k:Nat}(hl:x.length<=k)(hk:1<=k)(hk2:k<=100000000):Tx (4*k) x:=⟨by omega,A72 hl hk⟩
def Tx.mono{m n:Nat}{x:List UInt8}(t:Tx m x)(h:m<=n):Tx n x:=⟨t.len,t.sz.mono h⟩
def A0x(lo hi:List UInt8):Prop:=∃ p q,lo=C9 p/\hi=C9 q/\p<=q
abbrev ivT(lo hi:List UInt8):aO:=.agg #[.string (bs lo),.string (bs hi)]
abbrev ivS(p q:Rat):aO:=ivT (C9 p) (C9 q)
def A26(l:List Rat):∀ p,mnL p l=p\/mnL p l∈l:=by
 induction l with
 | nil=>intro p;exact .inl rfl
 | cons q l ih=>
  intro p
  rw [Wm]
  rcases ih (mn p q) with h|h
  ·rcases A25 p q with e|e
   ·rw [h,e];exact .inl rfl
   ·rw [h,e];exact .inr (by simp)
  ·exact .inr (by simp [h])
def A23(l:List Rat):∀ p,mxL p l=p\/mxL p l∈l:=by
 induction l with
 | nil=>intro p;exact .inl rfl
 | cons q l ih=>
  intro p
  rw [Wk]
  rcases ih (mx p q) with h|h
  ·rcases A22 p q with e|e
   ·rw [h,e];exact .inl rfl
   ·rw [h,e];exact .inr (by simp)
  ·exact .inr (by simp [h])
def Sz.mnL{m:Nat}{p:Rat}{l:List Rat}(hp:Sz m p)(hl:∀ q∈l,Sz m q):Sz m (mnL p l):=by
 rcases A26 l p with e|e
 ·rw [e];exact hp
 ·exact hl _ e
def Sz.mxL{m:Nat}{p:Rat}{l:List Rat}(hp:Sz m p)(hl:∀ q∈l,Sz m q):Sz m (mxL p l):=by
 rcases A23 l p with e|e
 ·rw [e];exact hp
 ·exact hl _ e
section
variable {h:Heap} {K:VP} {m:Nat} {lo hi x:List UInt8} {p q r s:Rat}
def Gz{qs:List Rat}{A:Option aW}{n c:Nat}(gl:Gl h)(hn:n=qs.length)(sl:SlV h A (qs.map fun q=>aF (bs (C9 q))))(hp:Sz m p)(hq:∀ q∈qs,Sz m q)(hm:m<=10000000)(hl:qs.length<=1000)
 (hK:K (.string (bs (C9 (mnL p qs)))) h):aG prog Cx #[.string (bs (C9 p)),.slice A n c] h K:=by
 subst hn
 refine A5z _ _ _ _ ?_
 unfold B0a
 refine ⟨fun L hp=>hp=h/\∃ i:Nat,i<=qs.length/\L=[.string (bs (C9 (mnL p (qs.take i)))),I i],fun L _=>(qs.length-(iAt L 1).toNat),⟨rfl,0,aQ _,rfl⟩,?_⟩
 rintro f x r ⟨rfl,i,w,k⟩
 simp only [aL,Value.string.injEq,aK,true_and,and_true] at k
 obtain ⟨rfl,rfl⟩:=k
 have s:Sz m (mnL p (qs.take i)):=hp.mnL fun q h=>hq q (List.mem_of_mem_take h)
 refine B3 (fun e=>?_) (fun e=>?_)
 ·have b:i<qs.length:=by omega
  obtain ⟨a,o,u⟩:=SlV.at sl (i:=i) (by simpa using b)
  refine ⟨a,o,by omega,e,bs (C9 qs[i]),?_,?_⟩
  ·rw [aD,aM,u];simp
  have d:mnL p (qs.take (i+1))=mn (mnL p (qs.take i)) qs[i]:=by rw [aC b,B1l]
  have g:=hq qs[i] (aJ b)
  refine I4 gl (Tx.of g (by omega)) (Tx.of s (by omega)) (by omega) ⟨_,rfl,?_⟩
  rw [C3,C3,B5 (by omega) (by omega)]
  refine B3 (fun j=>⟨⟨rfl,i+1,b,?_⟩,?_⟩) (fun j=>⟨⟨rfl,i+1,b,?_⟩,?_⟩)
  ·rw [d,mn,iP (Xp.1 j)];rfl
  ·simp [iAt];omega
  ·rw [d,mn,iN (fun l=>j (Xp.2 l))];rfl
  ·simp [iAt];omega
 ·obtain rfl:i=qs.length:=by omega
  rw [aI];exact hK
def Z8{qs:List Rat}{A:Option aW}{n c:Nat}(gl:Gl h)(hn:n=qs.length)(sl:SlV h A (qs.map fun q=>aF (bs (C9 q))))(hp:Sz m p)(hq:∀ q∈qs,Sz m q)(hm:m<=10000000)(hl:qs.length<=1000)
 (hK:K (.string (bs (C9 (mxL p qs)))) h):aG prog R7 #[.string (bs (C9 p)),.slice A n c] h K:=by
 subst hn
 refine Yf _ _ _ _ ?_
 unfold Vg
 refine ⟨fun L hp=>hp=h/\∃ i:Nat,i<=qs.length/\L=[.string (bs (C9 (mxL p (qs.take i)))),I i],fun L _=>(qs.length-(iAt L 1).toNat),⟨rfl,0,aQ _,rfl⟩,?_⟩
 rintro f x r ⟨rfl,i,w,k⟩
 simp only [aL,Value.string.injEq,aK,true_and,and_true] at k
 obtain ⟨rfl,rfl⟩:=k
 have s:Sz m (mxL p (qs.take i)):=hp.mxL fun q h=>hq q (List.mem_of_mem_take h)
 refine B3 (fun e=>?_) (fun e=>?_)
 ·have b:i<qs.length:=by omega
  obtain ⟨a,o,u⟩:=SlV.at sl (i:=i) (by simpa using b)
  refine ⟨a,o,by omega,e,bs (C9 qs[i]),?_,?_⟩
  ·rw [aD,aM,u];simp
  have d:mxL p (qs.take (i+1))=mx (mxL p (qs.take i)) qs[i]:=by rw [aC b,B1j]
  have g:=hq qs[i] (aJ b)
  refine I4 gl (Tx.of g (by omega)) (Tx.of s (by omega)) (by omega) ⟨_,rfl,?_⟩
  rw [C3,C3,B5 (by omega) (by omega)]
  refine B3 (fun j=>⟨⟨rfl,i+1,b,?_⟩,?_⟩) (fun j=>⟨⟨rfl,i+1,b,?_⟩,?_⟩)
  ·rw [d,mx,iP (Iw.1 j)];rfl
  ·simp [iAt];omega
  ·rw [d,mx,iN (fun l=>j (Iw.2 l))];rfl
  ·simp [iAt];omega
 ·obtain rfl:i=qs.length:=by omega
  rw [aI];exact hK
def Ql{qs:List Rat}{A:Option aW}{n c:Nat}(gl:Gl h)(hn:n=qs.length)(sl:SlV h A (qs.map fun q=>aF (bs (C9 q))))(hp:Sz m p)(hq:∀ q∈qs,Sz m q)(hm:m<=10000000)(hl:qs.length<=1000)
 (hK:K (ivS (mnL p qs) (mxL p qs)) h):aG prog V9 #[.string (bs (C9 p)),.slice A n c] h K:=by
 refine B06 _ _ _ _ ?_
 unfold B47
 exact Gz gl hn sl hp hq hm hl ⟨_,rfl,Z8 gl hn sl hp hq hm hl ⟨_,rfl,hK⟩⟩
def A6x{qs:List Rat}{K2:VP}{n:Nat}{ps:Array (Nat × aO)}(gl:Gl h)(hn:n=qs.length)(hps:ps.toList=(List.range' 0 (qs.map fun q=>aF (bs (C9 q))).length).zip (qs.map fun q=>aF (bs (C9 q))))(hp:Sz m p)(hq:∀ q∈qs,Sz m q)(hm:m<=10000000)(hl:qs.length<=1000)
 (hK:∀ h',h.le h'->K2 (ivS (mnL p qs) (mxL p qs)) h'):wpH prog (Instr.buildSlice N6 n ps) (fun v hp=>∃ (A:Option aW) (n c:Nat),v= .slice A n c/\aG prog V9 #[.string (bs (C9 p)),.slice A n c] hp (fun r4 hp5=>∃ (t260:ByteArray) (t261:ByteArray),r4= .agg #[.string t260,.string t261]/\K2 (.agg #[.string t260,.string t261]) hp5)) h:=by
 have e:(qs.map C9).map (fun l=>aF (bs l))=qs.map fun q=>aF (bs (C9 q)):=by simp
 refine Fl Z5 (ls:=qs.map C9) (by simpa using hn) (by omega) (by rw [e];exact hps) ?_
 intro b h' a sl
 rw [e] at sl
 exact ⟨_,_,_,rfl,Ql (gl.mono a) hn sl hp hq hm hl ⟨_,_,rfl,hK h' a⟩⟩
def N9(gl:Gl h)(ta:Tx m lo)(tb:Tx m hi)(hm:m<=1000000000)(hK1:∀ p q,lo=C9 p->hi=C9 q->p<=q->K (.bool true) h)(hK0:¬ A0x lo hi->K (.bool false) h):aG prog Q4 #[ivT lo hi] h K:=by
 refine A5w _ _ ?_
 unfold B04
 refine Cl gl ta.len (fun a=>⟨_,rfl,?_⟩) (fun a=>⟨_,rfl,hK0 fun ⟨p,q,e,_⟩=>a ⟨p,e⟩⟩)
 obtain ⟨p,rfl⟩:=a
 refine Cl gl tb.len (fun a=>⟨_,rfl,?_⟩) (fun a=>⟨_,rfl,hK0 fun ⟨p,q,_,e,_⟩=>a ⟨q,e⟩⟩)
 obtain ⟨q,rfl⟩:=a
 refine I4 gl ta tb (by omega) ⟨_,rfl,?_⟩
 rw [C3,C3]
 by_cases b:p<=q
 ·rw [decide_eq_true (Mo.2 b)];exact hK1 p q rfl rfl b
 ·rw [decide_eq_false (fun e=>b (Mo.1 e))]
  refine hK0 ?_
  rintro ⟨j,i,c,g,d⟩
  rw [Bg c,Bg g] at b;exact b d
def Hr(gl:Gl h)(ta:Tx m lo)(tb:Tx m hi)(tx:Tx m x)(hm:m<=1000000000)(hK1:∀ p q r,lo=C9 p->hi=C9 q->x=C9 r->p<=r->r<=q->K (.bool true) h)(hK0:¬ (∃ p q r,lo=C9 p/\hi=C9 q/\x=C9 r/\p<=r/\r<=q)->K (.bool false) h):aG prog R8 #[ivT lo hi,.string (bs x)] h K:=by
 refine Yh _ _ _ ?_
 unfold Vi
 refine N9 gl ta tb hm (fun p q a b s=>⟨_,rfl,?_⟩) (fun d=>⟨_,rfl,hK0 fun ⟨p,q,r,a,b,_,i,g⟩=>d ⟨p,q,a,b,Rat.le_trans i g⟩⟩)
 refine Cl gl tx.len (fun d=>⟨_,rfl,?_⟩) (fun d=>⟨_,rfl,hK0 fun ⟨p,q,r,_,_,e,_⟩=>d ⟨r,e⟩⟩)
 obtain ⟨r,o⟩:=d
 subst a b o
 refine I4 gl ta tx (by omega) ⟨_,rfl,?_⟩
 rw [C3,C3]
 refine B3 (fun e=>?_) (fun e=>hK0 ?_)
 ·refine I4 gl tx tb (by omega) ⟨_,rfl,?_⟩
  rw [C3,C3]
  by_cases c:r<=q
  ·rw [decide_eq_true (Mo.2 c)];exact hK1 p q r rfl rfl rfl (Mo.1 e) c
  ·rw [decide_eq_false (fun e=>c (Mo.1 e))]
   refine hK0 ?_
   rintro ⟨n,k,l,a,b,j,i,g⟩
   rw [Bg b,Bg j] at c;exact c g
 ·rintro ⟨n,k,l,a,b,j,i,g⟩
  rw [Bg a,Bg j] at e;exact e (Mo.2 i)
def B1r:C9 (1/2)=[49,47,50]:=by
 have b:(1/2:Rat).num=1:=by decide +kernel
 have a:(1/2:Rat).den=2:=by decide +kernel
 simp [C9,Hp,b,a,L0,P6,F9,dch]
def A1e:C9 2=[50]:=by
 have b:(2:Rat).num=2:=rfl
 have a:(2:Rat).den=1:=rfl
 simp [C9,Hp,b,a,L0,P6,F9,dch]
def B2z:Sz 2 2:=⟨by unfold ZB;decide +kernel,by unfold ZB;decide +kernel⟩
def A52(gl:Gl h)(hp:Sz m p)(hq:Sz m q)(hr:Sz m r)(hs:Sz m s)(hm:m<=1000000)(hK:K (ivS (p+r) (q+s)) h):aG prog Xi #[ivS p q,ivS r s] h K:=by
 refine B0d _ _ _ _ ?_
 unfold B4b
 refine Ps gl (Tx.of hp (by omega)) (Tx.of hr (by omega)) (by omega) ⟨_,rfl,B0 _,?_⟩
 refine Ps gl (Tx.of hq (by omega)) (Tx.of hs (by omega)) (by omega) ⟨_,rfl,B0 _,?_⟩
 rw [C3,C3,C3,C3];exact hK
def Ui(gl:Gl h)(hp:Sz m p)(hq:Sz m q)(hr:Sz m r)(hs:Sz m s)(hm:m<=1000000)(hK:K (ivS (Hm p q r s) (Hn p q r s)) h):aG prog Ph #[ivS p q,ivS r s] h K:=by
 refine FCall.pure (B09 _ _ _ _ ?_)
 unfold B49
 refine Am gl (Tx.of hp (by omega)) (Tx.of hr (by omega)) (by omega) ⟨_,rfl,B0 _,?_⟩
 refine Am gl (Tx.of hp (by omega)) (Tx.of hs (by omega)) (by omega) ⟨_,rfl,B0 _,?_⟩
 refine Am gl (Tx.of hq (by omega)) (Tx.of hr (by omega)) (by omega) ⟨_,rfl,B0 _,?_⟩
 refine Am gl (Tx.of hq (by omega)) (Tx.of hs (by omega)) (by omega) ⟨_,rfl,B0 _,?_⟩
 rw [C3,C3,C3,C3]
 have e:=(hp.mul hr)
 have a:∀ t∈[p*s,q*r,q*s],Sz (m+m) t:=by
  intro t d
  simp only [List.mem_cons,List.not_mem_nil,or_false] at d
  rcases d with rfl|rfl|rfl
  ·exact hp.mul hs
  ·exact hq.mul hr
  ·exact hq.mul hs
 refine Fl Z5 (ls:=[C9 (p*s),C9 (q*r),C9 (q*s)]) rfl (by simp) rfl ?_
 intro b g c sl
 refine ⟨_,_,_,rfl,c,?_⟩
 refine Ql (qs:=[p*s,q*r,q*s]) (gl.mono c) rfl sl e a (by omega) (by simp) ⟨_,_,rfl,B0 _,c,hK⟩
def A6y{q:Rat}:q.num.sign<0↔q<0:=by rw [Int.sign_neg_iff,Rat.lt_iff];simp
def A6z{q:Rat}:0<q.num.sign↔0<q:=by rw [Int.sign_pos_iff,Rat.lt_iff];simp
def Uh{k:Nat}(gl:Gl h)(hp:Sz m p)(hq:Sz m q)(hm1:1<=m)(hk:k<=1000)(hm:m*k+1<=1000000)(hmm:m<=1000000)(hK:K (ivS (S4 p q k) (S5 p q k)) h):aG prog Pg #[ivS p q,I (k:Int)] h K:=by
 refine FCall.pure (B07 _ _ _ ?_)
 unfold B48
 have x:({ data:=#[48] }:ByteArray)=bs (C9 0):=by rw [A6m];rfl
 refine Pq gl (Tx.of hp (by omega)) hm1 (by simpa using (show m*k+1<=40000000 by omega)) (by omega) ?_ (fun _ e=>by omega) (fun e=>by omega)
 intro _ _ _
 refine ⟨_,_,rfl,?_⟩
 refine Pq gl (Tx.of hq (by omega)) hm1 (by simpa using (show m*k+1<=40000000 by omega)) (by omega) ?_ (fun _ e=>by omega) (fun e=>by omega)
 intro _ _ _
 refine ⟨_,_,rfl,?_⟩
 rw [C3,C3,aN]
 have u:=hp.pow hm1 k
 have s:=hq.pow hm1 k
 have a:¬ (0<k/\k%2=0/\p<0/\0<q)->wpH prog (Instr.buildSlice N6 1 #[(0,.string (bs (C9 (q^k))))]) (fun v hp=>∃ (A:Option aW) (n c:Nat),v= .slice A n c/\aG prog V9 #[.string (bs (C9 (p^k))),.slice A n c] hp (fun r4 i=>∃ (t260:ByteArray) (t261:ByteArray),r4= .agg #[.string t260,.string t261]/\h.le i/\K (.agg #[.string t260,.string t261]) h)) h:=by
  intro w
  refine A6x (K2:=fun r g=>h.le g/\K r h) (qs:=[q^k]) gl rfl rfl u (fun t b=>by simp at b;subst b;exact s) (by omega) (by simp) (fun g j=>⟨j,?_⟩)
  unfold S4 S5 at hK
  rw [iN w,iN w] at hK
  exact hK
 have b:Int.tmod (k:Int) 2=((k%2:Nat):Int):=by rw [Int.tmod_eq_emod_of_nonneg (by omega)];omega
 rw [b]
 refine B3 (fun y=>?_) (fun y=>a (by omega))
 refine E7 (fun e=>?_) (fun e=>a (by omega))
 refine Tr gl (by have:=Vq hp;omega) ⟨_,rfl,?_⟩
 rw [C3]
 refine B3 (fun o=>?_) (fun o=>a (fun d=>o (A6y.2 d.2.2.1)))
 refine Tr gl (by have:=Vq hq;omega) ⟨_,rfl,?_⟩
 rw [C3]
 refine B3 (fun l=>?_) (fun l=>a (fun d=>l (A6z.2 d.2.2.2)))
 have d:0<k/\k%2=0/\p<0/\0<q:=⟨by omega,by omega,A6y.1 o,A6z.1 l⟩
 rw [x]
 refine A6x (m:=m*k+1) (K2:=fun r g=>h.le g/\K r h) (qs:=[p^k,q^k]) gl rfl rfl (Sz.zero (by omega)) (fun t b=>by simp at b;rcases b with rfl|rfl;exact u;exact s) (by omega) (by simp) (fun g j=>⟨j,?_⟩)
 unfold S4 S5 at hK
 rw [iP d,iP d] at hK
 exact hK
abbrev ivE:aO:=.agg #[.string (bs []),.string (bs [])]
variable {lo2 hi2:List UInt8}
def A7w(gl:Gl h)(ta:Tx m lo)(tb:Tx m hi)(tc:Tx m lo2)(td:Tx m hi2)(hm:m<=1000000)(hK1:∀ p q r s,lo=C9 p->hi=C9 q->p<=q->lo2=C9 r->hi2=C9 s->r<=s->K (.tuple #[ivS (Hm p q r s) (Hn p q r s),I 0]) h)(hK0:¬ (A0x lo hi/\A0x lo2 hi2)->K (.tuple #[ivE,I 1]) h):aG prog Xh #[ivT lo hi,ivT lo2 hi2] h K:=by
 refine B2u _ _ _ _ ?_
 unfold B95
 refine N9 gl ta tb (by omega) (fun p q g k b=>⟨_,rfl,?_⟩) (fun c=>⟨_,rfl,hK0 fun x=>c x.1⟩)
 refine N9 gl tc td (by omega) (fun r s i l a=>⟨_,rfl,?_⟩) (fun c=>⟨_,rfl,hK0 fun x=>c x.2⟩)
 have o:=hK1 p q r s g k b i l a
 subst g k i l
 have e:=ta.sz;have j:=tb.sz;have d:=tc.sz;have n:=td.sz
 rw [C3] at e j d n
 exact Ui gl e j d n hm ⟨_,_,rfl,o⟩
def A7v{k:Int}(gl:Gl h)(ta:Tx m lo)(tb:Tx m hi)(hm1:1<=m)(hm:m<=10000)(hK1:∀ p q (n:Nat),lo=C9 p->hi=C9 q->p<=q->k=n->n<=24->K (.tuple #[ivS (S4 p q n) (S5 p q n),I 0]) h)(hKr:A0x lo hi->(k<0\/24<k)->K (.tuple #[ivE,I 3]) h)(hK0:¬ A0x lo hi->K (.tuple #[ivE,I 1]) h):aG prog Xg #[ivT lo hi,I k] h K:=by
 refine B2t _ _ _ ?_
 unfold B94
 refine N9 gl ta tb (by omega) (fun p q b c a=>⟨_,rfl,?_⟩) (fun j=>⟨_,rfl,hK0 j⟩)
 refine B3 (fun e=>hKr ⟨p,q,b,c,a⟩ (.inl e)) (fun o=>B3 (fun e=>hKr ⟨p,q,b,c,a⟩ (.inr e)) (fun l=>?_))
 obtain ⟨n,rfl⟩:∃ n:Nat,k=n:=⟨k.toNat,by omega⟩
 have i:=hK1 p q n b c a rfl (by omega)
 subst b c
 have d:=ta.sz;have g:=tb.sz
 rw [C3] at d g
 have:m*n<=m*24:=Nat.mul_le_mul_left m (by omega)
 exact Uh gl d g hm1 (by omega) (by omega) (by omega) ⟨_,_,rfl,i⟩
def A1u(x:Rat)(a b:Nat):x^(a+b)=x^a*x^b:=by
 induction b with
 | zero=>simp [Rat.pow_zero]
 | succ b ih=>rw [Nat.add_succ,aU,ih,aU,Rat.mul_assoc]
def Ll(k:Nat):Sz (2*k+1) ((2:Rat)^k):=B2z.pow (by omega) k
def A1f(k:Nat):(0:Rat)<2^k:=by
 induction k with
 | zero=>rw [Rat.pow_zero];decide
 | succ k ih=>rw [aU];exact Rat.mul_pos ih (by decide)
def Zw:∀ (k:Nat) {K:VP},Gl h->k<=8192->K (.string (bs (C9 (2^k)))) h->aG prog Cw #[I (k:Int)] h K:=by
 intro k
 induction k using Nat.strongRecOn with
 | _ k ih=>
  intro K c l d
  refine A33 _ ?_
  unfold A4f
  have b:rv [50]=2:=by rw [<- A1e,C3]
  refine B3 (fun j=>?_) (fun j=>?_)
  ·refine Pq (m:=2) (a:=[50]) c ⟨by simp,by rw [b];exact B2z⟩ (by omega) (by omega) (by omega) ?_ ?_ ?_
   ·intro _ _ _
    rw [b,aN]
    exact ⟨_,_,rfl,d⟩
   ·intro _ e;omega
   ·intro e;omega
  ·have g:B4 (Int.tdiv (k:Int) 2)=((k/2:Nat):Int):=by
    rw [Int.tdiv_eq_ediv_of_nonneg (by omega),B5 (by omega) (by omega)];omega
   have i:B4 ((k:Int)-((k/2:Nat):Int))=((k-k/2:Nat):Int):=by rw [B5 (by omega) (by omega)];omega
   rw [g,i]
   refine ih (k/2) (by omega) c (by omega) ⟨_,rfl,ih (k-k/2) (by omega) c (by omega) ⟨_,rfl,?_⟩⟩
   refine Am (m:=2*k+1) c (Tx.of ((Ll _).mono (by omega)) (by omega)) (Tx.of ((Ll _).mono (by omega)) (by omega)) (by omega) ⟨_,rfl,?_⟩
   rw [C3,C3,<- A1u,show k/2+(k-k/2)=k by omega]
   exact d
def B2y(z:Int):Hp z=C9 (z:Rat):=by simp [C9]
def A29{bits:Int}(gl:Gl h)(ta:Tx m lo)(tb:Tx m hi)(hm1:1<=m)(hm:m<=10000)
 (hK1:∀ p q (k:Nat),lo=C9 p->hi=C9 q->p<=q->bits=k->k<=4096->K (.tuple #[ivS ((((p*2^k).floor:Int):Rat)/2^k) ((((q*2^k).ceil:Int):Rat)/2^k),I 0]) h)
 (hKr:A0x lo hi->(bits<0\/4096<bits)->K (.tuple #[ivE,I 3]) h) (hK0:¬ A0x lo hi->K (.tuple #[ivE,I 1]) h):aG prog Bo #[ivT lo hi,I bits] h K:=by
 refine Ye _ _ _ ?_
 unfold Vf
 refine N9 gl ta tb (by omega) (fun p q d g a=>⟨_,rfl,?_⟩) (fun u=>⟨_,rfl,hK0 u⟩)
 refine B3 (fun e=>hKr ⟨p,q,d,g,a⟩ (.inl e)) (fun x=>B3 (fun e=>hKr ⟨p,q,d,g,a⟩ (.inr e)) (fun w=>?_))
 obtain ⟨k,rfl⟩:∃ k:Nat,bits=k:=⟨bits.toNat,by omega⟩
 have r:=hK1 p q k d g a rfl (by omega)
 subst d g
 have i:=ta.sz;have j:=tb.sz
 rw [C3] at i j
 have b:=(Ll k).mono (show 2*k+1<=10000 by omega)
 have c:(2:Rat)^k≠0:=fun e=>by have:=A1f k;rw [e] at this;exact absurd this (by decide)
 refine Zw k gl (by omega) ⟨_,rfl,?_⟩
 refine Am (m:=10000) gl (Tx.of (i.mono (by omega)) (by omega)) (Tx.of b (by omega)) (by omega) ⟨_,rfl,?_⟩
 rw [C3,C3]
 have n:=(i.mul b).mono (show m+10000<=20000 by omega)
 have l:=(j.mul b).mono (show m+10000<=20000 by omega)
 refine A1i (m:=20000) gl (Tx.of n (by omega)) (by omega) ⟨_,rfl,?_⟩
 rw [C3,B2y]
 have s:=Sz.int (Pc n) (by omega)
 have o:Sz 20000 (((q*2^k).ceil:Int):Rat):=by
  refine Sz.int ?_ (by omega)
  rw [Rat.ceil_eq_neg_floor_neg]
  exact (Pc l.neg).neg
 refine Yx (m:=20000) gl (Tx.of s (by omega)) (Tx.of (b.mono (by omega)) (by omega)) (by omega) (by omega) ?_ (fun e=>absurd e (by rw [C3];exact c))
 intro _
 rw [C3,C3]
 refine ⟨_,_,rfl,?_⟩
 refine Am (m:=10000) gl (Tx.of (j.mono (by omega)) (by omega)) (Tx.of b (by omega)) (by omega) ⟨_,rfl,?_⟩
 rw [C3,C3]
 refine A4l (m:=20000) gl (Tx.of l (by omega)) (by omega) ⟨_,rfl,?_⟩
 rw [C3,B2y]
 refine Yx (m:=20000) gl (Tx.of o (by omega)) (Tx.of (b.mono (by omega)) (by omega)) (by omega) (by omega) ?_ (fun e=>absurd e (by rw [C3];exact c))
 intro _
 rw [C3,C3]
 exact ⟨_,_,rfl,r⟩
end
end Go.Proofs.YtmbfcbbkbefgfaaGreatDoor
namespace Go.Proofs.YtmbfcbbkbefgfaaGreatDoor
set_option maxRecDepth 20000
open Go Go.RowKit
def memOf(W:World):Heap:=fun b=>W.heap[b]?
def frame_of{P:Program}{f:FuncId}{args:Array aO}{W:World}(x:aG P f args (memOf W) (C1i (memOf W))):Calls P f args W fun e w'=>e= .returned (.bool true)/\Below W.heap.size W w':=by
 refine (x W (fun b o e=>e)).mono ?_
 rintro e W' ⟨r,l,g,⟨i,c⟩,a⟩
 subst i
 refine ⟨g,a.os,a.tape,a.output,a.size,fun k j=>?_⟩
 have d:memOf W k=some W.heap[k]:=Array.getElem?_eq_getElem j
 have:=a.sim k _ (c k _ d)
 rw [this];exact d.symm
def R1{W:World}{a:aW}{v:aO}(e:W.cell? a=some v):(memOf W).cell? a=some v:=by
 unfold World.cell? at e
 unfold Heap.cell? memOf
 exact e
def A3m{P:Program}{W:World}{x:String × DataW Unit}{rest:List (String × DataW Unit)}(h:laidMet P (x::rest) W):laidMet P rest W:=by
 obtain ⟨n,d⟩:=x
 obtain ⟨m,⟨g,t,o,c,p,q,u,l,s,r,k,rfl⟩,j,i⟩:=h
 exact ⟨q,k,(List.nodup_append.1 j).2.1,fun b a e=>i b a (List.mem_append_right _ e)⟩
def C07:List Int:=[0,1,28,2,29,14,24,3,30,22,20,15,25,17,4,8,31,27,13,23,21,19,16,7,26,12,18,6,11,5,10,9]
def B10:List Int:=[0,1,56,2,57,49,28,3,61,58,42,50,38,29,17,4,62,47,59,36,45,43,51,22,53,39,33,30,24,18,12,5,63,55,48,27,60,41,37,16,46,35,44,21,52,32,23,11,54,26,40,15,34,20,31,10,25,14,19,9,13,8,7,6]
def B4n:List Int:=[1,10,100,1000,10000,100000,1000000,10000000,100000000,1000000000,10000000000,100000000000,1000000000000,10000000000000,100000000000000,1000000000000000,10000000000000000,100000000000000000,1000000000000000000,10000000000000000000]
def B3d:prog.globalNamed "math/bits.deBruijn64tab" = some 0:=by kernel_rfl
def B3e:prog.globalNamed "internal/strconv.uint64pow10" = some 3:=by kernel_rfl
def tabs_gl{W:World}(h:laidMet prog [("math/bits.deBruijn32tab",Rows.laid_math_bits_deBruijn32tab),("math/bits.deBruijn64tab",Rows.laid_math_bits_deBruijn64tab),("internal/strconv.uint64pow10",Rows.laid_internal_strconv_uint64pow10)] W):Gl (memOf W):=by
 have j:=A3m h
 have l:=A3m j
 have g:Lib.TabIs prog W "math/bits.deBruijn64tab" .u8 B10:=Lib.tabIs_of_head (rest:=[("internal/strconv.uint64pow10",Rows.laid_internal_strconv_uint64pow10)]) B3d (by kernel_rfl) underlying354 underlying5 (by kernel_rfl) (by kernel_rfl) j
 have e:Lib.TabIs prog W "internal/strconv.uint64pow10" .u64 B4n:=Lib.tabIs_of_head (rest:=[]) B3e (by kernel_rfl) underlying358 underlying270 (by kernel_rfl) (by kernel_rfl) l
 have i:∀ k,k<64->Yq k<B10.length/\B10.getD (Yq k) 0=(k:Int):=by decide +kernel
 have d:∀ k,k<20->B4n.getD k 0=((10^k:Nat):Int):=by decide +kernel
 refine ⟨fun k c=>?_,fun k c=>?_⟩
 ·obtain ⟨a,b⟩:=i k c
  have:=R1 (g.cell B3d (Yq k) a)
  rw [H7,aM,Nat.zero_add,this,b]
 ·have:=R1 (e.cell B3e k (by show k<20;exact c))
  rw [H7,aM,Nat.zero_add,this,d k c]
def A7t(zs:List Int)(k:IntKind):Obj->Obj
 | .cells _ t frozen=>.cells (zs.map (Value.int k)).toArray t frozen
 | o=>o
def layTabs(a:Array Obj):Array Obj:=((a.modify 4 (A7t C07 .u8)).modify 0 (A7t B10 .u8)).modify 3 (A7t B4n .u64)
abbrev iv8(a b:QV):aO:=.agg #[.bool a.s,.slice a.A a.n a.c,.bool a.s2,.slice a.A2 a.n2 a.c2,.bool b.s,.slice b.A b.n b.c,.bool b.s2,.slice b.A2 b.n2 b.c2]
def Js(w:QV):List aO:=[.bool w.s,.slice w.A w.n w.c,.bool w.s2,.slice w.A2 w.n2 w.c2]
structure QsAt (h:Heap) (A:Option aW) (ws:List QV) (ps:List Rat):Prop where
 len:ws.length=ps.length
 num:∀ (i:Nat) (h1:i<ws.length) (h2:i<ps.length),NQ h ws[i] ps[i]
 sl:SlV h A (ws.flatMap Js)
def A73(ws:List QV):(ws.flatMap Js).length=ws.length*4:=by
 induction ws with
 | nil=>rfl
 | cons w ws ih=>rw [aH,List.length_append,ih,List.length_cons];simp [Js];omega
def B1e(ws:List QV):∀ {i:Nat} (hi:i<ws.length) {j:Nat} (hj:j<4),(ws.flatMap Js)[i*4+j]? = (Js ws[i])[j]? :=by
 induction ws with
 | nil=>intro i hi;simp at hi
 | cons w ws ih=>
  intro i hi j hj
  rw [aH]
  cases i with
  | zero=>rw [aS (by simp [Js];omega)];simp
  | succ i=>
   rw [aR (by simp [Js];omega)]
   have:=ih (i:=i) (by simpa using hi) hj
   simp only [aV]
   rw [<- this]
   congr 1
   simp [Js];omega
def QsAt.at{h:Heap}{A:Option aW}{ws:List QV}{ps:List Rat}(q:QsAt h A ws ps){i:Nat}(hi:i<ps.length):∃ a w,A=some a/\NQ h w ps[i]/\Heap.cell? h (aE (aE a (i*4)) 0)=some (.bool w.s)/\Heap.cell? h (aE (aE a (i*4)) 1)=some (.slice w.A w.n w.c)/\Heap.cell? h (aE (aE a (i*4)) 2)=some (.bool w.s2)/\Heap.cell? h (aE (aE a (i*4)) 3)=some (.slice w.A2 w.n2 w.c2):=by
 have d:i<ws.length:=by rw [q.len];exact hi
 have m:=A73 ws
 obtain ⟨a,e,_⟩:=q.sl.at (i:=0) (by omega)
 refine ⟨a,ws[i],e,q.num i d hi,?_⟩
 have cell:∀ j,j<4->∀ v,(Js ws[i])[j]? = some v->Heap.cell? h (aE (aE a (i*4)) j)=some v:=by
  intro j g v k
  obtain ⟨o,b,l⟩:=q.sl.at (i:=i*4+j) (by omega)
  rw [e] at b
  cases b
  rw [Ah,l]
  have:=B1e ws d g
  rw [aT (by omega),k] at this
  exact this
 exact ⟨cell 0 (by omega) _ rfl,cell 1 (by omega) _ rfl,cell 2 (by omega) _ rfl,cell 3 (by omega) _ rfl⟩
section
variable {h:Heap} {K:VP} {m:Nat} {lo hi x:List UInt8} {p q r s:Rat} {a b c d w:QV}
end
def ivB(lo hi:List UInt8):Bool:=decide (C9 (rv lo)=lo)&&(decide (C9 (rv hi)=hi)&&decide (rv lo<=rv hi))
def Z7{p q:Rat}(h:p<=q):ivB (C9 p) (C9 q)=true:=by simp [ivB,C3,h]
def A3n{lo hi:List UInt8}(h:ivB lo hi=true):A0x lo hi:=by
 simp only [ivB,aP,decide_eq_true_eq] at h
 exact ⟨rv lo,rv hi,h.1.symm,h.2.1.symm,h.2.2⟩
def Zu{lo hi:List UInt8}(h:¬ A0x lo hi):ivB lo hi=false:=by
 cases e:ivB lo hi with
 | false=>rfl
 | true=>exact absurd (A3n e) h
abbrev R3:=List UInt8 × List UInt8 × Int
abbrev r3(x:R3):aO:=.tuple #[ivT x.1 x.2.1,I x.2.2]
def B6q(lo hi:List UInt8)(k:Int):R3:=if ivB lo hi then (if k<0\/24<k then ([],[],3) else (C9 (S4 (rv lo) (rv hi) k.toNat),C9 (S5 (rv lo) (rv hi) k.toNat),0)) else ([],[],1)
def Tu(lo hi:List UInt8)(k:Int):R3:=if ivB lo hi then (if k<0\/4096<k then ([],[],3) else (C9 ((((rv lo*2^k.toNat).floor:Int):Rat)/2^k.toNat),C9 ((((rv hi*2^k.toNat).ceil:Int):Rat)/2^k.toNat),0)) else ([],[],1)
def B7r(lo hi lo2 hi2:List UInt8):R3:=if ivB lo hi&&ivB lo2 hi2 then (C9 (Hm (rv lo) (rv hi) (rv lo2) (rv hi2)),C9 (Hn (rv lo) (rv hi) (rv lo2) (rv hi2)),0) else ([],[],1)
def A58(lo hi x:List UInt8):Bool:=ivB lo hi&&(decide (C9 (rv x)=x)&&decide (rv lo<=rv x/\rv x<=rv hi))
def Uo{p q r:Rat}(h1:p<=r)(h2:r<=q):A58 (C9 p) (C9 q) (C9 r)=true:=by simp [A58,Z7 (Rat.le_trans h1 h2),C3,h1,h2]
def A2j{lo hi x:List UInt8}(h:¬ (∃ p q r,lo=C9 p/\hi=C9 q/\x=C9 r/\p<=r/\r<=q)):A58 lo hi x=false:=by
 cases e:A58 lo hi x with
 | false=>rfl
 | true=>
  simp only [A58,aP,decide_eq_true_eq] at e
  obtain ⟨c,d,b,a⟩:=e
  obtain ⟨p,q,rfl,rfl,_⟩:=A3n c
  rw [C3] at b a
  exact absurd ⟨p,q,rv x,rfl,rfl,d.symm,b,a⟩ h
section
variable {h:Heap} {K:VP} {m:Nat} {lo hi x lo2 hi2:List UInt8}
def C0j(gl:Gl h)(ta:Tx m lo)(tb:Tx m hi)(hm1:1<=m)(hm:m<=10000){k:Int}(hK:K (r3 (B6q lo hi k)) h):aG prog Xg #[ivT lo hi,I k] h K:=by
 refine A7v gl ta tb hm1 hm ?_ ?_ ?_
 ·rintro p q n rfl rfl a rfl b
  rw [B6q,iP (Z7 a),iN (by omega),C3,C3,aD] at hK;exact hK
 ·rintro ⟨p,q,rfl,rfl,a⟩ c
  rw [B6q,iP (Z7 a),iP c] at hK;exact hK
 ·intro b
  rw [B6q,Zu b,iN (by simp)] at hK;exact hK
def B58(gl:Gl h)(ta:Tx m lo)(tb:Tx m hi)(hm1:1<=m)(hm:m<=10000){k:Int}(hK:K (r3 (Tu lo hi k)) h):aG prog Bo #[ivT lo hi,I k] h K:=by
 refine A29 gl ta tb hm1 hm ?_ ?_ ?_
 ·rintro p q n rfl rfl a rfl b
  rw [Tu,iP (Z7 a),iN (by omega),C3,C3,aD] at hK;exact hK
 ·rintro ⟨p,q,rfl,rfl,a⟩ c
  rw [Tu,iP (Z7 a),iP c] at hK;exact hK
 ·intro b
  rw [Tu,Zu b,iN (by simp)] at hK;exact hK
def Ys{lo hi lo2 hi2:List UInt8}(h:¬ (A0x lo hi/\A0x lo2 hi2)):(ivB lo hi&&ivB lo2 hi2)=false:=by
 cases e:(ivB lo hi&&ivB lo2 hi2) with
 | false=>rfl
 | true=>
  rw [aP] at e
  exact absurd ⟨A3n e.1,A3n e.2⟩ h
def Vs{p q r s:Rat}(h:p<=q)(h2:r<=s):(ivB (C9 p) (C9 q)&&ivB (C9 r) (C9 s))=true:=by rw [Z7 h,Z7 h2];rfl
def C0k(gl:Gl h)(ta:Tx m lo)(tb:Tx m hi)(tc:Tx m lo2)(td:Tx m hi2)(hm:m<=1000000)(hK:K (r3 (B7r lo hi lo2 hi2)) h):aG prog Xh #[ivT lo hi,ivT lo2 hi2] h K:=by
 refine A7w gl ta tb tc td hm ?_ ?_
 ·rintro p q r s rfl rfl b rfl rfl a
  rw [B7r,iP (Vs b a),C3,C3,C3,C3] at hK;exact hK
 ·intro c
  rw [B7r,Ys c,iN (by simp)] at hK;exact hK
def A51(gl:Gl h)(ta:Tx m lo)(tb:Tx m hi)(tx:Tx m x)(hm:m<=1000000000)(hK:K (.bool (A58 lo hi x)) h):aG prog R8 #[ivT lo hi,.string (bs x)] h K:=by
 refine Hr gl ta tb tx hm ?_ ?_
 ·rintro p q r rfl rfl rfl c a;rw [Uo c a] at hK;exact hK
 ·intro b;rw [A2j b] at hK;exact hK
def Zr{ls:List (List UInt8)}{n:Int}{A:Option aW}{c ln:Nat}(sl:SlV h A (ls.map fun l=>aF (bs l)))(hn:ln=ls.length)(hl:ls.length<=1000000000)(hK1:(∀ l∈ls,(l.length:Int)<=n)->K (.bool true) h)(hK0:¬ (∀ l∈ls,(l.length:Int)<=n)->K (.bool false) h):aG prog Rb #[I n,.slice A ln c] h K:=by
 subst hn
 refine A5v _ _ _ _ ?_
 unfold B02
 refine ⟨fun L o=>o=h/\∃ i:Nat,i<=ls.length/\(∀ l∈ls.take i,(l.length:Int)<=n)/\L=[I i],fun L _=>ls.length-(iAt L 0).toNat,⟨rfl,0,aQ _,by simp,rfl⟩,?_⟩
 rintro t m ⟨rfl,i,q,b,j⟩
 simp only [aL,aK,true_and,and_true] at j
 subst j
 refine B3 (fun e=>?_) (fun e=>?_)
 ·have d:i<ls.length:=by omega
  obtain ⟨a,k,p⟩:=SlV.at sl (i:=i) (by simpa using d)
  refine ⟨a,k,by omega,e,bs ls[i],?_,?_⟩
  ·rw [aD,aM,p];simp
  rw [L7,B5 (by omega) (by omega)]
  refine B3 (fun g=>hK0 fun x=>?_) (fun g=>⟨⟨rfl,i+1,d,?_,rfl⟩,?_⟩)
  ·have:=x ls[i] (aJ d);omega
  ·intro l hl
   rw [aC d] at hl
   rcases List.mem_append.1 hl with hl|hl
   ·exact b l hl
   ·rw [List.mem_singleton.1 hl];omega
  ·simp [iAt];omega
 ·obtain rfl:i=ls.length:=by omega
  rw [aI] at b
  exact hK1 b
def G5(x:List UInt8 × List UInt8):List aO:=[.string (bs x.1),.string (bs x.2)]
def Ug(l:List (List UInt8 × List UInt8)):(l.flatMap G5).length=l.length*2:=by
 induction l with
 | nil=>rfl
 | cons w l ih=>rw [aH,List.length_append,ih,List.length_cons];simp [G5];omega
def Zt(l:List (List UInt8 × List UInt8)):∀ {i:Nat} (hi:i<l.length) {j:Nat} (hj:j<2),(l.flatMap G5)[i*2+j]? = (G5 l[i])[j]? :=by
 induction l with
 | nil=>intro i hi;simp at hi
 | cons w l ih=>
  intro i hi j hj
  rw [aH]
  cases i with
  | zero=>rw [aS (by simp [G5];omega)];simp
  | succ i=>
   rw [aR (by simp [G5];omega)]
   have:=ih (i:=i) (by simpa using hi) hj
   simp only [aV]
   rw [<- this]
   congr 1
   simp [G5];omega
def Qm{l:List (List UInt8 × List UInt8)}{A:Option aW}(sl:SlV h A (l.flatMap G5)){i:Nat}(hi:i<l.length):∃ a,A=some a/\Heap.cell? h (aE (aE a (i*2)) 0)=some (.string (bs l[i].1))/\Heap.cell? h (aE (aE a (i*2)) 1)=some (.string (bs l[i].2)):=by
 have k:=Ug l
 obtain ⟨a,c,_⟩:=sl.at (i:=0) (by omega)
 refine ⟨a,c,?_⟩
 have cell:∀ j,j<2->∀ v,(G5 l[i])[j]? = some v->Heap.cell? h (aE (aE a (i*2)) j)=some v:=by
  intro j d v e
  obtain ⟨m,b,g⟩:=sl.at (i:=i*2+j) (by omega)
  rw [c] at b
  cases b
  rw [Ah,g]
  have:=Zt l hi d
  rw [aT (by omega),e] at this
  exact this
 exact ⟨cell 0 (by omega) _ rfl,cell 1 (by omega) _ rfl⟩
def A27{l:List (List UInt8 × List UInt8)}{A:Option aW}{c ln:Nat}(sl:SlV h A (l.flatMap G5))(hn:ln=l.length)(hl:l.length<=1000000000)(hK1:(∀ x∈l,x.1.length<=20/\x.2.length<=20)->K (.bool true) h)(hK0:¬ (∀ x∈l,x.1.length<=20/\x.2.length<=20)->K (.bool false) h):aG prog Xd #[.slice A ln c] h K:=by
 subst hn
 refine FCall.pure (B00 _ _ _ ?_)
 unfold B44
 refine ⟨fun L u=>h.le u/\∃ i:Nat,i<=l.length/\(∀ x∈l.take i,x.1.length<=20/\x.2.length<=20)/\L=[I i],fun L _=>l.length-(iAt L 0).toNat,⟨B0 _,0,aQ _,by simp,rfl⟩,?_⟩
 rintro t r ⟨m,i,z,d,p⟩
 simp only [aL,aK,true_and,and_true] at p
 subst p
 refine B3 (fun e=>?_) (fun e=>?_)
 ·have j:i<l.length:=by omega
  obtain ⟨a,q,c0,c1⟩:=Qm (sl.mono m) j
  refine ⟨a,q,by omega,e,bs l[i].1,by rw [aD];exact c0,a,q,by omega,e,bs l[i].2,by rw [aD];exact c1,?_⟩
  refine Fl Z5 (ls:=[l[i].1,l[i].2]) rfl (by simp) rfl ?_
  intro b w n s
  refine ⟨_,_,_,rfl,n,?_⟩
  rw [B5 (by omega) (by omega)]
  refine Zr s rfl (by simp) (fun g=>⟨_,rfl,B0 _,⟨⟨Heap.le_trans m n,i+1,j,?_,rfl⟩,?_⟩⟩) (fun g=>⟨_,rfl,B0 _,Heap.le_trans m n,hK0 fun x=>?_⟩)
  ·intro x k
   rw [aC j] at k
   rcases List.mem_append.1 k with k|k
   ·exact d x k
   ·rw [List.mem_singleton.1 k]
    have B:=g l[i].1 (by simp)
    have C:=g l[i].2 (by simp)
    omega
  ·simp [iAt];omega
  ·have:=x l[i] (aJ j)
   refine g fun y o=>?_
   simp only [List.mem_cons,List.not_mem_nil,or_false] at o
   rcases o with rfl|rfl<;>omega
 ·obtain rfl:i=l.length:=by omega
  rw [aI] at d
  exact ⟨m,hK1 d⟩
def B78:C9 (-1)=[45,49]:=by
 have b:(-1:Rat).num= -1:=by decide +kernel
 have a:(-1:Rat).den=1:=by decide +kernel
 simp [C9,Hp,b,a,L0,P6,F9,dch]
def C03:C9 (-2)=[45,50]:=by
 have b:(-2:Rat).num= -2:=by decide +kernel
 have a:(-2:Rat).den=1:=by decide +kernel
 simp [C9,Hp,b,a,L0,P6,F9,dch]
def C2q:C9 4=[52]:=by
 have b:(4:Rat).num=4:=by decide +kernel
 have a:(4:Rat).den=1:=by decide +kernel
 simp [C9,Hp,b,a,L0,P6,F9,dch]
def B79:C9 (1/3)=[49,47,51]:=by
 have b:(1/3:Rat).num=1:=by decide +kernel
 have a:(1/3:Rat).den=3:=by decide +kernel
 simp [C9,Hp,b,a,L0,P6,F9,dch]
def C04:C9 (1/4)=[49,47,52]:=by
 have b:(1/4:Rat).num=1:=by decide +kernel
 have a:(1/4:Rat).den=4:=by decide +kernel
 simp [C9,Hp,b,a,L0,P6,F9,dch]
def C09{q:Rat}(h:decide (q.num.natAbs<65536/\q.den<65536)=true):Sz 16 q:=by
 have:=of_decide_eq_true h
 exact ⟨by unfold ZB;exact this.1,by unfold ZB;simpa using this.2⟩
def C05(a:Array UInt8):({ data:=a }:ByteArray)=bs a.toList:=by simp [bs]
def A5d(gl:Gl h)(hK:K (.bool true) h):aG prog O8 #[] h K:=by
 refine B01 ?_
 unfold B45
 have c:Tx 16 (C9 (-1)):=Tx.of (C09 (by decide +kernel)) (by omega)
 have d:Tx 16 (C9 2):=Tx.of (C09 (by decide +kernel)) (by omega)
 have e:Tx 16 (C9 (1/3)):=Tx.of (C09 (by decide +kernel)) (by omega)
 show aG _ _ #[ivT [45,49] [50],ivT [45,49] [50]] _ _
 rw [<- B78,<- A1e]
 refine C0k gl c d c d (by omega) ?_
 have g:B7r (C9 (-1)) (C9 2) (C9 (-1)) (C9 2)=(C9 (-2),C9 4,0):=by
  rw [B7r,iP (Vs (by decide +kernel) (by decide +kernel)),C3,C3]
  have b:Hm (-1) 2 (-1) 2= -2:=by decide +kernel
  have a:Hn (-1) 2 (-1) 2=4:=by decide +kernel
  rw [b,a]
 rw [g]
 refine ⟨_,_,_,rfl,?_⟩
 show aG _ _ #[ivT (C9 (-1)) (C9 2),I 2] _ _
 refine C0j gl c d (by omega) (by omega) ?_
 have j:B6q (C9 (-1)) (C9 2) 2=(C9 0,C9 4,0):=by
  rw [B6q,iP (Z7 (by decide +kernel)),iN (by omega),C3,C3]
  have b:S4 (-1) 2 (2:Int).toNat=0:=by decide +kernel
  have a:S5 (-1) 2 (2:Int).toNat=4:=by decide +kernel
  rw [b,a]
 rw [j]
 refine ⟨_,_,_,rfl,?_⟩
 show aG _ _ #[ivT [49,47,51] [49,47,51],I 2] _ _
 rw [<- B79]
 refine B58 gl e e (by omega) (by omega) ?_
 have i:Tu (C9 (1/3)) (C9 (1/3)) 2=(C9 (1/4),C9 (1/2),0):=by
  rw [Tu,iP (Z7 (by decide +kernel)),iN (by omega),C3]
  have b:((((1/3:Rat)*2^(2:Int).toNat).floor:Int):Rat)/2^(2:Int).toNat=1/4:=by decide +kernel
  have a:((((1/3:Rat)*2^(2:Int).toNat).ceil:Int):Rat)/2^(2:Int).toNat=1/2:=by decide +kernel
  rw [b,a]
 rw [i]
 refine ⟨_,_,_,rfl,?_⟩
 simp only [C03,C2q,A6m,C04,B1r,A1e,B78,B79,C05,Ny]
 exact hK
end
