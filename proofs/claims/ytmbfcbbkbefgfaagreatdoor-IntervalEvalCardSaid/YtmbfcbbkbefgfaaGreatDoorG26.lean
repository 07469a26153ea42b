/- A part. -/
import Derived.Test.YtmbfcbbkbefgfaaGreatDoorG25
import Derived.Test.YtmbfcbbkbefgfaaGreatDoorG17
import Derived.Test.YtmbfcbbkbefgfaaGreatDoorG23
import Derived.Test.YtmbfcbbkbefgfaaGreatDoorG24
import Derived.Test.YtmbfcbbkbefgfaaGreatDoorRows
import Derived.Lib.LaidTab
open Go.Proofs.Tryz
set_option linter.all false
open _root_.Go.Addr renaming add->aF
open _root_.Go.Instr renaming buildSlice->aQ
open Int renaming toNat_natCast->aD,tmod_eq_emod_of_nonneg->aO,natAbs_natCast->aU,tdiv_eq_ediv_of_nonneg->aY
open List renaming take_succ_eq_append_getElem->aC,flatMap_cons->aG,take_length->aK,getElem_mem->aL,mem_of_mem_take->aM,getElem_cons_succ->aR,not_mem_nil->aW,getElem?_append_right->aX,getElem?_append_left->aZ,mem_cons->bA,getElem?_eq_getElem->bB
open List.cons renaming injEq->aJ
open Nat renaming mul_le_mul_left->aN,mul_one->aP,zero_le->aS
open Rat renaming pow_zero->bC,pow_succ->bD
open _root_.Go.Value renaming string->aH
open _root_.Go.Value.int renaming injEq->aI
open _root_.Go renaming Value->aT,Addr->aV
open _root_.Go.Proofs.YtmbfcbbkbefgfaaGreatDoor renaming FCall->aE
namespace Go.Proofs.YtmbfcbbkbefgfaaGreatDoor
set_option maxRecDepth 20000
open Go
section
variable {h h':Heap} {K:VP} {A B:Option aV} {n c n' c':Nat} {s s':Bool} {x y z:Int} {m:Nat}
end
def B4u(h:Heap)(r:aT)(h':Heap):Prop:=r= .bool true/\h.le h'
def Pg{x:List UInt8}{k:Nat}(hl:x.length<=k)(hk:1<=k):Sz (4*k) (rv x):=by
 by_cases d:IsNum x
 ·obtain ⟨neg,a,b,f⟩:=d.form
  obtain ⟨i,g⟩:=f.rv_num d
  have e:=f.lens
  have c:(Ox neg a).natAbs=H4 a:=by unfold Ox;split<;>simp
  refine ⟨?_,?_⟩
  ·rw [i];exact (Nn f.da (k:=k) (by omega)).le (by rw [c,aU];exact Nat.le_refl _)
  ·rw [g]
   unfold Jn
   split
   ·exact ZB.one (by omega)
   ·exact Nn f.db (by omega)
 ·rw [A8q d];exact Sz.zero (by omega)
def Lx{x:List UInt8}{k:Nat}(hl:x.length<=k)(hk:1<=k)(hk2:k<=100000000):Tx (4*k) x:=⟨by omega,Pg hl hk⟩
def Tx.mono{m n:Nat}{x:List UInt8}(t:Tx m x)(h:m<=n):Tx n x:=⟨t.len,t.sz.mono h⟩
def A4j(lo hi:List UInt8):Prop:=∃ p q,lo=E4 p/\hi=E4 q/\p<=q
abbrev ivT(lo hi:List UInt8):aT:=.agg #[.string (bs lo),.string (bs hi)]
abbrev ivS(p q:Rat):aT:=ivT (E4 p) (E4 q)
def B76(l:List Rat):∀ p,mnL p l=p\/mnL p l∈l:=by
 induction l with
 | nil=>intro p;exact .inl rfl
 | cons q l ih=>
  intro p
  rw [Qa]
  rcases ih (mn p q) with h|h
  ·rcases B9d p q with e|e
   ·rw [h,e];exact .inl rfl
   ·rw [h,e];exact .inr (by simp)
  ·exact .inr (by simp [h])
def B74(l:List Rat):∀ p,mxL p l=p\/mxL p l∈l:=by
 induction l with
 | nil=>intro p;exact .inl rfl
 | cons q l ih=>
  intro p
  rw [Pz]
  rcases ih (mx p q) with h|h
  ·rcases B99 p q with e|e
   ·rw [h,e];exact .inl rfl
   ·rw [h,e];exact .inr (by simp)
  ·exact .inr (by simp [h])
def Sz.mnL{m:Nat}{p:Rat}{l:List Rat}(hp:Sz m p)(hl:∀ q∈l,Sz m q):Sz m (mnL p l):=by
 rcases B76 l p with e|e
 ·rw [e];exact hp
 ·exact hl _ e
def Sz.mxL{m:Nat}{p:Rat}{l:List Rat}(hp:Sz m p)(hl:∀ q∈l,Sz m q):Sz m (mxL p l):=by
 rcases B74 l p with e|e
 ·rw [e];exact hp
 ·exact hl _ e
section
variable {h:Heap} {K:VP} {m:Nat} {lo hi x:List UInt8} {p q r s:Rat}
def A6m{qs:List Rat}{A:Option aV}{n c:Nat}(gl:Gl h)(hn:n=qs.length)(sl:SlV h A (qs.map fun q=>aH (bs (E4 q))))(hp:Sz m p)(hq:∀ q∈qs,Sz m q)(hm:m<=10000000)(hl:qs.length<=1000)
 (hK:K (.string (bs (E4 (mnL p qs)))) h):aE prog Se #[.string (bs (E4 p)),.slice A n c] h K:=by
 subst hn
 refine A7w _ _ _ _ ?_
 unfold B27
 refine ⟨fun L hp=>hp=h/\∃ i:Nat,i<=qs.length/\L=[.string (bs (E4 (mnL p (qs.take i)))),I i],fun L _=>(qs.length-(iAt L 1).toNat),⟨rfl,0,aS _,rfl⟩,?_⟩
 rintro f x s ⟨rfl,i,w,k⟩
 simp only [aJ,Value.string.injEq,aI,true_and,and_true] at k
 obtain ⟨rfl,rfl⟩:=k
 have o:Sz m (mnL p (qs.take i)):=hp.mnL fun q h=>hq q (aM h)
 refine B4 (fun e=>?_) (fun e=>?_)
 ·have b:i<qs.length:=by omega
  obtain ⟨a,r,u⟩:=SlV.at sl (i:=i) (by simpa using b)
  refine ⟨a,r,by omega,e,bs (E4 qs[i]),?_,?_⟩
  ·rw [aD,aP,u];simp
  have d:mnL p (qs.take (i+1))=mn (mnL p (qs.take i)) qs[i]:=by rw [aC b,A54]
  have g:=hq qs[i] (aL b)
  refine R5 gl (Tx.of g (by omega)) (Tx.of o (by omega)) (by omega) ⟨_,rfl,?_⟩
  rw [C7,C7,B6 (by omega) (by omega)]
  refine B4 (fun j=>⟨⟨rfl,i+1,b,?_⟩,?_⟩) (fun j=>⟨⟨rfl,i+1,b,?_⟩,?_⟩)
  ·rw [d,mn,iP (B09.1 j)];rfl
  ·simp [iAt];omega
  ·rw [d,mn,iN (fun l=>j (B09.2 l))];rfl
  ·simp [iAt];omega
 ·obtain rfl:i=qs.length:=by omega
  rw [aK];exact hK
def Xx{qs:List Rat}{A:Option aV}{n c:Nat}(gl:Gl h)(hn:n=qs.length)(sl:SlV h A (qs.map fun q=>aH (bs (E4 q))))(hp:Sz m p)(hq:∀ q∈qs,Sz m q)(hm:m<=10000000)(hl:qs.length<=1000)
 (hK:K (.string (bs (E4 (mxL p qs)))) h):aE prog Gj #[.string (bs (E4 p)),.slice A n c] h K:=by
 subst hn
 refine Zq _ _ _ _ ?_
 unfold Wr
 refine ⟨fun L hp=>hp=h/\∃ i:Nat,i<=qs.length/\L=[.string (bs (E4 (mxL p (qs.take i)))),I i],fun L _=>(qs.length-(iAt L 1).toNat),⟨rfl,0,aS _,rfl⟩,?_⟩
 rintro f x s ⟨rfl,i,w,k⟩
 simp only [aJ,Value.string.injEq,aI,true_and,and_true] at k
 obtain ⟨rfl,rfl⟩:=k
 have o:Sz m (mxL p (qs.take i)):=hp.mxL fun q h=>hq q (aM h)
 refine B4 (fun e=>?_) (fun e=>?_)
 ·have b:i<qs.length:=by omega
  obtain ⟨a,r,u⟩:=SlV.at sl (i:=i) (by simpa using b)
  refine ⟨a,r,by omega,e,bs (E4 qs[i]),?_,?_⟩
  ·rw [aD,aP,u];simp
  have d:mxL p (qs.take (i+1))=mx (mxL p (qs.take i)) qs[i]:=by rw [aC b,A52]
  have g:=hq qs[i] (aL b)
  refine R5 gl (Tx.of g (by omega)) (Tx.of o (by omega)) (by omega) ⟨_,rfl,?_⟩
  rw [C7,C7,B6 (by omega) (by omega)]
  refine B4 (fun j=>⟨⟨rfl,i+1,b,?_⟩,?_⟩) (fun j=>⟨⟨rfl,i+1,b,?_⟩,?_⟩)
  ·rw [d,mx,iP (A3x.1 j)];rfl
  ·simp [iAt];omega
  ·rw [d,mx,iN (fun l=>j (A3x.2 l))];rfl
  ·simp [iAt];omega
 ·obtain rfl:i=qs.length:=by omega
  rw [aK];exact hK
def Ri{qs:List Rat}{A:Option aV}{n c:Nat}(gl:Gl h)(hn:n=qs.length)(sl:SlV h A (qs.map fun q=>aH (bs (E4 q))))(hp:Sz m p)(hq:∀ q∈qs,Sz m q)(hm:m<=10000000)(hl:qs.length<=1000)
 (hK:K (ivS (mnL p qs) (mxL p qs)) h):aE prog V7 #[.string (bs (E4 p)),.slice A n c] h K:=by
 refine B23 _ _ _ _ ?_
 unfold B69
 exact A6m gl hn sl hp hq hm hl ⟨_,rfl,Xx gl hn sl hp hq hm hl ⟨_,rfl,hK⟩⟩
def A8p{qs:List Rat}{K2:VP}{n:Nat}{ps:Array (Nat × aT)}(gl:Gl h)(hn:n=qs.length)(hps:ps.toList=(List.range' 0 (qs.map fun q=>aH (bs (E4 q))).length).zip (qs.map fun q=>aH (bs (E4 q))))(hp:Sz m p)(hq:∀ q∈qs,Sz m q)(hm:m<=10000000)(hl:qs.length<=1000)
 (hK:∀ h',h.le h'->K2 (ivS (mnL p qs) (mxL p qs)) h'):wpH prog (aQ Ip n ps) (fun v hp=>∃ (A:Option aV) (n c:Nat),v= .slice A n c/\aE prog V7 #[.string (bs (E4 p)),.slice A n c] hp (fun r4 hp5=>∃ (t260:ByteArray) (t261:ByteArray),r4= .agg #[.string t260,.string t261]/\K2 (.agg #[.string t260,.string t261]) hp5)) h:=by
 have e:(qs.map E4).map (fun l=>aH (bs l))=qs.map fun q=>aH (bs (E4 q)):=by simp
 refine A3l Xg (ls:=qs.map E4) (by simpa using hn) (by omega) (by rw [e];exact hps) ?_
 intro b h' a sl
 rw [e] at sl
 exact ⟨_,_,_,rfl,Ri (gl.mono a) hn sl hp hq hm hl ⟨_,_,rfl,hK h' a⟩⟩
def T8(gl:Gl h)(ta:Tx m lo)(tb:Tx m hi)(hm:m<=1000000000)(hK1:∀ p q,lo=E4 p->hi=E4 q->p<=q->K (.bool true) h)(hK0:¬ A4j lo hi->K (.bool false) h):aE prog X6 #[ivT lo hi] h K:=by
 refine A7t _ _ ?_
 unfold B21
 refine Cr gl ta.len (fun a=>⟨_,rfl,?_⟩) (fun a=>⟨_,rfl,hK0 fun ⟨p,q,e,_⟩=>a ⟨p,e⟩⟩)
 obtain ⟨p,rfl⟩:=a
 refine Cr gl tb.len (fun a=>⟨_,rfl,?_⟩) (fun a=>⟨_,rfl,hK0 fun ⟨p,q,_,e,_⟩=>a ⟨q,e⟩⟩)
 obtain ⟨q,rfl⟩:=a
 refine R5 gl ta tb (by omega) ⟨_,rfl,?_⟩
 rw [C7,C7]
 by_cases b:p<=q
 ·rw [decide_eq_true (Nq.2 b)];exact hK1 p q rfl rfl b
 ·rw [decide_eq_false (fun e=>b (Nq.1 e))]
  refine hK0 ?_
  rintro ⟨i,j,d,c,g⟩
  rw [Z7 d,Z7 c] at b;exact b g
def Uc(gl:Gl h)(ta:Tx m lo)(tb:Tx m hi)(tx:Tx m x)(hm:m<=1000000000)(hK1:∀ p q r,lo=E4 p->hi=E4 q->x=E4 r->p<=r->r<=q->K (.bool true) h)(hK0:¬ (∃ p q r,lo=E4 p/\hi=E4 q/\x=E4 r/\p<=r/\r<=q)->K (.bool false) h):aE prog Gm #[ivT lo hi,.string (bs x)] h K:=by
 refine Zs _ _ _ ?_
 unfold Wt
 refine T8 gl ta tb hm (fun p q b a k=>⟨_,rfl,?_⟩) (fun c=>⟨_,rfl,hK0 fun ⟨p,q,r,b,a,_,i,g⟩=>c ⟨p,q,b,a,Rat.le_trans i g⟩⟩)
 refine Cr gl tx.len (fun c=>⟨_,rfl,?_⟩) (fun c=>⟨_,rfl,hK0 fun ⟨p,q,r,_,_,e,_⟩=>c ⟨r,e⟩⟩)
 obtain ⟨r,l⟩:=c
 subst b a l
 refine R5 gl ta tx (by omega) ⟨_,rfl,?_⟩
 rw [C7,C7]
 refine B4 (fun e=>?_) (fun e=>hK0 ?_)
 ·refine R5 gl tx tb (by omega) ⟨_,rfl,?_⟩
  rw [C7,C7]
  by_cases d:r<=q
  ·rw [decide_eq_true (Nq.2 d)];exact hK1 p q r rfl rfl rfl (Nq.1 e) d
  ·rw [decide_eq_false (fun e=>d (Nq.1 e))]
   refine hK0 ?_
   rintro ⟨o,s,n,b,a,j,i,g⟩
   rw [Z7 a,Z7 j] at d;exact d g
 ·rintro ⟨o,s,n,b,a,j,i,g⟩
  rw [Z7 b,Z7 j] at e;exact e (Nq.2 i)
def B3g:E4 (1/2)=[49,47,50]:=by
 have b:(1/2:Rat).num=1:=by decide +kernel
 have a:(1/2:Rat).den=2:=by decide +kernel
 simp [E4,Dp,b,a,J3,N5,F7,dch]
def A2u:E4 2=[50]:=by
 have b:(2:Rat).num=2:=rfl
 have a:(2:Rat).den=1:=rfl
 simp [E4,Dp,b,a,J3,N5,F7,dch]
def B51:Sz 2 2:=⟨by unfold ZB;decide +kernel,by unfold ZB;decide +kernel⟩
def A6n(gl:Gl h)(hp:Sz m p)(hq:Sz m q)(hr:Sz m r)(hs:Sz m s)(hm:m<=1000000)(hK:K (ivS (p+r) (q+s)) h):aE prog Yq #[ivS p q,ivS r s] h K:=by
 refine B29 _ _ _ _ ?_
 unfold B6c
 refine A0f gl (Tx.of hp (by omega)) (Tx.of hr (by omega)) (by omega) ⟨_,rfl,B3 _,?_⟩
 refine A0f gl (Tx.of hq (by omega)) (Tx.of hs (by omega)) (by omega) ⟨_,rfl,B3 _,?_⟩
 rw [C7,C7,C7,C7];exact hK
def Vn(gl:Gl h)(hp:Sz m p)(hq:Sz m q)(hr:Sz m r)(hs:Sz m s)(hm:m<=1000000)(hK:K (ivS (Nb p q r s) (Nc p q r s)) h):aE prog Qg #[ivS p q,ivS r s] h K:=by
 refine FCall.pure (B26 _ _ _ _ ?_)
 unfold B6b
 refine Ay gl (Tx.of hp (by omega)) (Tx.of hr (by omega)) (by omega) ⟨_,rfl,B3 _,?_⟩
 refine Ay gl (Tx.of hp (by omega)) (Tx.of hs (by omega)) (by omega) ⟨_,rfl,B3 _,?_⟩
 refine Ay gl (Tx.of hq (by omega)) (Tx.of hr (by omega)) (by omega) ⟨_,rfl,B3 _,?_⟩
 refine Ay gl (Tx.of hq (by omega)) (Tx.of hs (by omega)) (by omega) ⟨_,rfl,B3 _,?_⟩
 rw [C7,C7,C7,C7]
 have e:=(hp.mul hr)
 have a:∀ t∈[p*s,q*r,q*s],Sz (m+m) t:=by
  intro t d
  simp only [bA,aW,or_false] at d
  rcases d with rfl|rfl|rfl
  ·exact hp.mul hs
  ·exact hq.mul hr
  ·exact hq.mul hs
 refine A3l Xg (ls:=[E4 (p*s),E4 (q*r),E4 (q*s)]) rfl (by simp) rfl ?_
 intro b g c sl
 refine ⟨_,_,_,rfl,c,?_⟩
 refine Ri (qs:=[p*s,q*r,q*s]) (gl.mono c) rfl sl e a (by omega) (by simp) ⟨_,_,rfl,B3 _,c,hK⟩
def A33{q:Rat}:q.num.sign<0↔q<0:=by rw [Int.sign_neg_iff,Rat.lt_iff];simp
def A34{q:Rat}:0<q.num.sign↔0<q:=by rw [Int.sign_pos_iff,Rat.lt_iff];simp
def Vm{k:Nat}(gl:Gl h)(hp:Sz m p)(hq:Sz m q)(hm1:1<=m)(hk:k<=1000)(hm:m*k+1<=1000000)(hmm:m<=1000000)(hK:K (ivS (Aa p q k) (Ab p q k)) h):aE prog Qf #[ivS p q,I (k:Int)] h K:=by
 refine FCall.pure (B24 _ _ _ ?_)
 unfold B6a
 have x:({ data:=#[48] }:ByteArray)=bs (E4 0):=by rw [B2q];rfl
 refine Qo gl (Tx.of hp (by omega)) hm1 (by simpa using (show m*k+1<=40000000 by omega)) (by omega) ?_ (fun _ e=>by omega) (fun e=>by omega)
 intro _ _ _
 refine ⟨_,_,rfl,?_⟩
 refine Qo gl (Tx.of hq (by omega)) hm1 (by simpa using (show m*k+1<=40000000 by omega)) (by omega) ?_ (fun _ e=>by omega) (fun e=>by omega)
 intro _ _ _
 refine ⟨_,_,rfl,?_⟩
 rw [C7,C7,aU]
 have s:=hp.pow hm1 k
 have w:=hq.pow hm1 k
 have a:¬ (0<k/\k%2=0/\p<0/\0<q)->wpH prog (aQ Ip 1 #[(0,.string (bs (E4 (q^k))))]) (fun v hp=>∃ (A:Option aV) (n c:Nat),v= .slice A n c/\aE prog V7 #[.string (bs (E4 (p^k))),.slice A n c] hp (fun y j=>∃ (t260:ByteArray) (t261:ByteArray),y= .agg #[.string t260,.string t261]/\h.le j/\K (.agg #[.string t260,.string t261]) h)) h:=by
  intro u
  refine A8p (K2:=fun r g=>h.le g/\K r h) (qs:=[q^k]) gl rfl rfl s (fun t b=>by simp at b;subst b;exact w) (by omega) (by simp) (fun g l=>⟨l,?_⟩)
  unfold Aa Ab at hK
  rw [iN u,iN u] at hK
  exact hK
 have b:Int.tmod (k:Int) 2=((k%2:Nat):Int):=by rw [aO (by omega)];omega
 rw [b]
 refine B4 (fun z=>?_) (fun z=>a (by omega))
 refine D9 (fun e=>?_) (fun e=>a (by omega))
 refine Uv gl (by have:=Xc hp;omega) ⟨_,rfl,?_⟩
 rw [C7]
 refine B4 (fun i=>?_) (fun i=>a (fun d=>i (A33.2 d.2.2.1)))
 refine Uv gl (by have:=Xc hq;omega) ⟨_,rfl,?_⟩
 rw [C7]
 refine B4 (fun o=>?_) (fun o=>a (fun d=>o (A34.2 d.2.2.2)))
 have d:0<k/\k%2=0/\p<0/\0<q:=⟨by omega,by omega,A33.1 i,A34.1 o⟩
 rw [x]
 refine A8p (m:=m*k+1) (K2:=fun r g=>h.le g/\K r h) (qs:=[p^k,q^k]) gl rfl rfl (Sz.zero (by omega)) (fun t b=>by simp at b;rcases b with rfl|rfl;exact s;exact w) (by omega) (by simp) (fun g l=>⟨l,?_⟩)
 unfold Aa Ab at hK
 rw [iP d,iP d] at hK
 exact hK
abbrev ivE:aT:=.agg #[.string (bs []),.string (bs [])]
variable {lo2 hi2:List UInt8}
def A9m(gl:Gl h)(ta:Tx m lo)(tb:Tx m hi)(tc:Tx m lo2)(td:Tx m hi2)(hm:m<=1000000)(hK1:∀ p q r s,lo=E4 p->hi=E4 q->p<=q->lo2=E4 r->hi2=E4 s->r<=s->K (.tuple #[ivS (Nb p q r s) (Nc p q r s),I 0]) h)(hK0:¬ (A4j lo hi/\A4j lo2 hi2)->K (.tuple #[ivE,I 1]) h):aE prog Yp #[ivT lo hi,ivT lo2 hi2] h K:=by
 refine B4x _ _ _ _ ?_
 unfold C0o
 refine T8 gl ta tb (by omega) (fun p q i d b=>⟨_,rfl,?_⟩) (fun c=>⟨_,rfl,hK0 fun x=>c x.1⟩)
 refine T8 gl tc td (by omega) (fun r s j e a=>⟨_,rfl,?_⟩) (fun c=>⟨_,rfl,hK0 fun x=>c x.2⟩)
 have o:=hK1 p q r s i d b j e a
 subst i d j e
 have n:=ta.sz;have g:=tb.sz;have l:=tc.sz;have k:=td.sz
 rw [C7] at n g l k
 exact Vn gl n g l k hm ⟨_,_,rfl,o⟩
def A9l{k:Int}(gl:Gl h)(ta:Tx m lo)(tb:Tx m hi)(hm1:1<=m)(hm:m<=10000)(hK1:∀ p q (n:Nat),lo=E4 p->hi=E4 q->p<=q->k=n->n<=24->K (.tuple #[ivS (Aa p q n) (Ab p q n),I 0]) h)(hKr:A4j lo hi->(k<0\/24<k)->K (.tuple #[ivE,I 3]) h)(hK0:¬ A4j lo hi->K (.tuple #[ivE,I 1]) h):aE prog Yo #[ivT lo hi,I k] h K:=by
 refine B4w _ _ _ ?_
 unfold C0n
 refine T8 gl ta tb (by omega) (fun p q c b a=>⟨_,rfl,?_⟩) (fun j=>⟨_,rfl,hK0 j⟩)
 refine B4 (fun e=>hKr ⟨p,q,c,b,a⟩ (.inl e)) (fun o=>B4 (fun e=>hKr ⟨p,q,c,b,a⟩ (.inr e)) (fun l=>?_))
 obtain ⟨n,rfl⟩:∃ n:Nat,k=n:=⟨k.toNat,by omega⟩
 have i:=hK1 p q n c b a rfl (by omega)
 subst c b
 have g:=ta.sz;have d:=tb.sz
 rw [C7] at g d
 have:m*n<=m*24:=aN m (by omega)
 exact Vm gl g d hm1 (by omega) (by omega) (by omega) ⟨_,_,rfl,i⟩
def It(x:Rat)(a b:Nat):x^(a+b)=x^a*x^b:=by
 induction b with
 | zero=>simp [bC]
 | succ b ih=>rw [Nat.add_succ,bD,ih,bD,Rat.mul_assoc]
def Ml(k:Nat):Sz (2*k+1) ((2:Rat)^k):=B51.pow (by omega) k
def A2v(k:Nat):(0:Rat)<2^k:=by
 induction k with
 | zero=>rw [bC];decide
 | succ k ih=>rw [bD];exact Rat.mul_pos ih (by decide)
def A19:∀ (k:Nat) {K:VP},Gl h->k<=8192->K (.string (bs (E4 (2^k)))) h->aE prog Dc #[I (k:Int)] h K:=by
 intro k
 induction k using Nat.strongRecOn with
 | _ k ih=>
  intro K c l d
  refine A4i _ ?_
  unfold A60
  have b:rv [50]=2:=by rw [<- A2u,C7]
  refine B4 (fun j=>?_) (fun j=>?_)
  ·refine Qo (m:=2) (a:=[50]) c ⟨by simp,by rw [b];exact B51⟩ (by omega) (by omega) (by omega) ?_ ?_ ?_
   ·intro _ _ _
    rw [b,aU]
    exact ⟨_,_,rfl,d⟩
   ·intro _ i;omega
   ·intro i;omega
  ·have g:B5 (Int.tdiv (k:Int) 2)=((k/2:Nat):Int):=by
    rw [aY (by omega),B6 (by omega) (by omega)];omega
   have e:B5 ((k:Int)-((k/2:Nat):Int))=((k-k/2:Nat):Int):=by rw [B6 (by omega) (by omega)];omega
   rw [g,e]
   refine ih (k/2) (by omega) c (by omega) ⟨_,rfl,ih (k-k/2) (by omega) c (by omega) ⟨_,rfl,?_⟩⟩
   refine Ay (m:=2*k+1) c (Tx.of ((Ml _).mono (by omega)) (by omega)) (Tx.of ((Ml _).mono (by omega)) (by omega)) (by omega) ⟨_,rfl,?_⟩
   rw [C7,C7,<- It,show k/2+(k-k/2)=k by omega]
   exact d
def B50(z:Int):Dp z=E4 (z:Rat):=by simp [E4]
def A3o{bits:Int}(gl:Gl h)(ta:Tx m lo)(tb:Tx m hi)(hm1:1<=m)(hm:m<=10000)
 (hK1:∀ p q (k:Nat),lo=E4 p->hi=E4 q->p<=q->bits=k->k<=4096->K (.tuple #[ivS ((((p*2^k).floor:Int):Rat)/2^k) ((((q*2^k).ceil:Int):Rat)/2^k),I 0]) h)
 (hKr:A4j lo hi->(bits<0\/4096<bits)->K (.tuple #[ivE,I 3]) h) (hK0:¬ A4j lo hi->K (.tuple #[ivE,I 1]) h):aE prog By #[ivT lo hi,I bits] h K:=by
 refine Zp _ _ _ ?_
 unfold Wq
 refine T8 gl ta tb (by omega) (fun p q g d a=>⟨_,rfl,?_⟩) (fun r=>⟨_,rfl,hK0 r⟩)
 refine B4 (fun e=>hKr ⟨p,q,g,d,a⟩ (.inl e)) (fun x=>B4 (fun e=>hKr ⟨p,q,g,d,a⟩ (.inr e)) (fun w=>?_))
 obtain ⟨k,rfl⟩:∃ k:Nat,bits=k:=⟨bits.toNat,by omega⟩
 have o:=hK1 p q k g d a rfl (by omega)
 subst g d
 have j:=ta.sz;have i:=tb.sz
 rw [C7] at j i
 have b:=(Ml k).mono (show 2*k+1<=10000 by omega)
 have c:(2:Rat)^k≠0:=fun e=>by have:=A2v k;rw [e] at this;exact absurd this (by decide)
 refine A19 k gl (by omega) ⟨_,rfl,?_⟩
 refine Ay (m:=10000) gl (Tx.of (j.mono (by omega)) (by omega)) (Tx.of b (by omega)) (by omega) ⟨_,rfl,?_⟩
 rw [C7,C7]
 have l:=(j.mul b).mono (show m+10000<=20000 by omega)
 have n:=(i.mul b).mono (show m+10000<=20000 by omega)
 refine A2y (m:=20000) gl (Tx.of l (by omega)) (by omega) ⟨_,rfl,?_⟩
 rw [C7,B50]
 have u:=Sz.int (Qb l) (by omega)
 have s:Sz 20000 (((q*2^k).ceil:Int):Rat):=by
  refine Sz.int ?_ (by omega)
  rw [Rat.ceil_eq_neg_floor_neg]
  exact (Qb n.neg).neg
 refine A0e (m:=20000) gl (Tx.of u (by omega)) (Tx.of (b.mono (by omega)) (by omega)) (by omega) (by omega) ?_ (fun e=>absurd e (by rw [C7];exact c))
 intro _
 rw [C7,C7]
 refine ⟨_,_,rfl,?_⟩
 refine Ay (m:=10000) gl (Tx.of (i.mono (by omega)) (by omega)) (Tx.of b (by omega)) (by omega) ⟨_,rfl,?_⟩
 rw [C7,C7]
 refine A68 (m:=20000) gl (Tx.of n (by omega)) (by omega) ⟨_,rfl,?_⟩
 rw [C7,B50]
 refine A0e (m:=20000) gl (Tx.of s (by omega)) (Tx.of (b.mono (by omega)) (by omega)) (by omega) (by omega) ?_ (fun e=>absurd e (by rw [C7];exact c))
 intro _
 rw [C7,C7]
 exact ⟨_,_,rfl,o⟩
end
end Go.Proofs.YtmbfcbbkbefgfaaGreatDoor
namespace Go.Proofs.YtmbfcbbkbefgfaaGreatDoor
set_option maxRecDepth 20000
open Go Go.RowKit
def memOf(W:World):Heap:=fun b=>W.heap[b]?
def frame_of{P:Program}{f:FuncId}{args:Array aT}{W:World}(x:aE P f args (memOf W) (B4u (memOf W))):Calls P f args W fun e w'=>e= .returned (.bool true)/\Below W.heap.size W w':=by
 refine (x W (fun b o e=>e)).mono ?_
 rintro e W' ⟨r,l,i,⟨j,c⟩,a⟩
 subst j
 refine ⟨i,a.os,a.tape,a.output,a.size,fun k g=>?_⟩
 have d:memOf W k=some W.heap[k]:=Array.getElem?_eq_getElem g
 have:=a.sim k _ (c k _ d)
 rw [this];exact d.symm
def T6{W:World}{a:aV}{v:aT}(e:W.cell? a=some v):(memOf W).cell? a=some v:=by
 unfold World.cell? at e
 unfold Heap.cell? memOf
 exact e
def A56{P:Program}{W:World}{x:String × DataW Unit}{rest:List (String × DataW Unit)}(h:laidMet P (x::rest) W):laidMet P rest W:=by
 obtain ⟨n,d⟩:=x
 obtain ⟨m,⟨g,t,l,c,p,q,u,r,o,s,e,rfl⟩,j,i⟩:=h
 exact ⟨q,e,(List.nodup_append.1 j).2.1,fun b a k=>i b a (List.mem_append_right _ k)⟩
def C1i:List Int:=[0,1,28,2,29,14,24,3,30,22,20,15,25,17,4,8,31,27,13,23,21,19,16,7,26,12,18,6,11,5,10,9]
def B2y:List Int:=[0,1,56,2,57,49,28,3,61,58,42,50,38,29,17,4,62,47,59,36,45,43,51,22,53,39,33,30,24,18,12,5,63,55,48,27,60,41,37,16,46,35,44,21,52,32,23,11,54,26,40,15,34,20,31,10,25,14,19,9,13,8,7,6]
def B6o:List Int:=[1,10,100,1000,10000,100000,1000000,10000000,100000000,1000000000,10000000000,100000000000,1000000000000,10000000000000,100000000000000,1000000000000000,10000000000000000,100000000000000000,1000000000000000000,10000000000000000000]
def B5c:prog.globalNamed "math/bits.deBruijn64tab" = some 0:=by kernel_rfl
def B5d:prog.globalNamed "internal/strconv.uint64pow10" = some 3:=by kernel_rfl
def tabs_gl{W:World}(h:laidMet prog [("math/bits.deBruijn32tab",Rows.laid_math_bits_deBruijn32tab),("math/bits.deBruijn64tab",Rows.laid_math_bits_deBruijn64tab),("internal/strconv.uint64pow10",Rows.laid_internal_strconv_uint64pow10)] W):Gl (memOf W):=by
 have j:=A56 h
 have l:=A56 j
 have e:Lib.TabIs prog W "math/bits.deBruijn64tab" .u8 B2y:=Lib.tabIs_of_head (rest:=[("internal/strconv.uint64pow10",Rows.laid_internal_strconv_uint64pow10)]) B5c (by kernel_rfl) underlying354 underlying5 (by kernel_rfl) (by kernel_rfl) j
 have i:Lib.TabIs prog W "internal/strconv.uint64pow10" .u64 B6o:=Lib.tabIs_of_head (rest:=[]) B5d (by kernel_rfl) underlying358 underlying270 (by kernel_rfl) (by kernel_rfl) l
 have g:∀ k,k<64->A05 k<B2y.length/\B2y.getD (A05 k) 0=(k:Int):=by decide +kernel
 have d:∀ k,k<20->B6o.getD k 0=((10^k:Nat):Int):=by decide +kernel
 refine ⟨fun k c=>?_,fun k c=>?_⟩
 ·obtain ⟨a,b⟩:=g k c
  have:=T6 (e.cell B5c (A05 k) a)
  rw [I0,aP,Nat.zero_add,this,b]
 ·have:=T6 (i.cell B5d k (by show k<20;exact c))
  rw [I0,aP,Nat.zero_add,this,d k c]
def A9i(zs:List Int)(k:IntKind):Obj->Obj
 | .cells _ t frozen=>.cells (zs.map (Value.int k)).toArray t frozen
 | o=>o
def layTabs(a:Array Obj):Array Obj:=((a.modify 4 (A9i C1i .u8)).modify 0 (A9i B2y .u8)).modify 3 (A9i B6o .u64)
abbrev iv8(a b:QV):aT:=.agg #[.bool a.s,.slice a.A a.n a.c,.bool a.s2,.slice a.A2 a.n2 a.c2,.bool b.s,.slice b.A b.n b.c,.bool b.s2,.slice b.A2 b.n2 b.c2]
def Q4(w:QV):List aT:=[.bool w.s,.slice w.A w.n w.c,.bool w.s2,.slice w.A2 w.n2 w.c2]
structure QsAt (h:Heap) (A:Option aV) (ws:List QV) (ps:List Rat):Prop where
 len:ws.length=ps.length
 num:∀ (i:Nat) (h1:i<ws.length) (h2:i<ps.length),NQ h ws[i] ps[i]
 sl:SlV h A (ws.flatMap Q4)
def A8v(ws:List QV):(ws.flatMap Q4).length=ws.length*4:=by
 induction ws with
 | nil=>rfl
 | cons w ws ih=>rw [aG,List.length_append,ih,List.length_cons];simp [Q4];omega
def B37(ws:List QV):∀ {i:Nat} (hi:i<ws.length) {j:Nat} (hj:j<4),(ws.flatMap Q4)[i*4+j]? = (Q4 ws[i])[j]? :=by
 induction ws with
 | nil=>intro i hi;simp at hi
 | cons w ws ih=>
  intro i hi j hj
  rw [aG]
  cases i with
  | zero=>rw [aZ (by simp [Q4];omega)];simp
  | succ i=>
   rw [aX (by simp [Q4];omega)]
   have:=ih (i:=i) (by simpa using hi) hj
   simp only [aR]
   rw [<- this]
   congr 1
   simp [Q4];omega
def QsAt.at{h:Heap}{A:Option aV}{ws:List QV}{ps:List Rat}(q:QsAt h A ws ps){i:Nat}(hi:i<ps.length):∃ a w,A=some a/\NQ h w ps[i]/\Heap.cell? h (aF (aF a (i*4)) 0)=some (.bool w.s)/\Heap.cell? h (aF (aF a (i*4)) 1)=some (.slice w.A w.n w.c)/\Heap.cell? h (aF (aF a (i*4)) 2)=some (.bool w.s2)/\Heap.cell? h (aF (aF a (i*4)) 3)=some (.slice w.A2 w.n2 w.c2):=by
 have d:i<ws.length:=by rw [q.len];exact hi
 have m:=A8v ws
 obtain ⟨a,e,_⟩:=q.sl.at (i:=0) (by omega)
 refine ⟨a,ws[i],e,q.num i d hi,?_⟩
 have cell:∀ j,j<4->∀ v,(Q4 ws[i])[j]? = some v->Heap.cell? h (aF (aF a (i*4)) j)=some v:=by
  intro j k v g
  obtain ⟨o,b,l⟩:=q.sl.at (i:=i*4+j) (by omega)
  rw [e] at b
  cases b
  rw [Er,l]
  have:=B37 ws d k
  rw [bB (by omega),g] at this
  exact this
 exact ⟨cell 0 (by omega) _ rfl,cell 1 (by omega) _ rfl,cell 2 (by omega) _ rfl,cell 3 (by omega) _ rfl⟩
def A8l{p q:Rat}:(p-q).num.sign<0↔p<q:=by rw [A33];constructor<;>intro h<;>grind
def Qr{p q:Rat}:0<(p-q).num.sign↔q<p:=by rw [A34];constructor<;>intro h<;>grind
def Mq{p q:Rat}:(p-q).num.sign<=0↔p<=q:=by rw [<- Rat.not_lt,<- Qr];omega
section
variable {h:Heap} {K:VP} {m:Nat} {lo hi x:List UInt8} {p q r s:Rat} {a b c d w:QV}
def Is{qs:List Rat}{A:Option aV}{n cc:Nat}{ws:List QV}(sl:QsAt h A ws (p::qs))(hn:n=qs.length+1)(hp:Sz m p)(hq:∀ q∈qs,Sz m q)(hm:m<=10000000)(hl:qs.length<=1000)
 (hK:∀ w1 w2,NQ h w1 (mnL p qs)->NQ h w2 (mxL p qs)->K (iv8 w1 w2) h):aE prog Bu #[.slice A n cc] h K:=by
 subst hn
 refine B15 _ _ _ ?_
 unfold B5u
 obtain ⟨a,d,V,M,c0,c1,c2,O⟩:=sl.at (i:=0) (by simp)
 simp only [List.getElem_cons_zero] at M
 refine ⟨a,V,by omega,by omega,d.s,d.A,d.n,d.c,d.s2,d.A2,d.n2,d.c2,c0,c1,c2,O,a,V,by omega,by omega,d.s,d.A,d.n,d.c,d.s2,d.A2,d.n2,d.c2,c0,c1,c2,O,?_⟩
 refine ⟨fun L hp=>hp=h/\∃ (i:Nat) (w1 w2:QV),i<=qs.length/\NQ h w1 (mnL p (qs.take i))/\NQ h w2 (mxL p (qs.take i))/\L=I (((i+1:Nat):Int))::(Q4 w1++Q4 w2),fun L _=>qs.length+1-(iAt L 0).toNat,⟨rfl,0,d,d,aS _,M,M,rfl⟩,?_⟩
 rintro t o0 X ac ae o2 ab W ah o4 Z af aa o6 ag ad ai b ⟨rfl,i,w1,w2,hi,G,z,Q⟩
 simp only [Q4,List.cons_append,List.nil_append,aJ,aI,Value.bool.injEq,Value.slice.injEq,true_and,and_true] at Q
 obtain ⟨rfl,rfl,⟨rfl,rfl,rfl⟩,rfl,⟨rfl,rfl,rfl⟩,rfl,⟨rfl,rfl,rfl⟩,rfl,rfl,rfl,rfl⟩:=Q
 have z1:Sz m (mnL p (qs.take i)):=hp.mnL fun q h=>hq q (aM h)
 have S:Sz m (mxL p (qs.take i)):=hp.mxL fun q h=>hq q (aM h)
 refine B4 (fun e=>?_) (fun e=>?_)
 ·have k:i<qs.length:=by omega
  obtain ⟨x,v,g,nv,B,C,y,w⟩:=sl.at (i:=i+1) (by simpa using k)
  simp only [aR] at nv
  have u:=hq qs[i] (aL k)
  have R:mnL p (qs.take (i+1))=mn (mnL p (qs.take i)) qs[i]:=by rw [aC k,A54]
  have J:mxL p (qs.take (i+1))=mx (mxL p (qs.take i)) qs[i]:=by rw [aC k,A52]
  rw [B6 (n:=((i+1:Nat):Int)+1) (by omega) (by omega)]
  have ei:(((i+1:Nat):Int)).toNat=i+1:=aD _
  rw [ei]
  have l:∀ (w1 w2:QV),NQ b w1 (mnL p (qs.take (i+1)))->NQ b w2 (mxL p (qs.take (i+1)))->b=b/\∃ (j:Nat) (w1' w2':QV),j<=qs.length/\NQ b w1' (mnL p (qs.take j))/\NQ b w2' (mxL p (qs.take j))/\I (((i+1:Nat):Int)+1)::(Q4 w1++Q4 w2)=I (((j+1:Nat):Int))::(Q4 w1'++Q4 w2'):=
   fun w1 w2 F o=>⟨rfl,i+1,w1,w2,k,F,o,by simp⟩
  have H:∀ (T N:List aT),qs.length+1-(iAt (I (((i+1:Nat):Int)+1)::T) 0).toNat<qs.length+1-(iAt (I (((i+1:Nat):Int))::N) 0).toNat:=by
   intro T N;simp [iAt];omega
  refine ⟨x,g,by omega,e,v.s,v.A,v.n,v.c,v.s2,v.A2,v.n2,v.c2,B,C,y,w,?_⟩
  refine Cw nv G u z1 (by omega) ⟨_,rfl,B3 _,B4 (fun F=>?_) (fun F=>?_)⟩
  ·have D:NQ b v (mnL p (qs.take (i+1))):=by rw [R,mn,iP (A8l.1 F)];exact nv
   refine ⟨x,g,by omega,e,v.s,v.A,v.n,v.c,v.s2,v.A2,v.n2,v.c2,B,C,y,w,x,g,by omega,e,v.s,v.A,v.n,v.c,v.s2,v.A2,v.n2,v.c2,B,C,y,w,?_⟩
   refine Cw nv z u S (by omega) ⟨_,rfl,B3 _,B4 (fun o=>?_) (fun o=>?_)⟩
   ·have r:NQ b v (mxL p (qs.take (i+1))):=by rw [J,mx,iP (Qr.1 o)];exact nv
    exact ⟨x,g,by omega,e,v.s,v.A,v.n,v.c,v.s2,v.A2,v.n2,v.c2,B,C,y,w,l v v D r,H _ _⟩
   ·have r:NQ b w2 (mxL p (qs.take (i+1))):=by rw [J,mx,iN (fun E=>o (Qr.2 E))];exact z
    exact ⟨l v w2 D r,H _ _⟩
  ·have D:NQ b w1 (mnL p (qs.take (i+1))):=by rw [R,mn,iN (fun E=>F (A8l.2 E))];exact G
   refine ⟨x,g,by omega,e,v.s,v.A,v.n,v.c,v.s2,v.A2,v.n2,v.c2,B,C,y,w,?_⟩
   refine Cw nv z u S (by omega) ⟨_,rfl,B3 _,B4 (fun o=>?_) (fun o=>?_)⟩
   ·have r:NQ b v (mxL p (qs.take (i+1))):=by rw [J,mx,iP (Qr.1 o)];exact nv
    exact ⟨x,g,by omega,e,v.s,v.A,v.n,v.c,v.s2,v.A2,v.n2,v.c2,B,C,y,w,l w1 v D r,H _ _⟩
   ·have r:NQ b w2 (mxL p (qs.take (i+1))):=by rw [J,mx,iN (fun E=>o (Qr.2 E))];exact z
    exact ⟨l w1 w2 D r,H _ _⟩
 ·obtain rfl:i=qs.length:=by omega
  rw [aK] at G z
  exact hK w1 w2 G z
def A3m{ws:List QV}{ps:List Rat}{n:Nat}{parts:Array (Nat × aT)}(hw:ws.length=ps.length)(hq:∀ (i:Nat) (h1:i<ws.length) (h2:i<ps.length),NQ h ws[i] ps[i])(hn:n=ws.length)(hlen:n<=1000)(hp:parts.toList=(List.range' 0 (ws.map QV.v).length).zip (ws.map QV.v)){K:VP}
 (x:∀ b h',h.le h'->QsAt h' (some ⟨b,0,none⟩) ws ps->K (.slice (some ⟨b,0,none⟩) n n) h'):wpH prog (aQ Xb n parts) K h:=by
 refine Kj C1j (vs:=ws.map QV.v) (fun v a=>?_) (by simpa using hn) (by omega) hp (fun b c=>x b _ (Heap.le_put _ c) ⟨hw,fun i h1 h2=>(hq i h1 h2).mono (Heap.le_put _ c),?_⟩)
 ·obtain ⟨w,_,rfl⟩:=List.mem_map.1 a;rfl
 ·have e:∀ ws:List QV,(ws.map QV.v).flatMap (fun v=>v.cells.toList)=ws.flatMap Q4:=by
   intro ws
   induction ws with
   | nil=>rfl
   | cons w ws ih=>rw [List.map_cons,aG,ih,aG];rfl
  rw [e]
  exact SlV.new _ b _ _ _ _ (fun i v a=>by simpa using a)
def A37(hl1:lo.length<=100000000)(hl2:hi.length<=100000000)(sl:Sz m (rv lo))(sh:Sz m (rv hi))(hm:m<=400000000)(hK1:∀ p q,lo=E4 p->hi=E4 q->p<=q->∀ w1 w2 h',h.le h'->NQ h' w1 p->NQ h' w2 q->K (.tuple #[iv8 w1 w2,.bool true]) h')
 (hK0:¬ A4j lo hi->∀ w1 w2 h',h.le h'->K (.tuple #[iv8 w1 w2,.bool false]) h'):aE prog Yf #[ivT lo hi] h K:=by
 refine B16 _ _ ?_
 unfold B5v
 refine Cu hl1 ?_ ?_
 ·rintro p rfl w1 u c r
  refine ⟨_,_,_,_,_,_,_,_,_,rfl,Cu hl2 ?_ ?_⟩
  ·rintro q rfl w2 b a o
   rw [C7] at sl sh
   refine ⟨_,_,_,_,_,_,_,_,_,rfl,Cw (r.mono a) o sl sh hm ⟨_,rfl,B3 _,?_⟩⟩
   by_cases j:p<=q
   ·rw [decide_eq_true (Mq.2 j)];exact hK1 p q rfl rfl j w1 w2 b (A0 c a) (r.mono a) o
   ·rw [decide_eq_false (fun e=>j (Mq.1 e))]
    refine hK0 ?_ w1 w2 b (A0 c a)
    rintro ⟨i,n,d,g,k⟩
    rw [Z7 d,Z7 g] at j;exact j k
  ·intro l w2 b a
   exact ⟨_,_,_,_,_,_,_,_,_,rfl,hK0 (fun ⟨i,n,d,g,k⟩=>l ⟨n,g⟩) w1 w2 b (A0 c a)⟩
 ·intro l w1 u c
  refine ⟨_,_,_,_,_,_,_,_,_,rfl,Cu hl2 ?_ ?_⟩
  ·rintro q rfl w2 b a o
   exact ⟨_,_,_,_,_,_,_,_,_,rfl,hK0 (fun ⟨i,n,d,g,k⟩=>l ⟨i,d⟩) w1 w2 b (A0 c a)⟩
  ·intro s w2 b a
   exact ⟨_,_,_,_,_,_,_,_,_,rfl,hK0 (fun ⟨i,n,d,g,k⟩=>l ⟨i,d⟩) w1 w2 b (A0 c a)⟩
def A0n(ia:NQ h a p)(ib:NQ h b q)(hp:Sz m p)(hq:Sz m q)(hm:m<=1000000000)(hK:K (ivS p q) h):aE prog Rs #[iv8 a b] h K:=by
 refine A79 _ _ _ _ _ _ _ _ _ _ _ _ _ _ _ _ ?_
 unfold B12
 exact Qq ia hp hm ⟨_,rfl,B3 _,Qq ib hq hm ⟨_,rfl,B3 _,hK⟩⟩
def A38(ia:NQ h a p)(ib:NQ h b q)(ic:NQ h c r)(id:NQ h d s)(hp:Sz m p)(hq:Sz m q)(hr:Sz m r)(hs:Sz m s)(hm:m<=400000000)(hK:∀ w1 w2 h',h.le h'->NQ h' w1 (p+r)->NQ h' w2 (q+s)->K (iv8 w1 w2) h'):aE prog Yg #[iv8 a b,iv8 c d] h K:=by
 refine B19 _ _ _ _ _ _ _ _ _ _ _ _ _ _ _ _ _ _ _ _ _ _ _ _ _ _ _ _ _ _ _ _ ?_
 unfold B5w
 refine Qw ia ic hp hr hm ?_
 intro w1 l e j
 refine ⟨_,_,_,_,_,_,_,_,rfl,e,Qw (ib.mono e) (id.mono e) hq hs hm ?_⟩
 intro w2 i g k
 exact ⟨_,_,_,_,_,_,_,_,rfl,g,hK w1 w2 i (A0 e g) (j.mono g) k⟩
def A0o(ia:NQ h a p)(ib:NQ h b q)(ic:NQ h c r)(id:NQ h d s)(hp:Sz m p)(hq:Sz m q)(hr:Sz m r)(hs:Sz m s)(hm:m<=1000000)(hK:∀ w1 w2 h',h.le h'->NQ h' w1 (Nb p q r s)->NQ h' w2 (Nc p q r s)->K (iv8 w1 w2) h'):aE prog Rt #[iv8 a b,iv8 c d] h K:=by
 refine A7a _ _ _ _ _ _ _ _ _ _ _ _ _ _ _ _ _ _ _ _ _ _ _ _ _ _ _ _ _ _ _ _ ?_
 unfold B13
 refine Ba ia ic hp hr (by omega) ?_
 intro w1 O l x
 refine ⟨_,_,_,_,_,_,_,_,rfl,l,Ba (ia.mono l) (id.mono l) hp hs (by omega) ?_⟩
 intro w2 Q n G
 have g:=A0 l n
 refine ⟨_,_,_,_,_,_,_,_,rfl,n,Ba (ib.mono g) (ic.mono g) hq hr (by omega) ?_⟩
 intro B T k z
 have e:=A0 g k
 refine ⟨_,_,_,_,_,_,_,_,rfl,k,Ba (ib.mono e) (id.mono e) hq hs (by omega) ?_⟩
 intro A R j y
 refine ⟨_,_,_,_,_,_,_,_,rfl,j,?_⟩
 have H:=x.mono (A0 n (A0 k j))
 have M:=G.mono (A0 k j)
 have E:=z.mono j
 refine A3m (ws:=[w1,w2,B,A]) (ps:=[p*r,p*s,q*r,q*s]) rfl ?_ rfl (by simp) rfl ?_
 ·intro i J N
  match i with
  | 0=>exact H
  | 1=>exact M
  | 2=>exact E
  | 3=>exact y
  | i+4=>simp at J;omega
 intro S D u sl
 refine ⟨_,_,_,rfl,u,Is (m:=m+m) sl rfl (hp.mul hr) ?_ (by omega) (by simp) ?_⟩
 ·intro t o
  simp only [bA,aW,or_false] at o
  rcases o with rfl|rfl|rfl
  ·exact hp.mul hs
  ·exact hq.mul hr
  ·exact hq.mul hs
 intro C w L F
 exact ⟨_,_,_,_,_,_,_,_,_,_,_,_,_,_,_,_,rfl,B3 _,hK C w D (A0 e (A0 j u)) L F⟩
def Vc(ia:NQ h a p)(ib:NQ h b q)(ic:NQ h c r)(hp:Sz m p)(hq:Sz m q)(hr:Sz m r)(hm:m<=400000000)(hK1:p<=r->r<=q->K (.bool true) h)(hK0:¬ (p<=r/\r<=q)->K (.bool false) h):aE prog Yh #[iv8 a b,c.v] h K:=by
 refine B4f _ _ _ _ _ _ _ _ _ _ _ _ _ _ _ _ _ _ _ _ _ _ _ _ ?_
 unfold C06
 refine Cw ia ic hp hr hm ⟨_,rfl,B4 (fun e=>?_) (fun e=>hK0 fun x=>e (Mq.2 x.1))⟩
 refine Cw ic ib hr hq hm ⟨_,rfl,?_⟩
 by_cases d:r<=q
 ·rw [decide_eq_true (Mq.2 d)];exact hK1 (Mq.1 e) d
 ·rw [decide_eq_false (fun e=>d (Mq.1 e))];exact hK0 fun x=>d x.2
def Ie{n:Nat}(i:NQ h w p)(hp:Sz m p)(hm1:1<=m)(hn:n<=1000)(hm:m*n+1<=1000000)(hK:∀ w h',h.le h'->NQ h' w (p^n)->K w.v h'):aE prog Ef #[w.v,I (n:Int)] h K:=by
 refine A2a _ _ _ _ _ _ _ _ _ ?_
 unfold A2b
 refine B96 (by omega) ?_
 intro V z D i0
 refine ⟨_,_,_,_,_,_,_,_,rfl,?_⟩
 refine ⟨fun L hp=>h.le hp/\∃ (a e f:Nat) (v u:QV),(a<=n/\f+e*a=n)/\NQ hp v (p^e)/\NQ hp u (p^f)/\L=I (a:Int)::(Q4 v++Q4 u),fun L _=>(iAt L 0).toNat,⟨D,n,1,0,w,V,⟨Nat.le_refl _,by omega⟩,by rw [Rat.pow_one];exact i.mono D,by rw [bC];exact i0,rfl⟩,?_⟩
 rintro t a0 N J T a2 ab O ad o0 H S aa o2 Q G ac y ⟨r,a,e,f,v,u,⟨E,A⟩,j,s,C⟩
 simp only [Q4,List.cons_append,List.nil_append,aJ,aI,Value.bool.injEq,Value.slice.injEq,true_and,and_true] at C
 obtain ⟨rfl,rfl,⟨rfl,rfl,rfl⟩,rfl,⟨rfl,rfl,rfl⟩,rfl,⟨rfl,rfl,rfl⟩,rfl,rfl,rfl,rfl⟩:=C
 refine B4 (fun g=>?_) (fun g=>?_)
 ·have x:1<=a:=by omega
  have M:e<=n:=by
   have:e*1<=e*a:=aN e x
   omega
  have Z:f<=n:=by omega
  have R:Int.tmod (a:Int) 2=((a%2:Nat):Int):=by rw [aO (by omega)];omega
  have X:B5 (Int.tdiv (a:Int) 2)=((a/2:Nat):Int):=by rw [aY (by omega),B6 (by omega) (by omega)];omega
  have q:m*e+1<=m*n+1:=by have:=aN m M;omega
  have l:m*f+1<=m*n+1:=by have:=aN m Z;omega
  have b:=(hp.pow hm1 e).mono q
  have zf:=(hp.pow hm1 f).mono l
  have B:e*a=(e+e)*(a/2)+e*(a%2):=by
   have:=Nat.div_add_mod a 2
   calc e*a=e*(2*(a/2)+a%2):=by rw [this]
    _=(e+e)*(a/2)+e*(a%2):=by rw [Nat.mul_add,<- Nat.mul_assoc,Nat.mul_comm e 2,Nat.two_mul]
  rw [R,X]
  refine D9 (fun g1=>?_) (fun g1=>?_)
  ·refine Ba s j zf b (by omega) ?_
   intro W h2 o F
   refine ⟨_,_,_,_,_,_,_,_,rfl,Ba (j.mono o) (j.mono o) b b (by omega) ?_⟩
   intro k h3 c d
   rw [<- It] at F d
   refine ⟨_,_,_,_,_,_,_,_,rfl,⟨A0 r (A0 o c),a/2,e+e,f+e,k,W,?_,d,F.mono c,rfl⟩,?_⟩
   ·have:a%2=1:=by omega
    rw [this,aP] at B;exact ⟨by omega,by omega⟩
   ·simp [iAt];omega
  ·refine Ba j j b b (by omega) ?_
   intro k h3 c d
   rw [<- It] at d
   refine ⟨_,_,_,_,_,_,_,_,rfl,⟨A0 r c,a/2,e+e,f,k,u,?_,d,s.mono c,rfl⟩,?_⟩
   ·have:a%2=0:=by omega
    rw [this,Nat.mul_zero] at B;exact ⟨by omega,by omega⟩
   ·simp [iAt];omega
 ·have z:a=0:=by omega
  subst z
  rw [Nat.mul_zero,Nat.add_zero] at A
  subst A
  exact hK u y r s
def A0r{k:Nat}(ia:NQ h a p)(ib:NQ h b q)(hp:Sz m p)(hq:Sz m q)(hm1:1<=m)(hk:k<=1000)(hm:m*k+1<=1000000)(hmm:m<=1000000)(hK:∀ w1 w2 h',h.le h'->NQ h' w1 (Aa p q k)->NQ h' w2 (Ab p q k)->K (iv8 w1 w2) h'):aE prog Rv #[iv8 a b,I (k:Int)] h K:=by
 refine A7d _ _ _ _ _ _ _ _ _ _ _ _ _ _ _ _ _ ?_
 unfold B18
 refine Ie ia hp hm1 hk hm ?_
 intro w1 S A J
 refine ⟨_,_,_,_,_,_,_,_,rfl,A,Ie (ib.mono A) hq hm1 hk hm ?_⟩
 intro w2 O s E
 refine ⟨_,_,_,_,_,_,_,_,rfl,s,?_⟩
 have e:=A0 A s
 have F:=hp.pow hm1 k
 have D:=hq.pow hm1 k
 have G:=J.mono s
 have d:¬ (0<k/\k%2=0/\p<=0/\0<=q)->wpH prog (aQ Xb 2 #[(0,w1.v),(1,w2.v)]) (fun n r=>∃ (t34A:Option aV) (t34n:Nat) (t34c:Nat),n= .slice t34A t34n t34c/\aE prog Bu #[.slice t34A t34n t34c] r (fun N u=>∃ (t350:Bool) (t351A:Option aV) (t351n:Nat) (t351c:Nat) (t352:Bool) (t353A:Option aV) (t353n:Nat) (t353c:Nat) (t354:Bool) (t355A:Option aV) (t355n:Nat) (t355c:Nat) (t356:Bool) (t357A:Option aV) (t357n:Nat) (t357c:Nat),N= .agg #[.bool t350,.slice t351A t351n t351c,.bool t352,.slice t353A t353n t353c,.bool t354,.slice t355A t355n t355c,.bool t356,.slice t357A t357n t357c]/\K (.agg #[.bool t350,.slice t351A t351n t351c,.bool t352,.slice t353A t353n t353c,.bool t354,.slice t355A t355n t355c,.bool t356,.slice t357A t357n t357c]) u)) O:=by
  intro C
  obtain ⟨j,l⟩:=B39 C
  refine A3m (ws:=[w1,w2]) (ps:=[p^k,q^k]) rfl ?_ rfl (by simp) rfl ?_
  ·intro i j l
   match i with
   | 0=>exact G
   | 1=>exact E
   | i+2=>simp at j;omega
  intro R w y sl
  refine ⟨_,_,_,rfl,Is (m:=m*k+1) sl rfl F (fun t g=>by simp at g;subst g;exact D) (by omega) (by simp) ?_⟩
  intro n o B z
  refine ⟨_,_,_,_,_,_,_,_,_,_,_,_,_,_,_,_,rfl,hK n o w (A0 e y) ?_ ?_⟩
  ·rw [<- j];exact B
  ·rw [<- l];exact z
 have g:Int.tmod (k:Int) 2=((k%2:Nat):Int):=by rw [aO (by omega)];omega
 rw [g]
 refine B4 (fun H=>?_) (fun H=>d (by omega))
 refine D9 (fun M=>?_) (fun M=>d (by omega))
 refine Vc (c:=⟨false,none,0,0,false,none,0,0⟩) (ia.mono e) (ib.mono e) NQ.zero hp hq (Sz.zero hm1) (by omega) (fun Q L=>⟨_,rfl,?_⟩) (fun C=>⟨_,rfl,d fun x=>C ⟨x.2.2.1,x.2.2.2⟩⟩)
 obtain ⟨j,l⟩:=B70 (k:=k) (by omega) (by omega) Q L
 refine A3m (ws:=[⟨false,none,0,0,false,none,0,0⟩,w1,w2]) (ps:=[0,p^k,q^k]) rfl ?_ rfl (by simp) rfl ?_
 ·intro i j l
  match i with
  | 0=>exact NQ.zero
  | 1=>exact G
  | 2=>exact E
  | i+3=>simp at j;omega
 intro R w y sl
 refine ⟨_,_,_,rfl,Is (m:=m*k+1) sl rfl (Sz.zero (by omega)) (fun t g=>by simp at g;rcases g with rfl|rfl;exact F;exact D) (by omega) (by simp) ?_⟩
 intro n o B z
 refine ⟨_,_,_,_,_,_,_,_,_,_,_,_,_,_,_,_,rfl,hK n o w (A0 e y) ?_ ?_⟩
 ·rw [<- j];exact B
 ·rw [<- l];exact z
end
def ivB(lo hi:List UInt8):Bool:=decide (E4 (rv lo)=lo)&&(decide (E4 (rv hi)=hi)&&decide (rv lo<=rv hi))
def Bp{p q:Rat}(h:p<=q):ivB (E4 p) (E4 q)=true:=by simp [ivB,C7,h]
def A9k{lo hi:List UInt8}(h:ivB lo hi=true):A4j lo hi:=by
 simp only [ivB,Bool.and_eq_true,decide_eq_true_eq] at h
 exact ⟨rv lo,rv hi,h.1.symm,h.2.1.symm,h.2.2⟩
def A18{lo hi:List UInt8}(h:¬ A4j lo hi):ivB lo hi=false:=by
 cases e:ivB lo hi with
 | false=>rfl
 | true=>exact absurd (A9k e) h
abbrev R3:=List UInt8 × List UInt8 × Int
abbrev r3(x:R3):aT:=.tuple #[ivT x.1 x.2.1,I x.2.2]
def B8i(lo hi:List UInt8)(k:Int):R3:=if ivB lo hi then (if k<0\/24<k then ([],[],3) else (E4 (Aa (rv lo) (rv hi) k.toNat),E4 (Ab (rv lo) (rv hi) k.toNat),0)) else ([],[],1)
def Va(lo hi:List UInt8)(k:Int):R3:=if ivB lo hi then (if k<0\/4096<k then ([],[],3) else (E4 ((((rv lo*2^k.toNat).floor:Int):Rat)/2^k.toNat),E4 ((((rv hi*2^k.toNat).ceil:Int):Rat)/2^k.toNat),0)) else ([],[],1)
def B9b(lo hi lo2 hi2:List UInt8):R3:=if ivB lo hi&&ivB lo2 hi2 then (E4 (Nb (rv lo) (rv hi) (rv lo2) (rv hi2)),E4 (Nc (rv lo) (rv hi) (rv lo2) (rv hi2)),0) else ([],[],1)
section
variable {h:Heap} {K:VP} {m:Nat} {lo hi x lo2 hi2:List UInt8}
def C1y(gl:Gl h)(ta:Tx m lo)(tb:Tx m hi)(hm1:1<=m)(hm:m<=10000){k:Int}(hK:K (r3 (B8i lo hi k)) h):aE prog Yo #[ivT lo hi,I k] h K:=by
 refine A9l gl ta tb hm1 hm ?_ ?_ ?_
 ·rintro p q n rfl rfl a rfl b
  rw [B8i,iP (Bp a),iN (by omega),C7,C7,aD] at hK;exact hK
 ·rintro ⟨p,q,rfl,rfl,a⟩ c
  rw [B8i,iP (Bp a),iP c] at hK;exact hK
 ·intro b
  rw [B8i,A18 b,iN (by simp)] at hK;exact hK
def B78(gl:Gl h)(ta:Tx m lo)(tb:Tx m hi)(hm1:1<=m)(hm:m<=10000){k:Int}(hK:K (r3 (Va lo hi k)) h):aE prog By #[ivT lo hi,I k] h K:=by
 refine A3o gl ta tb hm1 hm ?_ ?_ ?_
 ·rintro p q n rfl rfl a rfl b
  rw [Va,iP (Bp a),iN (by omega),C7,C7,aD] at hK;exact hK
 ·rintro ⟨p,q,rfl,rfl,a⟩ c
  rw [Va,iP (Bp a),iP c] at hK;exact hK
 ·intro b
  rw [Va,A18 b,iN (by simp)] at hK;exact hK
def A8f{lo hi lo2 hi2:List UInt8}(h:¬ (A4j lo hi/\A4j lo2 hi2)):(ivB lo hi&&ivB lo2 hi2)=false:=by
 cases e:(ivB lo hi&&ivB lo2 hi2) with
 | false=>rfl
 | true=>
  rw [Bool.and_eq_true] at e
  exact absurd ⟨A9k e.1,A9k e.2⟩ h
def A4s{p q r s:Rat}(h:p<=q)(h2:r<=s):(ivB (E4 p) (E4 q)&&ivB (E4 r) (E4 s))=true:=by rw [Bp h,Bp h2];rfl
def C1z(gl:Gl h)(ta:Tx m lo)(tb:Tx m hi)(tc:Tx m lo2)(td:Tx m hi2)(hm:m<=1000000)(hK:K (r3 (B9b lo hi lo2 hi2)) h):aE prog Yp #[ivT lo hi,ivT lo2 hi2] h K:=by
 refine A9m gl ta tb tc td hm ?_ ?_
 ·rintro p q r s rfl rfl b rfl rfl a
  rw [B9b,iP (A4s b a),C7,C7,C7,C7] at hK;exact hK
 ·intro c
  rw [B9b,A8f c,iN (by simp)] at hK;exact hK
def A15{ls:List (List UInt8)}{n:Int}{A:Option aV}{c ln:Nat}(sl:SlV h A (ls.map fun l=>aH (bs l)))(hn:ln=ls.length)(hl:ls.length<=1000000000)(hK1:(∀ l∈ls,(l.length:Int)<=n)->K (.bool true) h)(hK0:¬ (∀ l∈ls,(l.length:Int)<=n)->K (.bool false) h):aE prog Sd #[I n,.slice A ln c] h K:=by
 subst hn
 refine A7s _ _ _ _ ?_
 unfold B20
 refine ⟨fun L k=>k=h/\∃ i:Nat,i<=ls.length/\(∀ l∈ls.take i,(l.length:Int)<=n)/\L=[I i],fun L _=>ls.length-(iAt L 0).toNat,⟨rfl,0,aS _,by simp,rfl⟩,?_⟩
 rintro t o ⟨rfl,i,q,b,j⟩
 simp only [aJ,aI,true_and,and_true] at j
 subst j
 refine B4 (fun e=>?_) (fun e=>?_)
 ·have d:i<ls.length:=by omega
  obtain ⟨a,m,p⟩:=SlV.at sl (i:=i) (by simpa using d)
  refine ⟨a,m,by omega,e,bs ls[i],?_,?_⟩
  ·rw [aD,aP,p];simp
  rw [G7,B6 (by omega) (by omega)]
  refine B4 (fun g=>hK0 fun x=>?_) (fun g=>⟨⟨rfl,i+1,d,?_,rfl⟩,?_⟩)
  ·have:=x ls[i] (aL d);omega
  ·intro l hl
   rw [aC d] at hl
   rcases List.mem_append.1 hl with hl|hl
   ·exact b l hl
   ·rw [List.mem_singleton.1 hl];omega
  ·simp [iAt];omega
 ·obtain rfl:i=ls.length:=by omega
  rw [aK] at b
  exact hK1 b
def F6(x:List UInt8 × List UInt8):List aT:=[.string (bs x.1),.string (bs x.2)]
def Vl(l:List (List UInt8 × List UInt8)):(l.flatMap F6).length=l.length*2:=by
 induction l with
 | nil=>rfl
 | cons w l ih=>rw [aG,List.length_append,ih,List.length_cons];simp [F6];omega
def A17(l:List (List UInt8 × List UInt8)):∀ {i:Nat} (hi:i<l.length) {j:Nat} (hj:j<2),(l.flatMap F6)[i*2+j]? = (F6 l[i])[j]? :=by
 induction l with
 | nil=>intro i hi;simp at hi
 | cons w l ih=>
  intro i hi j hj
  rw [aG]
  cases i with
  | zero=>rw [aZ (by simp [F6];omega)];simp
  | succ i=>
   rw [aX (by simp [F6];omega)]
   have:=ih (i:=i) (by simpa using hi) hj
   simp only [aR]
   rw [<- this]
   congr 1
   simp [F6];omega
def Oi{l:List (List UInt8 × List UInt8)}{A:Option aV}(sl:SlV h A (l.flatMap F6)){i:Nat}(hi:i<l.length):∃ a,A=some a/\Heap.cell? h (aF (aF a (i*2)) 0)=some (.string (bs l[i].1))/\Heap.cell? h (aF (aF a (i*2)) 1)=some (.string (bs l[i].2)):=by
 have k:=Vl l
 obtain ⟨a,c,_⟩:=sl.at (i:=0) (by omega)
 refine ⟨a,c,?_⟩
 have cell:∀ j,j<2->∀ v,(F6 l[i])[j]? = some v->Heap.cell? h (aF (aF a (i*2)) j)=some v:=by
  intro j e v d
  obtain ⟨m,b,g⟩:=sl.at (i:=i*2+j) (by omega)
  rw [c] at b
  cases b
  rw [Er,g]
  have:=A17 l hi e
  rw [bB (by omega),d] at this
  exact this
 exact ⟨cell 0 (by omega) _ rfl,cell 1 (by omega) _ rfl⟩
def A3k{l:List (List UInt8 × List UInt8)}{A:Option aV}{c ln:Nat}(sl:SlV h A (l.flatMap F6))(hn:ln=l.length)(hl:l.length<=1000000000)(hK1:(∀ x∈l,x.1.length<=20/\x.2.length<=20)->K (.bool true) h)(hK0:¬ (∀ x∈l,x.1.length<=20/\x.2.length<=20)->K (.bool false) h):aE prog Yn #[.slice A ln c] h K:=by
 subst hn
 refine FCall.pure (B1y _ _ _ ?_)
 unfold B67
 refine ⟨fun L r=>h.le r/\∃ i:Nat,i<=l.length/\(∀ x∈l.take i,x.1.length<=20/\x.2.length<=20)/\L=[I i],fun L _=>l.length-(iAt L 0).toNat,⟨B3 _,0,aS _,by simp,rfl⟩,?_⟩
 rintro t u ⟨m,i,C,d,p⟩
 simp only [aJ,aI,true_and,and_true] at p
 subst p
 refine B4 (fun e=>?_) (fun e=>?_)
 ·have j:i<l.length:=by omega
  obtain ⟨a,q,c0,c1⟩:=Oi (sl.mono m) j
  refine ⟨a,q,by omega,e,bs l[i].1,by rw [aD];exact c0,a,q,by omega,e,bs l[i].2,by rw [aD];exact c1,?_⟩
  refine A3l Xg (ls:=[l[i].1,l[i].2]) rfl (by simp) rfl ?_
  intro b B n s
  refine ⟨_,_,_,rfl,n,?_⟩
  rw [B6 (by omega) (by omega)]
  refine A15 s rfl (by simp) (fun g=>⟨_,rfl,B3 _,⟨⟨A0 m n,i+1,j,?_,rfl⟩,?_⟩⟩) (fun g=>⟨_,rfl,B3 _,A0 m n,hK0 fun x=>?_⟩)
  ·intro x k
   rw [aC j] at k
   rcases List.mem_append.1 k with k|k
   ·exact d x k
   ·rw [List.mem_singleton.1 k]
    have z:=g l[i].1 (by simp)
    have w:=g l[i].2 (by simp)
    omega
  ·simp [iAt];omega
  ·have:=x l[i] (aL j)
   refine g fun y o=>?_
   simp only [bA,aW,or_false] at o
   rcases o with rfl|rfl<;>omega
 ·obtain rfl:i=l.length:=by omega
  rw [aK] at d
  exact ⟨m,hK1 d⟩
def B91:E4 (-1)=[45,49]:=by
 have b:(-1:Rat).num= -1:=by decide +kernel
 have a:(-1:Rat).den=1:=by decide +kernel
 simp [E4,Dp,b,a,J3,N5,F7,dch]
def C1e:E4 (-2)=[45,50]:=by
 have b:(-2:Rat).num= -2:=by decide +kernel
 have a:(-2:Rat).den=1:=by decide +kernel
 simp [E4,Dp,b,a,J3,N5,F7,dch]
def C3o:E4 4=[52]:=by
 have b:(4:Rat).num=4:=by decide +kernel
 have a:(4:Rat).den=1:=by decide +kernel
 simp [E4,Dp,b,a,J3,N5,F7,dch]
def B92:E4 (1/3)=[49,47,51]:=by
 have b:(1/3:Rat).num=1:=by decide +kernel
 have a:(1/3:Rat).den=3:=by decide +kernel
 simp [E4,Dp,b,a,J3,N5,F7,dch]
def C1f:E4 (1/4)=[49,47,52]:=by
 have b:(1/4:Rat).num=1:=by decide +kernel
 have a:(1/4:Rat).den=4:=by decide +kernel
 simp [E4,Dp,b,a,J3,N5,F7,dch]
def C1m{q:Rat}(h:decide (q.num.natAbs<65536/\q.den<65536)=true):Sz 16 q:=by
 have:=of_decide_eq_true h
 exact ⟨by unfold ZB;exact this.1,by unfold ZB;simpa using this.2⟩
def C1g(a:Array UInt8):({ data:=a }:ByteArray)=bs a.toList:=by simp [bs]
def A6w(gl:Gl h)(hK:K (.bool true) h):aE prog V6 #[] h K:=by
 refine B1z ?_
 unfold B68
 have c:Tx 16 (E4 (-1)):=Tx.of (C1m (by decide +kernel)) (by omega)
 have d:Tx 16 (E4 2):=Tx.of (C1m (by decide +kernel)) (by omega)
 have e:Tx 16 (E4 (1/3)):=Tx.of (C1m (by decide +kernel)) (by omega)
 show aE _ _ #[ivT [45,49] [50],ivT [45,49] [50]] _ _
 rw [<- B91,<- A2u]
 refine C1z gl c d c d (by omega) ?_
 have i:B9b (E4 (-1)) (E4 2) (E4 (-1)) (E4 2)=(E4 (-2),E4 4,0):=by
  rw [B9b,iP (A4s (by decide +kernel) (by decide +kernel)),C7,C7]
  have b:Nb (-1) 2 (-1) 2= -2:=by decide +kernel
  have a:Nc (-1) 2 (-1) 2=4:=by decide +kernel
  rw [b,a]
 rw [i]
 refine ⟨_,_,_,rfl,?_⟩
 show aE _ _ #[ivT (E4 (-1)) (E4 2),I 2] _ _
 refine C1y gl c d (by omega) (by omega) ?_
 have g:B8i (E4 (-1)) (E4 2) 2=(E4 0,E4 4,0):=by
  rw [B8i,iP (Bp (by decide +kernel)),iN (by omega),C7,C7]
  have b:Aa (-1) 2 (2:Int).toNat=0:=by decide +kernel
  have a:Ab (-1) 2 (2:Int).toNat=4:=by decide +kernel
  rw [b,a]
 rw [g]
 refine ⟨_,_,_,rfl,?_⟩
 show aE _ _ #[ivT [49,47,51] [49,47,51],I 2] _ _
 rw [<- B92]
 refine B78 gl e e (by omega) (by omega) ?_
 have j:Va (E4 (1/3)) (E4 (1/3)) 2=(E4 (1/4),E4 (1/2),0):=by
  rw [Va,iP (Bp (by decide +kernel)),iN (by omega),C7]
  have b:((((1/3:Rat)*2^(2:Int).toNat).floor:Int):Rat)/2^(2:Int).toNat=1/4:=by decide +kernel
  have a:((((1/3:Rat)*2^(2:Int).toNat).ceil:Int):Rat)/2^(2:Int).toNat=1/2:=by decide +kernel
  rw [b,a]
 rw [j]
 refine ⟨_,_,_,rfl,?_⟩
 simp only [C1e,C3o,B2q,C1f,B3g,A2u,B91,B92,C1g,Ew]
 exact hK
end
