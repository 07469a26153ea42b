/- A part. -/
import Derived.Test.YtdphgbjaijlckaaGreatDoorG22
import Derived.Test.YtdphgbjaijlckaaGreatDoorG19
import Derived.Test.YtdphgbjaijlckaaGreatDoorG21
import Derived.Test.YtdphgbjaijlckaaGreatDoorRows
import Derived.Lib.LaidTab
open Go.Proofs.Tryz
set_option linter.all false
open _root_.Go.Addr renaming add->aE
open Bool renaming and_eq_true->aT
open Int renaming toNat_natCast->aC,natAbs_natCast->aP
open List renaming take_succ_eq_append_getElem->aD,take_length->aH,mem_of_mem_take->aI,flatMap_cons->aJ,getElem_mem->aK,getElem?_cons_zero->aL,length_cons->aR,getElem?_append_right->aW,getElem?_append_left->aX,getElem?_eq_getElem->aY,getElem?_cons_succ->aZ,getElem_cons_succ->bB
open List.cons renaming injEq->aN
open Nat renaming mul_one->aO,zero_le->aU
open Rat renaming pow_succ->bA
open _root_.Go.Value renaming string->aG
open _root_.Go.Value.int renaming injEq->aM
open _root_.Go renaming Value->aQ,Addr->aV
open _root_.Go.Proofs.YtdphgbjaijlckaaGreatDoor renaming FCall->aF,Heap->aS
namespace Go.Proofs.YtdphgbjaijlckaaGreatDoor
set_option maxRecDepth 20000
open Go
section
variable {h h':aS} {K:VP} {A B:Option aV} {n c n' c':Nat} {s s':Bool} {x y z:Int} {m:Nat}
end
def A9j(h:aS)(r:aQ)(h':aS):Prop:=r= .bool true/\h.le h'
def Xa{x:List UInt8}{k:Nat}(hl:x.length<=k)(hk:1<=k):Sz (4*k) (rv x):=by
 by_cases d:IsNum x
 ·obtain ⟨neg,a,b,f⟩:=d.form
  obtain ⟨i,g⟩:=f.rv_num d
  have e:=f.lens
  have c:(Hf neg a).natAbs=J9 a:=by unfold Hf;split<;>simp
  refine ⟨?_,?_⟩
  ·rw [i];exact (Gb f.da (k:=k) o).le (by rw [c,aP];exact Nat.le_refl _)
  ·rw [g]
   unfold Du
   split
   ·exact ZB.one o
   ·exact Gb f.db o
 ·rw [Ti d];exact Sz.zero o
def P7{x:List UInt8}{k:Nat}(hl:x.length<=k)(hk:1<=k)(hk2:k<=140737488351232):Tx (4*k) x:=⟨o,Xa hl hk⟩
def Tx.mono{m n:Nat}{x:List UInt8}(t:Tx m x)(h:m<=n):Tx n x:=⟨t.len,t.sz.mono h⟩
def Qi(lo hi:List UInt8):Prop:=∃ p q,lo=C7 p/\hi=C7 q/\p<=q
abbrev ivT(lo hi:List UInt8):aQ:=.agg #[.string (bs lo),.string (bs hi)]
abbrev ivS(p q:Rat):aQ:=ivT (C7 p) (C7 q)
def Sb(l:List Rat):∀ p,mnL p l=p\/mnL p l∈l:=by
 induction l with
 | nil=>intro p;exact .inl rfl
 | cons q l ih=>
  intro p
  rw [Mo]
  rcases ih (mn p q) with h|h
  ·rcases Sa p q with e|e
   ·rw [h,e];exact .inl rfl
   ·rw [h,e];exact .inr (by simp)
  ·exact .inr (by simp [h])
def Ry(l:List Rat):∀ p,mxL p l=p\/mxL p l∈l:=by
 induction l with
 | nil=>intro p;exact .inl rfl
 | cons q l ih=>
  intro p
  rw [Ml]
  rcases ih (mx p q) with h|h
  ·rcases Rx p q with e|e
   ·rw [h,e];exact .inl rfl
   ·rw [h,e];exact .inr (by simp)
  ·exact .inr (by simp [h])
def Sz.mnL{m:Nat}{p:Rat}{l:List Rat}(hp:Sz m p)(hl:∀ q∈l,Sz m q):Sz m (mnL p l):=by
 rcases Sb l p with e|e
 ·rw [e];exact hp
 ·exact hl _ e
def Sz.mxL{m:Nat}{p:Rat}{l:List Rat}(hp:Sz m p)(hl:∀ q∈l,Sz m q):Sz m (mxL p l):=by
 rcases Ry l p with e|e
 ·rw [e];exact hp
 ·exact hl _ e
section
variable {h:aS} {K:VP} {m:Nat} {lo hi x:List UInt8} {p q r s:Rat}
def Ci{qs:List Rat}{A:Option aV}{n c:Nat}(gl:Gl h)(hn:n=qs.length)(sl:SlV h A (qs.map fun q=>aG (bs (C7 q))))(hp:Sz m p)(hq:∀ q∈qs,Sz m q)(hm:m<=10000000)(hl:qs.length<=1000)
 (hK:K (.string (bs (C7 (mnL p qs)))) h):aF prog 97 #[.string (bs (C7 p)),.slice A n c] h K:=by
 subst hn
 refine (fnk func97 [(2,[0,9],[],[.string ⟨#[]⟩,I 0])]) ?_
 refine ⟨fun L hp=>hp=h/\∃ i:Nat,i<=qs.length/\L=[.string (bs (C7 (mnL p (qs.take i)))),I i],fun L _=>(qs.length-(iAt L 1).toNat),⟨rfl,0,aU _,rfl⟩,?_⟩
 rintro f x l ⟨rfl,i,y,k⟩
 simp only [aN,Value.string.injEq,aM,true_and,and_true] at k
 obtain ⟨rfl,rfl⟩:=k
 have r:Sz m (mnL p (qs.take i)):=hp.mnL fun q h=>hq q (aI h)
 refine B4 (fun e=>?_) (fun e=>?_)
 ·have b:i<qs.length:=o
  obtain ⟨a,u,w⟩:=SlV.at sl (i:=i) (by simpa using b)
  refine ⟨a,u,o,e,bs (C7 qs[i]),?_,?_⟩
  ·rw [aC,aO,w];simp
  have d:mnL p (qs.take (i+1))=mn (mnL p (qs.take i)) qs[i]:=by rw [aD b,A1b]
  have g:=hq qs[i] (aK b)
  refine H3 gl (Tx.of g o) (Tx.of r o) o ⟨_,rfl,?_⟩
  rw [C1,C1,B5 o o]
  refine B4 (fun j=>⟨⟨rfl,i+1,b,?_⟩,?_⟩) (fun j=>⟨⟨rfl,i+1,b,?_⟩,?_⟩)
  ·rw [d,mn,iP (Nk.1 j)];rfl
  ·simp [iAt];omega
  ·rw [d,mn,iN (fun s=>j (Nk.2 s))];rfl
  ·simp [iAt];omega
 ·obtain rfl:i=qs.length:=o
  rw [aH];exact hK
def R6{qs:List Rat}{A:Option aV}{n c:Nat}(gl:Gl h)(hn:n=qs.length)(sl:SlV h A (qs.map fun q=>aG (bs (C7 q))))(hp:Sz m p)(hq:∀ q∈qs,Sz m q)(hm:m<=10000000)(hl:qs.length<=1000)
 (hK:K (.string (bs (C7 (mxL p qs)))) h):aF prog 98 #[.string (bs (C7 p)),.slice A n c] h K:=by
 subst hn
 refine (fnk func98 [(2,[0,9],[],[.string ⟨#[]⟩,I 0])]) ?_
 refine ⟨fun L hp=>hp=h/\∃ i:Nat,i<=qs.length/\L=[.string (bs (C7 (mxL p (qs.take i)))),I i],fun L _=>(qs.length-(iAt L 1).toNat),⟨rfl,0,aU _,rfl⟩,?_⟩
 rintro f x l ⟨rfl,i,y,k⟩
 simp only [aN,Value.string.injEq,aM,true_and,and_true] at k
 obtain ⟨rfl,rfl⟩:=k
 have r:Sz m (mxL p (qs.take i)):=hp.mxL fun q h=>hq q (aI h)
 refine B4 (fun e=>?_) (fun e=>?_)
 ·have b:i<qs.length:=o
  obtain ⟨a,u,w⟩:=SlV.at sl (i:=i) (by simpa using b)
  refine ⟨a,u,o,e,bs (C7 qs[i]),?_,?_⟩
  ·rw [aC,aO,w];simp
  have d:mxL p (qs.take (i+1))=mx (mxL p (qs.take i)) qs[i]:=by rw [aD b,A19]
  have g:=hq qs[i] (aK b)
  refine H3 gl (Tx.of g o) (Tx.of r o) o ⟨_,rfl,?_⟩
  rw [C1,C1,B5 o o]
  refine B4 (fun j=>⟨⟨rfl,i+1,b,?_⟩,?_⟩) (fun j=>⟨⟨rfl,i+1,b,?_⟩,?_⟩)
  ·rw [d,mx,iP (Do.1 j)];rfl
  ·simp [iAt];omega
  ·rw [d,mx,iN (fun s=>j (Do.2 s))];rfl
  ·simp [iAt];omega
 ·obtain rfl:i=qs.length:=o
  rw [aH];exact hK
def Is{qs:List Rat}{A:Option aV}{n c:Nat}(gl:Gl h)(hn:n=qs.length)(sl:SlV h A (qs.map fun q=>aG (bs (C7 q))))(hp:Sz m p)(hq:∀ q∈qs,Sz m q)(hm:m<=10000000)(hl:qs.length<=1000)
 (hK:K (ivS (mnL p qs) (mxL p qs)) h):aF prog 145 #[.string (bs (C7 p)),.slice A n c] h K:=by
 refine (fnk func145 (own:=[4])) ?_
 exact Ci gl hn sl hp hq hm hl ⟨_,rfl,R6 gl hn sl hp hq hm hl ⟨_,rfl,hK⟩⟩
def Wv{qs:List Rat}{K2:VP}{n:Nat}{ps:Array (Nat × aQ)}(gl:Gl h)(hn:n=qs.length)(hps:ps.toList=(List.range' 0 (qs.map fun q=>aG (bs (C7 q))).length).zip (qs.map fun q=>aG (bs (C7 q))))(hp:Sz m p)(hq:∀ q∈qs,Sz m q)(hm:m<=10000000)(hl:qs.length<=1000)
 (hK:∀ h',h.le h'->K2 (ivS (mnL p qs) (mxL p qs)) h'):wpH prog (Instr.buildSlice 52 n ps) (fun v hp=>∃ (A:Option aV) (n c:Nat),v= .slice A n c/\aF prog 145 #[.string (bs (C7 p)),.slice A n c] hp (fun r4 hp5=>∃ (t260:ByteArray) (t261:ByteArray),r4= .agg #[.string t260,.string t261]/\K2 (.agg #[.string t260,.string t261]) hp5)) h:=by
 have e:(qs.map C7).map (fun l=>aG (bs l))=qs.map fun q=>aG (bs (C7 q)):=by simp
 refine Bk R1 (ls:=qs.map C7) (by simpa using hn) o (by rw [e];exact hps) ?_
 intro b h' a sl
 rw [e] at sl
 exact ⟨_,_,_,rfl,Is (gl.mono a) hn sl hp hq hm hl ⟨_,_,rfl,hK h' a⟩⟩
def J8(gl:Gl h)(ta:Tx m lo)(tb:Tx m hi)(hm:m<=1000000000)(hK1:∀ p q,lo=C7 p->hi=C7 q->p<=q->K (.bool true) h)(hK0:¬ Qi lo hi->K (.bool false) h):aF prog 10 #[ivT lo hi] h K:=by
 refine (fnk func10 (own:=[1])) ?_
 refine V5 gl ta.len (fun a=>⟨_,rfl,?_⟩) (fun a=>⟨_,rfl,hK0 fun ⟨p,q,e,_⟩=>a ⟨p,e⟩⟩)
 obtain ⟨p,rfl⟩:=a
 refine V5 gl tb.len (fun a=>⟨_,rfl,?_⟩) (fun a=>⟨_,rfl,hK0 fun ⟨p,q,_,e,_⟩=>a ⟨q,e⟩⟩)
 obtain ⟨q,rfl⟩:=a
 refine H3 gl ta tb o ⟨_,rfl,?_⟩
 rw [C1,C1]
 by_cases b:p<=q
 ·rw [decide_eq_true (Gd.2 b)];exact hK1 p q rfl rfl b
 ·rw [decide_eq_false (fun e=>b (Gd.1 e))]
  refine hK0 ?_
  rintro ⟨i,j,c,g,d⟩
  rw [T2 c,T2 g] at b;exact b d
def Cw(gl:Gl h)(ta:Tx m lo)(tb:Tx m hi)(tx:Tx m x)(hm:m<=1000000000)(hK1:∀ p q r,lo=C7 p->hi=C7 q->x=C7 r->p<=r->r<=q->K (.bool true) h)(hK0:¬ (∃ p q r,lo=C7 p/\hi=C7 q/\x=C7 r/\p<=r/\r<=q)->K (.bool false) h):aF prog 15 #[ivT lo hi,.string (bs x)] h K:=by
 refine (fnk func15 (own:=[2])) ?_
 refine J8 gl ta tb hm (fun p q a b n=>⟨_,rfl,?_⟩) (fun d=>⟨_,rfl,hK0 fun ⟨p,q,r,a,b,_,i,g⟩=>d ⟨p,q,a,b,Rat.le_trans i g⟩⟩)
 refine V5 gl tx.len (fun d=>⟨_,rfl,?_⟩) (fun d=>⟨_,rfl,hK0 fun ⟨p,q,r,_,_,e,_⟩=>d ⟨r,e⟩⟩)
 obtain ⟨r,s⟩:=d
 subst a b s
 refine H3 gl ta tx o ⟨_,rfl,?_⟩
 rw [C1,C1]
 refine B4 (fun e=>?_) (fun e=>hK0 ?_)
 ·refine H3 gl tx tb o ⟨_,rfl,?_⟩
  rw [C1,C1]
  by_cases c:r<=q
  ·rw [decide_eq_true (Gd.2 c)];exact hK1 p q r rfl rfl rfl (Gd.1 e) c
  ·rw [decide_eq_false (fun e=>c (Gd.1 e))]
   refine hK0 ?_
   rintro ⟨l,u,k,a,b,j,i,g⟩
   rw [T2 b,T2 j] at c;exact c g
 ·rintro ⟨l,u,k,a,b,j,i,g⟩
  rw [T2 a,T2 j] at e;exact e (Gd.2 i)
def A1h:C7 (1/2)=[49,47,50]:=by
 have a:(1/2:Rat).num=1:=by decide +kernel
 have b:(1/2:Rat).den=2:=by decide +kernel
 simp [C7,Ds,a,b,J1,O2,G0,dch]
def Qz:C7 2=[50]:=by
 have a:(2:Rat).num=2:=rfl
 have b:(2:Rat).den=1:=rfl
 simp [C7,Ds,a,b,J1,O2,G0,dch]
def A26:Sz 2 2:=⟨by unfold ZB;decide +kernel,by unfold ZB;decide +kernel⟩
def Vd(gl:Gl h)(hp:Sz m p)(hq:Sz m q)(hr:Sz m r)(hs:Sz m s)(hm:m<=1000000)(hK:K (ivS (p+r) (q+s)) h):aF prog 76 #[ivS p q,ivS r s] h K:=by
 refine (fnk func76 (os:=[(1,[0,1,2,3,5,6,7,8,4,9,10,11])]) (own:=[2,3,4])) ?_
 refine Ia gl (Tx.of hp o) (Tx.of hr o) o ⟨_,rfl,B3 _,?_⟩
 refine Ia gl (Tx.of hq o) (Tx.of hs o) o ⟨_,rfl,B3 _,?_⟩
 rw [C1,C1,C1,C1];exact hK
def Kt(gl:Gl h)(hp:Sz m p)(hq:Sz m q)(hr:Sz m r)(hs:Sz m s)(hm:m<=1000000)(hK:K (ivS (Cr p q r s) (Cs p q r s)) h):aF prog 77 #[ivS p q,ivS r s] h K:=by
 refine FCall.pure ((fnk func77 (os:=[(1,[0,1,2,3,5,6,7,8,10,11,12,13,15,16,17,18,4,9,14,19,20,21,22])]) (own:=[2,3,4])) ?_)
 refine S2 gl (Tx.of hp o) (Tx.of hr o) o ⟨_,rfl,B3 _,?_⟩
 refine S2 gl (Tx.of hp o) (Tx.of hs o) o ⟨_,rfl,B3 _,?_⟩
 refine S2 gl (Tx.of hq o) (Tx.of hr o) o ⟨_,rfl,B3 _,?_⟩
 refine S2 gl (Tx.of hq o) (Tx.of hs o) o ⟨_,rfl,B3 _,?_⟩
 rw [C1,C1,C1,C1]
 have e:=(hp.mul hr)
 have a:∀ t∈[p*s,q*r,q*s],Sz (m+m) t:=by
  intro t d
  simp only [List.mem_cons,List.not_mem_nil,or_false] at d
  rcases d with rfl|rfl|rfl
  ·exact hp.mul hs
  ·exact hq.mul hr
  ·exact hq.mul hs
 refine Bk R1 (ls:=[C7 (p*s),C7 (q*r),C7 (q*s)]) rfl (by simp) rfl ?_
 intro b g c sl
 refine ⟨_,_,_,rfl,c,?_⟩
 refine Is (qs:=[p*s,q*r,q*s]) (gl.mono c) rfl sl e a o (by simp) ⟨_,_,rfl,B3 _,c,hK⟩
def Ww{q:Rat}:q.num.sign<0↔q<0:=by rw [Int.sign_neg_iff,Rat.lt_iff];simp
def Wx{q:Rat}:0<q.num.sign↔0<q:=by rw [Int.sign_pos_iff,Rat.lt_iff];simp
def Ks{k:Nat}(gl:Gl h)(hp:Sz m p)(hq:Sz m q)(hm1:1<=m)(hk:k<=1000)(hm:m*k+1<=1000000)(hmm:m<=1000000)(hK:K (ivS (N8 p q k) (N9 p q k)) h):aF prog 78 #[ivS p q,I (k:Int)] h K:=by
 refine FCall.pure ((fnk func78 (own:=[2,4])) ?_)
 have y:({ data:=#[48] }:ByteArray)=bs (C7 0):=by rw [Wl];rfl
 refine Hy gl (Tx.of hp o) hm1 (by simpa using (show m*k+1<=40000000 from o)) o ?_ (fun _ g=>o) (fun g=>o)
 intro _ _ _
 refine ⟨_,_,rfl,?_⟩
 refine Hy gl (Tx.of hq o) hm1 (by simpa using (show m*k+1<=40000000 from o)) o ?_ (fun _ g=>o) (fun g=>o)
 intro _ _ _
 refine ⟨_,_,rfl,?_⟩
 rw [C1,C1,aP]
 have u:=hp.pow hm1 k
 have x:=hq.pow hm1 k
 have a:¬ (0<k/\k%2=0/\p<0/\0<q)->wpH prog (Instr.buildSlice 52 1 #[(0,.string (bs (C7 (q^k))))]) (fun v hp=>∃ (A:Option aV) (n c:Nat),v= .slice A n c/\aF prog 145 #[.string (bs (C7 (p^k))),.slice A n c] hp (fun r4 s=>∃ (t260:ByteArray) (t261:ByteArray),r4= .agg #[.string t260,.string t261]/\h.le s/\K (.agg #[.string t260,.string t261]) h)) h:=by
  intro w
  refine Wv (K2:=fun r e=>h.le e/\K r h) (qs:=[q^k]) gl rfl rfl u (fun t b=>by simp at b;subst b;exact x) o (by simp) (fun e j=>⟨j,?_⟩)
  unfold N8 N9 at hK
  rw [iN w,iN w] at hK
  exact hK
 have b:Int.tmod (k:Int) 2=((k%2:Nat):Int):=by rw [Int.tmod_eq_emod_of_nonneg o];omega
 rw [b]
 refine B4 (fun z=>?_) (fun z=>a o)
 refine E4 (fun g=>?_) (fun g=>a o)
 refine Kd gl (by have:=Ll hp;omega) ⟨_,rfl,?_⟩
 rw [C1]
 refine B4 (fun l=>?_) (fun l=>a (fun d=>l (Ww.2 d.2.2.1)))
 refine Kd gl (by have:=Ll hq;omega) ⟨_,rfl,?_⟩
 rw [C1]
 refine B4 (fun i=>?_) (fun i=>a (fun d=>i (Wx.2 d.2.2.2)))
 have d:0<k/\k%2=0/\p<0/\0<q:=⟨o,o,Ww.1 l,Wx.1 i⟩
 rw [y]
 refine Wv (m:=m*k+1) (K2:=fun r e=>h.le e/\K r h) (qs:=[p^k,q^k]) gl rfl rfl (Sz.zero o) (fun t b=>by simp at b;rcases b with rfl|rfl;exact u;exact x) o (by simp) (fun e j=>⟨j,?_⟩)
 unfold N8 N9 at hK
 rw [iP d,iP d] at hK
 exact hK
abbrev ivE:aQ:=.agg #[.string (bs []),.string (bs [])]
variable {lo2 hi2:List UInt8}
def Ym(gl:Gl h)(ta:Tx m lo)(tb:Tx m hi)(tc:Tx m lo2)(td:Tx m hi2)(hm:m<=1000000)(hK1:∀ p q r s,lo=C7 p->hi=C7 q->p<=q->lo2=C7 r->hi2=C7 s->r<=s->K (.tuple #[ivS (Cr p q r s) (Cs p q r s),I 0]) h)(hK0:¬ (Qi lo hi/\Qi lo2 hi2)->K (.tuple #[ivE,I 1]) h):aF prog 27 #[ivT lo hi,ivT lo2 hi2] h K:=by
 refine (fnk func27 (own:=[2,3,4])) ?_
 refine J8 gl ta tb o (fun p q d n b=>⟨_,rfl,?_⟩) (fun c=>⟨_,rfl,hK0 fun x=>c x.1⟩)
 refine J8 gl tc td o (fun r s e k a=>⟨_,rfl,?_⟩) (fun c=>⟨_,rfl,hK0 fun x=>c x.2⟩)
 have u:=hK1 p q r s d n b e k a
 subst d n e k
 have i:=ta.sz;have l:=tb.sz;have j:=tc.sz;have g:=td.sz
 rw [C1] at i l j g
 exact Kt gl i l j g hm ⟨_,_,rfl,u⟩
def Yl{k:Int}(gl:Gl h)(ta:Tx m lo)(tb:Tx m hi)(hm1:1<=m)(hm:m<=10000)(hK1:∀ p q (n:Nat),lo=C7 p->hi=C7 q->p<=q->k=n->n<=24->K (.tuple #[ivS (N8 p q n) (N9 p q n),I 0]) h)(hKr:Qi lo hi->(k<0\/24<k)->K (.tuple #[ivE,I 3]) h)(hK0:¬ Qi lo hi->K (.tuple #[ivE,I 1]) h):aF prog 28 #[ivT lo hi,I k] h K:=by
 refine (fnk func28 (own:=[2,4])) ?_
 refine J8 gl ta tb o (fun p q b c a=>⟨_,rfl,?_⟩) (fun j=>⟨_,rfl,hK0 j⟩)
 refine B4 (fun e=>hKr ⟨p,q,b,c,a⟩ (.inl e)) (fun r=>B4 (fun e=>hKr ⟨p,q,b,c,a⟩ (.inr e)) (fun l=>?_))
 obtain ⟨n,rfl⟩:∃ n:Nat,k=n:=⟨k.toNat,o⟩
 have i:=hK1 p q n b c a rfl o
 subst b c
 have d:=ta.sz;have g:=tb.sz
 rw [C1] at d g
 have:m*n<=m*24:=Nat.mul_le_mul_left m o
 exact Ks gl d g hm1 o o o ⟨_,_,rfl,i⟩
def Rn(x:Rat)(a b:Nat):x^(a+b)=x^a*x^b:=by
 induction b with
 | zero=>simp [Rat.pow_zero]
 | succ b ih=>rw [Nat.add_succ,bA,ih,bA,Rat.mul_assoc]
def Fk(k:Nat):Sz (2*k+1) ((2:Rat)^k):=A26.pow o k
def Ra(k:Nat):(0:Rat)<2^k:=by
 induction k with
 | zero=>rw [Rat.pow_zero];decide
 | succ k ih=>rw [bA];exact Rat.mul_pos ih dc
def Pj:∀ (k:Nat) {K:VP},Gl h->k<=8192->K (.string (bs (C7 (2^k)))) h->aF prog 58 #[I (k:Int)] h K:=by
 intro k
 induction k using Nat.strongRecOn with
 | _ k ih=>
  intro K c l d
  refine (fnk func58) ?_
  have b:rv [50]=2:=by rw [<- Qz,C1]
  refine B4 (fun i=>?_) (fun i=>?_)
  ·refine Hy (m:=2) (a:=[50]) c ⟨by simp,by rw [b];exact A26⟩ o o o ?_ ?_ ?_
   ·intro _ _ _
    rw [b,aP]
    exact ⟨_,_,rfl,d⟩
   ·intro _ g;omega
   ·intro g;omega
  ·have e:B7 (Int.tdiv (k:Int) 2)=((k/2:Nat):Int):=by
    rw [Int.tdiv_eq_ediv_of_nonneg o,B5 o o];omega
   have j:B7 ((k:Int)-((k/2:Nat):Int))=((k-k/2:Nat):Int):=by rw [B5 o o];omega
   rw [e,j]
   refine ih (k/2) o c o ⟨_,rfl,ih (k-k/2) o c o ⟨_,rfl,?_⟩⟩
   refine S2 (m:=2*k+1) c (Tx.of ((Fk _).mono o) o) (Tx.of ((Fk _).mono o) o) o ⟨_,rfl,?_⟩
   rw [C1,C1,<- Rn,show k/2+(k-k/2)=k from o]
   exact d
def A25(z:Int):Ds z=C7 (z:Rat):=by simp [C7]
def Se{bits:Int}(gl:Gl h)(ta:Tx m lo)(tb:Tx m hi)(hm1:1<=m)(hm:m<=10000)
 (hK1:∀ p q (k:Nat),lo=C7 p->hi=C7 q->p<=q->bits=k->k<=4096->K (.tuple #[ivS ((((p*2^k).floor:Int):Rat)/2^k) ((((q*2^k).ceil:Int):Rat)/2^k),I 0]) h)
 (hKr:Qi lo hi->(bits<0\/4096<bits)->K (.tuple #[ivE,I 3]) h) (hK0:¬ Qi lo hi->K (.tuple #[ivE,I 1]) h):aF prog 13 #[ivT lo hi,I bits] h K:=by
 refine (fnk func13 (own:=[2,4])) ?_
 refine J8 gl ta tb o (fun p q d g a=>⟨_,rfl,?_⟩) (fun w=>⟨_,rfl,hK0 w⟩)
 refine B4 (fun e=>hKr ⟨p,q,d,g,a⟩ (.inl e)) (fun y=>B4 (fun e=>hKr ⟨p,q,d,g,a⟩ (.inr e)) (fun x=>?_))
 obtain ⟨k,rfl⟩:∃ k:Nat,bits=k:=⟨bits.toNat,o⟩
 have s:=hK1 p q k d g a rfl o
 subst d g
 have i:=ta.sz;have j:=tb.sz
 rw [C1] at i j
 have b:=(Fk k).mono (show 2*k+1<=10000 from o)
 have c:(2:Rat)^k≠0:=fun e=>by have:=Ra k;rw [e] at this;exact absurd this dc
 refine Pj k gl o ⟨_,rfl,?_⟩
 refine S2 (m:=10000) gl (Tx.of (i.mono o) o) (Tx.of b o) o ⟨_,rfl,?_⟩
 rw [C1,C1]
 have l:=(i.mul b).mono (show m+10000<=20000 from o)
 have n:=(j.mul b).mono (show m+10000<=20000 from o)
 refine Rc (m:=20000) gl (Tx.of l o) o ⟨_,rfl,?_⟩
 rw [C1,A25]
 have u:=Sz.int (Hs l) o
 have r:Sz 20000 (((q*2^k).ceil:Int):Rat):=by
  refine Sz.int ?_ o
  rw [Rat.ceil_eq_neg_floor_neg]
  exact (Hs n.neg).neg
 refine Oc (m:=20000) gl (Tx.of u o) (Tx.of (b.mono o) o) o o ?_ (fun e=>absurd e (by rw [C1];exact c))
 intro _
 rw [C1,C1]
 refine ⟨_,_,rfl,?_⟩
 refine S2 (m:=10000) gl (Tx.of (j.mono o) o) (Tx.of b o) o ⟨_,rfl,?_⟩
 rw [C1,C1]
 refine Uk (m:=20000) gl (Tx.of n o) o ⟨_,rfl,?_⟩
 rw [C1,A25]
 refine Oc (m:=20000) gl (Tx.of r o) (Tx.of (b.mono o) o) o o ?_ (fun e=>absurd e (by rw [C1];exact c))
 intro _
 rw [C1,C1]
 exact ⟨_,_,rfl,s⟩
end
end Go.Proofs.YtdphgbjaijlckaaGreatDoor
namespace Go.Proofs.YtdphgbjaijlckaaGreatDoor
set_option maxRecDepth 20000
open Go Go.RowKit
def memOf(W:World):aS:=fun b=>W.heap[b]?
def frame_of{P:Program}{f:FuncId}{args:Array aQ}{W:World}(x:aF P f args (memOf W) (A9j (memOf W))):Calls P f args W fun e w'=>e= .returned (.bool true)/\Below W.heap.size W w':=by
 refine (x W (fun b o e=>e)).mono ?_
 rintro e W' ⟨r,l,i,⟨j,c⟩,a⟩
 subst j
 refine ⟨i,a.os,a.tape,a.output,a.size,fun k g=>?_⟩
 have d:memOf W k=some W.heap[k]:=Array.getElem?_eq_getElem g
 have:=a.sim k _ (c k _ d)
 rw [this];exact d.symm
def M0{W:World}{a:aV}{v:aQ}(e:W.cell? a=some v):(memOf W).cell? a=some v:=by
 unfold World.cell? at e
 unfold Heap.cell? memOf
 exact e
def Tt{P:Program}{W:World}{x:String × DataW Unit}{rest:List (String × DataW Unit)}(h:laidMet P (x::rest) W):laidMet P rest W:=by
 obtain ⟨n,d⟩:=x
 obtain ⟨l,⟨g,t,s,c,p,q,u,m,w,r,j,rfl⟩,e,i⟩:=h
 exact ⟨q,j,(List.nodup_append.1 e).2.1,fun b a k=>i b a (List.mem_append_right _ k)⟩
def A82:List Int:=[0,1,28,2,29,14,24,3,30,22,20,15,25,17,4,8,31,27,13,23,21,19,16,7,26,12,18,6,11,5,10,9]
def A0h:List Int:=[0,1,56,2,57,49,28,3,61,58,42,50,38,29,17,4,62,47,59,36,45,43,51,22,53,39,33,30,24,18,12,5,63,55,48,27,60,41,37,16,46,35,44,21,52,32,23,11,54,26,40,15,34,20,31,10,25,14,19,9,13,8,7,6]
def A36:List Int:=[1,10,100,1000,10000,100000,1000000,10000000,100000000,1000000000,10000000000,100000000000,1000000000000,10000000000000,100000000000000,1000000000000000,10000000000000000,100000000000000000,1000000000000000000,10000000000000000000]
def A2q:prog.globalNamed "math/bits.deBruijn64tab" = some 1:=by kernel_rfl
def A2r:prog.globalNamed "internal/strconv.uint64pow10" = some 0:=by kernel_rfl
def tabs_gl{W:World}(h:laidMet prog [("math/bits.deBruijn32tab",Rows.laid_math_bits_deBruijn32tab),("math/bits.deBruijn64tab",Rows.laid_math_bits_deBruijn64tab),("internal/strconv.uint64pow10",Rows.laid_internal_strconv_uint64pow10)] W):Gl (memOf W):=by
 have j:=Tt h
 have l:=Tt j
 have e:Lib.TabIs prog W "math/bits.deBruijn64tab" .u8 A0h:=Lib.tabIs_of_head (rest:=[("internal/strconv.uint64pow10",Rows.laid_internal_strconv_uint64pow10)]) A2q (by kernel_rfl) underlying308 underlying5 (by kernel_rfl) (by kernel_rfl) j
 have i:Lib.TabIs prog W "internal/strconv.uint64pow10" .u64 A36:=Lib.tabIs_of_head (rest:=[]) A2r (by kernel_rfl) underlying298 underlying230 (by kernel_rfl) (by kernel_rfl) l
 have d:∀ k,k<64->Qy k<A0h.length/\A0h.getD (Qy k) 0=(k:Int):=by decide +kernel
 have g:∀ k,k<20->A36.getD k 0=((10^k:Nat):Int):=by decide +kernel
 refine ⟨fun k c=>?_,fun k c=>?_⟩
 ·obtain ⟨a,b⟩:=d k c
  have:=M0 (e.cell A2q (Qy k) a)
  rw [G8,aO,Nat.zero_add,this,b]
 ·have:=M0 (i.cell A2r k (by show k<20;exact c))
  rw [G8,aO,Nat.zero_add,this,g k c]
def Yj(zs:List Int)(k:IntKind):Obj->Obj
 | .cells _ t frozen=>.cells (zs.map (Value.int k)).toArray t frozen
 | o=>o
def layTabs(a:Array Obj):Array Obj:=((a.modify 4 (Yj A82 .u8)).modify 1 (Yj A0h .u8)).modify 0 (Yj A36 .u64)
abbrev iv8(a b:QV):aQ:=.agg #[.bool a.s,.slice a.A a.n a.c,.bool a.s2,.slice a.A2 a.n2 a.c2,.bool b.s,.slice b.A b.n b.c,.bool b.s2,.slice b.A2 b.n2 b.c2]
def Ei(w:QV):List aQ:=[.bool w.s,.slice w.A w.n w.c,.bool w.s2,.slice w.A2 w.n2 w.c2]
structure QsAt (h:aS) (A:Option aV) (ws:List QV) (ps:List Rat):Prop where
 len:ws.length=ps.length
 num:∀ (i:Nat) (h1:i<ws.length) (h2:i<ps.length),NQ h ws[i] ps[i]
 sl:SlV h A (ws.flatMap Ei)
def Xc(ws:List QV):(ws.flatMap Ei).length=ws.length*4:=by
 induction ws with
 | nil=>rfl
 | cons w ws ih=>rw [aJ,List.length_append,ih,aR];simp [Ei];omega
def A0v(ws:List QV):∀ {i:Nat} (hi:i<ws.length) {j:Nat} (hj:j<4),(ws.flatMap Ei)[i*4+j]? = (Ei ws[i])[j]? :=by
 induction ws with
 | nil=>intro i hi;simp at hi
 | cons w ws ih=>
  intro i hi j hj
  rw [aJ]
  cases i with
  | zero=>rw [aX (by simp [Ei];omega)];simp
  | succ i=>
   rw [aW (by simp [Ei];omega)]
   have:=ih (i:=i) (by simpa using hi) hj
   simp only [bB]
   rw [<- this]
   congr 1
   simp [Ei];omega
def QsAt.at{h:aS}{A:Option aV}{ws:List QV}{ps:List Rat}(q:QsAt h A ws ps){i:Nat}(hi:i<ps.length):∃ a w,A=some a/\NQ h w ps[i]/\Heap.cell? h (aE (aE a (i*4)) 0)=some (.bool w.s)/\Heap.cell? h (aE (aE a (i*4)) 1)=some (.slice w.A w.n w.c)/\Heap.cell? h (aE (aE a (i*4)) 2)=some (.bool w.s2)/\Heap.cell? h (aE (aE a (i*4)) 3)=some (.slice w.A2 w.n2 w.c2):=by
 have d:i<ws.length:=by rw [q.len];exact hi
 have m:=Xc ws
 obtain ⟨a,e,_⟩:=q.sl.at (i:=0) o
 refine ⟨a,ws[i],e,q.num i d hi,?_⟩
 have cell:∀ j,j<4->∀ v,(Ei ws[i])[j]? = some v->Heap.cell? h (aE (aE a (i*4)) j)=some v:=by
  intro j k v g
  obtain ⟨p,b,l⟩:=q.sl.at (i:=i*4+j) o
  rw [e] at b
  cases b
  rw [R8,l]
  have:=A0v ws d k
  rw [aY o,g] at this
  exact this
 exact ⟨cell 0 o _ rfl,cell 1 o _ rfl,cell 2 o _ rfl,cell 3 o _ rfl⟩
section
variable {h:aS} {K:VP} {m:Nat} {lo hi x:List UInt8} {p q r s:Rat} {a b c d w:QV}
end
def ivB(lo hi:List UInt8):Bool:=decide (C7 (rv lo)=lo)&&(decide (C7 (rv hi)=hi)&&decide (rv lo<=rv hi))
def R5{p q:Rat}(h:p<=q):ivB (C7 p) (C7 q)=true:=by simp [ivB,C1,h]
def Tu{lo hi:List UInt8}(h:ivB lo hi=true):Qi lo hi:=by
 simp only [ivB,aT,decide_eq_true_eq] at h
 exact ⟨rv lo,rv hi,h.1.symm,h.2.1.symm,h.2.2⟩
def Pi{lo hi:List UInt8}(h:¬ Qi lo hi):ivB lo hi=false:=by
 cases e:ivB lo hi with
 | false=>rfl
 | true=>exact absurd (Tu e) h
abbrev R3:=List UInt8 × List UInt8 × Int
abbrev r3(x:R3):aQ:=.tuple #[ivT x.1 x.2.1,I x.2.2]
def A52(lo hi:List UInt8)(k:Int):R3:=if ivB lo hi then (if k<0\/24<k then ([],[],3) else (C7 (N8 (rv lo) (rv hi) k.toNat),C7 (N9 (rv lo) (rv hi) k.toNat),0)) else ([],[],1)
def Kg(lo hi:List UInt8)(k:Int):R3:=if ivB lo hi then (if k<0\/4096<k then ([],[],3) else (C7 ((((rv lo*2^k.toNat).floor:Int):Rat)/2^k.toNat),C7 ((((rv hi*2^k.toNat).ceil:Int):Rat)/2^k.toNat),0)) else ([],[],1)
def A72(lo hi lo2 hi2:List UInt8):R3:=if ivB lo hi&&ivB lo2 hi2 then (C7 (Cr (rv lo) (rv hi) (rv lo2) (rv hi2)),C7 (Cs (rv lo) (rv hi) (rv lo2) (rv hi2)),0) else ([],[],1)
def Vj(lo hi x:List UInt8):Bool:=ivB lo hi&&(decide (C7 (rv x)=x)&&decide (rv lo<=rv x/\rv x<=rv hi))
def Kz{p q r:Rat}(h1:p<=r)(h2:r<=q):Vj (C7 p) (C7 q) (C7 r)=true:=by simp [Vj,R5 (Rat.le_trans h1 h2),C1,h1,h2]
def Sm{lo hi x:List UInt8}(h:¬ (∃ p q r,lo=C7 p/\hi=C7 q/\x=C7 r/\p<=r/\r<=q)):Vj lo hi x=false:=by
 cases e:Vj lo hi x with
 | false=>rfl
 | true=>
  simp only [Vj,aT,decide_eq_true_eq] at e
  obtain ⟨d,c,a,b⟩:=e
  obtain ⟨p,q,rfl,rfl,_⟩:=Tu d
  rw [C1] at a b
  exact absurd ⟨p,q,rv x,rfl,rfl,c.symm,a,b⟩ h
section
variable {h:aS} {K:VP} {m:Nat} {lo hi x lo2 hi2:List UInt8}
def A98(gl:Gl h)(ta:Tx m lo)(tb:Tx m hi)(hm1:1<=m)(hm:m<=10000){k:Int}(hK:K (r3 (A52 lo hi k)) h):aF prog 28 #[ivT lo hi,I k] h K:=by
 refine Yl gl ta tb hm1 hm ?_ ?_ ?_
 ·rintro p q n rfl rfl a rfl b
  rw [A52,iP (R5 a),iN o,C1,C1,aC] at hK;exact hK
 ·rintro ⟨p,q,rfl,rfl,a⟩ c
  rw [A52,iP (R5 a),iP c] at hK;exact hK
 ·intro b
  rw [A52,Pi b,iN (by simp)] at hK;exact hK
def A4d(gl:Gl h)(ta:Tx m lo)(tb:Tx m hi)(hm1:1<=m)(hm:m<=10000){k:Int}(hK:K (r3 (Kg lo hi k)) h):aF prog 13 #[ivT lo hi,I k] h K:=by
 refine Se gl ta tb hm1 hm ?_ ?_ ?_
 ·rintro p q n rfl rfl a rfl b
  rw [Kg,iP (R5 a),iN o,C1,C1,aC] at hK;exact hK
 ·rintro ⟨p,q,rfl,rfl,a⟩ c
  rw [Kg,iP (R5 a),iP c] at hK;exact hK
 ·intro b
  rw [Kg,Pi b,iN (by simp)] at hK;exact hK
def Nx{lo hi lo2 hi2:List UInt8}(h:¬ (Qi lo hi/\Qi lo2 hi2)):(ivB lo hi&&ivB lo2 hi2)=false:=by
 cases e:(ivB lo hi&&ivB lo2 hi2) with
 | false=>rfl
 | true=>
  rw [aT] at e
  exact absurd ⟨Tu e.1,Tu e.2⟩ h
def Ln{p q r s:Rat}(h:p<=q)(h2:r<=s):(ivB (C7 p) (C7 q)&&ivB (C7 r) (C7 s))=true:=by rw [R5 h,R5 h2];rfl
def A99(gl:Gl h)(ta:Tx m lo)(tb:Tx m hi)(tc:Tx m lo2)(td:Tx m hi2)(hm:m<=1000000)(hK:K (r3 (A72 lo hi lo2 hi2)) h):aF prog 27 #[ivT lo hi,ivT lo2 hi2] h K:=by
 refine Ym gl ta tb tc td hm ?_ ?_
 ·rintro p q r s rfl rfl b rfl rfl a
  rw [A72,iP (Ln b a),C1,C1,C1,C1] at hK;exact hK
 ·intro c
  rw [A72,Nx c,iN (by simp)] at hK;exact hK
def Vc(gl:Gl h)(ta:Tx m lo)(tb:Tx m hi)(tx:Tx m x)(hm:m<=1000000000)(hK:K (.bool (Vj lo hi x)) h):aF prog 15 #[ivT lo hi,.string (bs x)] h K:=by
 refine Cw gl ta tb tx hm ?_ ?_
 ·rintro p q r rfl rfl rfl a b;rw [Kz a b] at hK;exact hK
 ·intro c;rw [Sm c] at hK;exact hK
def Pf{ls:List (List UInt8)}{n:Int}{A:Option aV}{c ln:Nat}(sl:SlV h A (ls.map fun l=>aG (bs l)))(hn:ln=ls.length)(hl:ls.length<=1000000000)(hK1:(∀ l∈ls,(l.length:Int)<=n)->K (.bool true) h)(hK0:¬ (∀ l∈ls,(l.length:Int)<=n)->K (.bool false) h):aF prog 23 #[I n,.slice A ln c] h K:=by
 subst hn
 refine (fnk func23 [(2,[5],[],[I 0])]) ?_
 refine ⟨fun L k=>k=h/\∃ i:Nat,i<=ls.length/\(∀ l∈ls.take i,(l.length:Int)<=n)/\L=[I i],fun L _=>ls.length-(iAt L 0).toNat,⟨rfl,0,aU _,by simp,rfl⟩,?_⟩
 rintro t m ⟨rfl,i,r,b,j⟩
 simp only [aN,aM,true_and,and_true] at j
 subst j
 refine B4 (fun e=>?_) (fun e=>?_)
 ·have d:i<ls.length:=o
  obtain ⟨a,p,q⟩:=SlV.at sl (i:=i) (by simpa using d)
  refine ⟨a,p,o,e,bs ls[i],?_,?_⟩
  ·rw [aC,aO,q];simp
  rw [I9,B5 o o]
  refine B4 (fun g=>hK0 fun x=>?_) (fun g=>⟨⟨rfl,i+1,d,?_,rfl⟩,?_⟩)
  ·have:=x ls[i] (aK d);omega
  ·intro l hl
   rw [aD d] at hl
   rcases List.mem_append.1 hl with hl|hl
   ·exact b l hl
   ·rw [List.mem_singleton.1 hl];omega
  ·simp [iAt];omega
 ·obtain rfl:i=ls.length:=o
  rw [aH] at b
  exact hK1 b
def F8(x:List UInt8 × List UInt8):List aQ:=[.string (bs x.1),.string (bs x.2)]
def Kr(l:List (List UInt8 × List UInt8)):(l.flatMap F8).length=l.length*2:=by
 induction l with
 | nil=>rfl
 | cons w l ih=>rw [aJ,List.length_append,ih,aR];simp [F8];omega
def Ph(l:List (List UInt8 × List UInt8)):∀ {i:Nat} (hi:i<l.length) {j:Nat} (hj:j<2),(l.flatMap F8)[i*2+j]? = (F8 l[i])[j]? :=by
 induction l with
 | nil=>intro i hi;simp at hi
 | cons w l ih=>
  intro i hi j hj
  rw [aJ]
  cases i with
  | zero=>rw [aX (by simp [F8];omega)];simp
  | succ i=>
   rw [aW (by simp [F8];omega)]
   have:=ih (i:=i) (by simpa using hi) hj
   simp only [bB]
   rw [<- this]
   congr 1
   simp [F8];omega
def Iu{l:List (List UInt8 × List UInt8)}{A:Option aV}(sl:SlV h A (l.flatMap F8)){i:Nat}(hi:i<l.length):∃ a,A=some a/\Heap.cell? h (aE (aE a (i*2)) 0)=some (.string (bs l[i].1))/\Heap.cell? h (aE (aE a (i*2)) 1)=some (.string (bs l[i].2)):=by
 have k:=Kr l
 obtain ⟨a,c,_⟩:=sl.at (i:=0) o
 refine ⟨a,c,?_⟩
 have cell:∀ j,j<2->∀ v,(F8 l[i])[j]? = some v->Heap.cell? h (aE (aE a (i*2)) j)=some v:=by
  intro j d v e
  obtain ⟨m,b,g⟩:=sl.at (i:=i*2+j) o
  rw [c] at b
  cases b
  rw [R8,g]
  have:=Ph l hi d
  rw [aY o,e] at this
  exact this
 exact ⟨cell 0 o _ rfl,cell 1 o _ rfl⟩
def Sc{l:List (List UInt8 × List UInt8)}{A:Option aV}{c ln:Nat}(sl:SlV h A (l.flatMap F8))(hn:ln=l.length)(hl:l.length<=1000000000)(hK1:(∀ x∈l,x.1.length<=20/\x.2.length<=20)->K (.bool true) h)(hK0:¬ (∀ x∈l,x.1.length<=20/\x.2.length<=20)->K (.bool false) h):aF prog 9 #[.slice A ln c] h K:=by
 subst hn
 refine FCall.pure ((fnk func9 [(2,[3],[],[I 0])]) ?_)
 refine ⟨fun L s=>h.le s/\∃ i:Nat,i<=l.length/\(∀ x∈l.take i,x.1.length<=20/\x.2.length<=20)/\L=[I i],fun L _=>l.length-(iAt L 0).toNat,⟨B3 _,0,aU _,by simp,rfl⟩,?_⟩
 rintro t u ⟨m,i,D,d,r⟩
 simp only [aN,aM,true_and,and_true] at r
 subst r
 refine B4 (fun e=>?_) (fun e=>?_)
 ·have j:i<l.length:=o
  obtain ⟨a,q,c0,c1⟩:=Iu (sl.mono m) j
  refine ⟨a,q,o,e,bs l[i].1,by rw [aC];exact c0,a,q,o,e,bs l[i].2,by rw [aC];exact c1,?_⟩
  refine Bk R1 (ls:=[l[i].1,l[i].2]) rfl (by simp) rfl ?_
  intro b B n w
  refine ⟨_,_,_,rfl,n,?_⟩
  rw [B5 o o]
  refine Pf w rfl (by simp) (fun g=>⟨_,rfl,B3 _,⟨⟨A0 m n,i+1,j,?_,rfl⟩,?_⟩⟩) (fun g=>⟨_,rfl,B3 _,A0 m n,hK0 fun x=>?_⟩)
  ·intro x k
   rw [aD j] at k
   rcases List.mem_append.1 k with k|k
   ·exact d x k
   ·rw [List.mem_singleton.1 k]
    have C:=g l[i].1 (by simp)
    have z:=g l[i].2 (by simp)
    omega
  ·simp [iAt];omega
  ·have:=x l[i] (aK j)
   refine g fun y p=>?_
   simp only [List.mem_cons,List.not_mem_nil,or_false] at p
   rcases p with rfl|rfl<;>omega
 ·obtain rfl:i=l.length:=o
  rw [aH] at d
  exact ⟨m,hK1 d⟩
def A5a:C7 (-1)=[45,49]:=by
 have a:(-1:Rat).num= -1:=by decide +kernel
 have b:(-1:Rat).den=1:=by decide +kernel
 simp [C7,Ds,a,b,J1,O2,G0,dch]
def A7y:C7 (-2)=[45,50]:=by
 have a:(-2:Rat).num= -2:=by decide +kernel
 have b:(-2:Rat).den=1:=by decide +kernel
 simp [C7,Ds,a,b,J1,O2,G0,dch]
def A9w:C7 4=[52]:=by
 have a:(4:Rat).num=4:=by decide +kernel
 have b:(4:Rat).den=1:=by decide +kernel
 simp [C7,Ds,a,b,J1,O2,G0,dch]
def A5b:C7 (1/3)=[49,47,51]:=by
 have a:(1/3:Rat).num=1:=by decide +kernel
 have b:(1/3:Rat).den=3:=by decide +kernel
 simp [C7,Ds,a,b,J1,O2,G0,dch]
def A7z:C7 (1/4)=[49,47,52]:=by
 have a:(1/4:Rat).num=1:=by decide +kernel
 have b:(1/4:Rat).den=4:=by decide +kernel
 simp [C7,Ds,a,b,J1,O2,G0,dch]
def A84{q:Rat}(h:decide (q.num.natAbs<65536/\q.den<65536)=true):Sz 16 q:=by
 have:=of_decide_eq_true h
 exact ⟨by unfold ZB;exact this.1,by unfold ZB;simpa using this.2⟩
def A80(a:Array UInt8):({ data:=a }:ByteArray)=bs a.toList:=by simp [bs]
def Vp(gl:Gl h)(hK:K (.bool true) h):aF prog 11 #[] h K:=by
 refine (fnk func11 (own:=[1,2,4,6])) ?_
 have d:Tx 16 (C7 (-1)):=Tx.of (A84 (by decide +kernel)) o
 have c:Tx 16 (C7 2):=Tx.of (A84 (by decide +kernel)) o
 have e:Tx 16 (C7 (1/3)):=Tx.of (A84 (by decide +kernel)) o
 show aF _ _ #[ivT [45,49] [50],ivT [45,49] [50]] _ _
 rw [<- A5a,<- Qz]
 refine A99 gl d c d c o ?_
 have i:A72 (C7 (-1)) (C7 2) (C7 (-1)) (C7 2)=(C7 (-2),C7 4,0):=by
  rw [A72,iP (Ln (by decide +kernel) (by decide +kernel)),C1,C1]
  have a:Cr (-1) 2 (-1) 2= -2:=by decide +kernel
  have b:Cs (-1) 2 (-1) 2=4:=by decide +kernel
  rw [a,b]
 rw [i]
 refine ⟨_,_,_,rfl,?_⟩
 show aF _ _ #[ivT (C7 (-1)) (C7 2),I 2] _ _
 refine A98 gl d c o o ?_
 have j:A52 (C7 (-1)) (C7 2) 2=(C7 0,C7 4,0):=by
  rw [A52,iP (R5 (by decide +kernel)),iN o,C1,C1]
  have a:N8 (-1) 2 (2:Int).toNat=0:=by decide +kernel
  have b:N9 (-1) 2 (2:Int).toNat=4:=by decide +kernel
  rw [a,b]
 rw [j]
 refine ⟨_,_,_,rfl,?_⟩
 show aF _ _ #[ivT [49,47,51] [49,47,51],I 2] _ _
 rw [<- A5b]
 refine A4d gl e e o o ?_
 have g:Kg (C7 (1/3)) (C7 (1/3)) 2=(C7 (1/4),C7 (1/2),0):=by
  rw [Kg,iP (R5 (by decide +kernel)),iN o,C1]
  have a:((((1/3:Rat)*2^(2:Int).toNat).floor:Int):Rat)/2^(2:Int).toNat=1/4:=by decide +kernel
  have b:((((1/3:Rat)*2^(2:Int).toNat).ceil:Int):Rat)/2^(2:Int).toNat=1/2:=by decide +kernel
  rw [a,b]
 rw [g]
 refine ⟨_,_,_,rfl,?_⟩
 simp only [A7y,A9w,Wl,A7z,A1h,Qz,A5a,A5b,A80,Gz]
 exact hK
end
section
set_option maxRecDepth 100000
variable {h:aS} {K:VP}
end
section
set_option maxRecDepth 100000
variable {h:aS} {K:VP}
def A5d:SliceT prog 113 3 (I 0) 1 8:=⟨by kernel_rfl,by kernel_rfl,rfl,dc⟩
def A9m:SliceT prog 132 93 (Qv false none 0 0 false none 0 0) 4 64:=⟨by kernel_rfl,by kernel_rfl,rfl,dc⟩
def A0i:prog.cellsOf 93=4/\(prog.info? 93).isSome=true:=⟨by kernel_rfl,by kernel_rfl⟩
def tZs:SliceT prog 189 91 (Zv false none 0 0) 2 32:=⟨by kernel_rfl,by kernel_rfl,rfl,dc⟩
def A37:prog.cellsOf 91=2/\(prog.info? 91).isSome=true:=⟨by kernel_rfl,by kernel_rfl⟩
end
section
set_option maxRecDepth 100000
variable {h:aS} {K:VP}
end
section
set_option maxRecDepth 100000
variable {h:aS} {K:VP}
def Y7:SliceT prog 129 203 (.agg #[I 0,I 0,I 0,I 0,I 0,I 0,.bool false,Sl none 0 0,.bool false,Sl none 0 0]) 10 112:=⟨by kernel_rfl,by kernel_rfl,rfl,dc⟩
def Of:prog.cellsOf 203=10/\(prog.info? 203).isSome=true:=⟨by kernel_rfl,by kernel_rfl⟩
def A83:SliceT prog 126 65 (N0) 1 24:=⟨by kernel_rfl,by kernel_rfl,rfl,dc⟩
def Wr:prog.cellsOf 65=1/\(prog.info? 65).isSome=true:=⟨by kernel_rfl,by kernel_rfl⟩
def Om:prog.cellsOf 93=4/\(prog.info? 93).isSome=true:=⟨by kernel_rfl,by kernel_rfl⟩
end
def Sk:List Int->Int->Int
 | [],d=>d
 | e::r,d=>if e<0\/e>24-d then -1 else Sk r (d+e)
def A7b(xs:List Int):Int:=if xs.length>6 then -1 else Sk xs 0
def Wf(xs:List Int):Bool:=decide (0<=A7b xs)
def Vi{xs:List Int}{k:Nat}{d:Int}(hk:k<xs.length):Sk (xs.drop k) d=if xs.getD k 0<0\/xs.getD k 0>24-d then -1 else Sk (xs.drop (k+1)) (d+xs.getD k 0):=by
 rw [List.drop_eq_getElem_cons hk,Sk]
 simp [List.getD,hk]
def Mm{xs:List Int}{A:Option aV}{c:Nat}{h:aS}{K:VP}(s:SlI .i64 h A xs)(hK:K (I (A7b xs)) h):aF prog 218 #[.slice A xs.length c] h K:=by
 refine (fnk func218 [(5,[3,11],[],[I 0,I 0])]) ?_
 refine B4 (fun y=>?_) (fun y=>?_)
 ·have:xs.length>6:=o
  simpa [A7b,this] using hK
 ·have u:¬ xs.length>6:=o
  refine ⟨fun l r=>∃ (k:Nat) (d:Int),l=[I d,I k]/\k<=xs.length/\0<=d/\d<=24/\A7b xs=Sk (xs.drop k) d/\r=h,fun l _=>xs.length-(iAt l 1).toNat,⟨0,0,rfl,o,o,o,by simp [A7b,u],rfl⟩,?_⟩
  rintro a i B ⟨k,d,w,C,z,q,e,rfl⟩
  obtain ⟨rfl,rfl⟩:a=d/\i=(k:Int):=by simpa using w
  refine B4 (fun x=>?_) (fun x=>?_)
  ·refine s.load rfl o o ?_
   have g:k<xs.length:=o
   rw [aC]
   have b:=Vi (d:=a) g
   have p:B7 (24-a)=24-a:=B5 o o
   refine B4 (fun m=>?_) (fun m=>?_)
   ·rw [e,b,iP (.inl m)] at hK;exact hK
   ·rw [p]
    refine B4 (fun j=>?_) (fun j=>?_)
    ·rw [e,b,iP (.inr j)] at hK;exact hK
    ·rw [B5 (n:=a+xs.getD k 0) o o,B5 (n:=(k:Int)+1) o o]
     refine ⟨⟨k+1,a+xs.getD k 0,by simp,o,o,o,?_,rfl⟩,by simp only [iAt,aZ,aL];omega⟩
     rw [e,b,iN o]
  ·have:k=xs.length:=o
   subst this
   rw [e] at hK;simpa [Sk] using hK
def Gw{xs:List Int}{A:Option aV}{c:Nat}{h:aS}{K:VP}(s:SlI .i64 h A xs)(hK:K (.bool (Wf xs)) h):aF prog 159 #[.slice A xs.length c] h K:=by
 refine (fnk func159) ?_
 exact Mm s ⟨_,rfl,by simpa [Wf] using hK⟩
def Re{l:List Int}(h:∀ x∈l,0<=x):0<=l.sum:=by
 induction l with
 | nil=>simp
 | cons x l ih=>have:=ih (fun y a=>h y (by simp [a]));have:=h x (by simp);simp;omega
def Ec{xs:List Int}{k:Nat}(hk:k<xs.length):(xs.take (k+1)).sum=(xs.take k).sum+xs.getD k 0:=by
 rw [aD hk,List.sum_append];simp [List.getD,hk]
structure ExB (xs:List Int):Prop where
 len:xs.length<=6
 all:∀ x∈xs,0<=x/\x<=1048576
def A38{l:List Int}(h:∀ x∈l,x<=1048576):l.sum<=1048576*(l.length:Int):=by
 induction l with
 | nil=>simp
 | cons x l ih=>have:=ih (fun y a=>h y (by simp [a]));have:=h x (by simp);simp only [List.sum_cons,aR];omega
def Ib{xs:List Int}(h:ExB xs)(k:Nat):0<=(xs.take k).sum/\(xs.take k).sum<=6291456:=by
 refine ⟨Re fun x a=>(h.all x (aI a)).1,?_⟩
 have:=A38 (l:=xs.take k) fun x a=>(h.all x (aI a)).2
 have:=h.len
 have:(xs.take k).length<=6:=by simp;omega
 omega
def Dg(a b:List Int):Nat->Int
 | 0=>0
 | k+1=>if a.getD k 0≠b.getD k 0 then U5 (b.getD k 0) (a.getD k 0) else Dg a b k
def A6x(a b:List Int):Int:=if a.sum≠b.sum then U5 a.sum b.sum else Dg a b a.length
section
variable {h:aS} {K:VP} {a b:List Int} {A B:Option aV} {ac bc:Nat}
def Il(hl:a.length=b.length)(va:ExB a)(vb:ExB b)(sa:SlI .i64 h A a)(sb:SlI .i64 h B b)(hK:K (I (A6x a b)) h):aF prog 217 #[.slice A a.length ac,.slice B b.length bc] h K:=by
 have C:=va.len
 refine (fnk func217 [(3,[5,6,12],[],[I 0,I 0,I 0]),(11,[9],[],[I 0])]) ?_
 refine ⟨fun l g=>∃ k:Nat,l=[I (a.take k).sum,I (b.take k).sum,I k]/\k<=a.length/\g=h,fun l _=>a.length-(iAt l 2).toNat,⟨0,by simp,o,rfl⟩,?_⟩
 rintro r D i e ⟨k,n,F,rfl⟩
 obtain ⟨rfl,rfl,rfl⟩:r=(a.take k).sum/\D=(b.take k).sum/\i=(k:Int):=by simpa using n
 have G:=Ib va (k+1)
 have E:=Ib vb (k+1)
 refine B4 (fun u=>?_) (fun u=>?_)
 ·refine sa.load rfl o o ?_
  refine sb.load rfl o o ?_
  rw [aC,<- Ec o,<- Ec o,B5 o o,B5 o o,B5 o o]
  exact ⟨⟨k+1,by simp,o,rfl⟩,by simp only [iAt,aZ,aL];omega⟩
 ·have q:k=a.length:=o
  subst q
  rw [aH,show b.take a.length=b by rw [hl];exact aH]
  refine H9 (fun p=>Jg ⟨_,rfl,by simpa [A6x,p] using hK⟩) (fun p=>?_)
  have y:A6x a b=Dg a b a.length:=by simp [A6x,p]
  rw [y] at hK
  refine ⟨fun l g=>∃ k:Nat,l=[I ((k:Int)-1)]/\k<=a.length/\Dg a b a.length=Dg a b k/\g=e,fun l _=>(iAt l 0+1).toNat,⟨a.length,by rw [B5 o o],o,rfl,rfl⟩,?_⟩
  rintro i z ⟨k,d,s,c,rfl⟩
  obtain rfl:i=(k:Int)-1:=by simpa using d
  refine B4 (fun x=>?_) (fun x=>?_)
  ·obtain ⟨k,rfl⟩:∃ m,k=m+1:=⟨k-1,o⟩
   have w:((k+1:Nat):Int)-1=(k:Int):=o
   rw [w]
   refine sa.load rfl o o ?_
   refine sb.load rfl o o ?_
   rw [aC]
   refine H9 (fun j=>?_) (fun j=>?_)
   ·refine sb.load rfl o o ?_
    refine sa.load rfl o o ?_
    rw [aC]
    refine Jg ⟨_,rfl,B3 _,?_⟩
    rw [c,Dg,iP j] at hK;exact hK
   ·rw [B5 o o]
    refine ⟨⟨k,rfl,o,?_,rfl⟩,by simp only [iAt,aL];omega⟩
    rw [c,Dg,iN (by simpa using j)]
  ·have:k=0:=o
   subst this
   rw [c] at hK;exact hK
end
