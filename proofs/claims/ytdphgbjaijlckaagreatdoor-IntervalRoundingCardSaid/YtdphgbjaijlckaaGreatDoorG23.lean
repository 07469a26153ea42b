/- A part. -/
import Derived.Test.YtdphgbjaijlckaaGreatDoorG22
import Derived.Test.YtdphgbjaijlckaaGreatDoorG19
import Derived.Test.YtdphgbjaijlckaaGreatDoorG21
import Derived.Test.YtdphgbjaijlckaaGreatDoorRows
import Derived.Lib.LaidTab
open Go.Proofs.Tryz
set_option linter.all false
open _root_.Go.Addr renaming add->aE
open Bool renaming and_eq_true->aL
open _root_.Go.Instr renaming buildSlice->aX
open Int renaming toNat_natCast->aC,natAbs_natCast->aU
open List renaming take_succ_eq_append_getElem->aD,flatMap_cons->aG,take_length->aJ,getElem_mem->aK,getElem?_append_right->aZ,getElem?_append_left->bA,getElem?_eq_getElem->bB,getElem_cons_succ->bC
open List.cons renaming injEq->aQ
open Nat renaming mul_one->aT,zero_le->aY
open Rat renaming ceil_eq_neg_floor_neg->aI,pow_zero->aM,pow_succ->aN,intCast_mul->aP,mul_nonneg->aS,le_trans->aV,le_of_lt->aW
open _root_.Go.Value renaming string->aH
open _root_.Go.Value.int renaming injEq->aO
open _root_.Go renaming Value->aR,Addr->bE
open _root_.Go.Proofs.YtdphgbjaijlckaaGreatDoor renaming FCall->aF,Heap->bD
namespace Go.Proofs.YtdphgbjaijlckaaGreatDoor
set_option maxRecDepth 20000
open Go
section
variable {h h':bD} {K:VP} {A B:Option bE} {n c n' c':Nat} {s s':Bool} {x y z:Int} {m:Nat}
end
def A5y(h:bD)(r:aR)(h':bD):Prop:=r= .bool true/\h.le h'
def A4i{x:List UInt8}{k:Nat}(hl:x.length<=k)(hk:1<=k):Sz (4*k) (rv x):=by
 by_cases d:IsNum x
 ·obtain ⟨neg,a,b,f⟩:=d.form
  obtain ⟨i,g⟩:=f.rv_num d
  have e:=f.lens
  have c:(Gd neg a).natAbs=F9 a:=by unfold Gd;split<;>simp
  refine ⟨?_,?_⟩
  ·rw [i];exact (Ez f.da (k:=k) o).le (by rw [c,aU];exact Nat.le_refl _)
  ·rw [g]
   unfold Cv
   split
   ·exact ZB.one o
   ·exact Ez f.db o
 ·rw [Qg d];exact Sz.zero o
def Lg{x:List UInt8}{k:Nat}(hl:x.length<=k)(hk:1<=k)(hk2:k<=140737488351232):Tx (4*k) x:=⟨o,A4i hl hk⟩
def Tx.mono{m n:Nat}{x:List UInt8}(t:Tx m x)(h:m<=n):Tx n x:=⟨t.len,t.sz.mono h⟩
def Wq(lo hi:List UInt8):Prop:=∃ p q,lo=D5 p/\hi=D5 q/\p<=q
abbrev ivT(lo hi:List UInt8):aR:=.agg #[.string (bs lo),.string (bs hi)]
abbrev ivS(p q:Rat):aR:=ivT (D5 p) (D5 q)
def A19(l:List Rat):∀ p,mnL p l=p\/mnL p l∈l:=by
 induction l with
 | nil=>intro p;exact .inl rfl
 | cons q l ih=>
  intro p
  rw [Yf]
  rcases ih (mn p q) with h|h
  ·rcases A5i p q with e|e
   ·rw [h,e];exact .inl rfl
   ·rw [h,e];exact .inr (by simp)
  ·exact .inr (by simp [h])
def A18(l:List Rat):∀ p,mxL p l=p\/mxL p l∈l:=by
 induction l with
 | nil=>intro p;exact .inl rfl
 | cons q l ih=>
  intro p
  rw [Yb]
  rcases ih (mx p q) with h|h
  ·rcases A5g p q with e|e
   ·rw [h,e];exact .inl rfl
   ·rw [h,e];exact .inr (by simp)
  ·exact .inr (by simp [h])
def Sz.mnL{m:Nat}{p:Rat}{l:List Rat}(hp:Sz m p)(hl:∀ q∈l,Sz m q):Sz m (mnL p l):=by
 rcases A19 l p with e|e
 ·rw [e];exact hp
 ·exact hl _ e
def Sz.mxL{m:Nat}{p:Rat}{l:List Rat}(hp:Sz m p)(hl:∀ q∈l,Sz m q):Sz m (mxL p l):=by
 rcases A18 l p with e|e
 ·rw [e];exact hp
 ·exact hl _ e
section
variable {h:bD} {K:VP} {m:Nat} {lo hi x:List UInt8} {p q r s:Rat}
def Rx{qs:List Rat}{A:Option bE}{n c:Nat}(gl:Gl h)(hn:n=qs.length)(sl:SlV h A (qs.map fun q=>aH (bs (D5 q))))(hp:Sz m p)(hq:∀ q∈qs,Sz m q)(hm:m<=10000000)(hl:qs.length<=1000)
 (hK:K (.string (bs (D5 (mnL p qs)))) h):aF prog 97 #[.string (bs (D5 p)),.slice A n c] h K:=by
 subst hn
 refine (fnk func97 [(2,[0,9],[],[.string ⟨#[]⟩,I 0])]) ?_
 refine ⟨fun L hp=>hp=h/\∃ i:Nat,i<=qs.length/\L=[.string (bs (D5 (mnL p (qs.take i)))),I i],fun L _=>(qs.length-(iAt L 1).toNat),⟨rfl,0,aY _,rfl⟩,?_⟩
 rintro f x l ⟨rfl,i,y,k⟩
 simp only [aQ,Value.string.injEq,aO,true_and,and_true] at k
 obtain ⟨rfl,rfl⟩:=k
 have r:Sz m (mnL p (qs.take i)):=hp.mnL fun q h=>hq q (List.mem_of_mem_take h)
 refine B5 (fun e=>?_) (fun e=>?_)
 ·have b:i<qs.length:=o
  obtain ⟨a,u,w⟩:=SlV.at sl (i:=i) (by simpa using b)
  refine ⟨a,u,o,e,bs (D5 qs[i]),?_,?_⟩
  ·rw [aC,aT,w];simp
  have d:mnL p (qs.take (i+1))=mn (mnL p (qs.take i)) qs[i]:=by rw [aD b,Ye]
  have g:=hq qs[i] (aK b)
  refine G7 gl (Tx.of g o) (Tx.of r o) o ⟨_,rfl,?_⟩
  rw [C3,C3,B4 o o]
  refine B5 (fun j=>⟨⟨rfl,i+1,b,?_⟩,?_⟩) (fun j=>⟨⟨rfl,i+1,b,?_⟩,?_⟩)
  ·rw [d,mn,iP (Pk.1 j)];rfl
  ·simp [iAt];omega
  ·rw [d,mn,iN (fun s=>j (Pk.2 s))];rfl
  ·simp [iAt];omega
 ·obtain rfl:i=qs.length:=o
  rw [aJ];exact hK
def Kq{qs:List Rat}{A:Option bE}{n c:Nat}(gl:Gl h)(hn:n=qs.length)(sl:SlV h A (qs.map fun q=>aH (bs (D5 q))))(hp:Sz m p)(hq:∀ q∈qs,Sz m q)(hm:m<=10000000)(hl:qs.length<=1000)
 (hK:K (.string (bs (D5 (mxL p qs)))) h):aF prog 98 #[.string (bs (D5 p)),.slice A n c] h K:=by
 subst hn
 refine (fnk func98 [(2,[0,9],[],[.string ⟨#[]⟩,I 0])]) ?_
 refine ⟨fun L hp=>hp=h/\∃ i:Nat,i<=qs.length/\L=[.string (bs (D5 (mxL p (qs.take i)))),I i],fun L _=>(qs.length-(iAt L 1).toNat),⟨rfl,0,aY _,rfl⟩,?_⟩
 rintro f x l ⟨rfl,i,y,k⟩
 simp only [aQ,Value.string.injEq,aO,true_and,and_true] at k
 obtain ⟨rfl,rfl⟩:=k
 have r:Sz m (mxL p (qs.take i)):=hp.mxL fun q h=>hq q (List.mem_of_mem_take h)
 refine B5 (fun e=>?_) (fun e=>?_)
 ·have b:i<qs.length:=o
  obtain ⟨a,u,w⟩:=SlV.at sl (i:=i) (by simpa using b)
  refine ⟨a,u,o,e,bs (D5 qs[i]),?_,?_⟩
  ·rw [aC,aT,w];simp
  have d:mxL p (qs.take (i+1))=mx (mxL p (qs.take i)) qs[i]:=by rw [aD b,Ya]
  have g:=hq qs[i] (aK b)
  refine G7 gl (Tx.of g o) (Tx.of r o) o ⟨_,rfl,?_⟩
  rw [C3,C3,B4 o o]
  refine B5 (fun j=>⟨⟨rfl,i+1,b,?_⟩,?_⟩) (fun j=>⟨⟨rfl,i+1,b,?_⟩,?_⟩)
  ·rw [d,mx,iP (Fc.1 j)];rfl
  ·simp [iAt];omega
  ·rw [d,mx,iN (fun s=>j (Fc.2 s))];rfl
  ·simp [iAt];omega
 ·obtain rfl:i=qs.length:=o
  rw [aJ];exact hK
def Hm{qs:List Rat}{A:Option bE}{n c:Nat}(gl:Gl h)(hn:n=qs.length)(sl:SlV h A (qs.map fun q=>aH (bs (D5 q))))(hp:Sz m p)(hq:∀ q∈qs,Sz m q)(hm:m<=10000000)(hl:qs.length<=1000)
 (hK:K (ivS (mnL p qs) (mxL p qs)) h):aF prog 145 #[.string (bs (D5 p)),.slice A n c] h K:=by
 refine (fnk func145 (own:=[4])) ?_
 exact Rx gl hn sl hp hq hm hl ⟨_,rfl,Kq gl hn sl hp hq hm hl ⟨_,rfl,hK⟩⟩
def Tq{qs:List Rat}{K2:VP}{n:Nat}{ps:Array (Nat × aR)}(gl:Gl h)(hn:n=qs.length)(hps:ps.toList=(List.range' 0 (qs.map fun q=>aH (bs (D5 q))).length).zip (qs.map fun q=>aH (bs (D5 q))))(hp:Sz m p)(hq:∀ q∈qs,Sz m q)(hm:m<=10000000)(hl:qs.length<=1000)
 (hK:∀ h',h.le h'->K2 (ivS (mnL p qs) (mxL p qs)) h'):wpH prog (aX 52 n ps) (fun v hp=>∃ (A:Option bE) (n c:Nat),v= .slice A n c/\aF prog 145 #[.string (bs (D5 p)),.slice A n c] hp (fun r4 hp5=>∃ (t260:ByteArray) (t261:ByteArray),r4= .agg #[.string t260,.string t261]/\K2 (.agg #[.string t260,.string t261]) hp5)) h:=by
 have e:(qs.map D5).map (fun l=>aH (bs l))=qs.map fun q=>aH (bs (D5 q)):=by simp
 refine Pe Kd (ls:=qs.map D5) (by simpa using hn) o (by rw [e];exact hps) ?_
 intro b h' a sl
 rw [e] at sl
 exact ⟨_,_,_,rfl,Hm (gl.mono a) hn sl hp hq hm hl ⟨_,_,rfl,hK h' a⟩⟩
def N9(gl:Gl h)(ta:Tx m lo)(tb:Tx m hi)(hm:m<=1000000000)(hK1:∀ p q,lo=D5 p->hi=D5 q->p<=q->K (.bool true) h)(hK0:¬ Wq lo hi->K (.bool false) h):aF prog 10 #[ivT lo hi] h K:=by
 refine (fnk func10 (own:=[1])) ?_
 refine Bp gl ta.len (fun a=>⟨_,rfl,?_⟩) (fun a=>⟨_,rfl,hK0 fun ⟨p,q,e,_⟩=>a ⟨p,e⟩⟩)
 obtain ⟨p,rfl⟩:=a
 refine Bp gl tb.len (fun a=>⟨_,rfl,?_⟩) (fun a=>⟨_,rfl,hK0 fun ⟨p,q,_,e,_⟩=>a ⟨q,e⟩⟩)
 obtain ⟨q,rfl⟩:=a
 refine G7 gl ta tb o ⟨_,rfl,?_⟩
 rw [C3,C3]
 by_cases b:p<=q
 ·rw [decide_eq_true (Fb.2 b)];exact hK1 p q rfl rfl b
 ·rw [decide_eq_false (fun e=>b (Fb.1 e))]
  refine hK0 ?_
  rintro ⟨i,j,c,g,d⟩
  rw [Bt c,Bt g] at b;exact b d
def Il(gl:Gl h)(ta:Tx m lo)(tb:Tx m hi)(tx:Tx m x)(hm:m<=1000000000)(hK1:∀ p q r,lo=D5 p->hi=D5 q->x=D5 r->p<=r->r<=q->K (.bool true) h)(hK0:¬ (∃ p q r,lo=D5 p/\hi=D5 q/\x=D5 r/\p<=r/\r<=q)->K (.bool false) h):aF prog 15 #[ivT lo hi,.string (bs x)] h K:=by
 refine (fnk func15 (own:=[2])) ?_
 refine N9 gl ta tb hm (fun p q a b n=>⟨_,rfl,?_⟩) (fun d=>⟨_,rfl,hK0 fun ⟨p,q,r,a,b,_,i,g⟩=>d ⟨p,q,a,b,aV i g⟩⟩)
 refine Bp gl tx.len (fun d=>⟨_,rfl,?_⟩) (fun d=>⟨_,rfl,hK0 fun ⟨p,q,r,_,_,e,_⟩=>d ⟨r,e⟩⟩)
 obtain ⟨r,s⟩:=d
 subst a b s
 refine G7 gl ta tx o ⟨_,rfl,?_⟩
 rw [C3,C3]
 refine B5 (fun e=>?_) (fun e=>hK0 ?_)
 ·refine G7 gl tx tb o ⟨_,rfl,?_⟩
  rw [C3,C3]
  by_cases c:r<=q
  ·rw [decide_eq_true (Fb.2 c)];exact hK1 p q r rfl rfl rfl (Fb.1 e) c
  ·rw [decide_eq_false (fun e=>c (Fb.1 e))]
   refine hK0 ?_
   rintro ⟨l,u,k,a,b,j,i,g⟩
   rw [Bt b,Bt j] at c;exact c g
 ·rintro ⟨l,u,k,a,b,j,i,g⟩
  rw [Bt a,Bt j] at e;exact e (Fb.2 i)
def Yi:D5 (1/2)=[49,47,50]:=by
 have a:(1/2:Rat).num=1:=by decide +kernel
 have b:(1/2:Rat).den=2:=by decide +kernel
 simp [D5,Ag,a,b,H2,L3,E9,dch]
def A3j:Sz 1 1:=⟨by unfold ZB;decide +kernel,by unfold ZB;decide +kernel⟩
def Ka:D5 2=[50]:=by
 have a:(2:Rat).num=2:=rfl
 have b:(2:Rat).den=1:=rfl
 simp [D5,Ag,a,b,H2,L3,E9,dch]
def Tf:Sz 2 2:=⟨by unfold ZB;decide +kernel,by unfold ZB;decide +kernel⟩
def Sa(gl:Gl h)(hp:Sz m p)(hq:Sz m q)(hr:Sz m r)(hs:Sz m s)(hm:m<=1000000)(hK:K (ivS (Yc p q r s) (Yd p q r s)) h):aF prog 77 #[ivS p q,ivS r s] h K:=by
 refine FCall.pure ((fnk func77 (os:=[(1,[0,1,2,3,5,6,7,8,10,11,12,13,15,16,17,18,4,9,14,19,20,21,22])]) (own:=[2,3,4])) ?_)
 refine R9 gl (Tx.of hp o) (Tx.of hr o) o ⟨_,rfl,B3 _,?_⟩
 refine R9 gl (Tx.of hp o) (Tx.of hs o) o ⟨_,rfl,B3 _,?_⟩
 refine R9 gl (Tx.of hq o) (Tx.of hr o) o ⟨_,rfl,B3 _,?_⟩
 refine R9 gl (Tx.of hq o) (Tx.of hs o) o ⟨_,rfl,B3 _,?_⟩
 rw [C3,C3,C3,C3]
 have e:=(hp.mul hr)
 have a:∀ t∈[p*s,q*r,q*s],Sz (m+m) t:=by
  intro t d
  simp only [List.mem_cons,List.not_mem_nil,or_false] at d
  rcases d with rfl|rfl|rfl
  ·exact hp.mul hs
  ·exact hq.mul hr
  ·exact hq.mul hs
 refine Pe Kd (ls:=[D5 (p*s),D5 (q*r),D5 (q*s)]) rfl (by simp) rfl ?_
 intro b g c sl
 refine ⟨_,_,_,rfl,c,?_⟩
 refine Hm (qs:=[p*s,q*r,q*s]) (gl.mono c) rfl sl e a o (by simp) ⟨_,_,rfl,B3 _,c,hK⟩
def Tt{q:Rat}:q.num.sign<0↔q<0:=by rw [Int.sign_neg_iff,Rat.lt_iff];simp
def Tu{q:Rat}:0<q.num.sign↔0<q:=by rw [Int.sign_pos_iff,Rat.lt_iff];simp
def Rz{k:Nat}(gl:Gl h)(hp:Sz m p)(hq:Sz m q)(hm1:1<=m)(hk:k<=1000)(hm:m*k+1<=1000000)(hmm:m<=1000000)(hK:K (ivS (Rr p q k) (Rs p q k)) h):aF prog 78 #[ivS p q,I (k:Int)] h K:=by
 refine FCall.pure ((fnk func78 (own:=[2,4])) ?_)
 have z:({ data:=#[48] }:ByteArray)=bs (D5 0):=by rw [A06];rfl
 refine De gl (Tx.of hp o) hm1 (by simpa using (show m*k+1<=40000000 from o)) o ?_ (fun _ g=>o) (fun g=>o)
 intro _ _ _
 refine ⟨_,_,rfl,?_⟩
 refine De gl (Tx.of hq o) hm1 (by simpa using (show m*k+1<=40000000 from o)) o ?_ (fun _ g=>o) (fun g=>o)
 intro _ _ _
 refine ⟨_,_,rfl,?_⟩
 rw [C3,C3,aU]
 have u:=hp.pow hm1 k
 have x:=hq.pow hm1 k
 have a:¬ (0<k/\k%2=0/\p<0/\0<q)->wpH prog (aX 52 1 #[(0,.string (bs (D5 (q^k))))]) (fun v hp=>∃ (A:Option bE) (n c:Nat),v= .slice A n c/\aF prog 145 #[.string (bs (D5 (p^k))),.slice A n c] hp (fun y s=>∃ (t260:ByteArray) (t261:ByteArray),y= .agg #[.string t260,.string t261]/\h.le s/\K (.agg #[.string t260,.string t261]) h)) h:=by
  intro w
  refine Tq (K2:=fun r e=>h.le e/\K r h) (qs:=[q^k]) gl rfl rfl u (fun t b=>by simp at b;subst b;exact x) o (by simp) (fun e j=>⟨j,?_⟩)
  unfold Rr Rs at hK
  rw [iN w,iN w] at hK
  exact hK
 have b:Int.tmod (k:Int) 2=((k%2:Nat):Int):=by rw [Int.tmod_eq_emod_of_nonneg o];omega
 rw [b]
 refine B5 (fun B=>?_) (fun B=>a o)
 refine D6 (fun g=>?_) (fun g=>a o)
 refine Ir gl (by have:=Jy hp;omega) ⟨_,rfl,?_⟩
 rw [C3]
 refine B5 (fun l=>?_) (fun l=>a (fun d=>l (Tt.2 d.2.2.1)))
 refine Ir gl (by have:=Jy hq;omega) ⟨_,rfl,?_⟩
 rw [C3]
 refine B5 (fun i=>?_) (fun i=>a (fun d=>i (Tu.2 d.2.2.2)))
 have d:0<k/\k%2=0/\p<0/\0<q:=⟨o,o,Tt.1 l,Tu.1 i⟩
 rw [z]
 refine Tq (m:=m*k+1) (K2:=fun r e=>h.le e/\K r h) (qs:=[p^k,q^k]) gl rfl rfl (Sz.zero o) (fun t b=>by simp at b;rcases b with rfl|rfl;exact u;exact x) o (by simp) (fun e j=>⟨j,?_⟩)
 unfold Rr Rs at hK
 rw [iP d,iP d] at hK
 exact hK
abbrev ivE:aR:=.agg #[.string (bs []),.string (bs [])]
variable {lo2 hi2:List UInt8}
def Vg(gl:Gl h)(ta:Tx m lo)(tb:Tx m hi)(tc:Tx m lo2)(td:Tx m hi2)(hm:m<=1000000)(hK1:∀ p q r s,lo=D5 p->hi=D5 q->p<=q->lo2=D5 r->hi2=D5 s->r<=s->K (.tuple #[ivS (Yc p q r s) (Yd p q r s),I 0]) h)(hK0:¬ (Wq lo hi/\Wq lo2 hi2)->K (.tuple #[ivE,I 1]) h):aF prog 27 #[ivT lo hi,ivT lo2 hi2] h K:=by
 refine (fnk func27 (own:=[2,3,4])) ?_
 refine N9 gl ta tb o (fun p q d n b=>⟨_,rfl,?_⟩) (fun c=>⟨_,rfl,hK0 fun x=>c x.1⟩)
 refine N9 gl tc td o (fun r s e k a=>⟨_,rfl,?_⟩) (fun c=>⟨_,rfl,hK0 fun x=>c x.2⟩)
 have u:=hK1 p q r s d n b e k a
 subst d n e k
 have i:=ta.sz;have l:=tb.sz;have j:=tc.sz;have g:=td.sz
 rw [C3] at i l j g
 exact Sa gl i l j g hm ⟨_,_,rfl,u⟩
def Vf{k:Int}(gl:Gl h)(ta:Tx m lo)(tb:Tx m hi)(hm1:1<=m)(hm:m<=10000)(hK1:∀ p q (n:Nat),lo=D5 p->hi=D5 q->p<=q->k=n->n<=24->K (.tuple #[ivS (Rr p q n) (Rs p q n),I 0]) h)(hKr:Wq lo hi->(k<0\/24<k)->K (.tuple #[ivE,I 3]) h)(hK0:¬ Wq lo hi->K (.tuple #[ivE,I 1]) h):aF prog 28 #[ivT lo hi,I k] h K:=by
 refine (fnk func28 (own:=[2,4])) ?_
 refine N9 gl ta tb o (fun p q b c a=>⟨_,rfl,?_⟩) (fun j=>⟨_,rfl,hK0 j⟩)
 refine B5 (fun e=>hKr ⟨p,q,b,c,a⟩ (.inl e)) (fun r=>B5 (fun e=>hKr ⟨p,q,b,c,a⟩ (.inr e)) (fun l=>?_))
 obtain ⟨n,rfl⟩:∃ n:Nat,k=n:=⟨k.toNat,o⟩
 have i:=hK1 p q n b c a rfl o
 subst b c
 have d:=ta.sz;have g:=tb.sz
 rw [C3] at d g
 have:m*n<=m*24:=Nat.mul_le_mul_left m o
 exact Rz gl d g hm1 o o o ⟨_,_,rfl,i⟩
def Hc(x:Rat)(a b:Nat):x^(a+b)=x^a*x^b:=by
 induction b with
 | zero=>simp [aM]
 | succ b ih=>rw [Nat.add_succ,aN,ih,aN,Rat.mul_assoc]
def R1(k:Nat):Sz (2*k+1) ((2:Rat)^k):=Tf.pow o k
def K7(k:Nat):(0:Rat)<2^k:=by
 induction k with
 | zero=>rw [aM];decide
 | succ k ih=>rw [aN];exact Rat.mul_pos ih dc
def Nf:∀ (k:Nat) {K:VP},Gl h->k<=8192->K (.string (bs (D5 (2^k)))) h->aF prog 58 #[I (k:Int)] h K:=by
 intro k
 induction k using Nat.strongRecOn with
 | _ k ih=>
  intro K c l d
  refine (fnk func58) ?_
  have b:rv [50]=2:=by rw [<- Ka,C3]
  refine B5 (fun i=>?_) (fun i=>?_)
  ·refine De (m:=2) (a:=[50]) c ⟨by simp,by rw [b];exact Tf⟩ o o o ?_ ?_ ?_
   ·intro _ _ _
    rw [b,aU]
    exact ⟨_,_,rfl,d⟩
   ·intro _ g;omega
   ·intro g;omega
  ·have e:B6 (Int.tdiv (k:Int) 2)=((k/2:Nat):Int):=by
    rw [Int.tdiv_eq_ediv_of_nonneg o,B4 o o];omega
   have j:B6 ((k:Int)-((k/2:Nat):Int))=((k-k/2:Nat):Int):=by rw [B4 o o];omega
   rw [e,j]
   refine ih (k/2) o c o ⟨_,rfl,ih (k-k/2) o c o ⟨_,rfl,?_⟩⟩
   refine R9 (m:=2*k+1) c (Tx.of ((R1 _).mono o) o) (Tx.of ((R1 _).mono o) o) o ⟨_,rfl,?_⟩
   rw [C3,C3,<- Hc,show k/2+(k-k/2)=k from o]
   exact d
def Qb(z:Int):Ag z=D5 (z:Rat):=by simp [D5]
def Pf{bits:Int}(gl:Gl h)(ta:Tx m lo)(tb:Tx m hi)(hm1:1<=m)(hm:m<=10000)
 (hK1:∀ p q (k:Nat),lo=D5 p->hi=D5 q->p<=q->bits=k->k<=4096->K (.tuple #[ivS ((((p*2^k).floor:Int):Rat)/2^k) ((((q*2^k).ceil:Int):Rat)/2^k),I 0]) h)
 (hKr:Wq lo hi->(bits<0\/4096<bits)->K (.tuple #[ivE,I 3]) h) (hK0:¬ Wq lo hi->K (.tuple #[ivE,I 1]) h):aF prog 13 #[ivT lo hi,I bits] h K:=by
 refine (fnk func13 (own:=[2,4])) ?_
 refine N9 gl ta tb o (fun p q d g a=>⟨_,rfl,?_⟩) (fun w=>⟨_,rfl,hK0 w⟩)
 refine B5 (fun e=>hKr ⟨p,q,d,g,a⟩ (.inl e)) (fun y=>B5 (fun e=>hKr ⟨p,q,d,g,a⟩ (.inr e)) (fun x=>?_))
 obtain ⟨k,rfl⟩:∃ k:Nat,bits=k:=⟨bits.toNat,o⟩
 have s:=hK1 p q k d g a rfl o
 subst d g
 have i:=ta.sz;have j:=tb.sz
 rw [C3] at i j
 have b:=(R1 k).mono (show 2*k+1<=10000 from o)
 have c:(2:Rat)^k≠0:=fun e=>by have:=K7 k;rw [e] at this;exact absurd this dc
 refine Nf k gl o ⟨_,rfl,?_⟩
 refine R9 (m:=10000) gl (Tx.of (i.mono o) o) (Tx.of b o) o ⟨_,rfl,?_⟩
 rw [C3,C3]
 have l:=(i.mul b).mono (show m+10000<=20000 from o)
 have n:=(j.mul b).mono (show m+10000<=20000 from o)
 refine Cl (m:=20000) gl (Tx.of l o) o ⟨_,rfl,?_⟩
 rw [C3,Qb]
 have u:=Sz.int (T3 l) o
 have r:Sz 20000 (((q*2^k).ceil:Int):Rat):=by
  refine Sz.int ?_ o
  rw [aI]
  exact (T3 n.neg).neg
 refine Df (m:=20000) gl (Tx.of u o) (Tx.of (b.mono o) o) o o ?_ (fun e=>absurd e (by rw [C3];exact c))
 intro _
 rw [C3,C3]
 refine ⟨_,_,rfl,?_⟩
 refine R9 (m:=10000) gl (Tx.of (j.mono o) o) (Tx.of b o) o ⟨_,rfl,?_⟩
 rw [C3,C3]
 refine Rg (m:=20000) gl (Tx.of n o) o ⟨_,rfl,?_⟩
 rw [C3,Qb]
 refine Df (m:=20000) gl (Tx.of r o) (Tx.of (b.mono o) o) o o ?_ (fun e=>absurd e (by rw [C3];exact c))
 intro _
 rw [C3,C3]
 exact ⟨_,_,rfl,s⟩
end
end Go.Proofs.YtdphgbjaijlckaaGreatDoor
namespace Go.Proofs.YtdphgbjaijlckaaGreatDoor
set_option maxRecDepth 20000
open Go Go.RowKit
def memOf(W:World):bD:=fun b=>W.heap[b]?
def frame_of{P:Program}{f:FuncId}{args:Array aR}{W:World}(x:aF P f args (memOf W) (A5y (memOf W))):Calls P f args W fun e w'=>e= .returned (.bool true)/\Below W.heap.size W w':=by
 refine (x W (fun b o e=>e)).mono ?_
 rintro e W' ⟨r,l,i,⟨j,c⟩,a⟩
 subst j
 refine ⟨i,a.os,a.tape,a.output,a.size,fun k g=>?_⟩
 have d:memOf W k=some W.heap[k]:=Array.getElem?_eq_getElem g
 have:=a.sim k _ (c k _ d)
 rw [this];exact d.symm
def Jh{W:World}{a:bE}{v:aR}(e:W.cell? a=some v):(memOf W).cell? a=some v:=by
 unfold World.cell? at e
 unfold Heap.cell? memOf
 exact e
def wf_bnd{n:Int}(h:(Lit.int .i64 n).wf=true): -9223372036854775808<=n/\n<=9223372036854775807:=by
 simp only [Lit.wf,aL,decide_eq_true_eq] at h
 exact h
def open_ss{H:Type}{enc:TypeId × aR->H}{P:Program}{W:World}{base:Nat}{sp:Nat->Bool}{held:Bool}{r:Reach}{b0:Nat}{t:TypeId}{f0 f1:Field}{v:aR}{d:DataW H}{ps:List MemPlace}(ht:P.underlying t=some (.struct #[f0,f1]))(u0:P.underlying f0.type=some .string)(u1:P.underlying f1.type=some .string)(hoff:f0.offset=0/\f1.offset=1/\P.cellsOf f0.type=1/\P.cellsOf f1.type=1/\P.cellsOf t=2)
 (hval:Value.okWide P W r b0 t v) (hd:DataW.Trod enc P W base sp held t v d ps):∃ x y:ByteArray,v= .agg #[.string x,.string y]/\d= .agg [.lit (.string x.data.toList),.lit (.string y.data.toList)]/\ps=[]/\x.size<=maxLen/\y.size<=maxLen:=by
 obtain ⟨D,A,F,z,E⟩:=hoff
 obtain ⟨a,rfl,c⟩:=WideShapes.okWide_struct ht hval
 obtain ⟨u,B⟩:=hd
 obtain ⟨M,G,n,k,L,m,s⟩:=ChangeShapes.trod_struct2 ht B
 rw [D,F] at m
 rw [A,z] at s
 obtain ⟨i,e,rfl,C⟩:=DataW.trod_string u0 m
 obtain ⟨j,g,rfl,w⟩:=DataW.trod_string u1 s
 rw [E] at c
 have l:a.toList=[.string i,.string j]:=by
  simp only [Value.cells] at e g
  have b:a.toList.length=2:=by simpa using c
  match hm:a.toList,b with
  | [p,q],_=>
   rw [hm] at e g
   simp at e g
   rw [e,g]
 have:a=#[.string i,.string j]:=by rw [<- Array.toArray_toList (xs:=a),l]
 subst this
 simp only [Prod.mk.injEq] at k
 exact ⟨i,j,rfl,k.1,by simpa using k.2,C,w⟩
def Qs{P:Program}{W:World}{x:String × DataW Unit}{rest:List (String × DataW Unit)}(h:laidMet P (x::rest) W):laidMet P rest W:=by
 obtain ⟨n,d⟩:=x
 obtain ⟨l,⟨g,t,s,c,p,q,u,m,w,r,j,rfl⟩,e,i⟩:=h
 exact ⟨q,j,(List.nodup_append.1 e).2.1,fun b a k=>i b a (List.mem_append_right _ k)⟩
def A4f:List Int:=[0,1,28,2,29,14,24,3,30,22,20,15,25,17,4,8,31,27,13,23,21,19,16,7,26,12,18,6,11,5,10,9]
def Xh:List Int:=[0,1,56,2,57,49,28,3,61,58,42,50,38,29,17,4,62,47,59,36,45,43,51,22,53,39,33,30,24,18,12,5,63,55,48,27,60,41,37,16,46,35,44,21,52,32,23,11,54,26,40,15,34,20,31,10,25,14,19,9,13,8,7,6]
def A09:List Int:=[1,10,100,1000,10000,100000,1000000,10000000,100000000,1000000000,10000000000,100000000000,1000000000000,10000000000000,100000000000000,1000000000000000,10000000000000000,100000000000000000,1000000000000000000,10000000000000000000]
def Zw:prog.globalNamed "math/bits.deBruijn64tab" = some 1:=by kernel_rfl
def Zx:prog.globalNamed "internal/strconv.uint64pow10" = some 0:=by kernel_rfl
def tabs_gl{W:World}(h:laidMet prog [("math/bits.deBruijn32tab",Rows.laid_math_bits_deBruijn32tab),("math/bits.deBruijn64tab",Rows.laid_math_bits_deBruijn64tab),("internal/strconv.uint64pow10",Rows.laid_internal_strconv_uint64pow10)] W):Gl (memOf W):=by
 have j:=Qs h
 have l:=Qs j
 have e:Lib.TabIs prog W "math/bits.deBruijn64tab" .u8 Xh:=Lib.tabIs_of_head (rest:=[("internal/strconv.uint64pow10",Rows.laid_internal_strconv_uint64pow10)]) Zw (by kernel_rfl) underlying308 underlying5 (by kernel_rfl) (by kernel_rfl) j
 have i:Lib.TabIs prog W "internal/strconv.uint64pow10" .u64 A09:=Lib.tabIs_of_head (rest:=[]) Zx (by kernel_rfl) underlying298 underlying230 (by kernel_rfl) (by kernel_rfl) l
 have d:∀ k,k<64->Ok k<Xh.length/\Xh.getD (Ok k) 0=(k:Int):=by decide +kernel
 have g:∀ k,k<20->A09.getD k 0=((10^k:Nat):Int):=by decide +kernel
 refine ⟨fun k c=>?_,fun k c=>?_⟩
 ·obtain ⟨a,b⟩:=d k c
  have:=Jh (e.cell Zw (Ok k) a)
  rw [K5,aT,Nat.zero_add,this,b]
 ·have:=Jh (i.cell Zx k (by show k<20;exact c))
  rw [K5,aT,Nat.zero_add,this,g k c]
def Vd(zs:List Int)(k:IntKind):Obj->Obj
 | .cells _ t frozen=>.cells (zs.map (Value.int k)).toArray t frozen
 | o=>o
def layTabs(a:Array Obj):Array Obj:=((a.modify 4 (Vd A4f .u8)).modify 1 (Vd Xh .u8)).modify 0 (Vd A09 .u64)
abbrev iv8(a b:QV):aR:=.agg #[.bool a.s,.slice a.A a.n a.c,.bool a.s2,.slice a.A2 a.n2 a.c2,.bool b.s,.slice b.A b.n b.c,.bool b.s2,.slice b.A2 b.n2 b.c2]
def Dm(w:QV):List aR:=[.bool w.s,.slice w.A w.n w.c,.bool w.s2,.slice w.A2 w.n2 w.c2]
structure QsAt (h:bD) (A:Option bE) (ws:List QV) (ps:List Rat):Prop where
 len:ws.length=ps.length
 num:∀ (i:Nat) (h1:i<ws.length) (h2:i<ps.length),NQ h ws[i] ps[i]
 sl:SlV h A (ws.flatMap Dm)
def Ua(ws:List QV):(ws.flatMap Dm).length=ws.length*4:=by
 induction ws with
 | nil=>rfl
 | cons w ws ih=>rw [aG,List.length_append,ih,List.length_cons];simp [Dm];omega
def Xn(ws:List QV):∀ {i:Nat} (hi:i<ws.length) {j:Nat} (hj:j<4),(ws.flatMap Dm)[i*4+j]? = (Dm ws[i])[j]? :=by
 induction ws with
 | nil=>intro i hi;simp at hi
 | cons w ws ih=>
  intro i hi j hj
  rw [aG]
  cases i with
  | zero=>rw [bA (by simp [Dm];omega)];simp
  | succ i=>
   rw [aZ (by simp [Dm];omega)]
   have:=ih (i:=i) (by simpa using hi) hj
   simp only [bC]
   rw [<- this]
   congr 1
   simp [Dm];omega
def QsAt.at{h:bD}{A:Option bE}{ws:List QV}{ps:List Rat}(q:QsAt h A ws ps){i:Nat}(hi:i<ps.length):∃ a w,A=some a/\NQ h w ps[i]/\Heap.cell? h (aE (aE a (i*4)) 0)=some (.bool w.s)/\Heap.cell? h (aE (aE a (i*4)) 1)=some (.slice w.A w.n w.c)/\Heap.cell? h (aE (aE a (i*4)) 2)=some (.bool w.s2)/\Heap.cell? h (aE (aE a (i*4)) 3)=some (.slice w.A2 w.n2 w.c2):=by
 have d:i<ws.length:=by rw [q.len];exact hi
 have m:=Ua ws
 obtain ⟨a,e,_⟩:=q.sl.at (i:=0) o
 refine ⟨a,ws[i],e,q.num i d hi,?_⟩
 have cell:∀ j,j<4->∀ v,(Dm ws[i])[j]? = some v->Heap.cell? h (aE (aE a (i*4)) j)=some v:=by
  intro j k v g
  obtain ⟨p,b,l⟩:=q.sl.at (i:=i*4+j) o
  rw [e] at b
  cases b
  rw [Lc,l]
  have:=Xn ws d k
  rw [bB o,g] at this
  exact this
 exact ⟨cell 0 o _ rfl,cell 1 o _ rfl,cell 2 o _ rfl,cell 3 o _ rfl⟩
section
variable {h:bD} {K:VP} {m:Nat} {lo hi x:List UInt8} {p q r s:Rat} {a b c d w:QV}
end
def ivB(lo hi:List UInt8):Bool:=decide (D5 (rv lo)=lo)&&(decide (D5 (rv hi)=hi)&&decide (rv lo<=rv hi))
def O3{p q:Rat}(h:p<=q):ivB (D5 p) (D5 q)=true:=by simp [ivB,C3,h]
def Qt{lo hi:List UInt8}(h:ivB lo hi=true):Wq lo hi:=by
 simp only [ivB,aL,decide_eq_true_eq] at h
 exact ⟨rv lo,rv hi,h.1.symm,h.2.1.symm,h.2.2⟩
def Nd{lo hi:List UInt8}(h:¬ Wq lo hi):ivB lo hi=false:=by
 cases e:ivB lo hi with
 | false=>rfl
 | true=>exact absurd (Qt e) h
abbrev R3:=List UInt8 × List UInt8 × Int
abbrev r3(x:R3):aR:=.tuple #[ivT x.1 x.2.1,I x.2.2]
def A21(lo hi:List UInt8)(k:Int):R3:=if ivB lo hi then (if k<0\/24<k then ([],[],3) else (D5 (Rr (rv lo) (rv hi) k.toNat),D5 (Rs (rv lo) (rv hi) k.toNat),0)) else ([],[],1)
def Fs(lo hi:List UInt8)(k:Int):R3:=if ivB lo hi then (if k<0\/4096<k then ([],[],3) else (D5 ((((rv lo*2^k.toNat).floor:Int):Rat)/2^k.toNat),D5 ((((rv hi*2^k.toNat).ceil:Int):Rat)/2^k.toNat),0)) else ([],[],1)
def A3m(lo hi lo2 hi2:List UInt8):R3:=if ivB lo hi&&ivB lo2 hi2 then (D5 (Yc (rv lo) (rv hi) (rv lo2) (rv hi2)),D5 (Yd (rv lo) (rv hi) (rv lo2) (rv hi2)),0) else ([],[],1)
def Si(lo hi x:List UInt8):Bool:=ivB lo hi&&(decide (D5 (rv x)=x)&&decide (rv lo<=rv x/\rv x<=rv hi))
def Jm{p q r:Rat}(h1:p<=r)(h2:r<=q):Si (D5 p) (D5 q) (D5 r)=true:=by simp [Si,O3 (aV h1 h2),C3,h1,h2]
def Pj{lo hi x:List UInt8}(h:¬ (∃ p q r,lo=D5 p/\hi=D5 q/\x=D5 r/\p<=r/\r<=q)):Si lo hi x=false:=by
 cases e:Si lo hi x with
 | false=>rfl
 | true=>
  simp only [Si,aL,decide_eq_true_eq] at e
  obtain ⟨d,c,a,b⟩:=e
  obtain ⟨p,q,rfl,rfl,_⟩:=Qt d
  rw [C3] at a b
  exact absurd ⟨p,q,rv x,rfl,rfl,c.symm,a,b⟩ h
section
variable {h:bD} {K:VP} {m:Nat} {lo hi x lo2 hi2:List UInt8}
def A5k(gl:Gl h)(ta:Tx m lo)(tb:Tx m hi)(hm1:1<=m)(hm:m<=10000){k:Int}(hK:K (r3 (A21 lo hi k)) h):aF prog 28 #[ivT lo hi,I k] h K:=by
 refine Vf gl ta tb hm1 hm ?_ ?_ ?_
 ·rintro p q n rfl rfl a rfl b
  rw [A21,iP (O3 a),iN o,C3,C3,aC] at hK;exact hK
 ·rintro ⟨p,q,rfl,rfl,a⟩ c
  rw [A21,iP (O3 a),iP c] at hK;exact hK
 ·intro b
  rw [A21,Nd b,iN (by simp)] at hK;exact hK
def Pg(gl:Gl h)(ta:Tx m lo)(tb:Tx m hi)(hm1:1<=m)(hm:m<=10000){k:Int}(hK:K (r3 (Fs lo hi k)) h):aF prog 13 #[ivT lo hi,I k] h K:=by
 refine Pf gl ta tb hm1 hm ?_ ?_ ?_
 ·rintro p q n rfl rfl a rfl b
  rw [Fs,iP (O3 a),iN o,C3,C3,aC] at hK;exact hK
 ·rintro ⟨p,q,rfl,rfl,a⟩ c
  rw [Fs,iP (O3 a),iP c] at hK;exact hK
 ·intro b
  rw [Fs,Nd b,iN (by simp)] at hK;exact hK
def Th{lo hi lo2 hi2:List UInt8}(h:¬ (Wq lo hi/\Wq lo2 hi2)):(ivB lo hi&&ivB lo2 hi2)=false:=by
 cases e:(ivB lo hi&&ivB lo2 hi2) with
 | false=>rfl
 | true=>
  rw [aL] at e
  exact absurd ⟨Qt e.1,Qt e.2⟩ h
def Qc{p q r s:Rat}(h:p<=q)(h2:r<=s):(ivB (D5 p) (D5 q)&&ivB (D5 r) (D5 s))=true:=by rw [O3 h,O3 h2];rfl
def A5l(gl:Gl h)(ta:Tx m lo)(tb:Tx m hi)(tc:Tx m lo2)(td:Tx m hi2)(hm:m<=1000000)(hK:K (r3 (A3m lo hi lo2 hi2)) h):aF prog 27 #[ivT lo hi,ivT lo2 hi2] h K:=by
 refine Vg gl ta tb tc td hm ?_ ?_
 ·rintro p q r s rfl rfl b rfl rfl a
  rw [A3m,iP (Qc b a),C3,C3,C3,C3] at hK;exact hK
 ·intro c
  rw [A3m,Th c,iN (by simp)] at hK;exact hK
def Sb(gl:Gl h)(ta:Tx m lo)(tb:Tx m hi)(tx:Tx m x)(hm:m<=1000000000)(hK:K (.bool (Si lo hi x)) h):aF prog 15 #[ivT lo hi,.string (bs x)] h K:=by
 refine Il gl ta tb tx hm ?_ ?_
 ·rintro p q r rfl rfl rfl a b;rw [Jm a b] at hK;exact hK
 ·intro c;rw [Pj c] at hK;exact hK
def Nb{ls:List (List UInt8)}{n:Int}{A:Option bE}{c ln:Nat}(sl:SlV h A (ls.map fun l=>aH (bs l)))(hn:ln=ls.length)(hl:ls.length<=1000000000)(hK1:(∀ l∈ls,(l.length:Int)<=n)->K (.bool true) h)(hK0:¬ (∀ l∈ls,(l.length:Int)<=n)->K (.bool false) h):aF prog 23 #[I n,.slice A ln c] h K:=by
 subst hn
 refine (fnk func23 [(2,[5],[],[I 0])]) ?_
 refine ⟨fun L k=>k=h/\∃ i:Nat,i<=ls.length/\(∀ l∈ls.take i,(l.length:Int)<=n)/\L=[I i],fun L _=>ls.length-(iAt L 0).toNat,⟨rfl,0,aY _,by simp,rfl⟩,?_⟩
 rintro t m ⟨rfl,i,r,b,j⟩
 simp only [aQ,aO,true_and,and_true] at j
 subst j
 refine B5 (fun e=>?_) (fun e=>?_)
 ·have d:i<ls.length:=o
  obtain ⟨a,p,q⟩:=SlV.at sl (i:=i) (by simpa using d)
  refine ⟨a,p,o,e,bs ls[i],?_,?_⟩
  ·rw [aC,aT,q];simp
  rw [F8,B4 o o]
  refine B5 (fun g=>hK0 fun x=>?_) (fun g=>⟨⟨rfl,i+1,d,?_,rfl⟩,?_⟩)
  ·have:=x ls[i] (aK d);omega
  ·intro l hl
   rw [aD d] at hl
   rcases List.mem_append.1 hl with hl|hl
   ·exact b l hl
   ·rw [List.mem_singleton.1 hl];omega
  ·simp [iAt];omega
 ·obtain rfl:i=ls.length:=o
  rw [aJ] at b
  exact hK1 b
def P8(x:List UInt8 × List UInt8):List aR:=[.string (bs x.1),.string (bs x.2)]
def Ry(l:List (List UInt8 × List UInt8)):(l.flatMap P8).length=l.length*2:=by
 induction l with
 | nil=>rfl
 | cons w l ih=>rw [aG,List.length_append,ih,List.length_cons];simp [P8];omega
def Ve(l:List (List UInt8 × List UInt8)):∀ {i:Nat} (hi:i<l.length) {j:Nat} (hj:j<2),(l.flatMap P8)[i*2+j]? = (P8 l[i])[j]? :=by
 induction l with
 | nil=>intro i hi;simp at hi
 | cons w l ih=>
  intro i hi j hj
  rw [aG]
  cases i with
  | zero=>rw [bA (by simp [P8];omega)];simp
  | succ i=>
   rw [aZ (by simp [P8];omega)]
   have:=ih (i:=i) (by simpa using hi) hj
   simp only [bC]
   rw [<- this]
   congr 1
   simp [P8];omega
def A3p{l:List (List UInt8 × List UInt8)}{A:Option bE}(sl:SlV h A (l.flatMap P8)){i:Nat}(hi:i<l.length):∃ a,A=some a/\Heap.cell? h (aE (aE a (i*2)) 0)=some (.string (bs l[i].1))/\Heap.cell? h (aE (aE a (i*2)) 1)=some (.string (bs l[i].2)):=by
 have k:=Ry l
 obtain ⟨a,c,_⟩:=sl.at (i:=0) o
 refine ⟨a,c,?_⟩
 have cell:∀ j,j<2->∀ v,(P8 l[i])[j]? = some v->Heap.cell? h (aE (aE a (i*2)) j)=some v:=by
  intro j d v e
  obtain ⟨m,b,g⟩:=sl.at (i:=i*2+j) o
  rw [c] at b
  cases b
  rw [Lc,g]
  have:=Ve l hi d
  rw [bB o,e] at this
  exact this
 exact ⟨cell 0 o _ rfl,cell 1 o _ rfl⟩
def Pd{l:List (List UInt8 × List UInt8)}{A:Option bE}{c ln:Nat}(sl:SlV h A (l.flatMap P8))(hn:ln=l.length)(hl:l.length<=1000000000)(hK1:(∀ x∈l,x.1.length<=20/\x.2.length<=20)->K (.bool true) h)(hK0:¬ (∀ x∈l,x.1.length<=20/\x.2.length<=20)->K (.bool false) h):aF prog 9 #[.slice A ln c] h K:=by
 subst hn
 refine FCall.pure ((fnk func9 [(2,[3],[],[I 0])]) ?_)
 refine ⟨fun L s=>h.le s/\∃ i:Nat,i<=l.length/\(∀ x∈l.take i,x.1.length<=20/\x.2.length<=20)/\L=[I i],fun L _=>l.length-(iAt L 0).toNat,⟨B3 _,0,aY _,by simp,rfl⟩,?_⟩
 rintro t u ⟨m,i,F,d,r⟩
 simp only [aQ,aO,true_and,and_true] at r
 subst r
 refine B5 (fun e=>?_) (fun e=>?_)
 ·have j:i<l.length:=o
  obtain ⟨a,q,z,B⟩:=A3p (sl.mono m) j
  refine ⟨a,q,o,e,bs l[i].1,by rw [aC];exact z,a,q,o,e,bs l[i].2,by rw [aC];exact B,?_⟩
  refine Pe Kd (ls:=[l[i].1,l[i].2]) rfl (by simp) rfl ?_
  intro b D n w
  refine ⟨_,_,_,rfl,n,?_⟩
  rw [B4 o o]
  refine Nb w rfl (by simp) (fun g=>⟨_,rfl,B3 _,⟨⟨A0 m n,i+1,j,?_,rfl⟩,?_⟩⟩) (fun g=>⟨_,rfl,B3 _,A0 m n,hK0 fun x=>?_⟩)
  ·intro x k
   rw [aD j] at k
   rcases List.mem_append.1 k with k|k
   ·exact d x k
   ·rw [List.mem_singleton.1 k]
    have E:=g l[i].1 (by simp)
    have C:=g l[i].2 (by simp)
    omega
  ·simp [iAt];omega
  ·have:=x l[i] (aK j)
   refine g fun y p=>?_
   simp only [List.mem_cons,List.not_mem_nil,or_false] at p
   rcases p with rfl|rfl<;>omega
 ·obtain rfl:i=l.length:=o
  rw [aJ] at d
  exact ⟨m,hK1 d⟩
def Yg{l:List (List UInt8 × List UInt8)}{n:Nat}{parts:Array (Nat × aR)}(hn:n=l.length)(hlen:n<=1000)(hp:parts.toList=(List.range' 0 (l.map fun x=>ivT x.1 x.2).length).zip (l.map fun x=>ivT x.1 x.2)){K:VP}
 (x:∀ b h',h.le h'->SlV h' (some ⟨b,0,none⟩) (l.flatMap P8)->K (.slice (some ⟨b,0,none⟩) n n) h'):wpH prog (aX 65 n parts) K h:=by
 refine Mz A61 (vs:=l.map fun x=>ivT x.1 x.2) (fun v a=>?_) (by simpa using hn) o hp (fun b c=>x b _ (Heap.le_put _ c) ?_)
 ·obtain ⟨w,_,rfl⟩:=List.mem_map.1 a;rfl
 ·have e:∀ l:List (List UInt8 × List UInt8),(l.map fun x=>ivT x.1 x.2).flatMap (fun v=>v.cells.toList)=l.flatMap P8:=by
   intro l
   induction l with
   | nil=>rfl
   | cons w l ih=>rw [List.map_cons,aG,ih,aG];rfl
  rw [e]
  exact SlV.new _ b _ _ _ _ (fun i v a=>by simpa using a)
def A26:D5 (-1)=[45,49]:=by
 have a:(-1:Rat).num= -1:=by decide +kernel
 have b:(-1:Rat).den=1:=by decide +kernel
 simp [D5,Ag,a,b,H2,L3,E9,dch]
def A4b:D5 (-2)=[45,50]:=by
 have a:(-2:Rat).num= -2:=by decide +kernel
 have b:(-2:Rat).den=1:=by decide +kernel
 simp [D5,Ag,a,b,H2,L3,E9,dch]
def A60:D5 4=[52]:=by
 have a:(4:Rat).num=4:=by decide +kernel
 have b:(4:Rat).den=1:=by decide +kernel
 simp [D5,Ag,a,b,H2,L3,E9,dch]
def A27:D5 (1/3)=[49,47,51]:=by
 have a:(1/3:Rat).num=1:=by decide +kernel
 have b:(1/3:Rat).den=3:=by decide +kernel
 simp [D5,Ag,a,b,H2,L3,E9,dch]
def A4c:D5 (1/4)=[49,47,52]:=by
 have a:(1/4:Rat).num=1:=by decide +kernel
 have b:(1/4:Rat).den=4:=by decide +kernel
 simp [D5,Ag,a,b,H2,L3,E9,dch]
def A4g{q:Rat}(h:decide (q.num.natAbs<65536/\q.den<65536)=true):Sz 16 q:=by
 have:=of_decide_eq_true h
 exact ⟨by unfold ZB;exact this.1,by unfold ZB;simpa using this.2⟩
def A4d(a:Array UInt8):({ data:=a }:ByteArray)=bs a.toList:=by simp [bs]
def Fg(gl:Gl h)(hK:K (.bool true) h):aF prog 11 #[] h K:=by
 refine (fnk func11 (own:=[1,2,4,6])) ?_
 have d:Tx 16 (D5 (-1)):=Tx.of (A4g (by decide +kernel)) o
 have c:Tx 16 (D5 2):=Tx.of (A4g (by decide +kernel)) o
 have e:Tx 16 (D5 (1/3)):=Tx.of (A4g (by decide +kernel)) o
 show aF _ _ #[ivT [45,49] [50],ivT [45,49] [50]] _ _
 rw [<- A26,<- Ka]
 refine A5l gl d c d c o ?_
 have i:A3m (D5 (-1)) (D5 2) (D5 (-1)) (D5 2)=(D5 (-2),D5 4,0):=by
  rw [A3m,iP (Qc (by decide +kernel) (by decide +kernel)),C3,C3]
  have a:Yc (-1) 2 (-1) 2= -2:=by decide +kernel
  have b:Yd (-1) 2 (-1) 2=4:=by decide +kernel
  rw [a,b]
 rw [i]
 refine ⟨_,_,_,rfl,?_⟩
 show aF _ _ #[ivT (D5 (-1)) (D5 2),I 2] _ _
 refine A5k gl d c o o ?_
 have j:A21 (D5 (-1)) (D5 2) 2=(D5 0,D5 4,0):=by
  rw [A21,iP (O3 (by decide +kernel)),iN o,C3,C3]
  have a:Rr (-1) 2 (2:Int).toNat=0:=by decide +kernel
  have b:Rs (-1) 2 (2:Int).toNat=4:=by decide +kernel
  rw [a,b]
 rw [j]
 refine ⟨_,_,_,rfl,?_⟩
 show aF _ _ #[ivT [49,47,51] [49,47,51],I 2] _ _
 rw [<- A27]
 refine Pg gl e e o o ?_
 have g:Fs (D5 (1/3)) (D5 (1/3)) 2=(D5 (1/4),D5 (1/2),0):=by
  rw [Fs,iP (O3 (by decide +kernel)),iN o,C3]
  have a:((((1/3:Rat)*2^(2:Int).toNat).floor:Int):Rat)/2^(2:Int).toNat=1/4:=by decide +kernel
  have b:((((1/3:Rat)*2^(2:Int).toNat).ceil:Int):Rat)/2^(2:Int).toNat=1/2:=by decide +kernel
  rw [a,b]
 rw [g]
 refine ⟨_,_,_,rfl,?_⟩
 simp only [A4b,A60,A06,A4c,Yi,Ka,A26,A27,A4d,Fz]
 exact hK
end
section
variable {h:bD} {lo hi x:List UInt8}
end
def Br.t{b:Bool}{A B:Prop}(hb:b=true)(x:A):Br b A B:=by subst hb;exact x
def Br.f{b:Bool}{A B:Prop}(hb:b=false)(x:B):Br b A B:=by subst hb;exact x
def eq2(a b:List UInt8):((bs a).toList==(bs a).toList&&((bs b).toList==(bs b).toList&&true))=true:=by simp
section
variable {h:bD} {K:VP} {m:Nat} {lo hi x lo2 hi2:List UInt8}
end
def Dv{F:Rat}(h:0<F):0<1/F:=by rw [Rat.div_def,Rat.one_mul];exact Rat.inv_pos.2 h
def Vs{F z x:Rat}(hF:0<F)(h:z<=x*F):z/F<=x:=by
 have a:F≠0:=gz0
 have e:x-z/F=(x*F-z)*(1/F):=gz0
 have:0<=(x*F-z)*(1/F):=aS gz0 (aW (Dv hF))
 grind
def Vc{F z x:Rat}(hF:0<F)(h:x*F<=z):x<=z/F:=by
 have a:F≠0:=gz0
 have e:z/F-x=(z-x*F)*(1/F):=gz0
 have:0<=(z-x*F)*(1/F):=aS gz0 (aW (Dv hF))
 grind
def A1b{F z x:Rat}(hF:0<F)(h:x*F<z):x<z/F:=by
 have a:F≠0:=gz0
 have e:z/F-x=(z-x*F)*(1/F):=gz0
 have:0<(z-x*F)*(1/F):=Rat.mul_pos gz0 (Dv hF)
 grind
def A1h{F z x:Rat}(hF:0<F)(h:z<x*F):z/F<x:=by
 have a:F≠0:=gz0
 have e:x-z/F=(x*F-z)*(1/F):=gz0
 have:0<(x*F-z)*(1/F):=Rat.mul_pos gz0 (Dv hF)
 grind
def Qx{z:Int}{q:Rat}(h:(z:Rat)<=q):z<=q.floor:=Rat.le_floor_iff.2 h
def Yv{z:Int}{q:Rat}(h:q<=(z:Rat)):q.ceil<=z:=by
 rw [aI]
 have:=Qx (z:= -z) (q:= -q) (by rw [Rat.intCast_neg];grind)
 omega
def X4(k:Nat):(2:Rat)^k=(((2:Int)^k:Int):Rat):=by rw [Rat.intCast_pow];rfl
def Iw{p:Rat}{k n:Nat}(h:k<=n):(((p*2^k).floor:Int):Rat)/2^k<=(((p*2^n).floor:Int):Rat)/2^n/\(((p*2^n).ceil:Int):Rat)/2^n<=(((p*2^k).ceil:Int):Rat)/2^k:=by
 obtain ⟨j,rfl⟩:∃ j,n=k+j:=⟨n-k,o⟩
 have g:=K7 k
 have b:=K7 j
 have e:(2:Rat)^(k+j)=2^k*2^j:=Hc _ _ _
 have c:=K7 (k+j)
 have i:(2:Rat)^k≠0:=gz0
 constructor
 ·refine Vc c ?_
  have d:(((p*2^k).floor:Int):Rat)<=p*2^k:=Rat.floor_le _
  have a:(((p*2^k).floor:Int):Rat)/2^k*2^(k+j)=(((p*2^k).floor*2^j:Int):Rat):=by
   rw [e,aP,<- X4];grind
  rw [a]
  refine Rat.intCast_le_intCast.2 (Qx ?_)
  rw [aP,<- X4,e]
  have:0<=(p*2^k-(((p*2^k).floor:Int):Rat))*2^j:=aS gz0 (aW b)
  grind
 ·refine Vs c ?_
  have d:p*2^k<=(((p*2^k).ceil:Int):Rat):=Rat.le_ceil
  have a:(((p*2^k).ceil:Int):Rat)/2^k*2^(k+j)=(((p*2^k).ceil*2^j:Int):Rat):=by
   rw [e,aP,<- X4];grind
  rw [a]
  refine Rat.intCast_le_intCast.2 (Yv ?_)
  rw [aP,<- X4,e]
  have:0<=((((p*2^k).ceil:Int):Rat)-p*2^k)*2^j:=aS gz0 (aW b)
  grind
def Gq(p:Rat)(k:Nat):(((p*2^k).floor:Int):Rat)/2^k<=p/\p<=(((p*2^k).ceil:Int):Rat)/2^k/\p<(((p*2^k).floor:Int):Rat)/2^k+1/2^k/\(((p*2^k).ceil:Int):Rat)/2^k-1/2^k<p:=by
 have a:=K7 k
 have c:(2:Rat)^k≠0:=gz0
 refine ⟨Vs a (Rat.floor_le _),Vc a Rat.le_ceil,?_,?_⟩
 ·have b:p<((((p*2^k).floor:Int):Rat)+1)/2^k:=by
   refine A1b a ?_
   have:=Rat.lt_floor_add_one (p*2^k)
   simpa using this
  grind
 ·have b:((((p*2^k).ceil:Int):Rat)-1)/2^k<p:=by
   refine A1h a ?_
   have:((((p*2^k).ceil:Int):Rat))<p*2^k+1:=Rat.ceil_lt
   grind
  grind
def Yh(k:Nat):((2:Rat)⁻¹)^k=1/2^k:=by
 induction k with
 | zero=>rw [aM,aM];decide +kernel
 | succ k ih=>
  have:=K7 k
  have a:(2:Rat)^k≠0:=gz0
  rw [aN,aN,ih];grind
section
variable {h:bD} {K:VP} {m:Nat} {lo hi x lo2 hi2 s t:List UInt8}
def Ji{n m:Int}(hm:0<m/\m<=1000)(hn: -9223372036854775808<=n/\n<=9223372036854775807)(hK:K (I (n%m)) h):aF prog 12 #[I n,I m] h K:=by
 refine (fnk func12) ?_
 have k:=Int.emod_nonneg n (show m≠0 from o)
 have i:=Int.emod_lt_of_pos n hm.1
 have g:Int.tmod n m=if 0<=n\/n%m=0 then n%m else n%m-m:=by
  rw [Int.tmod_eq_emod]
  by_cases b:0<=n
  ·simp [b]
  ·by_cases a:n%m=0
   ·have:m∣n:=Int.dvd_of_emod_eq_zero a
    simp [this,a]
   ·have:¬ m∣n:=fun d=>a (Int.emod_eq_zero_of_dvd d)
    have j:(m.natAbs:Int)=m:=Int.natAbs_of_nonneg o
    simp [b,a,this];omega
 refine B5 (fun e=>o) (fun _=>?_)
 rw [g]
 by_cases c:0<=n\/n%m=0
 ·rw [iP c]
  exact B5 (fun e=>o) (fun _=>hK)
 ·rw [iN c]
  refine B5 (fun _=>?_) (fun e=>o)
  rw [B4 o o,show n%m-m+m=n%m from o];exact hK
def Km(gl:Gl h)(ta:Tx m lo)(tb:Tx m hi)(hm:m<=576000000000000)(hK:∀ lo' hi',((lo'=lo/\hi'=hi)\/(lo'=hi/\hi'=lo))->rv lo'<=rv hi'->K (ivT lo' hi') h):aF prog 8 #[ivT lo hi] h K:=by
 refine (fnk func8 (own:=[1,2])) ?_
 refine G7 gl ta tb o ⟨_,rfl,B5 (fun e=>?_) (fun e=>?_)⟩
 ·exact hK hi lo (.inr ⟨rfl,rfl⟩) (by have:=Fc.1 e;grind)
 ·exact hK lo hi (.inl ⟨rfl,rfl⟩) (by have:¬ rv hi<rv lo:=fun h=>e (Fc.2 h);grind)
def Ea{p q r:Rat}(gl:Gl h)(hp:Sz m p)(hq:Sz m q)(hr:Sz m r)(hm:m<=10000000)(h1:p<=r)(h2:r<=q)(hK:K (.bool true) h):aF prog 15 #[ivT (D5 p) (D5 q),.string (bs (D5 r))] h K:=by
 refine Sb gl (Tx.of hp o) (Tx.of hq o) (Tx.of hr o) o ?_
 rw [Jm h1 h2];exact hK
def law_rounding{bits more:Int}(hl:lo.length<=140737488351232/\hi.length<=140737488351232)(gl:Gl h)(hb: -9223372036854775808<=bits/\bits<=9223372036854775807)(hmo: -9223372036854775808<=more/\more<=9223372036854775807):aF prog 3 #[ivT lo hi,I bits,I more] h (A5y h):=by
 refine (fnk func3 (cs:=[(10,[89],[],[.bool false]),(14,[121],[],[.bool false])]) (os:=[(15,[0,1,2,4,5,3,6,7,8,9,10,11,13,14,12,15,16,17,18,19,22,20,21,23,24,25,26,27,28])]) (own:=[3,7,9])) ?_
 have T:∀ {l:List UInt8},l.length<=140737488351232->Tx 562949953404928 l:=fun hx=>Lg (k:=140737488351232) hx o o
 refine Km gl (T hl.1) (T hl.2) o ?_
 intro S V ca ae
 refine ⟨_,_,rfl,?_⟩
 refine Yg (l:=[(S,V)]) rfl (by simp) rfl ?_
 intro bb E H sl
 refine ⟨_,_,_,rfl,?_⟩
 have b:=gl.mono H
 refine Pd sl rfl (by simp) (fun hs=>⟨_,rfl,?_⟩) (fun hs=>⟨_,rfl,Fg b ⟨_,rfl,rfl,H⟩⟩)
 have c1:=hs (S,V) (by simp)
 have F:Tx 80 S:=Lg (k:=20) c1.1 o o
 have G:Tx 80 V:=Lg (k:=20) c1.2 o o
 refine N9 b F G o ?_ (fun hn=>⟨_,rfl,Fg b ⟨_,rfl,rfl,H⟩⟩)
 rintro p q rfl rfl i
 have A:=F.sz;have C:=G.sz
 rw [C3] at A C
 refine ⟨_,rfl,Ji o hb ⟨_,rfl,Ji o hmo ⟨_,rfl,?_⟩⟩⟩
 obtain ⟨k,hk⟩:∃ k:Nat,bits%60=k:=⟨(bits%60).toNat,o⟩
 obtain ⟨j,hj⟩:∃ j:Nat,more%60=j:=⟨(more%60).toNat,o⟩
 have ac:k<60:=o
 have ab:j<60:=o
 rw [hk,hj]
 have ew:B6 ((k:Int)+j)=((k+j:Nat):Int):=by rw [B4 o o];omega
 have aa:B6 (0-(k:Int))= -(k:Int):=by rw [B4 o o];omega
 rw [ew,aa]
 refine Pg b F G o o ⟨_,_,_,rfl,Pg b F G o o ⟨_,_,_,rfl,?_⟩⟩
 have er:∀ n:Nat,n<=4096->Fs (D5 p) (D5 q) (n:Int)=(D5 ((((p*2^n).floor:Int):Rat)/2^n),D5 ((((q*2^n).ceil:Int):Rat)/2^n),0):=by
  intro n hn
  rw [Fs,iP (O3 i),iN o,C3,C3,aC]
 rw [er k o,er (k+j) o]
 have D:∀ n:Nat,n<=120->Sz 1000 ((((p*2^n).floor:Int):Rat)/2^n)/\Sz 1000 ((((q*2^n).ceil:Int):Rat)/2^n):=by
  intro n hn
  have s:=(R1 n).mono (show 2*n+1<=241 from o)
  have s3:=Sz.int (T3 (A.mul s)) (show 1<=80+241 from o)
  have s4:Sz 321 (((q*2^n).ceil:Int):Rat):=by
   refine Sz.int ?_ o
   rw [aI]
   exact (T3 (C.mul s).neg).neg
  exact ⟨(s3.div s o).mono o,(s4.div s o).mono o⟩
 obtain ⟨r,u⟩:=D k o
 obtain ⟨N,X⟩:=D (k+j) o
 obtain ⟨p1,p2,p3,p4⟩:=Gq p k
 obtain ⟨q1,q2,q3,q4⟩:=Gq q k
 obtain ⟨p5,p6,_,_⟩:=Gq p (k+j)
 obtain ⟨q5,q6,_,_⟩:=Gq q (k+j)
 obtain ⟨m1,_⟩:=Iw (p:=p) (show k<=k+j from o)
 obtain ⟨_,m2⟩:=Iw (p:=q) (show k<=k+j from o)
 have hF:=K7 k
 have ad:(2:Rat)^k≠0:=gz0
 have d:rv [50]=2:=by rw [<- Ka,C3]
 have y:Sz 1000 (1/(2:Rat)^k):=(A3j.div (R1 k) o).mono o
 have hU:1/(2:Rat)^k≠0:=by have:=Dv hF;grind
 have B:∀ {K:VP},K (.tuple #[.string (bs (D5 (1/(2:Rat)^k))),.bool true]) E->aF prog 14 #[.string (bs [50]),I (-(k:Int))] E K:=by
  intro K M
  refine De (m:=2) (a:=[50]) b ⟨by simp,by rw [d];exact Tf⟩ o o o ?_ ?_ ?_
  ·intro _ _ g
   have:k=0:=o
   subst this
   rw [d,show (-((0:Nat):Int)).natAbs=0 from rfl,aM]
   have e1:(1:Rat)/2^0=1:=by decide +kernel
   rw [e1] at M;exact M
  ·intro _ g _
   rw [d,show (-(k:Int)).natAbs=k from o,Yh];exact M
  ·intro g
   rcases g with g|⟨_,g⟩
   ·exact absurd ⟨o,o⟩ g
   ·rw [d] at g;exact absurd g dc
 refine B ⟨_,_,rfl,fun L x=>L=[.bool false]/\x=E,?_,?_⟩
 ·refine Br.f rfl (Br.f rfl (Br.f rfl ?_))
  refine Ea (m:=1000) b r u (A.mono o) o p1 (aV i q2) ⟨_,rfl,?_⟩
  refine Ea (m:=1000) b r u (C.mono o) o (aV p1 i) q2 ⟨_,rfl,?_⟩
  refine Ea (m:=1000) b r u N o m1 gz0 ⟨_,rfl,?_⟩
  exact Ea (m:=1000) b r u X o gz0 m2 ⟨_,rfl,rfl,rfl⟩
 rintro R x ⟨O,c⟩
 rw [c]
 clear c x
 obtain rfl:R=false:=by simpa using O
 refine Br.f rfl ?_
 have T2:∀ {z:Rat},Sz 1000 z->Tx 1000 (D5 z):=fun hz=>Tx.of hz o
 refine Df b (T2 r) (T2 y) o o ?_ (fun e=>absurd e (by rw [C3];exact hU))
 intro _
 rw [C3,C3]
 refine ⟨_,_,rfl,Df b (T2 u) (T2 y) o o ?_ (fun e=>absurd e (by rw [C3];exact hU))⟩
 intro _
 rw [C3,C3]
 have ex:(((p*2^k).floor:Int):Rat)/2^k/(1/2^k)=(((p*2^k).floor:Int):Rat):=gz0
 have ey:(((q*2^k).ceil:Int):Rat)/2^k/(1/2^k)=(((q*2^k).ceil:Int):Rat):=gz0
 rw [ex,ey]
 have s:=(R1 k).mono (show 2*k+1<=241 from o)
 have Q:Sz 1000 (((p*2^k).floor:Int):Rat):=(Sz.int (T3 (A.mul s)) (show 1<=80+241 from o)).mono o
 have sY:Sz 1000 (((q*2^k).ceil:Int):Rat):=by
  refine Sz.mono (m:=321) (Sz.int ?_ o) o
  rw [aI]
  exact (T3 (C.mul s).neg).neg
 refine ⟨_,_,rfl,fun L x=>L=[.bool false]/\x=E,?_,?_⟩
 ·refine Br.f rfl (Br.f rfl ?_)
  refine Cl b (T2 Q) o ⟨_,rfl,?_⟩
  rw [C3,Rat.floor_intCast,Qb]
  refine Br.f (by simp) ?_
  refine Cl b (T2 sY) o ⟨_,rfl,?_⟩
  rw [C3,Rat.floor_intCast,Qb]
  exact ⟨by simp,rfl⟩
 rintro R x ⟨O,c⟩
 rw [c]
 clear c x
 obtain rfl:R=false:=by simpa using O
 refine Br.f rfl ?_
 refine Tn b (T2 r) (T2 y) o ⟨_,rfl,B3 _,?_⟩
 rw [C3,C3]
 refine G7 (m:=2001) b (Tx.of (r.add y) o) (Tx.of (A.mono o) o) o ⟨_,rfl,B3 _,?_⟩
 rw [C3,C3]
 refine Br.t (decide_eq_true (Fc.2 p3)) ?_
 refine Ti b (T2 u) (T2 y) o ⟨_,rfl,B3 _,?_⟩
 rw [C3,C3]
 refine G7 (m:=2001) b (Tx.of (u.sub y) o) (Tx.of (C.mono o) o) o ⟨_,rfl,B3 _,?_⟩
 rw [C3,C3]
 refine Br.t (decide_eq_true (Pk.2 q4)) ?_
 refine Xy (T2 Q).len ?_
 intro w h2 W i2
 rw [C3] at i2
 refine ⟨_,_,_,_,_,_,_,_,rfl,W,Tl i2 Q o ⟨_,rfl,B3 _,Br.t (by simp) ?_⟩⟩
 exact Fg (b.mono W) ⟨_,rfl,B3 _,rfl,A0 H W⟩
end
def Tz:reachBytes=140737488351232:=dc
def wts_at{H:Type}{P:Program}{ts:List TypeId}{ds:List (DataW H)}(h:(DataW.weightsEach P ts ds).all (· <= reachBytes)=true){j:Nat}{t:TypeId}{d:DataW H}(ht:ts[j]? = some t)(hd:ds[j]? = some d):∀ n∈d.weights P t,n<=140737488351232:=by
 intro n a
 have:=List.all_eq_true.1 h _ (DataW.weights_mem_each ht hd n a)
 rw [<- Tz];simpa using this
def wts_ss{H:Type}{P:Program}{t:TypeId}{f0 f1:Field}{a b:List UInt8}(u:P.underlying t=some (.struct #[f0,f1]))(h:∀ n∈(DataW.agg [.lit (.string a),.lit (.string b)]:DataW H).weights P t,n<=140737488351232):a.length<=140737488351232/\b.length<=140737488351232:=by
 simp only [DataW.weights,u,DataW.weightsEach,List.map_cons,List.map_nil,List.append_nil,List.cons_append,List.nil_append] at h
 exact ⟨h _ (by simp),h _ (by simp)⟩
