/- A part. -/
import Derived.Test.YtdphgbjaijlckaaGreatDoorG22
import Derived.Test.YtdphgbjaijlckaaGreatDoorG19
import Derived.Test.YtdphgbjaijlckaaGreatDoorG21
import Derived.Test.YtdphgbjaijlckaaGreatDoorRows
import Derived.Lib.LaidTab
open Go.Proofs.Tryz
set_option linter.all false
open _root_.Go.Addr renaming add->aF
open Bool renaming and_eq_true->aL
open _root_.Go.Instr renaming buildSlice->aR
open Int renaming toNat_natCast->aD,natAbs_natCast->aI
open List renaming take_succ_eq_append_getElem->aE,flatMap_cons->aG,take_length->aJ,getElem_mem->aK,not_mem_nil->aQ,getElem?_append_right->aT,getElem?_append_left->aU,mem_cons->aV,getElem?_eq_getElem->aW,getElem_cons_succ->aZ
open List.cons renaming injEq->aN
open Nat renaming mul_one->aP,zero_le->aS
open Rat renaming pow_succ->aX,le_trans->aY
open _root_.Go.Value renaming string->aH
open _root_.Go.Value.int renaming injEq->aM
open _root_.Go renaming Value->aO,Addr->bB
open _root_.Go.Proofs.YtdphgbjaijlckaaGreatDoor renaming FCall->aC,Heap->bA
namespace Go.Proofs.YtdphgbjaijlckaaGreatDoor
set_option maxRecDepth 20000
open Go
section
variable {h h':bA} {K:VP} {A B:Option bB} {n c n' c':Nat} {s s':Bool} {x y z:Int} {m:Nat}
end
def A45(h:bA)(r:aO)(h':bA):Prop:=r= .bool true/\h.le h'
def A2y{x:List UInt8}{k:Nat}(hl:x.length<=k)(hk:1<=k):Sz (4*k) (rv x):=by
 by_cases d:IsNum x
 ·obtain ⟨neg,a,b,f⟩:=d.form
  obtain ⟨i,g⟩:=f.rv_num d
  have e:=f.lens
  have c:(Ev neg a).natAbs=I0 a:=by unfold Ev;split<;>simp
  refine ⟨?_,?_⟩
  ·rw [i];exact (Dz f.da (k:=k) o).le (by rw [c,aI];exact Nat.le_refl _)
  ·rw [g]
   unfold Bv
   split
   ·exact ZB.one o
   ·exact Dz f.db o
 ·rw [Rp d];exact Sz.zero o
def U7{x:List UInt8}{k:Nat}(hl:x.length<=k)(hk:1<=k)(hk2:k<=140737488351232):Tx (4*k) x:=⟨o,A2y hl hk⟩
def Tx.mono{m n:Nat}{x:List UInt8}(t:Tx m x)(h:m<=n):Tx n x:=⟨t.len,t.sz.mono h⟩
def Im(lo hi:List UInt8):Prop:=∃ p q,lo=C6 p/\hi=C6 q/\p<=q
abbrev ivT(lo hi:List UInt8):aO:=.agg #[.string (bs lo),.string (bs hi)]
abbrev ivS(p q:Rat):aO:=ivT (C6 p) (C6 q)
def Zj(l:List Rat):∀ p,mnL p l=p\/mnL p l∈l:=by
 induction l with
 | nil=>intro p;exact .inl rfl
 | cons q l ih=>
  intro p
  rw [Ou]
  rcases ih (mn p q) with h|h
  ·rcases Sr p q with e|e
   ·rw [h,e];exact .inl rfl
   ·rw [h,e];exact .inr (by simp)
  ·exact .inr (by simp [h])
def Ze(l:List Rat):∀ p,mxL p l=p\/mxL p l∈l:=by
 induction l with
 | nil=>intro p;exact .inl rfl
 | cons q l ih=>
  intro p
  rw [Ot]
  rcases ih (mx p q) with h|h
  ·rcases So p q with e|e
   ·rw [h,e];exact .inl rfl
   ·rw [h,e];exact .inr (by simp)
  ·exact .inr (by simp [h])
def Sz.mnL{m:Nat}{p:Rat}{l:List Rat}(hp:Sz m p)(hl:∀ q∈l,Sz m q):Sz m (mnL p l):=by
 rcases Zj l p with e|e
 ·rw [e];exact hp
 ·exact hl _ e
def Sz.mxL{m:Nat}{p:Rat}{l:List Rat}(hp:Sz m p)(hl:∀ q∈l,Sz m q):Sz m (mxL p l):=by
 rcases Ze l p with e|e
 ·rw [e];exact hp
 ·exact hl _ e
section
variable {h:bA} {K:VP} {m:Nat} {lo hi x:List UInt8} {p q r s:Rat}
def Qb{qs:List Rat}{A:Option bB}{n c:Nat}(gl:Gl h)(hn:n=qs.length)(sl:SlV h A (qs.map fun q=>aH (bs (C6 q))))(hp:Sz m p)(hq:∀ q∈qs,Sz m q)(hm:m<=10000000)(hl:qs.length<=1000)
 (hK:K (.string (bs (C6 (mnL p qs)))) h):aC prog 97 #[.string (bs (C6 p)),.slice A n c] h K:=by
 subst hn
 refine (fnk func97 [(2,[0,9],[],[.string ⟨#[]⟩,I 0])]) ?_
 refine ⟨fun L hp=>hp=h/\∃ i:Nat,i<=qs.length/\L=[.string (bs (C6 (mnL p (qs.take i)))),I i],fun L _=>(qs.length-(iAt L 1).toNat),⟨rfl,0,aS _,rfl⟩,?_⟩
 rintro f x l ⟨rfl,i,y,k⟩
 simp only [aN,Value.string.injEq,aM,true_and,and_true] at k
 obtain ⟨rfl,rfl⟩:=k
 have r:Sz m (mnL p (qs.take i)):=hp.mnL fun q h=>hq q (List.mem_of_mem_take h)
 refine B5 (fun e=>?_) (fun e=>?_)
 ·have b:i<qs.length:=o
  obtain ⟨a,u,w⟩:=SlV.at sl (i:=i) (by simpa using b)
  refine ⟨a,u,o,e,bs (C6 qs[i]),?_,?_⟩
  ·rw [aD,aP,w];simp
  have d:mnL p (qs.take (i+1))=mn (mnL p (qs.take i)) qs[i]:=by rw [aE b,Vu]
  have g:=hq qs[i] (aK b)
  refine G4 gl (Tx.of g o) (Tx.of r o) o ⟨_,rfl,?_⟩
  rw [B8,B8,B4 o o]
  refine B5 (fun j=>⟨⟨rfl,i+1,b,?_⟩,?_⟩) (fun j=>⟨⟨rfl,i+1,b,?_⟩,?_⟩)
  ·rw [d,mn,iP (Jq.1 j)];rfl
  ·simp [iAt];omega
  ·rw [d,mn,iN (fun s=>j (Jq.2 s))];rfl
  ·simp [iAt];omega
 ·obtain rfl:i=qs.length:=o
  rw [aJ];exact hK
def Jg{qs:List Rat}{A:Option bB}{n c:Nat}(gl:Gl h)(hn:n=qs.length)(sl:SlV h A (qs.map fun q=>aH (bs (C6 q))))(hp:Sz m p)(hq:∀ q∈qs,Sz m q)(hm:m<=10000000)(hl:qs.length<=1000)
 (hK:K (.string (bs (C6 (mxL p qs)))) h):aC prog 98 #[.string (bs (C6 p)),.slice A n c] h K:=by
 subst hn
 refine (fnk func98 [(2,[0,9],[],[.string ⟨#[]⟩,I 0])]) ?_
 refine ⟨fun L hp=>hp=h/\∃ i:Nat,i<=qs.length/\L=[.string (bs (C6 (mxL p (qs.take i)))),I i],fun L _=>(qs.length-(iAt L 1).toNat),⟨rfl,0,aS _,rfl⟩,?_⟩
 rintro f x l ⟨rfl,i,y,k⟩
 simp only [aN,Value.string.injEq,aM,true_and,and_true] at k
 obtain ⟨rfl,rfl⟩:=k
 have r:Sz m (mxL p (qs.take i)):=hp.mxL fun q h=>hq q (List.mem_of_mem_take h)
 refine B5 (fun e=>?_) (fun e=>?_)
 ·have b:i<qs.length:=o
  obtain ⟨a,u,w⟩:=SlV.at sl (i:=i) (by simpa using b)
  refine ⟨a,u,o,e,bs (C6 qs[i]),?_,?_⟩
  ·rw [aD,aP,w];simp
  have d:mxL p (qs.take (i+1))=mx (mxL p (qs.take i)) qs[i]:=by rw [aE b,Vt]
  have g:=hq qs[i] (aK b)
  refine G4 gl (Tx.of g o) (Tx.of r o) o ⟨_,rfl,?_⟩
  rw [B8,B8,B4 o o]
  refine B5 (fun j=>⟨⟨rfl,i+1,b,?_⟩,?_⟩) (fun j=>⟨⟨rfl,i+1,b,?_⟩,?_⟩)
  ·rw [d,mx,iP (Bp.1 j)];rfl
  ·simp [iAt];omega
  ·rw [d,mx,iN (fun s=>j (Bp.2 s))];rfl
  ·simp [iAt];omega
 ·obtain rfl:i=qs.length:=o
  rw [aJ];exact hK
def Gg{qs:List Rat}{A:Option bB}{n c:Nat}(gl:Gl h)(hn:n=qs.length)(sl:SlV h A (qs.map fun q=>aH (bs (C6 q))))(hp:Sz m p)(hq:∀ q∈qs,Sz m q)(hm:m<=10000000)(hl:qs.length<=1000)
 (hK:K (ivS (mnL p qs) (mxL p qs)) h):aC prog 145 #[.string (bs (C6 p)),.slice A n c] h K:=by
 refine (fnk func145 (own:=[4])) ?_
 exact Qb gl hn sl hp hq hm hl ⟨_,rfl,Jg gl hn sl hp hq hm hl ⟨_,rfl,hK⟩⟩
def Rm{qs:List Rat}{K2:VP}{n:Nat}{ps:Array (Nat × aO)}(gl:Gl h)(hn:n=qs.length)(hps:ps.toList=(List.range' 0 (qs.map fun q=>aH (bs (C6 q))).length).zip (qs.map fun q=>aH (bs (C6 q))))(hp:Sz m p)(hq:∀ q∈qs,Sz m q)(hm:m<=10000000)(hl:qs.length<=1000)
 (hK:∀ h',h.le h'->K2 (ivS (mnL p qs) (mxL p qs)) h'):wpH prog (aR 52 n ps) (fun v hp=>∃ (A:Option bB) (n c:Nat),v= .slice A n c/\aC prog 145 #[.string (bs (C6 p)),.slice A n c] hp (fun r4 hp5=>∃ (t260:ByteArray) (t261:ByteArray),r4= .agg #[.string t260,.string t261]/\K2 (.agg #[.string t260,.string t261]) hp5)) h:=by
 have e:(qs.map C6).map (fun l=>aH (bs l))=qs.map fun q=>aH (bs (C6 q)):=by simp
 refine Jd Fh (ls:=qs.map C6) (by simpa using hn) o (by rw [e];exact hps) ?_
 intro b h' a sl
 rw [e] at sl
 exact ⟨_,_,_,rfl,Gg (gl.mono a) hn sl hp hq hm hl ⟨_,_,rfl,hK h' a⟩⟩
def F2(gl:Gl h)(ta:Tx m lo)(tb:Tx m hi)(hm:m<=1000000000)(hK1:∀ p q,lo=C6 p->hi=C6 q->p<=q->K (.bool true) h)(hK0:¬ Im lo hi->K (.bool false) h):aC prog 10 #[ivT lo hi] h K:=by
 refine (fnk func10 (own:=[1])) ?_
 refine Aj gl ta.len (fun a=>⟨_,rfl,?_⟩) (fun a=>⟨_,rfl,hK0 fun ⟨p,q,e,_⟩=>a ⟨p,e⟩⟩)
 obtain ⟨p,rfl⟩:=a
 refine Aj gl tb.len (fun a=>⟨_,rfl,?_⟩) (fun a=>⟨_,rfl,hK0 fun ⟨p,q,_,e,_⟩=>a ⟨q,e⟩⟩)
 obtain ⟨q,rfl⟩:=a
 refine G4 gl ta tb o ⟨_,rfl,?_⟩
 rw [B8,B8]
 by_cases b:p<=q
 ·rw [decide_eq_true (Eb.2 b)];exact hK1 p q rfl rfl b
 ·rw [decide_eq_false (fun e=>b (Eb.1 e))]
  refine hK0 ?_
  rintro ⟨i,j,c,g,d⟩
  rw [P1 c,P1 g] at b;exact b d
def Av(gl:Gl h)(ta:Tx m lo)(tb:Tx m hi)(tx:Tx m x)(hm:m<=1000000000)(hK1:∀ p q r,lo=C6 p->hi=C6 q->x=C6 r->p<=r->r<=q->K (.bool true) h)(hK0:¬ (∃ p q r,lo=C6 p/\hi=C6 q/\x=C6 r/\p<=r/\r<=q)->K (.bool false) h):aC prog 15 #[ivT lo hi,.string (bs x)] h K:=by
 refine (fnk func15 (own:=[2])) ?_
 refine F2 gl ta tb hm (fun p q a b n=>⟨_,rfl,?_⟩) (fun d=>⟨_,rfl,hK0 fun ⟨p,q,r,a,b,_,i,g⟩=>d ⟨p,q,a,b,aY i g⟩⟩)
 refine Aj gl tx.len (fun d=>⟨_,rfl,?_⟩) (fun d=>⟨_,rfl,hK0 fun ⟨p,q,r,_,_,e,_⟩=>d ⟨r,e⟩⟩)
 obtain ⟨r,s⟩:=d
 subst a b s
 refine G4 gl ta tx o ⟨_,rfl,?_⟩
 rw [B8,B8]
 refine B5 (fun e=>?_) (fun e=>hK0 ?_)
 ·refine G4 gl tx tb o ⟨_,rfl,?_⟩
  rw [B8,B8]
  by_cases c:r<=q
  ·rw [decide_eq_true (Eb.2 c)];exact hK1 p q r rfl rfl rfl (Eb.1 e) c
  ·rw [decide_eq_false (fun e=>c (Eb.1 e))]
   refine hK0 ?_
   rintro ⟨l,u,k,a,b,j,i,g⟩
   rw [P1 b,P1 j] at c;exact c g
 ·rintro ⟨l,u,k,a,b,j,i,g⟩
  rw [P1 a,P1 j] at e;exact e (Eb.2 i)
def Vx:C6 (1/2)=[49,47,50]:=by
 have a:(1/2:Rat).num=1:=by decide +kernel
 have b:(1/2:Rat).den=2:=by decide +kernel
 simp [C6,Be,a,b,H2,K6,E7,dch]
def Zb:C6 1=[49]:=by
 have a:(1:Rat).num=1:=rfl
 have b:(1:Rat).den=1:=rfl
 simp [C6,Be,a,b,H2,K6,E7,dch]
def Kt:Sz 1 1:=⟨by unfold ZB;decide +kernel,by unfold ZB;decide +kernel⟩
def Mq:C6 2=[50]:=by
 have a:(2:Rat).num=2:=rfl
 have b:(2:Rat).den=1:=rfl
 simp [C6,Be,a,b,H2,K6,E7,dch]
def Wt:Sz 2 2:=⟨by unfold ZB;decide +kernel,by unfold ZB;decide +kernel⟩
def Qf(gl:Gl h)(hp:Sz m p)(hq:Sz m q)(hr:Sz m r)(hs:Sz m s)(hm:m<=1000000)(hK:K (ivS (p+r) (q+s)) h):aC prog 76 #[ivS p q,ivS r s] h K:=by
 refine (fnk func76 (os:=[(1,[0,1,2,3,5,6,7,8,4,9,10,11])]) (own:=[2,3,4])) ?_
 refine Ch gl (Tx.of hp o) (Tx.of hr o) o ⟨_,rfl,B3 _,?_⟩
 refine Ch gl (Tx.of hq o) (Tx.of hs o) o ⟨_,rfl,B3 _,?_⟩
 rw [B8,B8,B8,B8];exact hK
def Ic(gl:Gl h)(hp:Sz m p)(hq:Sz m q)(hr:Sz m r)(hs:Sz m s)(hm:m<=1000000)(hK:K (ivS (Gc p q r s) (Gd p q r s)) h):aC prog 77 #[ivS p q,ivS r s] h K:=by
 refine FCall.pure ((fnk func77 (os:=[(1,[0,1,2,3,5,6,7,8,10,11,12,13,15,16,17,18,4,9,14,19,20,21,22])]) (own:=[2,3,4])) ?_)
 refine O2 gl (Tx.of hp o) (Tx.of hr o) o ⟨_,rfl,B3 _,?_⟩
 refine O2 gl (Tx.of hp o) (Tx.of hs o) o ⟨_,rfl,B3 _,?_⟩
 refine O2 gl (Tx.of hq o) (Tx.of hr o) o ⟨_,rfl,B3 _,?_⟩
 refine O2 gl (Tx.of hq o) (Tx.of hs o) o ⟨_,rfl,B3 _,?_⟩
 rw [B8,B8,B8,B8]
 have e:=(hp.mul hr)
 have a:∀ t∈[p*s,q*r,q*s],Sz (m+m) t:=by
  intro t d
  simp only [aV,aQ,or_false] at d
  rcases d with rfl|rfl|rfl
  ·exact hp.mul hs
  ·exact hq.mul hr
  ·exact hq.mul hs
 refine Jd Fh (ls:=[C6 (p*s),C6 (q*r),C6 (q*s)]) rfl (by simp) rfl ?_
 intro b g c sl
 refine ⟨_,_,_,rfl,c,?_⟩
 refine Gg (qs:=[p*s,q*r,q*s]) (gl.mono c) rfl sl e a o (by simp) ⟨_,_,rfl,B3 _,c,hK⟩
def Rn{q:Rat}:q.num.sign<0↔q<0:=by rw [Int.sign_neg_iff,Rat.lt_iff];simp
def Ro{q:Rat}:0<q.num.sign↔0<q:=by rw [Int.sign_pos_iff,Rat.lt_iff];simp
def Qe{k:Nat}(gl:Gl h)(hp:Sz m p)(hq:Sz m q)(hm1:1<=m)(hk:k<=1000)(hm:m*k+1<=1000000)(hmm:m<=1000000)(hK:K (ivS (Fy p q k) (Fz p q k)) h):aC prog 78 #[ivS p q,I (k:Int)] h K:=by
 refine FCall.pure ((fnk func78 (own:=[2,4])) ?_)
 have z:({ data:=#[48] }:ByteArray)=bs (C6 0):=by rw [Ph];rfl
 refine Ce gl (Tx.of hp o) hm1 (by simpa using (show m*k+1<=40000000 from o)) o ?_ (fun _ g=>o) (fun g=>o)
 intro _ _ _
 refine ⟨_,_,rfl,?_⟩
 refine Ce gl (Tx.of hq o) hm1 (by simpa using (show m*k+1<=40000000 from o)) o ?_ (fun _ g=>o) (fun g=>o)
 intro _ _ _
 refine ⟨_,_,rfl,?_⟩
 rw [B8,B8,aI]
 have u:=hp.pow hm1 k
 have x:=hq.pow hm1 k
 have a:¬ (0<k/\k%2=0/\p<0/\0<q)->wpH prog (aR 52 1 #[(0,.string (bs (C6 (q^k))))]) (fun v hp=>∃ (A:Option bB) (n c:Nat),v= .slice A n c/\aC prog 145 #[.string (bs (C6 (p^k))),.slice A n c] hp (fun y s=>∃ (t260:ByteArray) (t261:ByteArray),y= .agg #[.string t260,.string t261]/\h.le s/\K (.agg #[.string t260,.string t261]) h)) h:=by
  intro w
  refine Rm (K2:=fun r e=>h.le e/\K r h) (qs:=[q^k]) gl rfl rfl u (fun t b=>by simp at b;subst b;exact x) o (by simp) (fun e j=>⟨j,?_⟩)
  unfold Fy Fz at hK
  rw [iN w,iN w] at hK
  exact hK
 have b:Int.tmod (k:Int) 2=((k%2:Nat):Int):=by rw [Int.tmod_eq_emod_of_nonneg o];omega
 rw [b]
 refine B5 (fun B=>?_) (fun B=>a o)
 refine E5 (fun g=>?_) (fun g=>a o)
 refine Hm gl (by have:=Ip hp;omega) ⟨_,rfl,?_⟩
 rw [B8]
 refine B5 (fun l=>?_) (fun l=>a (fun d=>l (Rn.2 d.2.2.1)))
 refine Hm gl (by have:=Ip hq;omega) ⟨_,rfl,?_⟩
 rw [B8]
 refine B5 (fun i=>?_) (fun i=>a (fun d=>i (Ro.2 d.2.2.2)))
 have d:0<k/\k%2=0/\p<0/\0<q:=⟨o,o,Rn.1 l,Ro.1 i⟩
 rw [z]
 refine Rm (m:=m*k+1) (K2:=fun r e=>h.le e/\K r h) (qs:=[p^k,q^k]) gl rfl rfl (Sz.zero o) (fun t b=>by simp at b;rcases b with rfl|rfl;exact u;exact x) o (by simp) (fun e j=>⟨j,?_⟩)
 unfold Fy Fz at hK
 rw [iP d,iP d] at hK
 exact hK
abbrev ivE:aO:=.agg #[.string (bs []),.string (bs [])]
variable {lo2 hi2:List UInt8}
def Tc(gl:Gl h)(ta:Tx m lo)(tb:Tx m hi)(tc:Tx m lo2)(td:Tx m hi2)(hm:m<=1000000)(hK1:∀ p q r s,lo=C6 p->hi=C6 q->p<=q->lo2=C6 r->hi2=C6 s->r<=s->K (.tuple #[ivS (p+r) (q+s),I 0]) h)(hK0:¬ (Im lo hi/\Im lo2 hi2)->K (.tuple #[ivE,I 1]) h):aC prog 25 #[ivT lo hi,ivT lo2 hi2] h K:=by
 refine (fnk func25 (own:=[2,3,4])) ?_
 refine F2 gl ta tb o (fun p q d n b=>⟨_,rfl,?_⟩) (fun c=>⟨_,rfl,hK0 fun x=>c x.1⟩)
 refine F2 gl tc td o (fun r s e k a=>⟨_,rfl,?_⟩) (fun c=>⟨_,rfl,hK0 fun x=>c x.2⟩)
 have u:=hK1 p q r s d n b e k a
 subst d n e k
 have i:=ta.sz;have l:=tb.sz;have j:=tc.sz;have g:=td.sz
 rw [B8] at i l j g
 exact Qf gl i l j g hm ⟨_,_,rfl,u⟩
def Sx(gl:Gl h)(ta:Tx m lo)(tb:Tx m hi)(tc:Tx m lo2)(td:Tx m hi2)(hm:m<=1000000)(hK1:∀ p q r s,lo=C6 p->hi=C6 q->p<=q->lo2=C6 r->hi2=C6 s->r<=s->K (.tuple #[ivS (p-s) (q-r),I 0]) h)(hK0:¬ (Im lo hi/\Im lo2 hi2)->K (.tuple #[ivE,I 1]) h):aC prog 26 #[ivT lo hi,ivT lo2 hi2] h K:=by
 refine (fnk func26 (os:=[(3,[0,1,2,3,5,6,7,8,4,9,10,11,12])]) (own:=[2,3,4])) ?_
 refine F2 gl ta tb o (fun p q d i b=>⟨_,rfl,?_⟩) (fun c=>⟨_,rfl,hK0 fun x=>c x.1⟩)
 refine F2 gl tc td o (fun r s e g a=>⟨_,rfl,?_⟩) (fun c=>⟨_,rfl,hK0 fun x=>c x.2⟩)
 have j:=hK1 p q r s d i b e g a
 refine Fq gl ta td o ⟨_,rfl,B3 _,Fq gl tb tc o ⟨_,rfl,B3 _,?_⟩⟩
 subst d i e g
 rw [B8,B8,B8,B8];exact j
def Ta(gl:Gl h)(ta:Tx m lo)(tb:Tx m hi)(tc:Tx m lo2)(td:Tx m hi2)(hm:m<=1000000)(hK1:∀ p q r s,lo=C6 p->hi=C6 q->p<=q->lo2=C6 r->hi2=C6 s->r<=s->K (.tuple #[ivS (Gc p q r s) (Gd p q r s),I 0]) h)(hK0:¬ (Im lo hi/\Im lo2 hi2)->K (.tuple #[ivE,I 1]) h):aC prog 27 #[ivT lo hi,ivT lo2 hi2] h K:=by
 refine (fnk func27 (own:=[2,3,4])) ?_
 refine F2 gl ta tb o (fun p q d n b=>⟨_,rfl,?_⟩) (fun c=>⟨_,rfl,hK0 fun x=>c x.1⟩)
 refine F2 gl tc td o (fun r s e k a=>⟨_,rfl,?_⟩) (fun c=>⟨_,rfl,hK0 fun x=>c x.2⟩)
 have u:=hK1 p q r s d n b e k a
 subst d n e k
 have i:=ta.sz;have l:=tb.sz;have j:=tc.sz;have g:=td.sz
 rw [B8] at i l j g
 exact Ic gl i l j g hm ⟨_,_,rfl,u⟩
def Tb(gl:Gl h)(ta:Tx m lo)(tb:Tx m hi)(tc:Tx m lo2)(td:Tx m hi2)(hm:m<=400000)(hm1:1<=m)(hK1:∀ p q r s,lo=C6 p->hi=C6 q->p<=q->lo2=C6 r->hi2=C6 s->r<=s->(0<r\/s<0)->K (.tuple #[ivS (Gc p q (1/s) (1/r)) (Gd p q (1/s) (1/r)),I 0]) h)
 (hKz:∀ p q r s,lo=C6 p->hi=C6 q->p<=q->lo2=C6 r->hi2=C6 s->r<=0->0<=s->K (.tuple #[ivE,I 5]) h) (hK0:¬ (Im lo hi/\Im lo2 hi2)->K (.tuple #[ivE,I 1]) h):aC prog 30 #[ivT lo hi,ivT lo2 hi2] h K:=by
 refine (fnk func30 (own:=[2,3,4])) ?_
 refine F2 gl ta tb o (fun p q u n j=>⟨_,rfl,?_⟩) (fun d=>⟨_,rfl,hK0 fun x=>d x.1⟩)
 refine F2 gl tc td o (fun r s g i c=>⟨_,rfl,?_⟩) (fun d=>⟨_,rfl,hK0 fun x=>d x.2⟩)
 have O:Tx m [48]:=⟨by simp,by rw [A2l];exact Sz.zero hm1⟩
 have k:rv [49]=1:=by rw [<- Zb,B8]
 have A:Tx m [49]:=⟨by simp,by rw [k];exact Kt.mono hm1⟩
 refine Av (x:=[48]) gl tc td O o (fun R S H z C E B y=>⟨_,rfl,?_⟩) (fun d=>⟨_,rfl,?_⟩)
 ·have b:H=0:=by rw [<- Ph] at E;exact (P1 E).symm
  subst b
  rw [g] at z
  rw [i] at C
  rw [<- P1 z] at B
  rw [<- P1 C] at y
  exact hKz p q r s u n j g i B y
 ·have Q:0<r\/s<0:=by
   by_cases N:0<r
   ·exact .inl N
   ·by_cases L:s<0
    ·exact .inr L
    ·exact absurd ⟨r,s,0,g,i,Ph.symm,gz0,gz0⟩ d
  have M:=hK1 p q r s u n j g i c Q
  subst u n g i
  have D:=ta.sz;have G:=tb.sz;have F:=tc.sz;have w:=td.sz
  rw [B8] at D G F w
  have b:r≠0:=gz0
  have l:s≠0:=gz0
  refine Y6 (a:=[49]) gl A td hm1 o ?_ (fun e=>absurd e (by rw [B8];exact l))
  intro _
  rw [k,B8]
  refine ⟨_,_,rfl,Y6 (a:=[49]) gl A tc hm1 o ?_ (fun e=>absurd e (by rw [B8];exact b))⟩
  intro _
  rw [k,B8]
  refine ⟨_,_,rfl,?_⟩
  exact Ic (m:=m+m) gl (D.mono o) (G.mono o) ((Kt.mono hm1).div w hm1) ((Kt.mono hm1).div F hm1) o ⟨_,_,rfl,M⟩
def Sy{k:Int}(gl:Gl h)(ta:Tx m lo)(tb:Tx m hi)(hm1:1<=m)(hm:m<=10000)(hK1:∀ p q (n:Nat),lo=C6 p->hi=C6 q->p<=q->k=n->n<=24->K (.tuple #[ivS (Fy p q n) (Fz p q n),I 0]) h)(hKr:Im lo hi->(k<0\/24<k)->K (.tuple #[ivE,I 3]) h)(hK0:¬ Im lo hi->K (.tuple #[ivE,I 1]) h):aC prog 28 #[ivT lo hi,I k] h K:=by
 refine (fnk func28 (own:=[2,4])) ?_
 refine F2 gl ta tb o (fun p q b c a=>⟨_,rfl,?_⟩) (fun j=>⟨_,rfl,hK0 j⟩)
 refine B5 (fun e=>hKr ⟨p,q,b,c,a⟩ (.inl e)) (fun r=>B5 (fun e=>hKr ⟨p,q,b,c,a⟩ (.inr e)) (fun l=>?_))
 obtain ⟨n,rfl⟩:∃ n:Nat,k=n:=⟨k.toNat,o⟩
 have i:=hK1 p q n b c a rfl o
 subst b c
 have d:=ta.sz;have g:=tb.sz
 rw [B8] at d g
 have:m*n<=m*24:=Nat.mul_le_mul_left m o
 exact Qe gl d g hm1 o o o ⟨_,_,rfl,i⟩
def Nf(x:Rat)(a b:Nat):x^(a+b)=x^a*x^b:=by
 induction b with
 | zero=>simp [Rat.pow_zero]
 | succ b ih=>rw [Nat.add_succ,aX,ih,aX,Rat.mul_assoc]
def Dj(k:Nat):Sz (2*k+1) ((2:Rat)^k):=Wt.pow o k
def Ms(k:Nat):(0:Rat)<2^k:=by
 induction k with
 | zero=>rw [Rat.pow_zero];decide
 | succ k ih=>rw [aX];exact Rat.mul_pos ih dc
def Ky:∀ (k:Nat) {K:VP},Gl h->k<=8192->K (.string (bs (C6 (2^k)))) h->aC prog 58 #[I (k:Int)] h K:=by
 intro k
 induction k using Nat.strongRecOn with
 | _ k ih=>
  intro K c l d
  refine (fnk func58) ?_
  have b:rv [50]=2:=by rw [<- Mq,B8]
  refine B5 (fun i=>?_) (fun i=>?_)
  ·refine Ce (m:=2) (a:=[50]) c ⟨by simp,by rw [b];exact Wt⟩ o o o ?_ ?_ ?_
   ·intro _ _ _
    rw [b,aI]
    exact ⟨_,_,rfl,d⟩
   ·intro _ g;omega
   ·intro g;omega
  ·have e:B7 (Int.tdiv (k:Int) 2)=((k/2:Nat):Int):=by
    rw [Int.tdiv_eq_ediv_of_nonneg o,B4 o o];omega
   have j:B7 ((k:Int)-((k/2:Nat):Int))=((k-k/2:Nat):Int):=by rw [B4 o o];omega
   rw [e,j]
   refine ih (k/2) o c o ⟨_,rfl,ih (k-k/2) o c o ⟨_,rfl,?_⟩⟩
   refine O2 (m:=2*k+1) c (Tx.of ((Dj _).mono o) o) (Tx.of ((Dj _).mono o) o) o ⟨_,rfl,?_⟩
   rw [B8,B8,<- Nf,show k/2+(k-k/2)=k from o]
   exact d
def Ws(z:Int):Be z=C6 (z:Rat):=by simp [C6]
def Np{bits:Int}(gl:Gl h)(ta:Tx m lo)(tb:Tx m hi)(hm1:1<=m)(hm:m<=10000)
 (hK1:∀ p q (k:Nat),lo=C6 p->hi=C6 q->p<=q->bits=k->k<=4096->K (.tuple #[ivS ((((p*2^k).floor:Int):Rat)/2^k) ((((q*2^k).ceil:Int):Rat)/2^k),I 0]) h)
 (hKr:Im lo hi->(bits<0\/4096<bits)->K (.tuple #[ivE,I 3]) h) (hK0:¬ Im lo hi->K (.tuple #[ivE,I 1]) h):aC prog 13 #[ivT lo hi,I bits] h K:=by
 refine (fnk func13 (own:=[2,4])) ?_
 refine F2 gl ta tb o (fun p q d g a=>⟨_,rfl,?_⟩) (fun w=>⟨_,rfl,hK0 w⟩)
 refine B5 (fun e=>hKr ⟨p,q,d,g,a⟩ (.inl e)) (fun y=>B5 (fun e=>hKr ⟨p,q,d,g,a⟩ (.inr e)) (fun x=>?_))
 obtain ⟨k,rfl⟩:∃ k:Nat,bits=k:=⟨bits.toNat,o⟩
 have s:=hK1 p q k d g a rfl o
 subst d g
 have i:=ta.sz;have j:=tb.sz
 rw [B8] at i j
 have b:=(Dj k).mono (show 2*k+1<=10000 from o)
 have c:(2:Rat)^k≠0:=fun e=>by have:=Ms k;rw [e] at this;exact absurd this dc
 refine Ky k gl o ⟨_,rfl,?_⟩
 refine O2 (m:=10000) gl (Tx.of (i.mono o) o) (Tx.of b o) o ⟨_,rfl,?_⟩
 rw [B8,B8]
 have l:=(i.mul b).mono (show m+10000<=20000 from o)
 have n:=(j.mul b).mono (show m+10000<=20000 from o)
 refine Mx (m:=20000) gl (Tx.of l o) o ⟨_,rfl,?_⟩
 rw [B8,Ws]
 have u:=Sz.int (Fj l) o
 have r:Sz 20000 (((q*2^k).ceil:Int):Rat):=by
  refine Sz.int ?_ o
  rw [Rat.ceil_eq_neg_floor_neg]
  exact (Fj n.neg).neg
 refine Y6 (m:=20000) gl (Tx.of u o) (Tx.of (b.mono o) o) o o ?_ (fun e=>absurd e (by rw [B8];exact c))
 intro _
 rw [B8,B8]
 refine ⟨_,_,rfl,?_⟩
 refine O2 (m:=10000) gl (Tx.of (j.mono o) o) (Tx.of b o) o ⟨_,rfl,?_⟩
 rw [B8,B8]
 refine Pk (m:=20000) gl (Tx.of n o) o ⟨_,rfl,?_⟩
 rw [B8,Ws]
 refine Y6 (m:=20000) gl (Tx.of r o) (Tx.of (b.mono o) o) o o ?_ (fun e=>absurd e (by rw [B8];exact c))
 intro _
 rw [B8,B8]
 exact ⟨_,_,rfl,s⟩
end
end Go.Proofs.YtdphgbjaijlckaaGreatDoor
namespace Go.Proofs.YtdphgbjaijlckaaGreatDoor
set_option maxRecDepth 20000
open Go Go.RowKit
def memOf(W:World):bA:=fun b=>W.heap[b]?
def frame_of{P:Program}{f:FuncId}{args:Array aO}{W:World}(x:aC P f args (memOf W) (A45 (memOf W))):Calls P f args W fun e w'=>e= .returned (.bool true)/\Below W.heap.size W w':=by
 refine (x W (fun b o e=>e)).mono ?_
 rintro e W' ⟨r,l,i,⟨j,c⟩,a⟩
 subst j
 refine ⟨i,a.os,a.tape,a.output,a.size,fun k g=>?_⟩
 have d:memOf W k=some W.heap[k]:=Array.getElem?_eq_getElem g
 have:=a.sim k _ (c k _ d)
 rw [this];exact d.symm
def Ia{W:World}{a:bB}{v:aO}(e:W.cell? a=some v):(memOf W).cell? a=some v:=by
 unfold World.cell? at e
 unfold Heap.cell? memOf
 exact e
def wf_bnd{n:Int}(h:(Lit.int .i64 n).wf=true): -9223372036854775808<=n/\n<=9223372036854775807:=by
 simp only [Lit.wf,aL,decide_eq_true_eq] at h
 exact h
def open_ss{H:Type}{enc:TypeId × aO->H}{P:Program}{W:World}{base:Nat}{sp:Nat->Bool}{held:Bool}{r:Reach}{b0:Nat}{t:TypeId}{f0 f1:Field}{v:aO}{d:DataW H}{ps:List MemPlace}(ht:P.underlying t=some (.struct #[f0,f1]))(u0:P.underlying f0.type=some .string)(u1:P.underlying f1.type=some .string)(hoff:f0.offset=0/\f1.offset=1/\P.cellsOf f0.type=1/\P.cellsOf f1.type=1/\P.cellsOf t=2)
 (hval:Value.okWide P W r b0 t v) (hd:DataW.Trod enc P W base sp held t v d ps):∃ x y:ByteArray,v= .agg #[.string x,.string y]/\d= .agg [.lit (.string x.data.toList),.lit (.string y.data.toList)]/\ps=[]/\x.size<=maxLen/\y.size<=maxLen:=by
 obtain ⟨D,A,F,z,E⟩:=hoff
 obtain ⟨a,rfl,c⟩:=WideShapes.okWide_struct ht hval
 obtain ⟨u,B⟩:=hd
 obtain ⟨M,G,n,k,L,m,s⟩:=ChangeShapes.trod_struct2 ht B
 rw [D,F] at m
 rw [A,z] at s
 obtain ⟨i,e,rfl,C⟩:=DataW.trod_string u0 m
 obtain ⟨j,g,rfl,w⟩:=DataW.trod_string u1 s
 rw [E] at c
 have l:a.toList=[.string i,.string j]:=by
  simp only [Value.cells] at e g
  have b:a.toList.length=2:=by simpa using c
  match hm:a.toList,b with
  | [p,q],_=>
   rw [hm] at e g
   simp at e g
   rw [e,g]
 have:a=#[.string i,.string j]:=by rw [<- Array.toArray_toList (xs:=a),l]
 subst this
 simp only [Prod.mk.injEq] at k
 exact ⟨i,j,rfl,k.1,by simpa using k.2,C,w⟩
def Ox{P:Program}{W:World}{x:String × DataW Unit}{rest:List (String × DataW Unit)}(h:laidMet P (x::rest) W):laidMet P rest W:=by
 obtain ⟨n,d⟩:=x
 obtain ⟨l,⟨g,t,s,c,p,q,u,m,w,r,j,rfl⟩,e,i⟩:=h
 exact ⟨q,j,(List.nodup_append.1 e).2.1,fun b a k=>i b a (List.mem_append_right _ k)⟩
def A2v:List Int:=[0,1,28,2,29,14,24,3,30,22,20,15,25,17,4,8,31,27,13,23,21,19,16,7,26,12,18,6,11,5,10,9]
def Vb:List Int:=[0,1,56,2,57,49,28,3,61,58,42,50,38,29,17,4,62,47,59,36,45,43,51,22,53,39,33,30,24,18,12,5,63,55,48,27,60,41,37,16,46,35,44,21,52,32,23,11,54,26,40,15,34,20,31,10,25,14,19,9,13,8,7,6]
def Xw:List Int:=[1,10,100,1000,10000,100000,1000000,10000000,100000000,1000000000,10000000000,100000000000,1000000000000,10000000000000,100000000000000,1000000000000000,10000000000000000,100000000000000000,1000000000000000000,10000000000000000000]
def Xl:prog.globalNamed "math/bits.deBruijn64tab" = some 1:=by kernel_rfl
def Xm:prog.globalNamed "internal/strconv.uint64pow10" = some 0:=by kernel_rfl
def tabs_gl{W:World}(h:laidMet prog [("math/bits.deBruijn32tab",Rows.laid_math_bits_deBruijn32tab),("math/bits.deBruijn64tab",Rows.laid_math_bits_deBruijn64tab),("internal/strconv.uint64pow10",Rows.laid_internal_strconv_uint64pow10)] W):Gl (memOf W):=by
 have j:=Ox h
 have l:=Ox j
 have e:Lib.TabIs prog W "math/bits.deBruijn64tab" .u8 Vb:=Lib.tabIs_of_head (rest:=[("internal/strconv.uint64pow10",Rows.laid_internal_strconv_uint64pow10)]) Xl (by kernel_rfl) underlying308 underlying5 (by kernel_rfl) (by kernel_rfl) j
 have i:Lib.TabIs prog W "internal/strconv.uint64pow10" .u64 Xw:=Lib.tabIs_of_head (rest:=[]) Xm (by kernel_rfl) underlying298 underlying230 (by kernel_rfl) (by kernel_rfl) l
 have d:∀ k,k<64->Mo k<Vb.length/\Vb.getD (Mo k) 0=(k:Int):=by decide +kernel
 have g:∀ k,k<20->Xw.getD k 0=((10^k:Nat):Int):=by decide +kernel
 refine ⟨fun k c=>?_,fun k c=>?_⟩
 ·obtain ⟨a,b⟩:=d k c
  have:=Ia (e.cell Xl (Mo k) a)
  rw [J8,aP,Nat.zero_add,this,b]
 ·have:=Ia (i.cell Xm k (by show k<20;exact c))
  rw [J8,aP,Nat.zero_add,this,g k c]
def Sv(zs:List Int)(k:IntKind):Obj->Obj
 | .cells _ t frozen=>.cells (zs.map (Value.int k)).toArray t frozen
 | o=>o
def layTabs(a:Array Obj):Array Obj:=((a.modify 4 (Sv A2v .u8)).modify 1 (Sv Vb .u8)).modify 0 (Sv Xw .u64)
abbrev iv8(a b:QV):aO:=.agg #[.bool a.s,.slice a.A a.n a.c,.bool a.s2,.slice a.A2 a.n2 a.c2,.bool b.s,.slice b.A b.n b.c,.bool b.s2,.slice b.A2 b.n2 b.c2]
def Cm(w:QV):List aO:=[.bool w.s,.slice w.A w.n w.c,.bool w.s2,.slice w.A2 w.n2 w.c2]
structure QsAt (h:bA) (A:Option bB) (ws:List QV) (ps:List Rat):Prop where
 len:ws.length=ps.length
 num:∀ (i:Nat) (h1:i<ws.length) (h2:i<ps.length),NQ h ws[i] ps[i]
 sl:SlV h A (ws.flatMap Cm)
def Rr(ws:List QV):(ws.flatMap Cm).length=ws.length*4:=by
 induction ws with
 | nil=>rfl
 | cons w ws ih=>rw [aG,List.length_append,ih,List.length_cons];simp [Cm];omega
def Vh(ws:List QV):∀ {i:Nat} (hi:i<ws.length) {j:Nat} (hj:j<4),(ws.flatMap Cm)[i*4+j]? = (Cm ws[i])[j]? :=by
 induction ws with
 | nil=>intro i hi;simp at hi
 | cons w ws ih=>
  intro i hi j hj
  rw [aG]
  cases i with
  | zero=>rw [aU (by simp [Cm];omega)];simp
  | succ i=>
   rw [aT (by simp [Cm];omega)]
   have:=ih (i:=i) (by simpa using hi) hj
   simp only [aZ]
   rw [<- this]
   congr 1
   simp [Cm];omega
def QsAt.at{h:bA}{A:Option bB}{ws:List QV}{ps:List Rat}(q:QsAt h A ws ps){i:Nat}(hi:i<ps.length):∃ a w,A=some a/\NQ h w ps[i]/\Heap.cell? h (aF (aF a (i*4)) 0)=some (.bool w.s)/\Heap.cell? h (aF (aF a (i*4)) 1)=some (.slice w.A w.n w.c)/\Heap.cell? h (aF (aF a (i*4)) 2)=some (.bool w.s2)/\Heap.cell? h (aF (aF a (i*4)) 3)=some (.slice w.A2 w.n2 w.c2):=by
 have d:i<ws.length:=by rw [q.len];exact hi
 have m:=Rr ws
 obtain ⟨a,e,_⟩:=q.sl.at (i:=0) o
 refine ⟨a,ws[i],e,q.num i d hi,?_⟩
 have cell:∀ j,j<4->∀ v,(Cm ws[i])[j]? = some v->Heap.cell? h (aF (aF a (i*4)) j)=some v:=by
  intro j k v g
  obtain ⟨p,b,l⟩:=q.sl.at (i:=i*4+j) o
  rw [e] at b
  cases b
  rw [Js,l]
  have:=Vh ws d k
  rw [aW o,g] at this
  exact this
 exact ⟨cell 0 o _ rfl,cell 1 o _ rfl,cell 2 o _ rfl,cell 3 o _ rfl⟩
section
variable {h:bA} {K:VP} {m:Nat} {lo hi x:List UInt8} {p q r s:Rat} {a b c d w:QV}
end
def ivB(lo hi:List UInt8):Bool:=decide (C6 (rv lo)=lo)&&(decide (C6 (rv hi)=hi)&&decide (rv lo<=rv hi))
def J9{p q:Rat}(h:p<=q):ivB (C6 p) (C6 q)=true:=by simp [ivB,B8,h]
def Oy{lo hi:List UInt8}(h:ivB lo hi=true):Im lo hi:=by
 simp only [ivB,aL,decide_eq_true_eq] at h
 exact ⟨rv lo,rv hi,h.1.symm,h.2.1.symm,h.2.2⟩
def R8{lo hi:List UInt8}(h:¬ Im lo hi):ivB lo hi=false:=by
 cases e:ivB lo hi with
 | false=>rfl
 | true=>exact absurd (Oy e) h
abbrev R3:=List UInt8 × List UInt8 × Int
abbrev r3(x:R3):aO:=.tuple #[ivT x.1 x.2.1,I x.2.2]
def Xc(lo hi:List UInt8)(k:Int):R3:=if ivB lo hi then (if k<0\/24<k then ([],[],3) else (C6 (Fy (rv lo) (rv hi) k.toNat),C6 (Fz (rv lo) (rv hi) k.toNat),0)) else ([],[],1)
def Hp(lo hi:List UInt8)(k:Int):R3:=if ivB lo hi then (if k<0\/4096<k then ([],[],3) else (C6 ((((rv lo*2^k.toNat).floor:Int):Rat)/2^k.toNat),C6 ((((rv hi*2^k.toNat).ceil:Int):Rat)/2^k.toNat),0)) else ([],[],1)
def A2g(lo hi lo2 hi2:List UInt8):R3:=if ivB lo hi&&ivB lo2 hi2 then (C6 (rv lo+rv lo2),C6 (rv hi+rv hi2),0) else ([],[],1)
def A0j(lo hi lo2 hi2:List UInt8):R3:=if ivB lo hi&&ivB lo2 hi2 then (C6 (rv lo-rv hi2),C6 (rv hi-rv lo2),0) else ([],[],1)
def Zh(lo hi lo2 hi2:List UInt8):R3:=if ivB lo hi&&ivB lo2 hi2 then (C6 (Gc (rv lo) (rv hi) (rv lo2) (rv hi2)),C6 (Gd (rv lo) (rv hi) (rv lo2) (rv hi2)),0) else ([],[],1)
def Xo(lo hi lo2 hi2:List UInt8):R3:=if ivB lo hi&&ivB lo2 hi2 then (if rv lo2<=0/\0<=rv hi2 then ([],[],5) else (C6 (Gc (rv lo) (rv hi) (1/rv hi2) (1/rv lo2)),C6 (Gd (rv lo) (rv hi) (1/rv hi2) (1/rv lo2)),0)) else ([],[],1)
def Lj(lo hi x:List UInt8):Bool:=ivB lo hi&&(decide (C6 (rv x)=x)&&decide (rv lo<=rv x/\rv x<=rv hi))
def Ig{p q r:Rat}(h1:p<=r)(h2:r<=q):Lj (C6 p) (C6 q) (C6 r)=true:=by simp [Lj,J9 (aY h1 h2),B8,h1,h2]
def Nu{lo hi x:List UInt8}(h:¬ (∃ p q r,lo=C6 p/\hi=C6 q/\x=C6 r/\p<=r/\r<=q)):Lj lo hi x=false:=by
 cases e:Lj lo hi x with
 | false=>rfl
 | true=>
  simp only [Lj,aL,decide_eq_true_eq] at e
  obtain ⟨d,c,a,b⟩:=e
  obtain ⟨p,q,rfl,rfl,_⟩:=Oy d
  rw [B8] at a b
  exact absurd ⟨p,q,rv x,rfl,rfl,c.symm,a,b⟩ h
section
variable {h:bA} {K:VP} {m:Nat} {lo hi x lo2 hi2:List UInt8}
def A21(gl:Gl h)(ta:Tx m lo)(tb:Tx m hi)(hm1:1<=m)(hm:m<=10000){k:Int}(hK:K (r3 (Xc lo hi k)) h):aC prog 28 #[ivT lo hi,I k] h K:=by
 refine Sy gl ta tb hm1 hm ?_ ?_ ?_
 ·rintro p q n rfl rfl a rfl b
  rw [Xc,iP (J9 a),iN o,B8,B8,aD] at hK;exact hK
 ·rintro ⟨p,q,rfl,rfl,a⟩ c
  rw [Xc,iP (J9 a),iP c] at hK;exact hK
 ·intro b
  rw [Xc,R8 b,iN (by simp)] at hK;exact hK
def Zn(gl:Gl h)(ta:Tx m lo)(tb:Tx m hi)(hm1:1<=m)(hm:m<=10000){k:Int}(hK:K (r3 (Hp lo hi k)) h):aC prog 13 #[ivT lo hi,I k] h K:=by
 refine Np gl ta tb hm1 hm ?_ ?_ ?_
 ·rintro p q n rfl rfl a rfl b
  rw [Hp,iP (J9 a),iN o,B8,B8,aD] at hK;exact hK
 ·rintro ⟨p,q,rfl,rfl,a⟩ c
  rw [Hp,iP (J9 a),iP c] at hK;exact hK
 ·intro b
  rw [Hp,R8 b,iN (by simp)] at hK;exact hK
def Cd{lo hi lo2 hi2:List UInt8}(h:¬ (Im lo hi/\Im lo2 hi2)):(ivB lo hi&&ivB lo2 hi2)=false:=by
 cases e:(ivB lo hi&&ivB lo2 hi2) with
 | false=>rfl
 | true=>
  rw [aL] at e
  exact absurd ⟨Oy e.1,Oy e.2⟩ h
def L3{p q r s:Rat}(h:p<=q)(h2:r<=s):(ivB (C6 p) (C6 q)&&ivB (C6 r) (C6 s))=true:=by rw [J9 h,J9 h2];rfl
def A40(gl:Gl h)(ta:Tx m lo)(tb:Tx m hi)(tc:Tx m lo2)(td:Tx m hi2)(hm:m<=1000000)(hK:K (r3 (A2g lo hi lo2 hi2)) h):aC prog 25 #[ivT lo hi,ivT lo2 hi2] h K:=by
 refine Tc gl ta tb tc td hm ?_ ?_
 ·rintro p q r s rfl rfl b rfl rfl a
  rw [A2g,iP (L3 b a),B8,B8,B8,B8] at hK;exact hK
 ·intro c
  rw [A2g,Cd c,iN (by simp)] at hK;exact hK
def A3y(gl:Gl h)(ta:Tx m lo)(tb:Tx m hi)(tc:Tx m lo2)(td:Tx m hi2)(hm:m<=1000000)(hK:K (r3 (A0j lo hi lo2 hi2)) h):aC prog 26 #[ivT lo hi,ivT lo2 hi2] h K:=by
 refine Sx gl ta tb tc td hm ?_ ?_
 ·rintro p q r s rfl rfl b rfl rfl a
  rw [A0j,iP (L3 b a),B8,B8,B8,B8] at hK;exact hK
 ·intro c
  rw [A0j,Cd c,iN (by simp)] at hK;exact hK
def A23(gl:Gl h)(ta:Tx m lo)(tb:Tx m hi)(tc:Tx m lo2)(td:Tx m hi2)(hm:m<=1000000)(hK:K (r3 (Zh lo hi lo2 hi2)) h):aC prog 27 #[ivT lo hi,ivT lo2 hi2] h K:=by
 refine Ta gl ta tb tc td hm ?_ ?_
 ·rintro p q r s rfl rfl b rfl rfl a
  rw [Zh,iP (L3 b a),B8,B8,B8,B8] at hK;exact hK
 ·intro c
  rw [Zh,Cd c,iN (by simp)] at hK;exact hK
def A3z(gl:Gl h)(ta:Tx m lo)(tb:Tx m hi)(tc:Tx m lo2)(td:Tx m hi2)(hm:m<=400000)(hm1:1<=m)(hK:K (r3 (Xo lo hi lo2 hi2)) h):aC prog 30 #[ivT lo hi,ivT lo2 hi2] h K:=by
 refine Tb gl ta tb tc td hm hm1 ?_ ?_ ?_
 ·rintro p q r s rfl rfl a rfl rfl b g
  rw [Xo,iP (L3 a b),B8,B8,B8,B8,iN gz0] at hK;exact hK
 ·rintro p q r s rfl rfl a rfl rfl d c
  rw [Xo,iP (L3 a (aY d c)),B8,B8,B8,B8,iP ⟨d,c⟩] at hK;exact hK
 ·intro e
  rw [Xo,Cd e,iN (by simp)] at hK;exact hK
def No(gl:Gl h)(ta:Tx m lo)(tb:Tx m hi)(hm:m<=1000000000)(hK:K (.bool (ivB lo hi)) h):aC prog 10 #[ivT lo hi] h K:=by
 refine F2 gl ta tb hm ?_ ?_
 ·rintro p q rfl rfl a;rw [J9 a] at hK;exact hK
 ·intro b;rw [R8 b] at hK;exact hK
def Dx(gl:Gl h)(ta:Tx m lo)(tb:Tx m hi)(tx:Tx m x)(hm:m<=1000000000)(hK:K (.bool (Lj lo hi x)) h):aC prog 15 #[ivT lo hi,.string (bs x)] h K:=by
 refine Av gl ta tb tx hm ?_ ?_
 ·rintro p q r rfl rfl rfl a b;rw [Ig a b] at hK;exact hK
 ·intro c;rw [Nu c] at hK;exact hK
def Ep{ls:List (List UInt8)}{n:Int}{A:Option bB}{c ln:Nat}(sl:SlV h A (ls.map fun l=>aH (bs l)))(hn:ln=ls.length)(hl:ls.length<=1000000000)(hK1:(∀ l∈ls,(l.length:Int)<=n)->K (.bool true) h)(hK0:¬ (∀ l∈ls,(l.length:Int)<=n)->K (.bool false) h):aC prog 23 #[I n,.slice A ln c] h K:=by
 subst hn
 refine (fnk func23 [(2,[5],[],[I 0])]) ?_
 refine ⟨fun L k=>k=h/\∃ i:Nat,i<=ls.length/\(∀ l∈ls.take i,(l.length:Int)<=n)/\L=[I i],fun L _=>ls.length-(iAt L 0).toNat,⟨rfl,0,aS _,by simp,rfl⟩,?_⟩
 rintro t m ⟨rfl,i,r,b,j⟩
 simp only [aN,aM,true_and,and_true] at j
 subst j
 refine B5 (fun e=>?_) (fun e=>?_)
 ·have d:i<ls.length:=o
  obtain ⟨a,p,q⟩:=SlV.at sl (i:=i) (by simpa using d)
  refine ⟨a,p,o,e,bs ls[i],?_,?_⟩
  ·rw [aD,aP,q];simp
  rw [J0,B4 o o]
  refine B5 (fun g=>hK0 fun x=>?_) (fun g=>⟨⟨rfl,i+1,d,?_,rfl⟩,?_⟩)
  ·have:=x ls[i] (aK d);omega
  ·intro l hl
   rw [aE d] at hl
   rcases List.mem_append.1 hl with hl|hl
   ·exact b l hl
   ·rw [List.mem_singleton.1 hl];omega
  ·simp [iAt];omega
 ·obtain rfl:i=ls.length:=o
  rw [aJ] at b
  exact hK1 b
def O6(x:List UInt8 × List UInt8):List aO:=[.string (bs x.1),.string (bs x.2)]
def Qd(l:List (List UInt8 × List UInt8)):(l.flatMap O6).length=l.length*2:=by
 induction l with
 | nil=>rfl
 | cons w l ih=>rw [aG,List.length_append,ih,List.length_cons];simp [O6];omega
def Sw(l:List (List UInt8 × List UInt8)):∀ {i:Nat} (hi:i<l.length) {j:Nat} (hj:j<2),(l.flatMap O6)[i*2+j]? = (O6 l[i])[j]? :=by
 induction l with
 | nil=>intro i hi;simp at hi
 | cons w l ih=>
  intro i hi j hj
  rw [aG]
  cases i with
  | zero=>rw [aU (by simp [O6];omega)];simp
  | succ i=>
   rw [aT (by simp [O6];omega)]
   have:=ih (i:=i) (by simpa using hi) hj
   simp only [aZ]
   rw [<- this]
   congr 1
   simp [O6];omega
def A20{l:List (List UInt8 × List UInt8)}{A:Option bB}(sl:SlV h A (l.flatMap O6)){i:Nat}(hi:i<l.length):∃ a,A=some a/\Heap.cell? h (aF (aF a (i*2)) 0)=some (.string (bs l[i].1))/\Heap.cell? h (aF (aF a (i*2)) 1)=some (.string (bs l[i].2)):=by
 have k:=Qd l
 obtain ⟨a,c,_⟩:=sl.at (i:=0) o
 refine ⟨a,c,?_⟩
 have cell:∀ j,j<2->∀ v,(O6 l[i])[j]? = some v->Heap.cell? h (aF (aF a (i*2)) j)=some v:=by
  intro j d v e
  obtain ⟨m,b,g⟩:=sl.at (i:=i*2+j) o
  rw [c] at b
  cases b
  rw [Js,g]
  have:=Sw l hi d
  rw [aW o,e] at this
  exact this
 exact ⟨cell 0 o _ rfl,cell 1 o _ rfl⟩
def Nn{l:List (List UInt8 × List UInt8)}{A:Option bB}{c ln:Nat}(sl:SlV h A (l.flatMap O6))(hn:ln=l.length)(hl:l.length<=1000000000)(hK1:(∀ x∈l,x.1.length<=20/\x.2.length<=20)->K (.bool true) h)(hK0:¬ (∀ x∈l,x.1.length<=20/\x.2.length<=20)->K (.bool false) h):aC prog 9 #[.slice A ln c] h K:=by
 subst hn
 refine FCall.pure ((fnk func9 [(2,[3],[],[I 0])]) ?_)
 refine ⟨fun L s=>h.le s/\∃ i:Nat,i<=l.length/\(∀ x∈l.take i,x.1.length<=20/\x.2.length<=20)/\L=[I i],fun L _=>l.length-(iAt L 0).toNat,⟨B3 _,0,aS _,by simp,rfl⟩,?_⟩
 rintro t u ⟨m,i,F,d,r⟩
 simp only [aN,aM,true_and,and_true] at r
 subst r
 refine B5 (fun e=>?_) (fun e=>?_)
 ·have j:i<l.length:=o
  obtain ⟨a,q,z,B⟩:=A20 (sl.mono m) j
  refine ⟨a,q,o,e,bs l[i].1,by rw [aD];exact z,a,q,o,e,bs l[i].2,by rw [aD];exact B,?_⟩
  refine Jd Fh (ls:=[l[i].1,l[i].2]) rfl (by simp) rfl ?_
  intro b D n w
  refine ⟨_,_,_,rfl,n,?_⟩
  rw [B4 o o]
  refine Ep w rfl (by simp) (fun g=>⟨_,rfl,B3 _,⟨⟨A0 m n,i+1,j,?_,rfl⟩,?_⟩⟩) (fun g=>⟨_,rfl,B3 _,A0 m n,hK0 fun x=>?_⟩)
  ·intro x k
   rw [aE j] at k
   rcases List.mem_append.1 k with k|k
   ·exact d x k
   ·rw [List.mem_singleton.1 k]
    have E:=g l[i].1 (by simp)
    have C:=g l[i].2 (by simp)
    omega
  ·simp [iAt];omega
  ·have:=x l[i] (aK j)
   refine g fun y p=>?_
   simp only [aV,aQ,or_false] at p
   rcases p with rfl|rfl<;>omega
 ·obtain rfl:i=l.length:=o
  rw [aJ] at d
  exact ⟨m,hK1 d⟩
def Vv{l:List (List UInt8 × List UInt8)}{n:Nat}{parts:Array (Nat × aO)}(hn:n=l.length)(hlen:n<=1000)(hp:parts.toList=(List.range' 0 (l.map fun x=>ivT x.1 x.2).length).zip (l.map fun x=>ivT x.1 x.2)){K:VP}
 (x:∀ b h',h.le h'->SlV h' (some ⟨b,0,none⟩) (l.flatMap O6)->K (.slice (some ⟨b,0,none⟩) n n) h'):wpH prog (aR 65 n parts) K h:=by
 refine Kv A4g (vs:=l.map fun x=>ivT x.1 x.2) (fun v a=>?_) (by simpa using hn) o hp (fun b c=>x b _ (Heap.le_put _ c) ?_)
 ·obtain ⟨w,_,rfl⟩:=List.mem_map.1 a;rfl
 ·have e:∀ l:List (List UInt8 × List UInt8),(l.map fun x=>ivT x.1 x.2).flatMap (fun v=>v.cells.toList)=l.flatMap O6:=by
   intro l
   induction l with
   | nil=>rfl
   | cons w l ih=>rw [List.map_cons,aG,ih,aG];rfl
  rw [e]
  exact SlV.new _ b _ _ _ _ (fun i v a=>by simpa using a)
def A0g:C6 (-1)=[45,49]:=by
 have a:(-1:Rat).num= -1:=by decide +kernel
 have b:(-1:Rat).den=1:=by decide +kernel
 simp [C6,Be,a,b,H2,K6,E7,dch]
def A2r:C6 (-2)=[45,50]:=by
 have a:(-2:Rat).num= -2:=by decide +kernel
 have b:(-2:Rat).den=1:=by decide +kernel
 simp [C6,Be,a,b,H2,K6,E7,dch]
def A4f:C6 4=[52]:=by
 have a:(4:Rat).num=4:=by decide +kernel
 have b:(4:Rat).den=1:=by decide +kernel
 simp [C6,Be,a,b,H2,K6,E7,dch]
def A0h:C6 (1/3)=[49,47,51]:=by
 have a:(1/3:Rat).num=1:=by decide +kernel
 have b:(1/3:Rat).den=3:=by decide +kernel
 simp [C6,Be,a,b,H2,K6,E7,dch]
def A2s:C6 (1/4)=[49,47,52]:=by
 have a:(1/4:Rat).num=1:=by decide +kernel
 have b:(1/4:Rat).den=4:=by decide +kernel
 simp [C6,Be,a,b,H2,K6,E7,dch]
def A2w{q:Rat}(h:decide (q.num.natAbs<65536/\q.den<65536)=true):Sz 16 q:=by
 have:=of_decide_eq_true h
 exact ⟨by unfold ZB;exact this.1,by unfold ZB;simpa using this.2⟩
def A2t(a:Array UInt8):({ data:=a }:ByteArray)=bs a.toList:=by simp [bs]
def Ee(gl:Gl h)(hK:K (.bool true) h):aC prog 11 #[] h K:=by
 refine (fnk func11 (own:=[1,2,4,6])) ?_
 have d:Tx 16 (C6 (-1)):=Tx.of (A2w (by decide +kernel)) o
 have c:Tx 16 (C6 2):=Tx.of (A2w (by decide +kernel)) o
 have e:Tx 16 (C6 (1/3)):=Tx.of (A2w (by decide +kernel)) o
 show aC _ _ #[ivT [45,49] [50],ivT [45,49] [50]] _ _
 rw [<- A0g,<- Mq]
 refine A23 gl d c d c o ?_
 have i:Zh (C6 (-1)) (C6 2) (C6 (-1)) (C6 2)=(C6 (-2),C6 4,0):=by
  rw [Zh,iP (L3 (by decide +kernel) (by decide +kernel)),B8,B8]
  have a:Gc (-1) 2 (-1) 2= -2:=by decide +kernel
  have b:Gd (-1) 2 (-1) 2=4:=by decide +kernel
  rw [a,b]
 rw [i]
 refine ⟨_,_,_,rfl,?_⟩
 show aC _ _ #[ivT (C6 (-1)) (C6 2),I 2] _ _
 refine A21 gl d c o o ?_
 have j:Xc (C6 (-1)) (C6 2) 2=(C6 0,C6 4,0):=by
  rw [Xc,iP (J9 (by decide +kernel)),iN o,B8,B8]
  have a:Fy (-1) 2 (2:Int).toNat=0:=by decide +kernel
  have b:Fz (-1) 2 (2:Int).toNat=4:=by decide +kernel
  rw [a,b]
 rw [j]
 refine ⟨_,_,_,rfl,?_⟩
 show aC _ _ #[ivT [49,47,51] [49,47,51],I 2] _ _
 rw [<- A0h]
 refine Zn gl e e o o ?_
 have g:Hp (C6 (1/3)) (C6 (1/3)) 2=(C6 (1/4),C6 (1/2),0):=by
  rw [Hp,iP (J9 (by decide +kernel)),iN o,B8]
  have a:((((1/3:Rat)*2^(2:Int).toNat).floor:Int):Rat)/2^(2:Int).toNat=1/4:=by decide +kernel
  have b:((((1/3:Rat)*2^(2:Int).toNat).ceil:Int):Rat)/2^(2:Int).toNat=1/2:=by decide +kernel
  rw [a,b]
 rw [g]
 refine ⟨_,_,_,rfl,?_⟩
 simp only [A2r,A4f,Ph,A2s,Vx,Mq,A0g,A0h,A2t,Ih]
 exact hK
end
section
variable {h:bA} {lo hi x:List UInt8}
end
def Br.t{b:Bool}{A B:Prop}(hb:b=true)(x:A):Br b A B:=by subst hb;exact x
def Br.f{b:Bool}{A B:Prop}(hb:b=false)(x:B):Br b A B:=by subst hb;exact x
def A01{p q r s:Rat}(h:p<=q)(h2:r<=s):A2g (C6 p) (C6 q) (C6 r) (C6 s)=(C6 (p+r),C6 (q+s),0):=by rw [A2g,iP (L3 h h2),B8,B8,B8,B8]
def Xy{p q r s:Rat}(h:p<=q)(h2:r<=s):A0j (C6 p) (C6 q) (C6 r) (C6 s)=(C6 (p-s),C6 (q-r),0):=by rw [A0j,iP (L3 h h2),B8,B8,B8,B8]
def Zg{p q r s:Rat}(h:p<=q)(h2:r<=s):Zh (C6 p) (C6 q) (C6 r) (C6 s)=(C6 (Gc p q r s),C6 (Gd p q r s),0):=by rw [Zh,iP (L3 h h2),B8,B8,B8,B8]
def A1y{m:Nat}{p q r s:Rat}(hp:Sz m p)(hq:Sz m q)(hr:Sz m r)(hs:Sz m s):Sz (m+m) (Gc p q r s)/\Sz (m+m) (Gd p q r s):=by
 have a:∀ t∈[p*s,q*r,q*s],Sz (m+m) t:=by
  intro t b
  simp only [aV,aQ,or_false] at b
  rcases b with rfl|rfl|rfl
  ·exact hp.mul hs
  ·exact hq.mul hr
  ·exact hq.mul hs
 exact ⟨(hp.mul hr).mnL a,(hp.mul hr).mxL a⟩
section
variable {h:bA} {K:VP} {m:Nat} {lo hi x lo2 hi2:List UInt8}
end
def Pz(lo hi s:List UInt8):List UInt8:=if rv s<rv lo then lo else if rv hi<rv s then hi else C6 (rv s)
def Sj{p q:Rat}(s:List UInt8)(h:p<=q):∃ x,Pz (C6 p) (C6 q) s=C6 x/\p<=x/\x<=q:=by
 unfold Pz
 rw [B8,B8]
 by_cases a:rv s<p
 ·rw [iP a];exact ⟨p,rfl,Rat.le_refl,h⟩
 ·rw [iN a]
  by_cases b:q<rv s
  ·rw [iP b];exact ⟨q,rfl,h,Rat.le_refl⟩
  ·rw [iN b];exact ⟨rv s,rfl,gz0,gz0⟩
def Si{m:Nat}{lo hi s:List UInt8}(ta:Tx m lo)(tb:Tx m hi)(ts:Tx m s)(hm:m<=40000000):Tx m (Pz lo hi s):=by
 unfold Pz
 split
 ·exact ta
 ·split
  ·exact tb
  ·exact Tx.of ts.sz hm
section
variable {h:bA} {K:VP} {m:Nat} {lo hi x lo2 hi2 s t:List UInt8}
def Qc{n m:Int}(hm:0<m/\m<=1000)(hn: -9223372036854775808<=n/\n<=9223372036854775807)(hK:K (I (n%m)) h):aC prog 12 #[I n,I m] h K:=by
 refine (fnk func12) ?_
 have k:=Int.emod_nonneg n (show m≠0 from o)
 have i:=Int.emod_lt_of_pos n hm.1
 have g:Int.tmod n m=if 0<=n\/n%m=0 then n%m else n%m-m:=by
  rw [Int.tmod_eq_emod]
  by_cases b:0<=n
  ·simp [b]
  ·by_cases a:n%m=0
   ·have:m∣n:=Int.dvd_of_emod_eq_zero a
    simp [this,a]
   ·have:¬ m∣n:=fun d=>a (Int.emod_eq_zero_of_dvd d)
    have j:(m.natAbs:Int)=m:=Int.natAbs_of_nonneg o
    simp [b,a,this];omega
 refine B5 (fun e=>o) (fun _=>?_)
 rw [g]
 by_cases c:0<=n\/n%m=0
 ·rw [iP c]
  exact B5 (fun e=>o) (fun _=>hK)
 ·rw [iN c]
  refine B5 (fun _=>?_) (fun e=>o)
  rw [B4 o o,show n%m-m+m=n%m from o];exact hK
def Cu(gl:Gl h)(ta:Tx m lo)(tb:Tx m hi)(hm:m<=576000000000000)(hK:∀ lo' hi',((lo'=lo/\hi'=hi)\/(lo'=hi/\hi'=lo))->rv lo'<=rv hi'->K (ivT lo' hi') h):aC prog 8 #[ivT lo hi] h K:=by
 refine (fnk func8 (own:=[1,2])) ?_
 refine G4 gl ta tb o ⟨_,rfl,B5 (fun e=>?_) (fun e=>?_)⟩
 ·exact hK hi lo (.inr ⟨rfl,rfl⟩) (by have:=Bp.1 e;grind)
 ·exact hK lo hi (.inl ⟨rfl,rfl⟩) (by have:¬ rv hi<rv lo:=fun h=>e (Bp.2 h);grind)
def Ib(gl:Gl h)(ta:Tx m lo)(tb:Tx m hi)(ts:Tx m s)(hm:m<=1000000)(hm1:1<=m)(hK:K (.string (bs (Pz lo hi s))) h):aC prog 24 #[ivT lo hi,.string (bs s)] h K:=by
 refine (fnk func24 (own:=[2])) ?_
 refine Ch (b:=[48]) gl ts ⟨by simp,by rw [A2l];exact Sz.zero hm1⟩ o ⟨_,rfl,?_⟩
 rw [A2l,Rat.add_zero]
 refine G4 gl (Tx.of ts.sz o) ta o ⟨_,rfl,?_⟩
 rw [B8]
 unfold Pz at hK
 refine B5 (fun e=>?_) (fun e=>?_)
 ·rw [iP (Jq.1 e)] at hK;exact hK
 ·rw [iN (fun a=>e (Jq.2 a))] at hK
  refine G4 gl (Tx.of ts.sz o) tb o ⟨_,rfl,?_⟩
  rw [B8]
  refine B5 (fun c=>?_) (fun c=>?_)
  ·rw [iP (Bp.1 c)] at hK;exact hK
  ·rw [iN (fun a=>c (Bp.2 a))] at hK;exact hK
def O4{p q r:Rat}(gl:Gl h)(hp:Sz m p)(hq:Sz m q)(hr:Sz m r)(hm:m<=10000000)(h1:p<=r)(h2:r<=q)(hK:K (.bool true) h):aC prog 15 #[ivT (C6 p) (C6 q),.string (bs (C6 r))] h K:=by
 refine Dx gl (Tx.of hp o) (Tx.of hq o) (Tx.of hr o) o ?_
 rw [Ig h1 h2];exact hK
def Pc(h:¬ Im lo hi):Lj lo hi x=false:=by rw [Lj,R8 h];rfl
def law_contains{k:Int}(hl:(lo.length<=140737488351232/\hi.length<=140737488351232)/\lo2.length<=140737488351232/\hi2.length<=140737488351232)(gl:Gl h)(hk: -9223372036854775808<=k/\k<=9223372036854775807):aC prog 4 #[ivT lo hi,ivT lo2 hi2,.string (bs s),.string (bs t),I k] h (A45 h):=by
 refine (fnk func4 (cs:=[(14,[149],[],[.bool false])]) (os:=[(1,[0,2,1,3,4,5]),(4,[0,1,3,4,2,5,6,7])]) (own:=[5,6,13,15,17,19,23])) ?_
 have T:∀ {l:List UInt8},l.length<=140737488351232->Tx 562949953404928 l:=fun hx=>U7 (k:=140737488351232) hx o o
 refine Cu gl (T hl.1.1) (T hl.1.2) o ?_
 intro N O ca ai
 refine ⟨_,_,rfl,B3 _,?_⟩
 refine Cu gl (T hl.2.1) (T hl.2.2) o ?_
 intro b1 b2 cb af
 refine ⟨_,_,rfl,B3 _,?_⟩
 refine Vv (l:=[(N,O),(b1,b2)]) rfl (by simp) rfl ?_
 intro bb h1 l1 sl
 refine ⟨_,_,_,rfl,?_⟩
 have V:=gl.mono l1
 refine Nn sl rfl (by simp) (fun M=>⟨_,rfl,?_⟩) (fun M=>⟨_,rfl,Ee V ⟨_,rfl,rfl,l1⟩⟩)
 have c1:=M (N,O) (by simp)
 have c2:=M (b1,b2) (by simp)
 have i:Tx 80 N:=U7 (k:=20) c1.1 o o
 have j:Tx 80 O:=U7 (k:=20) c1.2 o o
 have z:Tx 80 b1:=U7 (k:=20) c2.1 o o
 have C:Tx 80 b2:=U7 (k:=20) c2.2 o o
 refine Jd Fh (ls:=[s,t]) rfl (by simp) rfl ?_
 intro ag h2 l2 ae
 have a:=V.mono l2
 have X:=A0 l1 l2
 refine ⟨_,_,_,rfl,Ep ae rfl (by simp) (fun F=>⟨_,rfl,?_⟩) (fun F=>⟨_,rfl,Ee a ⟨_,rfl,rfl,X⟩⟩)⟩
 have ts:Tx 80 s:=(U7 (k:=12) (by have:=F s (by simp);omega) o o).mono o
 have tt:Tx 80 t:=(U7 (k:=12) (by have:=F t (by simp);omega) o o).mono o
 refine Ib a i j ts o o ⟨_,rfl,B3 _,?_⟩
 refine Ib a z C tt o o ⟨_,rfl,B3 _,?_⟩
 have c:aC prog 11 #[] h2 (fun ac W=>∃ (t68:Bool),ac= .bool t68/\A45 h (.bool t68) W):=Ee a ⟨_,rfl,rfl,X⟩
 have tx:=Si i j ts o
 have ty:=Si z C tt o
 by_cases ha:Im N O
 case neg=>
  refine Dx a i j tx o ⟨_,rfl,?_⟩
  rw [Pc ha]
  refine No a i j o ⟨_,rfl,?_⟩
  rw [R8 ha];exact c
 obtain ⟨p,q,rfl,rfl,b⟩:=ha
 obtain ⟨x,ex,px,xq⟩:=Sj s b
 have G:=i.sz;have Q:=j.sz;have A:=tx.sz
 rw [ex] at A ⊢
 rw [B8] at G Q A
 refine O4 a G Q A o px xq ⟨_,rfl,?_⟩
 by_cases hb:Im b1 b2
 case neg=>
  refine Dx a z C ty o ⟨_,rfl,?_⟩
  rw [Pc hb]
  refine No a i j o ⟨_,rfl,?_⟩
  rw [J9 b]
  refine No a z C o ⟨_,rfl,?_⟩
  rw [R8 hb];exact c
 obtain ⟨r,u,rfl,rfl,d⟩:=hb
 obtain ⟨y,ey,ry,yu⟩:=Sj t d
 have H:=z.sz;have E:=C.sz;have D:=ty.sz
 rw [ey] at D ⊢
 rw [B8] at H E D
 refine O4 a H E D o ry yu ⟨_,rfl,?_⟩
 refine Qc o hk ⟨_,rfl,?_⟩
 obtain ⟨n,hn⟩:∃ n:Nat,k%6=n:=⟨(k%6).toNat,o⟩
 have ah:n<=5:=o
 rw [hn]
 have w:=Tx.of A (show 80<=40000000 from o)
 have B:=Tx.of D (show 80<=40000000 from o)
 refine A40 a i j z C o ⟨_,_,_,rfl,A3y a i j z C o ⟨_,_,_,rfl,A23 a i j z C o ⟨_,_,_,rfl,A21 a i j o o ⟨_,_,_,rfl,?_⟩⟩⟩⟩
 have ep:Xc (C6 p) (C6 q) (n:Int)=(C6 (Fy p q n),C6 (Fz p q n),0):=by rw [Xc,iP (J9 b),iN o,B8,B8,aD]
 rw [A01 b d,Xy b d,Zg b d,ep]
 refine Ce a w o (by rw [aI];omega) o ?_ (fun _ h3=>o) (fun h3=>o)
 intro _ _ _
 rw [B8,aI]
 refine ⟨_,_,rfl,fun L hp=>L=[.bool false]/\hp=h2,?_,?_⟩
 ·refine Br.f rfl (Br.f rfl (Br.f rfl (Br.f rfl (Br.f rfl ?_))))
  refine Ch a w B o ⟨_,rfl,B3 _,?_⟩
  rw [B8,B8]
  refine O4 (m:=161) a (G.add H) (Q.add E) (A.add D) o gz0 gz0 ⟨_,rfl,B3 _,?_⟩
  refine Fq a w B o ⟨_,rfl,B3 _,?_⟩
  rw [B8,B8]
  refine O4 (m:=161) a (G.sub E) (Q.sub H) (A.sub D) o gz0 gz0 ⟨_,rfl,B3 _,?_⟩
  refine O2 a w B o ⟨_,rfl,B3 _,?_⟩
  rw [B8,B8]
  obtain ⟨z1,z2⟩:=A1y G Q H E
  obtain ⟨b3,b4⟩:=Sq px xq ry yu
  refine O4 (m:=160) a z1 z2 (A.mul D) o b3 b4 ⟨_,rfl,B3 _,?_⟩
  obtain ⟨b5,b6⟩:=Yz n px xq
  have N:=G.pow o n
  have O:=Q.pow o n
  have z3:Sz (80*n+1) (Fy p q n):=by
   unfold Fy
   split
   ·exact (Sz.zero o).mnL (fun t R=>by simp at R;rcases R with rfl|rfl;exact N;exact O)
   ·rcases Sr (p^n) (q^n) with e|e<;>rw [e]<;>assumption
  have z4:Sz (80*n+1) (Fz p q n):=by
   unfold Fz
   split
   ·exact (Sz.zero o).mxL (fun t R=>by simp at R;rcases R with rfl|rfl;exact N;exact O)
   ·rcases So (p^n) (q^n) with e|e<;>rw [e]<;>assumption
  exact O4 a z3 z4 (A.pow o n) o b5 b6 ⟨_,rfl,B3 _,rfl,rfl⟩
 rintro aa hp ⟨hL,rfl⟩
 obtain rfl:aa=false:=by simpa using hL
 refine Br.f rfl ?_
 refine A3z a i j z C o o ⟨_,_,_,rfl,?_⟩
 by_cases S:r<=0/\0<=u
 ·have ed:Xo (C6 p) (C6 q) (C6 r) (C6 u)=([],[],5):=by rw [Xo,iP (L3 b d),B8,B8,B8,B8,iP S]
  rw [ed]
  refine Br.t rfl (Br.t rfl ?_)
  have e0:({ data:=#[48] }:ByteArray)=bs (C6 0):=by rw [Ph];rfl
  rw [e0]
  exact O4 a H E (Sz.zero o) o S.1 S.2 ⟨_,rfl,c⟩
 ·have ed:Xo (C6 p) (C6 q) (C6 r) (C6 u)=(C6 (Gc p q (1/u) (1/r)),C6 (Gd p q (1/u) (1/r)),0):=by rw [Xo,iP (L3 b d),B8,B8,B8,B8,iN S]
  rw [ed]
  refine Br.f rfl ?_
  have M:0<r\/u<0:=by
   by_cases g1:0<r
   ·exact .inl g1
   ·by_cases g2:u<0
    ·exact .inr g2
    ·exact absurd ⟨gz0,gz0⟩ S
  have ad:y≠0:=by rcases M with g|g<;>grind
  refine Y6 a w B o o ?_ (fun e=>absurd e (by rw [B8];exact ad))
  intro _
  rw [B8,B8]
  refine ⟨_,_,rfl,Br.t rfl ?_⟩
  have zr:Sz 81 (1/r):=(Kt.div H o).mono o
  have zu:Sz 81 (1/u):=(Kt.div E o).mono o
  obtain ⟨z1,z2⟩:=A1y (G.mono (show 80<=81 from o)) (Q.mono (show 80<=81 from o)) zu zr
  have i1:1/u<=1/y:=Gh yu (by rcases M with g|g;exact .inl gz0;exact .inr g)
  have i2:1/y<=1/r:=Gh ry (by rcases M with g|g;exact .inl g;exact .inr gz0)
  obtain ⟨b3,b4⟩:=Sq px xq i1 i2
  have ab:x*(1/y)=x/y:=gz0
  rw [ab] at b3 b4
  exact O4 (m:=162) a z1 z2 ((A.div D o).mono o) o b3 b4 ⟨_,rfl,Br.t rfl c⟩
end
def Rq:reachBytes=140737488351232:=dc
def wts_at{H:Type}{P:Program}{ts:List TypeId}{ds:List (DataW H)}(h:(DataW.weightsEach P ts ds).all (· <= reachBytes)=true){j:Nat}{t:TypeId}{d:DataW H}(ht:ts[j]? = some t)(hd:ds[j]? = some d):∀ n∈d.weights P t,n<=140737488351232:=by
 intro n a
 have:=List.all_eq_true.1 h _ (DataW.weights_mem_each ht hd n a)
 rw [<- Rq];simpa using this
def wts_ss{H:Type}{P:Program}{t:TypeId}{f0 f1:Field}{a b:List UInt8}(u:P.underlying t=some (.struct #[f0,f1]))(h:∀ n∈(DataW.agg [.lit (.string a),.lit (.string b)]:DataW H).weights P t,n<=140737488351232):a.length<=140737488351232/\b.length<=140737488351232:=by
 simp only [DataW.weights,u,DataW.weightsEach,List.map_cons,List.map_nil,List.append_nil,List.cons_append,List.nil_append] at h
 exact ⟨h _ (by simp),h _ (by simp)⟩
