/- A part. -/
import Derived.Test.YtbgkfnjmcjfokaaGreatDoorG29
import Derived.Deep.Strs
open Go.Proofs.Tryz
set_option linter.all false
open _root_.Go.Addr renaming add->aL
open _root_.ByteArray renaming toList->aJ
open Int renaming natAbs_natCast->aY
open List renaming replicate->aX,length_map->bF,getElem?_toArray->bG
open List.cons renaming injEq->aI
open Nat renaming pow_lt_pow_right->aU,exists_eq_add_of_le->bC,mul_le_mul_right->bH,le_refl->bI,lt_of_le_of_lt->bK,zero_add->bM
open Rat renaming le_of_lt->aE,mul_nonneg->aK,divInt->aQ,mul_pos->aT,pow_succ->aV,le_refl->aZ,div_mul_cancel->bJ,le_trans->bL,one_mul->bO,intCast_neg->bU,mul_assoc->bX,pow_zero->bY
open _root_.Go.Value renaming string->aC,agg->aH
open _root_.Go.Value.bool renaming injEq->bN
open _root_.Go.Value.int renaming injEq->aN
open _root_.Go.Value.slice renaming injEq->aO
open _root_.Go renaming Addr->aR,Value->aW
open _root_.Go.Proofs.YtbgkfnjmcjfokaaGreatDoor renaming FCall->aF,Heap->aP
namespace Go.Proofs.YtbgkfnjmcjfokaaGreatDoor
set_option maxRecDepth 20000
open Go
def T2:List K9:=[(tI 1,[2]),(tI (-2),[0])]
def SrS(h:aP)(A:Option aR)(z:List Int):Prop:=∃ a,A=some a/\∀ k,k<z.length->h.cell? (aL a (k*1))=some (.string (bs (tI (z.getD k 0))))
def SrS.cf{g:aP}{b:Nat}{z:List Int}:SrS (Cf g b z) (some ⟨b,0,none⟩) z:=⟨_,rfl,fun k a=>Cf.cell k a⟩
def C1p(z:Int):IsNum (tI z):=⟨_,rfl⟩
def Sm.len{z:Int}(s:Sm z):(tI z).length<=140737488351232:=by have:=s.tx.len;omega
def mnZ(z:List Int):Nat->Int
 | 0=>z.getD 0 0
 | i+1=>if z.getD (i+1) 0<mnZ z i then z.getD (i+1) 0 else mnZ z i
def mxZ(z:List Int):Nat->Int
 | 0=>z.getD 0 0
 | i+1=>if mxZ z i<z.getD (i+1) 0 then z.getD (i+1) 0 else mxZ z i
def AllSm.mn{z:List Int}(s:AllSm z):∀ i,Sm (mnZ z i):=by
 intro i
 induction i with
 | zero=>exact s.get 0
 | succ i ih=>unfold mnZ;split;exact s.get _;exact ih
def AllSm.mx{z:List Int}(s:AllSm z):∀ i,Sm (mxZ z i):=by
 intro i
 induction i with
 | zero=>exact s.get 0
 | succ i ih=>unfold mxZ;split;exact s.get _;exact ih
section
variable {h g:aP} {K:VP} {b cc dc tc n:Nat} {A B D:Option aR} {z:List Int}
def Qp(gl:Gl h)(s:SrS h A z)(sm:AllSm z)(hz:z.length=3)(hK:K (.bool false) h):aF prog 203 #[.slice A 3 cc,.func (.func 204) #[] #[]] h K:=by
 refine (fnk func203) ?_
 refine (fnk func263 [(2,[8],[],[I 0])]) ?_
 obtain ⟨a,rfl,c⟩:=s
 refine ⟨fun L b=>∃ i:Nat,i<=3/\L=[I (i:Int)]/\b=h,fun L _=>3-(iAt L 0).toNat,⟨0,o,rfl,rfl⟩,?_⟩
 rintro t b ⟨i,k,j,rfl⟩
 obtain rfl:=sI1 j
 refine B4 (fun e=>?_) (fun d=>?_)
 ·refine ⟨a,rfl,o,o,_,c i o,?_⟩
  refine (fnk func204) ?_
  refine V7 gl (sm.get i).len (fun _=>⟨_,rfl,?_⟩) (fun g=>absurd (C1p _) g)
  refine ⟨_,rfl,?_⟩
  rw [wiS i o]
  exact ⟨⟨i+1,o,rfl,rfl⟩,by simp only [Ca];omega⟩
 ·exact ⟨_,rfl,hK⟩
def A6x(gl:Gl h)(s:SrS h A z)(sm:AllSm z)(hz:z.length=3)(hK:K (.string (bs (tI (mnZ z 2)))) h):aF prog 134 #[.slice A 3 cc,.func (.func 21) #[] #[]] h K:=by
 refine (fnk func134 [(5,[5,6],[],[.string ⟨#[]⟩,I 0])]) ?_
 obtain ⟨a,rfl,c⟩:=s
 refine B4 (fun hz=>o) (fun _=>⟨a,rfl,o,o,_,c 0 o,?_⟩)
 refine ⟨fun L d=>∃ i:Nat,i<=2/\L=[.string (bs (tI (mnZ z i))),I ((i:Int)+1)]/\d=h,fun L _=>4-(iAt L 1).toNat,⟨0,o,rfl,rfl⟩,?_⟩
 rintro m t d ⟨i,p,j,rfl⟩
 simp only [aI,aN,Value.string.injEq,true_and,and_true] at j
 obtain ⟨rfl,rfl⟩:=j
 refine B4 (fun l=>?_) (fun k=>?_)
 ·have n:((i:Int)+1).toNat=i+1:=o
  have c1:d.cell? (aL a (((i:Int)+1).toNat*1))=some (.string (bs (tI (z.getD (i+1) 0)))):=by rw [n];exact c (i+1) o
  refine ⟨a,rfl,o,o,_,c1,?_⟩
  refine K8 gl (sm.get _).tx (sm.mn _).tx o ⟨_,rfl,?_⟩
  rw [Nu,Nu]
  have g:B9 ((i:Int)+1+1)=(i:Int)+1+1:=B5 o o
  refine B4 (fun b=>?_) (fun b=>?_)
  ·have b:z.getD (i+1) 0<mnZ z i:=Rat.intCast_lt_intCast.1 (Fd.1 b)
   refine ⟨a,rfl,o,o,_,c1,?_⟩
   rw [g]
   exact ⟨⟨i+1,o,by show _=[aC (bs (tI (if _ then _ else _))),_];rw [iP b];rfl,rfl⟩,by show 4-((i:Int)+1+1).toNat<4-((i:Int)+1).toNat;omega⟩
  ·have b:¬ z.getD (i+1) 0<mnZ z i:=fun e=>b (Fd.2 (Rat.intCast_lt_intCast.2 e))
   rw [g]
   exact ⟨⟨i+1,o,by show _=[aC (bs (tI (if _ then _ else _))),_];rw [iN b];rfl,rfl⟩,by show 4-((i:Int)+1+1).toNat<4-((i:Int)+1).toNat;omega⟩
 ·obtain rfl:i=2:=o
  exact hK
def A6y(gl:Gl h)(s:SrS h A z)(sm:AllSm z)(hz:z.length=3)(hK:K (.string (bs (tI (mxZ z 2)))) h):aF prog 135 #[.slice A 3 cc,.func (.func 21) #[] #[]] h K:=by
 refine (fnk func135 [(5,[5,6],[],[.string ⟨#[]⟩,I 0])]) ?_
 obtain ⟨a,rfl,c⟩:=s
 refine B4 (fun hz=>o) (fun _=>⟨a,rfl,o,o,_,c 0 o,?_⟩)
 refine ⟨fun L d=>∃ i:Nat,i<=2/\L=[.string (bs (tI (mxZ z i))),I ((i:Int)+1)]/\d=h,fun L _=>4-(iAt L 1).toNat,⟨0,o,rfl,rfl⟩,?_⟩
 rintro m t d ⟨i,p,j,rfl⟩
 simp only [aI,aN,Value.string.injEq,true_and,and_true] at j
 obtain ⟨rfl,rfl⟩:=j
 refine B4 (fun l=>?_) (fun k=>?_)
 ·have n:((i:Int)+1).toNat=i+1:=o
  have c1:d.cell? (aL a (((i:Int)+1).toNat*1))=some (.string (bs (tI (z.getD (i+1) 0)))):=by rw [n];exact c (i+1) o
  refine ⟨a,rfl,o,o,_,c1,?_⟩
  refine K8 gl (sm.get _).tx (sm.mx _).tx o ⟨_,rfl,?_⟩
  rw [Nu,Nu]
  have g:B9 ((i:Int)+1+1)=(i:Int)+1+1:=B5 o o
  refine B4 (fun b=>?_) (fun b=>?_)
  ·have b:mxZ z i<z.getD (i+1) 0:=Rat.intCast_lt_intCast.1 (Oy.1 b)
   refine ⟨a,rfl,o,o,_,c1,?_⟩
   rw [g]
   exact ⟨⟨i+1,o,by show _=[aC (bs (tI (if _ then _ else _))),_];rw [iP b];rfl,rfl⟩,by show 4-((i:Int)+1+1).toNat<4-((i:Int)+1).toNat;omega⟩
  ·have b:¬ mxZ z i<z.getD (i+1) 0:=fun e=>b (Oy.2 (Rat.intCast_lt_intCast.2 e))
   rw [g]
   exact ⟨⟨i+1,o,by show _=[aC (bs (tI (if _ then _ else _))),_];rw [iN b];rfl,rfl⟩,by show 4-((i:Int)+1+1).toNat<4-((i:Int)+1).toNat;omega⟩
 ·obtain rfl:i=2:=o
  exact hK
def tI1:tI 1=[49]:=by decide +kernel
def Ee(gl:Gl h)(bx:SlV h B [.string (bs (tI (-1))),.string (bs (tI 1))])(hK:K (.bool true) h):aF prog 196 #[.slice B 1 cc] h K:=by
 refine (fnk func196) ?_
 refine (fnk func257) ?_
 refine (fnk func303 [(2,[8],[],[I 0])]) ?_
 obtain ⟨a,rfl,c0,c1⟩:=U2 bx
 refine ⟨fun L d=>(L=[I 0]\/L=[I 1])/\d=h,fun L _=>(1-iAt L 0).toNat,⟨.inl rfl,rfl⟩,?_⟩
 rintro t d ⟨b|b,rfl⟩
 ·obtain rfl:t=0:=by simpa using b
  refine B4 (fun _=>?_) (fun k=>o)
  refine ⟨a,rfl,o,o,_,_,c0,c1,?_⟩
  refine (fnk func258 (own:=[1])) ?_
  have j:Sm (-1):=by unfold Sm;decide
  have g:Sm 1:=by unfold Sm;decide
  have c:(((-1:Int):Int):Rat)<=((1:Int):Rat):=by decide +kernel
  refine I6 (m:=20) gl j.tx g.tx o (fun _ _ _ _ _=>⟨_,rfl,P6 ?_⟩) (fun i=>absurd ⟨_,_,rfl,rfl,c⟩ i)
  have e:(aJ (bs (tI (-1)))==aJ (bs (tI 1)))=false:=by
   rw [Hv,Hv,C3n,tI1];decide
  rw [e,Jq]
  exact ⟨_,rfl,⟨.inr rfl,rfl⟩,W8⟩
 ·obtain rfl:t=1:=by simpa using b
  exact B4 (fun k=>o) (fun _=>⟨_,rfl,_,rfl,hK⟩)
def dgT:Nat->Int
 | 0=>0
 | _=>2
def B0d:Nat->Int
 | 0=>2
 | _=>0
def coT:Nat->Int
 | 0=>1
 | _=> -2
def B92{t:Nat}(ht:t<2):tm T2 t=(tI (coT t),[B0d t]):=by
 match t,ht with
 | 0,_=>rfl
 | 1,_=>rfl
def Jm(pa:PolyAt h A T2)(hK:∀ A' h',h.le h'->SlV h' A' [I 2]->K (.slice A' 1 1) h'):aF prog 123 #[.agg #[I 1,.slice A 2 tc]] h K:=by
 refine (fnk func123 [(3,[14],[],[I 0]),(6,[21],[],[I 0])] (own:=[1,5])) ?_
 refine D8 Qh (zx:=(0:Int)) rfl o o o o ?_
 intro b r
 refine ⟨_,_,_,rfl,?_⟩
 have g:∀ x,h.le (If h b x):=fun x=>R1 r _
 refine ⟨fun L d=>∃ t:Nat,t<=2/\L=[I (t:Int)]/\d=If h b (dgT t),fun L _=>2-(iAt L 0).toNat,⟨0,o,rfl,rfl⟩,?_⟩
 rintro t d ⟨k,s,e,rfl⟩
 obtain rfl:=sI1 e
 refine B4 (fun n=>?_) (fun m=>?_)
 ·have c:k<2:=o
  obtain ⟨a,E,u,rfl,c0,c1,l⟩:=pa k c
  rw [B92 c] at c0 c1 l
  obtain ⟨p,rfl,q⟩:=Jf (x:=B0d k) l
  refine ⟨a,rfl,o,o,_,_,_,_,B7 (g _) c0,B7 (g _) c1,?_⟩
  refine ⟨fun L d=>(L=[I 0]/\d=If h b (dgT k))\/(L=[I 1]/\d=If h b (dgT (k+1))),fun L _=>(1-iAt L 0).toNat,.inl ⟨rfl,rfl⟩,?_⟩
  rintro i d (⟨e,rfl⟩|⟨e,rfl⟩)
  ·obtain rfl:i=0:=by simpa using e
   refine B4 (fun _=>?_) (fun j=>absurd (show (0:Int)<((1:Nat):Int) by decide) j)
   refine ⟨p,rfl,o,by show (0:Int)<((1:Nat):Int);decide,_,B7 (g _) q,_,rfl,o,o,_,If.cell,_,rfl,o,o,?_⟩
   refine Bv (α:=Int) Do (y:=_) rfl (xs:=[dgT k]) (i:=0) (by show 0<1;omega) ?_
   rw [Jq]
   refine ⟨.inr ⟨rfl,?_⟩,W8⟩
   match k,c with
   | 0,_=>rfl
   | 1,_=>rfl
  ·obtain rfl:i=1:=by simpa using e
   refine B4 (fun j=>absurd j (show ¬ (1:Int)<((1:Nat):Int) by decide)) (fun _=>?_)
   rw [wiS k o]
   exact ⟨⟨k+1,o,rfl,rfl⟩,by simp only [Ca];omega⟩
 ·obtain rfl:k=2:=o
  exact hK _ _ (g 2) If.sl
def Qq(gl:Gl h)(pa:PolyAt h A T2)(ok:Bc 1 T2)(bx:SlV h B [.string (bs (tI (-1))),.string (bs (tI 1))])(hK:∀ h',h.le h'->K (I 0) h'):aF prog 122 #[.agg #[I 1,.slice A 2 tc],.slice B 1 cc] h K:=by
 refine (fnk func122 (own:=[2])) ?_
 refine Hb (ts:=T2) (vars:=1) (c:=tc) gl.tz pa (by decide) (fun i a=>?_) (fun _=>⟨_,rfl,P6 ?_⟩) (fun b=>absurd ok b)
 ·rw [B92 a]
  have:Sm (coT i):=by match i,a with|0,_=>(unfold Sm;decide)|1,_=>(unfold Sm;decide)
  exact this.len
 refine Ee gl bx ⟨_,rfl,P6 (D6 (fun e=>absurd rfl e) (fun _=>?_))⟩
 refine Jm pa ?_
 intro A' h' l s
 refine ⟨_,_,_,rfl,?_⟩
 exact Hy s ⟨_,_,rfl,P6 (hK _ l)⟩
def A1w(gl:Gl h)(bx:SlV h B [.string (bs (tI (-1))),.string (bs (tI 1))])(sd:SlV h D [I 2])(s:SrS h A z)(sm:AllSm z)(hz:z.length=3)(hK:K (.bool true) h):aF prog 133 #[.agg #[.slice B 1 cc,.slice D 1 dc,.slice A 3 tc]] h K:=by
 refine (fnk func133 [(4,[29],[],[I 0])] (own:=[1])) ?_
 refine B4 (fun e=>o) (fun _=>D6 (fun e=>absurd rfl e) (fun _=>?_))
 refine Ee gl bx ⟨_,rfl,P6 ?_⟩
 refine ⟨fun L c=>(L=[I 0]\/L=[I 1])/\c=h,fun L _=>(1-iAt L 0).toNat,⟨.inl rfl,rfl⟩,?_⟩
 rintro t c ⟨b|b,rfl⟩
 ·obtain rfl:t=0:=by simpa using b
  obtain ⟨a,rfl,c0⟩:=Jf sd
  refine B4 (fun _=>?_) (fun hz=>o)
  refine ⟨a,rfl,o,o,_,c0,B4 (fun e=>o) (fun _=>B4 (fun e=>o) (fun _=>?_))⟩
  rw [Jq]
  exact ⟨⟨.inr rfl,rfl⟩,W8⟩
 ·obtain rfl:t=1:=by simpa using b
  refine B4 (fun hz=>o) (fun _=>?_)
  refine Hy sd ⟨_,_,rfl,P6 (D6 (fun e=>absurd rfl e) (fun _=>?_))⟩
  exact Qp gl s sm hz ⟨_,rfl,hK⟩
def A1x(gl:Gl h)(bx:SlV h B [.string (bs (tI (-1))),.string (bs (tI 1))])(sd:SlV h D [I 2])(s:SrS h A z)(sm:AllSm z)(hz:z.length=3)(hK:K (.tuple #[.agg #[.string (bs (tI (mnZ z 2))),.string (bs (tI (mxZ z 2)))],I 0]) h):aF prog 60 #[.agg #[.slice B 1 cc,.slice D 1 dc,.slice A 3 tc]] h K:=by
 refine (fnk func60 (os:=[(3,[0,1,3,4,2,5,6,7,8])]) (own:=[1,2])) ?_
 refine A1w gl bx sd s sm hz ⟨_,rfl,P6 ?_⟩
 refine A6x gl s sm hz ⟨_,rfl,B0 _,?_⟩
 exact A6y gl s sm hz ⟨_,rfl,B0 _,hK⟩
end
def mkT:Nat->List Int
 | 0=>[0,0,0]
 | 1=>[0,0,1]
 | _=>[-2,0,1]
def B88:(prog.info? 24).map (·.zero)=some (some (.agg #[.string ⟨#[]⟩,.string ⟨#[]⟩])):=by kernel_rfl
def B2n:(prog.info? 9).map (·.zero)=some (some (.string ⟨#[]⟩)):=by kernel_rfl
def B59{t:TypeId}{n:Nat}(one:prog.cellsOf t=n/\(prog.info? t).isSome=true){v:aW}{vs:List aW}(hv:v.cells=vs.toArray)(hn:vs.length=n)(h1:∀ v∈vs,Jz v=true){H:aP}{b:Nat}{e:TypeId}{arr:List aW}(ho:arr.length=n){K:Unit->aP->Prop}
 (x:K () (H.put b (.cells vs.toArray e))):wpH prog (Instr.storeAt t (.pointer (some ⟨b,0,none⟩)) v) K (H.put b (.cells arr.toArray e)):=by
 have key:=Dq (P:=prog) one hv hn h1 (g:=H) (b:=b) (off:=0) (e:=e) (arr:=arr) o (K:=K) (by
  have:F2 arr 0 vs=vs:=by
   unfold F2
   rw [List.take_zero,List.nil_append,List.drop_of_length_le o,List.append_nil]
  rw [this];exact x)
 rw [F3,bM] at key
 exact key
section
variable {h g:aP} {K:VP} {b cc dc tc n:Nat} {A B D:Option aR} {z:List Int}
def A42(gl:Gl h)(pa:PolyAt h A T2)(ok:Bc 1 T2)(bx:SlV h B [.string (bs (tI (-1))),.string (bs (tI 1))])
 (hK:∀ BA bc DA CA h',h.le h'->SlV h' BA [.string (bs (tI (-1))),.string (bs (tI 1))]->SlV h' DA [I 2]->SrS h' CA (bso 2)->K (.tuple #[.agg #[.slice BA 1 bc,.slice DA 1 1,.slice CA 3 3],I 0]) h'):aF prog 59 #[.agg #[I 1,.slice A 2 tc],.slice B 1 cc] h K:=by
 refine (fnk func59 [(9,[47],[],[I 0]),(13,[13,54],[],[I 0,I 0]),(20,[78],[],[I 0])] (os:=[(4,[0,2,5,1,3,4,6])]) (own:=[2,4,7,12]) (wr:=[128])) ?_
 refine Qq gl pa ok bx fun h1 l1=>⟨_,rfl,D6 (fun e=>absurd rfl e) (fun _=>?_)⟩
 refine St (l:=[(tI (-1),tI 1)]) (bx.mono l1) (by simp) (by simp) fun BA bc h2 g2 l2 p2=>⟨_,_,_,rfl,A0 l2 p2.le,?_⟩
 have ab:=A0 l1 (A0 l2 p2.le)
 have am:SlV h2 BA [.string (bs (tI (-1))),.string (bs (tI 1))]:=p2.sl
 refine Jm (pa.mono ab) fun DA h3 l3 sd=>⟨_,_,_,rfl,l3,?_⟩
 refine Hy sd ⟨_,_,rfl,?_⟩
 refine Y5 P9 rfl ?_
 intro b0 ak
 refine ⟨_,_,_,rfl,?_⟩
 have l4:h3.le (h3.put b0 (.cells #[.string ({ data:=#[48] }:ByteArray)] 9)):=Heap.le_put _ ak
 have sv:SlV (h3.put b0 (.cells #[.string ({ data:=#[48] }:ByteArray)] 9)) (some ⟨b0,0,none⟩) [.string ({ data:=#[48] }:ByteArray)]:=by
  right
  refine ⟨_,rfl,fun i v hv=>?_⟩
  rw [D4,bM,C4]
  rw [<- hv,<- bG]
 generalize h3.put b0 (.cells #[.string ({ data:=#[48] }:ByteArray)] 9)=h4 at *
 refine A14 (N:=3) sv oo oo ?_
 intro b H o5 s5 S
 refine ⟨_,_,_,rfl,?_⟩
 have ao:h4 b=none:=s5.dis b _ S
 have e5:H=Cf (H.without b) b (mkT 0):=by
  have:(Cf (H.without b) b (mkT 0))=(H.without b).put b (.cells (aX 3 (aC ({ data:=#[48] }:ByteArray))).toArray 9):=by
   unfold Cf W9
   have t0:tI 0=[48]:=A7n
   have:((mkT 0).map tI).flatMap enc=aX 3 (aC ({ data:=#[48] }:ByteArray)):=by
    show [aC (bs (tI 0)),aC (bs (tI 0)),aC (bs (tI 0))]=_
    rw [t0];rfl
   rw [this]
  rw [this]
  exact (K7 (s5.own b _ S)).symm
 have ac:(H.without b) b=none:=by unfold Heap.without;simp
 have l5:h4.le (H.without b):=fun k o e=>by
  have hk:k≠b:=by rintro rfl;rw [ao] at e;cases e
  unfold Heap.without
  rw [iN hk];exact s5.le k o e
 generalize H.without b=g5 at *
 subst e5
 have W:=A0 l4 l5
 have al:=R1 (e:=9) ac ((mkT 0).map tI)
 refine Jl (SlV.mono (A0 W al) sd) ?_
 intro TA h6 l6 ah
 refine ⟨_,_,_,rfl,?_⟩
 obtain ⟨r,aj,X,rfl⟩:=Pd ac l6
 have G:=A0 W aj
 have u:=A0 ab (A0 l3 G)
 have Q:∀ z,r.le (Cf r b z):=fun z=>R1 X _
 obtain ⟨d,rfl,c⟩:=Jf ah
 have ad:r.cell? (aL d ((0:Int).toNat*1))=some (I 1)\/d.block=b:=by
  by_cases O:d.block=b
  ·exact .inr O
  ·refine .inl ?_
   unfold Heap.cell? at c ⊢
   unfold W9 at c
   have:(aL d ((0:Int).toNat*1)).block=d.block:=by cases d;rfl
   rw [this] at c ⊢
   rw [B6 _ _ O] at c
   exact c
 have af:r.cell? (aL d ((0:Int).toNat*1))=some (I 1):=by
  rcases ad with e|e
  ·exact e
  ·exfalso
   unfold Heap.cell? at c
   have an:(aL d ((0:Int).toNat*1)).block=d.block:=by cases d;rfl
   rw [an,e] at c
   unfold W9 at c
   rw [B8] at c
   have e3:((mkT 0).map tI).flatMap enc=[aC (bs (tI 0)),aC (bs (tI 0)),aC (bs (tI 0))]:=rfl
   rw [e3] at c
   simp only at c
   split at c
   ·cases c
   ·rw [bG] at c
    have:=List.mem_of_getElem? c
    simp at this
 refine ⟨fun L w=>∃ t:Nat,t<=2/\L=[I (t:Int)]/\w=Cf r b (mkT t),fun L _=>2-(iAt L 0).toNat,⟨0,oo,rfl,rfl⟩,?_⟩
 rintro t w ⟨k,hk,m,rfl⟩
 obtain rfl:=sI1 m
 refine B4 (fun aq=>?_) (fun ar=>?_)
 ·have s:k<2:=oo
  obtain ⟨a,E,ec,rfl,c0,c1,se⟩:=(pa.mono u) k s
  rw [B92 s] at c0 c1 se
  obtain ⟨ae,rfl,ce⟩:=Jf (x:=B0d k) se
  refine ⟨a,rfl,oo,oo,_,_,_,_,B7 (Q _) c0,B7 (Q _) c1,?_⟩
  refine ⟨fun L w=>(L=[I 0,I 0]\/L=[I (B0d k),I 1])/\w=Cf r b (mkT k),fun L _=>(1-iAt L 1).toNat,⟨.inl rfl,rfl⟩,?_⟩
  rintro au i w ⟨m|m,rfl⟩
  ·simp only [aI,aN,true_and,and_true] at m
   obtain ⟨rfl,rfl⟩:=m
   refine B4 (fun _=>?_) (fun F=>absurd (show (0:Int)<((1:Nat):Int) by decide) F)
   refine ⟨ae,rfl,oo,by show (0:Int)<((1:Nat):Int);decide,_,B7 (Q _) ce,d,rfl,oo,oo,_,B7 (Q _) af,?_⟩
   rw [Jq]
   refine ⟨⟨.inr ?_,rfl⟩,W8⟩
   have:B0d k=0\/B0d k=2:=by
    match k,s with
    | 0,_=>exact .inr rfl
    | 1,_=>exact .inl rfl
   rw [Int.mul_one,B5 (n:=B0d k) oo oo,Int.zero_add,B5 oo oo]
  ·simp only [aI,aN,true_and,and_true] at m
   obtain ⟨rfl,rfl⟩:=m
   refine B4 (fun F=>absurd F (show ¬ (1:Int)<((1:Nat):Int) by decide)) (fun _=>?_)
   have O:0<=B0d k/\B0d k<3/\(mkT k).length=3/\(mkT k).set (B0d k).toNat (coT k)=mkT (k+1):=by
    match k,s with
    | 0,_=>decide
    | 1,_=>decide
   refine ⟨_,rfl,O.1,O.2.1,?_⟩
   refine Bv (α:=List UInt8) Am (y:=tI (coT k)) rfl (xs:=(mkT k).map tI) (by rw [bF];omega) ?_
   have em:((mkT k).map tI).set (B0d k).toNat (tI (coT k))=(mkT (k+1)).map tI:=by rw [<- O.2.2.2];exact (List.map_set ..).symm
   rw [em,wiS k oo]
   exact ⟨⟨k+1,oo,rfl,rfl⟩,by simp only [Ca];omega⟩
 ·obtain rfl:k=2:=oo
  have T:=SlV.mono (A0 l3 G) am
  have V:=SlV.mono G sd
  refine ⟨fun L w=>(L=[I 0]/\w=Cf r b (sho 0))\/(L=[I 1]/\∃ D,r.le D/\D b=none/\w=Cf D b (bso 2)),fun L _=>(1-iAt L 0).toNat,.inl ⟨rfl,rfl⟩,?_⟩
  rintro t w (⟨m,rfl⟩|⟨m,D,M,C,rfl⟩)
  ·obtain rfl:t=0:=by simpa using m
   refine B4 (fun _=>?_) (fun F=>absurd (show (0:Int)<((1:Nat):Int) by decide) F)
   obtain ⟨a,rfl,c0,c1⟩:=U2 T
   refine ⟨a,rfl,oo,by show (0:Int)<((1:Nat):Int);decide,_,_,B7 (Q _) c0,B7 (Q _) c1,?_⟩
   refine T7 B88 ?_
   intro p np
   refine ⟨_,rfl,?_⟩
   refine B59 (n:=2) Rc (vs:=[.string (bs (tI (-1))),.string (bs (tI 1))]) rfl rfl (by simp [Jz]) (arr:=[.string ⟨#[]⟩,.string ⟨#[]⟩]) rfl ?_
   have R:=Cf.ne np
   have gp:=Cf.none np
   rw [Cf.comm R]
   have M:=Heap.le_put (.cells ([.string (bs (tI (-1))),.string (bs (tI 1))]:List aW).toArray 24) gp
   have C:=X9 (o:=.cells ([.string (bs (tI (-1))),.string (bs (tI 1))]:List aW).toArray 24) X R
   have cl:∀ j,(r.put p (.cells ([.string (bs (tI (-1))),.string (bs (tI 1))]:List aW).toArray 24)).cell? (aL ⟨p,0,none⟩ j)=([.string (bs (tI (-1))),.string (bs (tI 1))]:List aW)[j]? :=fun j=>by
    rw [D4,bM,C4,bG]
   generalize r.put p (.cells ([.string (bs (tI (-1))),.string (bs (tI 1))]:List aW).toArray 24)=D at *
   have g:=R1 (e:=9) C ((sho 0).map tI)
   refine ⟨_,B7 g ((cl 1).trans rfl),_,B7 g ((cl 0).trans rfl),?_⟩
   have ap:=gl.mono (A0 u M)
   refine A5u (gl.mono (A0 u (A0 M g))) (by unfold Sm;decide) (by unfold Sm;decide) ⟨_,rfl,?_⟩
   refine T7 B2n ?_
   intro q nq
   refine ⟨_,rfl,?_⟩
   refine B59 (n:=1) Am (vs:=[.string (bs (tI 2))]) rfl rfl (by simp [Jz]) (arr:=[.string ⟨#[]⟩]) rfl ?_
   have aa:=Cf.ne nq
   have gq:=Cf.none nq
   rw [Cf.comm aa]
   have l8:=Heap.le_put (.cells ([.string (bs (tI 2))]:List aW).toArray 9) gq
   have ag:=X9 (o:=.cells ([.string (bs (tI 2))]:List aW).toArray 9) C aa
   have cq:(D.put q (.cells ([.string (bs (tI 2))]:List aW).toArray 9)).cell? ⟨q,0,none⟩=some (.string (bs (tI 2))):=C4 _ _ _ _ _ _
   generalize D.put q (.cells ([.string (bs (tI 2))]:List aW).toArray 9)=g8 at *
   refine A1v (ap.mono l8) ag (SlV.mono (A0 M l8) V) (B7 l8 ((cl 0).trans rfl)) cq ?_
   intro g9 l9 ai
   rw [Jq]
   exact ⟨rfl,.inr ⟨rfl,g9,A0 M (A0 l8 l9),ai,rfl⟩,W8⟩
  ·obtain rfl:t=1:=by simpa using m
   refine B4 (fun F=>absurd F (show ¬ (1:Int)<((1:Nat):Int) by decide)) (fun _=>?_)
   have g:=R1 (e:=9) C ((bso 2).map tI)
   have lz:=A0 M g
   exact hK _ _ _ _ _ (A0 u lz) (SlV.mono lz T) (SlV.mono lz V) SrS.cf
def A1z(gl:Gl h)(pa:PolyAt h A T2)(ok:Bc 1 T2)(bx:SlV h B [.string (bs (tI (-1))),.string (bs (tI 1))])
 (hK:∀ h',h.le h'->K (.tuple #[.agg #[.string (bs (tI (-3))),.string (bs (tI (-1)))],I 0]) h'):aF prog 22 #[.agg #[I 1,.slice A 2 tc],.slice B 1 cc] h K:=by
 refine (fnk func22 (own:=[2,4,6])) ?_
 refine A42 gl pa ok bx ?_
 intro BA j DA CA h' l d b c
 refine ⟨_,_,_,_,_,_,_,_,_,_,rfl,D6 (fun e=>absurd rfl e) (fun _=>?_)⟩
 refine A1x (gl.mono l) d b c (show AllSm (bso 2) by rw [C3d];intro x i;simp at i;omega) (by rw [C3d];rfl) ⟨_,_,_,rfl,?_⟩
 have a:mnZ (bso 2) 2= -3:=by rw [C3d];decide
 have g:mxZ (bso 2) 2= -1:=by rw [C3d];decide
 rw [a,g]
 exact hK _ l
end
section
set_option maxRecDepth 100000
variable {h:aP} {K:VP}
end
section
set_option maxRecDepth 100000
variable {h:aP} {K:VP}
def B9w:SliceT prog 79 86 (.agg #[.bool false,Sl none 0 0,.bool false,Sl none 0 0,.bool false,Sl none 0 0,.bool false,Sl none 0 0]) 8 128:=⟨by kernel_rfl,by kernel_rfl,rfl,dc⟩
def B2l:prog.cellsOf 167=2/\(prog.info? 167).isSome=true:=⟨by kernel_rfl,by kernel_rfl⟩
def A85:(prog.info? 167).map (fun a=>a.zero)=some (some (.agg #[Sl none 0 0,Sl none 0 0])):=by kernel_rfl
def A2u:prog.cellsOf 79=1/\(prog.info? 79).isSome=true:=⟨by kernel_rfl,by kernel_rfl⟩
end
abbrev spV(a b:QV):aW:=.agg #[.bool a.s,.slice a.A a.n a.c,.bool a.s2,.slice a.A2 a.n2 a.c2,.bool b.s,.slice b.A b.n b.c,.bool b.s2,.slice b.A2 b.n2 b.c2]
def RQ.le{h h':aP}{a:QV}{q:Rat}(i:RQ h a q)(l:h.le h'):RQ h' a q:=⟨i.num.mono l,i.den.mono l⟩
def B3v:aQ 1 2=1/2:=by decide +kernel
section
variable {h g:aP} {K:VP} {A B:Option aR} {n c M m:Nat} {w S:List Int} {a b:QV} {p q:Rat} {s:Bool} {x:Int}
def Zn(i:ZI h s A n c x)(hK:ZI h false A n c (x.natAbs:Int)->K (.agg #[.bool false,.slice A n c]) h):aF prog 98 #[.agg #[.bool s,.slice A n c]] h K:=by
 refine (fnk func98 (own:=[1,2])) ?_
 exact hK ⟨i.cap,by rw [aY];exact i.mag,by simp⟩
def Zk(i:ZI h s A n c x)(h0:0<=x)(hx:ZB m x)(hm:m<=1000000)(hK:∀ s' A' n' c' h',h.le h'->ZI h' s' A' n' c' (x*2)->K (.agg #[.bool s',.slice A' n' c']) h'):aF prog 89 #[.agg #[.bool s,.slice A n c],U 1] h K:=by
 refine (fnk func89 (own:=[2,4])) ?_
 have j:=i.lenG (k:=1000000) hx o
 refine R8 (s:=1) i.mag i.cap o o ?_
 intro A' p c' h' b a M'
 have d:s=false:=by rw [i.sgn];simp;omega
 refine ⟨_,_,_,rfl,b,?_⟩
 have e:(x.natAbs:Int)*2^1=((x.natAbs*2:Nat):Int):=o
 rw [e] at M'
 refine K6 (neg:=s) M' a ?_
 intro l i1
 rw [d] at i1
 simp only [Bool.false_eq_true,if_false] at i1
 have g:((x.natAbs*2:Nat):Int)=x*2:=o
 rw [g] at i1
 exact ⟨_,_,_,_,rfl,B0 _,hK _ _ _ _ _ b i1⟩
def Ln(gl:Gtz h)(i:RQ h a p)(j:RQ h b q)(hp:Sz m p)(hq:Sz m q)(hm:m<=1000000)(hK:∀ w h',h.le h'->RQ h' w ((p+q)*(1/2))->K w.v h'):aF prog 105 #[spV a b] h K:=by
 refine (fnk func105 (own:=[1,2])) ?_
 refine Du gl i j hp hq o fun A G x i1=>⟨_,_,_,_,_,_,_,_,rfl,?_⟩
 refine N5 o o fun D A2 F c2 B k l=>⟨_,_,_,_,rfl,?_⟩
 refine N5 o o fun L A3 C c3 H d u=>⟨_,_,_,_,rfl,?_⟩
 have c:=A0 x (A0 k d)
 refine Q3 (m:=2) (gl.mono c) (l.mono d) u (by unfold ZB;decide) (by unfold ZB;decide) o fun z E e g=>⟨_,_,_,_,_,_,_,_,rfl,?_⟩
 rw [B3v] at g
 refine Io (m:=2*m+2) (gl.mono (A0 c e)) (i1.le (A0 k (A0 d e))) g ((hp.add hq).mono o) (Su.mono o) o fun y s n r=>⟨_,_,_,_,_,_,_,_,rfl,hK y s (A0 (A0 c e) n) r⟩
def Po(gl:Gl h)(i:RQ h a p)(j:RQ h b q)(hp:Sz m p)(hq:Sz m q)(hm:m<=40000000)(hK:K (ivS p q) h):aF prog 35 #[spV a b] h K:=by
 refine (fnk func35 (os:=[(1,[0,1,3,4,2,5,6,7])]) (own:=[1,2])) ?_
 refine I9 gl.p10 i hp hm ⟨_,rfl,B0 _,?_⟩
 exact I9 gl.p10 j hq hm ⟨_,rfl,B0 _,hK⟩
def C6d{ad:aR}{c:Nat}(h:0<c):∃ a',U3 (some ad) c 0 2=some a'/\∀ i j,aL (aL a' i) j=aL (aL ad i) j:=by
 refine ⟨ad.add (0*2),V1 h,fun i j=>?_⟩
 simp only [T8,Nat.zero_mul,bM]
def A6m{g l:Int}{M:Nat}(g0:0<=g)(hg:g.natAbs<2^M)(l1:1<=l):aQ g l+1<=2^(M+1)/\0<aQ g l+1:=by
 have i:(0:Rat)<(l:Rat):=by
  have:=Rat.intCast_le_intCast.2 l1
  have a:((1:Int):Rat)=1:=rfl
  rw [a] at this;grind
 have j:(1:Rat)<=(l:Rat):=by
  have:=Rat.intCast_le_intCast.2 l1
  have a:((1:Int):Rat)=1:=rfl
  rw [a] at this;exact this
 have m:(0:Rat)<=(g:Rat):=by
  have:=Rat.intCast_le_intCast.2 g0
  exact this
 have b:(g:Rat)+1<=2^M:=by
  rw [<- Hg]
  have:=Rat.intCast_le_intCast.2 (show g+1<=((2^M:Nat):Int) from o)
  rw [Rat.intCast_add] at this
  exact this
 have e:aQ g l*(l:Rat)=g:=by
  rw [Rat.divInt_eq_div,bJ gz0]
 generalize aQ g l=d at *
 have c:0<=d:=by
  by_cases k:0<=d
  ·exact k
  ·have:=aT (show 0 < -d from gz0) i
   grind
 have dg:d<=(g:Rat):=by
  have:=aK c (show 0<=(l:Rat)-1 from gz0)
  grind
 rw [aV]
 have:=A0w M
 constructor<;>grind
def A0b(gl:Gtz h)(r:WV h A n w)(hz:Nz w)(h1:1<=n)(hn:n<=5)(hc:n<=c)(hb:WB M w)(hM:M<=1000)
 (hK:∀ v q h',h.le h'->RQ h' v q->0<q->q<=2^(M+1)->Sz (M+M+3) q->K v.v h'):aF prog 34 #[.slice A n c] h K:=by
 refine (fnk func34 [(3,[12],[(3,2)],[I 0,.bool false,.slice none 0 0])] (own:=[2,3,5,6])) ?_
 refine Ku o ⟨_,rfl,⟨o,o⟩,?_⟩
 have g:=r.1
 refine ⟨fun L G=>∃ (i:Nat) (l:Int) (x:Bool) (A':Option aR) (y C:Nat),i<=n-1/\L=[I (i:Int),.bool x,.slice A' y C]/\h.le G/\ZI G x A' y C l/\0<=l/\l.natAbs<2^M,fun L _=>n-1-(iAt L 0).toNat,⟨0,0,false,none,0,0,o,rfl,B0 _,ZI.zero,o,Nat.pow_pos o⟩,?_⟩
 rintro t g0 gA gn gc G ⟨i,l,x,A',y,C,hi,R,k,E,s,d⟩
 simp only [aI,aN,bN,aO,true_and,and_true] at R
 obtain ⟨rfl,rfl,rfl,rfl,rfl⟩:=R
 refine B4 (fun W=>?_) (fun V=>?_)
 ·have N:i<n:=o
  obtain ⟨ad,z,rfl,B,f0,f1⟩:=(r.mono k).2.zat N
  obtain ⟨a',ea,j⟩:=C6d (ad:=ad) (show 0<c from o)
  refine ⟨a',ea,o,o,_,_,_,_,by rw [j];exact f0,by rw [j];exact f1,?_⟩
  refine Zn B fun T=>⟨_,_,_,_,rfl,?_⟩
  have D:ZB M (cf w i):=hb i
  refine Em (m:=M) T E (by unfold ZB at *;omega) (by unfold ZB;exact d) o ⟨_,rfl,?_⟩
  have ew:B9 ((i:Int)+1)=((i+1:Nat):Int):=by rw [B5]<;>omega
  rw [ew]
  refine B4 (fun _=>?_) (fun _=>?_)
  ·exact ⟨⟨i+1,_,_,_,_,_,o,rfl,k,T,o,by unfold ZB at D;omega⟩,by simp only [Ca];omega⟩
  ·exact ⟨⟨i+1,_,_,_,_,_,o,rfl,k,E,s,d⟩,by simp only [Ca];omega⟩
 ·refine Jr (r.mono k) o fun s1 A1 n1 c1 i1=>⟨_,_,_,_,rfl,B0 _,?_⟩
  refine Zn i1 fun i2=>⟨_,_,_,_,rfl,B0 _,?_⟩
  have ab:ZB M (cf w (n-1)):=hb (n-1)
  have aa:cf w (n-1)≠0:=by
   have p:w≠[]:=by intro e;rw [e] at g;simp at g;omega
   have:=hz p
   rw [Db p,<- g] at this
   exact this
  refine Q3 (m:=M) (gl.mono k) E i2 d (by unfold ZB at *;omega) o fun w3 h3 H i3=>⟨_,_,_,_,_,_,_,_,rfl,H,?_⟩
  refine Js ⟨o,o⟩ fun w4 h4 u S=>⟨_,_,_,_,_,_,_,_,rfl,u,?_⟩
  have e1:((1:Int):Rat)=1:=rfl
  rw [e1] at S
  have hs:Sz (M+M+1) (aQ l ((cf w (n-1)).natAbs:Int)):=(At (m:=M) o d (by unfold ZB at *;omega)).mono o
  have O:Sz (M+M+1) (1:Rat):=⟨ZB.one o,ZB.one o⟩
  refine Du (gl.mono (A0 k (A0 H u))) (i3.le u) S hs O o fun w5 h5 Q i5=>⟨_,_,_,_,_,_,_,_,rfl,Q,?_⟩
  obtain ⟨X,b2⟩:=A6m s d (show 1<=((cf w (n-1)).natAbs:Int) from o)
  have F:Sz (M+M+3) (aQ l ((cf w (n-1)).natAbs:Int)+1):=by
   have a1:=At (m:=M) (a:=l) (b:=((cf w (n-1)).natAbs:Int)) o d (by unfold ZB at *;omega)
   exact (a1.add (⟨ZB.one (bI 1),ZB.one (bI 1)⟩:Sz 1 (1:Rat))).mono o
  exact hK w5 _ h5 (A0 k (A0 H (A0 u Q))) i5 b2 X F
end
end Go.Proofs.YtbgkfnjmcjfokaaGreatDoor
namespace Go.Proofs.YtbgkfnjmcjfokaaGreatDoor
set_option maxRecDepth 20000
section
variable {w S S1 S2:List Int} {t t1 t2:List (List Int)} {x y lo hi:Rat} {P e f k m:Nat}
def SqF.len2(f:SqF w S)(hw:Nz w)(h2:2<=w.length):2<=S.length:=by
 obtain ⟨W,G,c,c0,j,⟨N,e,A,r⟩,y,i,l,_⟩:=f.ex
 have C:(R6 c S).length=S.length:=by simp [R6]
 have p:((1:Int):Rat)=1:=rfl
 have B:=Sk (N:=1) (u:=w) (a:=R6 c S) (b:=G) o hw (f.nz.scl o) i (by
  intro z
  apply f.ne
  have:=congrArg List.length z
  simp [R6] at this
  exact this) l (fun x=>by
  rw [p,bO,j,y,G9];grind)
 have m:Dv G (dl w):=⟨N,R6 c e,A,fun x=>by
  have k:=B5l (u:=w) (v:=W) (a:=1) (b:=(c:Rat)) (fun x=>by rw [bO,j]) gz0 x
  rw [bO] at k
  have g:=r x
  rw [Jb] at g ⊢
  have q:(N:Rat)*((c:Rat)*pd W x)=c*(N*pd W x):=gz0
  rw [k,G9,q,g];grind⟩
 have n:dl w≠[]:=by
  intro z
  have:=Qd w
  rw [z] at this
  simp at this;omega
 obtain ⟨_,D,_,_,d,_,s⟩:=m.trim (A67 hw) n i l
 rw [Qd] at s
 have:=List.length_pos_iff.2 d
 omega
def UvR.uniq{c:Nat->Rat}{n:Nat}{w w':List Int}{D D':Int}(u:UvR c n w D)(v:UvR c n w' D'):w=w':=Nz.ext u.nz v.nz fun x=>by rw [u.val',v.val',u.lc,v.lc]
def IsX(S:List Int)(t:List (List Int))(lo hi:Rat):Prop:=(lo=hi/\pe S lo=0)\/(lo<hi/\pe S lo≠0/\pe S hi≠0/\Vn (S::t) lo=Vn (S::t) hi+1)
def Sq.cons(q:Sq w S t)(h:Vn (S::t) x≠Vn (S::t) y):∃ Q t',t=Q::t':=by
 cases t with
 | nil=>
  exfalso
  apply h
  obtain ⟨s,a⟩:=q.con rfl
  have:Vs [S] x=Vs [S] y:=by simp [Vs,a]
  unfold Vn
  rw [this]
 | cons Q t'=>exact ⟨Q,t',rfl⟩
def IsX.iso(f:SqF w S)(q:Sq w S t)(h:IsX S t lo hi):IsoO S lo hi:=by
 rcases h with h|⟨e,b,g,c⟩
 ·exact .inl h
 ·refine .inr ⟨e,?_⟩
  obtain ⟨Q,i,rfl⟩:=q.cons (x:=lo) (y:=hi) o
  obtain ⟨k,d,a⟩:=Yk q f.nz f.ne f.cop
  exact B3h (by rw [a,a]) (by rw [a];exact fun z=>d (N7.1 z)) b g c
def B1s(f1:SqF w S1)(q1:Sq w S1 t1)(f2:SqF w S2)(q2:Sq w S2 t2)(h:IsX S1 t1 lo hi)(hl:lo<hi):(chg 0 (Vs (S2::t2) lo):Int)-chg 0 (Vs (S2::t2) hi)=1:=by
 have p:IsoO S2 lo hi:=IsoO.other f1 f2 (IsX.iso f1 q1 h)
 rcases h with ⟨u,_⟩|⟨u,D,E,r⟩
 ·exfalso;grind
 obtain ⟨Q1,n,rfl⟩:=q1.cons (x:=lo) (y:=hi) o
 obtain ⟨a,b,B,q,g⟩:=f1.prop f2
 have i:=Rat.inv_mul_cancel _ (F6 q)
 have j:∀ x,pe S2 x=(b:Rat)⁻¹*a*pe S1 x:=fun x=>by
  have e:(b:Rat)⁻¹*a*pe S1 x=(b:Rat)⁻¹*(a*pe S1 x):=gz0
  rw [e,g x,<- bX,i,bO]
 have A:(b:Rat)⁻¹*a≠0:=by
  intro z
  rcases Rat.mul_eq_zero.1 z with z|z
  ·rw [z,Rat.zero_mul] at i;exact absurd i dc
  ·exact F6 B z
 cases t2 with
 | nil=>
  exfalso
  obtain ⟨s,m⟩:=q2.con rfl
  rcases p with ⟨e,_⟩|⟨_,e⟩
  ·grind
  ·rw [m,m] at e
   rcases D9 s with z|z|z<;>rw [z] at e<;>omega
 | cons Q2 t2'=>
  obtain ⟨C,k,d⟩:=Yk q1 f1.nz f1.ne f1.cop
  obtain ⟨F,l,c⟩:=Yk q2 f2.nz f2.ne f2.cop
  have:=A5n (a:=lo) (b:=hi) q1 q2 (Aw.const k d) (Aw.const l c) A j (aE hl)
  unfold Vn at r
  omega
def Sq.down(f:SqF w S)(q:Sq w S t)(h:x<=y):Vn (S::t) y<=Vn (S::t) x:=by
 cases t with
 | nil=>
  obtain ⟨s,E⟩:=q.con rfl
  have:Vs [S] x=Vs [S] y:=by simp [Vs,E]
  unfold Vn
  rw [this]
  exact bI _
 | cons Q t'=>
  obtain ⟨k,A,g⟩:=Yk q f.nz f.ne f.cop
  obtain ⟨η,H,i⟩:=q.cell (a:=x) (b:=y) (Aw.const A g)
  refine C1v (a:=x) (b:=y) (R:=fun a b=>Vn (S::Q::t') b<=Vn (S::Q::t') a) H (fun _ _ _=>bI _) (fun u v B m F n=>?_) (fun _ _ _ _ _ _ _ r d=>Nat.le_trans d r) h
  unfold Vn
  rcases i u v B m F n with ⟨_,_,e⟩|⟨e,W,j,C,D,c⟩
  ·omega
  ·rw [C,D]
   have G:sgR (pe S v)= -e->sgR (pe S u)= -e:=by
    rcases j with rfl|rfl
    ·intro z
     have l:=S3.1 z
     have p:=R5.1 c
     exact S3.2 gz0
    ·intro z
     have l:=R5.1 z
     have p:=S3.1 c
     exact R5.2 gz0
   by_cases z:sgR (pe S v)= -e
   ·rw [iP z,iP (G z)];omega
   ·rw [iN z];omega
def Dg(P e:Nat)(x:Rat):Prop:=(∃ z:Int,x*2^e=(z:Rat))/\BR P x
def Dg.up(h:Dg P e x):Dg P (e+1) x:=by
 obtain ⟨⟨z,a⟩,b⟩:=h
 refine ⟨⟨z*2,?_⟩,b⟩
 rw [aV,<- bX,a,Rat.intCast_mul];rfl
def Dg.le(h:Dg P e x)(k:e<=f):Dg P f x:=by
 obtain ⟨d,rfl⟩:=bC k
 induction d with
 | zero=>exact h
 | succ d ih=>exact (ih o).up
def Dg.half(h:Dg P e x)(k:Dg P e y):Dg P (e+1) (mid x y):=by
 obtain ⟨⟨z,g⟩,b⟩:=h
 obtain ⟨⟨d,a⟩,c⟩:=k
 refine ⟨⟨z+d,?_⟩,?_⟩
 ·rw [aV,Rat.intCast_add,<- g,<- a]
  unfold mid;grind
 ·unfold BR at *
  obtain ⟨i,l⟩:=Id.1 b
  obtain ⟨m,j⟩:=Id.1 c
  unfold mid
  exact Id.2 ⟨gz0,gz0⟩
def Dg.sz(h:Dg P e x):Sz (P+e+1) x:=by
 obtain ⟨⟨z,a⟩,b⟩:=h
 have p:=Ba e
 have g:x=aQ z ((2^e:Nat):Int):=by
  rw [Rat.divInt_eq_div,Hg,<- a,Rat.div_def,bX,Rat.mul_inv_cancel _ gz0,Rat.mul_one]
 obtain ⟨j,n⟩:=Id.1 b
 have i:(z:Rat)<=(((2^(P+e):Nat):Int):Rat):=by
  rw [Hg,Fk,<- a]
  have:=aK (show 0<=2^P-x from gz0) (aE p)
  grind
 have d:((-((2^(P+e):Nat):Int):Int):Rat)<=(z:Rat):=by
  rw [bU,Hg,Fk,<- a]
  have:=aK (show 0<=x+2^P from gz0) (aE p)
  grind
 have m:=Rat.intCast_le_intCast.1 i
 have l:=Rat.intCast_le_intCast.1 d
 have c:2^e<2^(P+e+1):=aU dc o
 have k:2^(P+e)<2^(P+e+1):=aU dc o
 have q:0<2^e:=Nat.pow_pos dc
 rw [g]
 refine At o ?_ ?_
 ·unfold ZB;omega
 ·unfold ZB;rw [aY];exact c
def Dg.pow(h:k<=P):Dg P 0 (2^k)/\Dg P 0 (-2^k):=by
 have a:=Ob h
 have b:=Ba k
 have e:((2^k:Nat):Int)=((2^k:Nat):Int):=rfl
 refine ⟨⟨⟨((2^k:Nat):Int),?_⟩,?_⟩,⟨⟨-((2^k:Nat):Int),?_⟩,?_⟩⟩
 ·rw [Hg,bY,Rat.mul_one]
 ·exact Id.2 ⟨gz0,gz0⟩
 ·rw [bU,Hg,bY,Rat.mul_one]
 ·exact Id.2 ⟨gz0,gz0⟩
structure Lv (P k e:Nat) (x y:Rat):Prop where
 a:Dg P e x
 b:Dg P e y
 w:(y-x)*2^e=2^(k+1)
def Lv.lt(l:Lv P k e x y):x<y:=by
 have a:=Ba (k+1)
 have b:=l.w
 by_cases h:x<y
 ·exact h
 ·exfalso
  have:=aK (show 0<=x-y from gz0) (aE (Ba e))
  grind
def Lv.left(l:Lv P k e x y):Lv P k (e+1) x (mid x y):=⟨l.a.up,l.a.half l.b,by have:=l.w;rw [aV];unfold mid;grind⟩
def Lv.right(l:Lv P k e x y):Lv P k (e+1) (mid x y) y:=⟨l.a.half l.b,l.b.up,by have:=l.w;rw [aV];unfold mid;grind⟩
def Lv.start(h:k<=P):Lv P k 0 (-2^k) (2^k):=⟨(Dg.pow h).2,(Dg.pow h).1,by rw [bY,aV];grind⟩
def Lv.mids(l:Lv P k e x y):x<mid x y/\mid x y<y:=⟨l.left.lt,l.right.lt⟩
def Lv.bound(l:Lv P k e x y)(h:1<(y-x)*2^f):e<k+1+f:=by
 by_cases b:e<k+1+f
 ·exact b
 ·exfalso
  obtain ⟨d,rfl⟩:=bC (Nat.not_lt.1 b)
  have c:=l.w
  rw [Fk,Fk] at c
  have a:=Ba (k+1)
  have m:=A0w d
  have n:=aT (show 0<(y-x)*2^f-1 from gz0) a
  have j:=aK (aE a) (show (0:Rat)<=2^d-1 from gz0)
  have g:0<(y-x)*2^f:=gz0
  have i:=aK (aE (aT g a)) (show (0:Rat)<=2^d-1 from gz0)
  grind
def Lv.small(q:Sq w S t)(f:SqF w S)(hb:A47 m S)(h2:2<=S.length)(h4:S.length<=4)(l:Lv P k e x y)(hk:k<=P)(he:Za m P+P+1<=e):
 Vn (S::t) x<=Vn (S::t) y+1/\(pe S x=0->Vn (S::t) x<=Vn (S::t) y):=by
 refine A5x q hb h2 h4 f.nz f.cop l.a.2 l.b.2 l.lt ?_
 obtain ⟨d,rfl⟩:=bC (show Za m P+(k+1)<=e from o)
 have h:=l.w
 rw [Fk,Fk] at h
 have c:=Ba (k+1)
 have p:=A0w d
 have g:=Ba (Za m P)
 have lt:=l.lt
 generalize (2:Rat)^Za m P=C at *
 generalize (2:Rat)^(k+1)=K at *
 generalize (2:Rat)^d=D at *
 have i:0<(y-x)*C:=aT gz0 g
 have n:=aK (aE (aT i c)) (show 0<=D-1 from gz0)
 have j:((y-x)*C)*K<=1*K:=gz0
 have:=Rat.le_of_mul_le_mul_right j c
 grind
def Gr(P E:Nat)(p q:Rat):Prop:=(p=q/\Dg P E p)\/∃ k e,k<=P/\e<=E/\Lv P k e p q
structure Gd (S:List Int) (t:List (List Int)) (P E:Nat) (p q:Rat):Prop where
 is:IsX S t p q
 gr:Gr P E p q
def Gr.dg{E:Nat}(g:Gr P E x y):Dg P E x/\Dg P E y:=by
 rcases g with ⟨rfl,d⟩|⟨k,e,_,c,l⟩
 ·exact ⟨d,d⟩
 ·exact ⟨l.a.le c,l.b.le c⟩
def IsoO.sg(i:IsoO S lo hi)(hl:lo<hi):sgR (pe S lo)*sgR (pe S hi)= -1:=by
 rcases i with ⟨e,_⟩|⟨_,e⟩
 ·exfalso;grind
 ·exact e
def IsoO.half(i:IsoO S lo hi)(hl:lo<hi){s:Int}(hs:s=1\/s= -1\/s=0)(h0:s≠0)(h1:s≠sgR (pe S lo)):s=sgR (pe S hi):=by
 have:=i.sg hl
 rcases D9 (pe S lo) with z|z|z<;>rcases D9 (pe S hi) with y|y|y<;>rw [z,y] at this<;>rw [z] at h1<;>rw [y]<;>omega
def C1z(a b m Y v gl gh:Rat):(kr2 a b m Y v gl gh).1<=(kr2 a b m Y v gl gh).2:=by
 have:=Dw (a:=(kr1 Y gl gh).1) (b:=(kr1 Y gl gh).2) (c:=a + -m) (d:=b + -m)
 unfold kr2;grind
def C22{c:Nat->Rat}{n:Nat}:(imR c n x y k).1<=(imR c n x y k).2:=bL (A9q _ _ _ _ _ _ _ _) (bL (C1z _ _ _ _ _ _ _) (A9r _ _ _ _ _ _ _ _))
def A55{c:Nat->Rat}{n:Nat}:(∃ z:Int,(imR c n x y k).1*2^k=(z:Rat))/\∃ z:Int,(imR c n x y k).2*2^k=(z:Rat):=by
 have h:(2:Rat)^k≠0:=by have:=Ba k;grind
 exact ⟨⟨_,bJ h⟩,⟨_,bJ h⟩⟩
def Dg.btw{v:Rat}(h:Dg P e x)(g:Dg P e y)(hk:k<=e)(hz:∃ z:Int,v*2^k=(z:Rat))(h1:x<=v)(h2:v<=y):Dg P e v:=by
 have b:BR P v:=by
  obtain ⟨i,c⟩:=Id.1 h.2
  obtain ⟨a,d⟩:=Id.1 g.2
  exact Id.2 ⟨gz0,gz0⟩
 exact (show Dg P k v from ⟨hz,b⟩).le hk
def Dg.mx{v:Rat}(h:Dg P e x)(g:Dg P e y)(hk:k<=e)(hz:∃ z:Int,v*2^k=(z:Rat))(h2:Go.Proofs.YtbgkfnjmcjfokaaGreatDoor.mx x v<=y):Dg P e (Go.Proofs.YtbgkfnjmcjfokaaGreatDoor.mx x v):=by
 unfold Go.Proofs.YtbgkfnjmcjfokaaGreatDoor.mx at *
 split at h2
 ·rename_i a
  rw [iP a]
  first|exact h.btw g hk hz gz0 h2|exact h
 ·rename_i a
  rw [iN a]
  first|exact h|exact h.btw g hk hz gz0 h2
def Dg.mn{v:Rat}(h:Dg P e x)(g:Dg P e y)(hk:k<=e)(hz:∃ z:Int,v*2^k=(z:Rat))(h2:x<=Go.Proofs.YtbgkfnjmcjfokaaGreatDoor.mn y v):Dg P e (Go.Proofs.YtbgkfnjmcjfokaaGreatDoor.mn y v):=by
 unfold Go.Proofs.YtbgkfnjmcjfokaaGreatDoor.mn at *
 split at h2
 ·rename_i a
  rw [iP a]
  first|exact h.btw g hk hz h2 gz0|exact g
 ·rename_i a
  rw [iN a]
  first|exact g|exact h.btw g hk hz h2 gz0
def C1t{α β:Type}(Q:Nat->α->β->Prop):∃ mu:α->β->Nat,∀ L h,(∃ e,Q e L h)->Q (mu L h) L h/\∀ e,Q e L h->mu L h<=e:=by
 have key:∀ p:Nat->Prop,∃ m,(∃ e,p e)->p m/\∀ e,p e->m<=e:=by
  intro p
  by_cases c:∃ e,p e
  ·obtain ⟨e,i⟩:=c
   induction e using Nat.strongRecOn with
   | ind e ih=>
    by_cases g:∃ d,d<e/\p d
    ·obtain ⟨d,a,b⟩:=g
     exact ih d a b
    ·exact ⟨e,fun _=>⟨i,fun d a=>by
      by_cases h:e<=d
      ·exact h
      ·exact absurd ⟨d,o,a⟩ g⟩⟩
  ·exact ⟨0,fun h=>absurd h c⟩
 exact ⟨fun L h=>Classical.choose (key fun e=>Q e L h),fun L h=>Classical.choose_spec (key fun e=>Q e L h)⟩
end
def Hn.sg{w:List Int}{q:Rat}{z pw:Int}(hh:Hn w q.num (q.den:Int) 0 z pw):Int.sign z=sgR (pe w q):=by
 have:=hh.sgn (by have:=q.den_pos;omega) (Xx q)
 rw [A8d] at this
 exact this
def B9h(h:aP)(S:List Int)(P E:Nat)(p q:Rat)(m:Nat)(L:List aW)(hp:aP):Prop:=∃ (x y:Rat) (a b:QV),L=[.bool a.s,.slice a.A a.n a.c,.bool a.s2,.slice a.A2 a.n2 a.c2,.bool b.s,.slice b.A b.n b.c,.bool b.s2,.slice b.A2 b.n2 b.c2,.bool false,.slice none 0 0,.bool false,.slice none 0 0,.bool false,.slice none 0 0,.bool false,.slice none 0 0]/\
 h.le hp/\RQ hp a x/\RQ hp b y/\NarO S p q x y/\((x=y/\Dg P E x)\/∃ k e,k<=P/\e<=E/\Lv P k e x y/\m+e=P+31+E)
section
variable {h:aP} {K:VP} {A:Option aR} {n c M e P E:Nat} {w S:List Int} {a b l:QV} {p q L:Rat}
def Qj{lo hi:List UInt8}(gl:Gl h)(r:WV h A n S)(f:SqF w S)(hn:n<=5)(hc:n<=c)(bS:WB M S)(hM:700*(M+11)<=40000000)(elo:lo=C0 p)(ehi:hi=C0 q)(hp:Sz e p)(hq:Sz e q)(hT:89*(M+10+1)+7*(e+1)<=40000000)(llo:lo.length<=140737488351232)(lhi:hi.length<=140737488351232)
 (is:IsoO S p q) (cnt:p<q->∀ t,Chn S t->(chg 0 (Vs (S::t) p):Int)-chg 0 (Vs (S::t) q)=1)
 (hK:∀ (a b:QV) h',h.le h'->RQ h' a p->RQ h' b q->K (.tuple #[spV a b,.bool true]) h'):aF prog 37 #[.slice A n c,ivT lo hi] h K:=by
 refine (fnk func37 (os:=[(5,[0,1,4,5,2,3,6,7,8,9])]) (own:=[3,4,6,8,12])) ?_
 refine Q9 gl.tz llo (fun G e1 a h1 N u=>?_) (fun i=>absurd ⟨p,elo⟩ i)
 obtain rfl:G=p:=E8 (e1.symm.trans elo)
 refine ⟨_,_,_,_,_,_,_,_,_,rfl,?_⟩
 refine Q9 (gl.mono N).tz lhi (fun H V b h2 k s=>?_) (fun i=>absurd ⟨q,ehi⟩ i)
 obtain rfl:H=q:=E8 (V.symm.trans ehi)
 refine ⟨_,_,_,_,_,_,_,_,_,rfl,P6 (P6 ?_)⟩
 have j:=A0 N k
 have l:M+(n+2)*(e+1)<=40000000:=by
  have:=bH (e+1) (show n+2<=7 from o)
  omega
 refine Bu (r.mono j) (u.le k) o bS hp l ?_
 intro s3 A3 n3 c3 z3 T h3 y C B _
 refine ⟨_,_,_,_,rfl,y,O9 C ⟨_,rfl,B0 _,?_⟩⟩
 refine Bu (r.mono (A0 j y)) (s.le y) o bS hq l ?_
 intro s4 A4 n4 c4 z4 R h4 L D E _
 refine ⟨_,_,_,_,rfl,L,O9 D ⟨_,rfl,B0 _,?_⟩⟩
 have d:=A0 y L
 have g:=A0 j d
 refine X8 (m:=e) (u.le (A0 k d)) (s.le d) hp hq o ⟨_,rfl,?_⟩
 rw [B.sg,E.sg]
 rcases is with ⟨O,F⟩|⟨lt,F⟩
 ·have c0:A5c G H=0:=B8u.2 O
  refine C8 (fun _=>?_) (fun z=>absurd c0 z)
  rw [N7.2 F]
  exact hK a b _ g (u.le (A0 k d)) (s.le d)
 ·have c1:A5c G H<0:=Fd.2 lt
  refine C8 (fun z=>o) (fun _=>C8 (fun z=>o) (fun _=>B4 (fun z=>?_) (fun _=>?_)))
  ·rw [F,B5 o o] at z
   omega
  ·refine Lo (e:=e) (gl.mono g).tz (r.mono g) f hn hc bS hM (u.le (A0 k d)) (s.le d) hp hq hT ?_
   intro z h5 x co
   have W:z=1:=by
    obtain ⟨t,Q,X⟩:=co.2 lt
    rw [X];exact cnt lt t Q
   subst W
   exact ⟨_,rfl,x,hK a b _ (A0 g x) (u.le (A0 (A0 k d) x)) (s.le (A0 d x))⟩
def Xg(gl:Gl h)(r:WV h A n S)(hn:n<=5)(bS:WB M S)(ia:RQ h a p)(ib:RQ h b q)(il:RQ h l L)(zl:Sz 100 L)(hL:1<=L*2^30)(is:IsoO S p q)(g:Gr P E p q)(hP:P+31<=E)(hE:100<=E)(hPE:P+E<=100000)(hT:M+7*(P+E+2)<=10000000)
 (hK:∀ x y (a b:QV) h',h.le h'->RQ h' a x->RQ h' b y->NarO S p q x y->Gr P E x y->K (spV a b) h'):aF prog 39 #[.slice A n c,spV a b,l.v] h K:=by
 refine (fnk func39 [(2,[],[(4,8),(6,8)],[.bool false,.slice none 0 0,.bool false,.slice none 0 0,.bool false,.slice none 0 0,.bool false,.slice none 0 0,.bool false,.slice none 0 0,.bool false,.slice none 0 0,.bool false,.slice none 0 0,.bool false,.slice none 0 0])] (os:=[(2,[0,1,2,3,5,4,6,7])]) (own:=[4,5,6,8])) ?_
 have O:M+(n+2)*(P+E+1+1)<=40000000:=by
  have:=bH (P+E+1+1) (show n+2<=7 from o)
  omega
 refine Bu r ia o bS g.dg.1.sz O ?_
 intro s1 A1 n1 c1 z1 an h1 N aa ab _
 refine ⟨_,_,_,_,rfl,O9 aa ⟨_,rfl,?_⟩⟩
 rw [ab.sg]
 obtain ⟨mu,D⟩:=C1t (B9h h S P E p q)
 have start:∃ m,B9h h S P E p q m [.bool a.s,.slice a.A a.n a.c,.bool a.s2,.slice a.A2 a.n2 a.c2,.bool b.s,.slice b.A b.n b.c,.bool b.s2,.slice b.A2 b.n2 b.c2,.bool false,.slice none 0 0,.bool false,.slice none 0 0,.bool false,.slice none 0 0,.bool false,.slice none 0 0] h1:=by
  rcases g with ⟨e0,d⟩|⟨k,e,F,C,i⟩
  ·subst e0
   have R:pe S p=0:=by
    rcases is with ⟨_,z⟩|⟨z,_⟩
    ·exact z
    ·exfalso;grind
   exact ⟨0,p,p,a,b,rfl,N,ia.le N,ib.le N,⟨aZ,aZ,aZ,.inl ⟨rfl,R⟩⟩,.inl ⟨rfl,d⟩⟩
  ·exact ⟨P+31+E-e,p,q,a,b,rfl,N,ia.le N,ib.le N,⟨aZ,aE i.lt,aZ,.inr ⟨i.lt,rfl,rfl⟩⟩,.inr ⟨k,e,F,C,i,o⟩⟩
 refine ⟨fun L hp=>∃ m,B9h h S P E p q m L hp,mu,start,?_⟩
 intro i0 i1 i2 i3 i4 u i6 i7 i8 i9 az am a5 ay av a3 j0 j1 j2 j3 j4 j5 j6 j7 j8 j9 aq a0 ar a4 au ax hp aj
 obtain ⟨m,em,x,y,a2,b2,eL,lp,ix,iy,no,gr⟩:∃ m,mu _ hp=m/\B9h h S P E p q m _ hp:=⟨_,rfl,(D _ _ aj).1⟩
 simp only [aI,bN,aO,and_true] at eL
 obtain ⟨rfl,⟨rfl,rfl,rfl⟩,rfl,⟨rfl,rfl,rfl⟩,rfl,⟨rfl,rfl,rfl⟩,rfl,⟨rfl,rfl,rfl⟩,rfl,⟨rfl,rfl,rfl⟩,rfl,⟨rfl,rfl,rfl⟩,rfl,⟨rfl,rfl,rfl⟩,rfl,rfl,rfl,rfl⟩:=eL
 have ah:=gl.mono lp
 have H:Dg P E x/\Dg P E y:=by
  rcases gr with ⟨rfl,d⟩|⟨k,e,_,C,i,_⟩
  ·exact ⟨d,d⟩
  ·exact ⟨i.a.le C,i.b.le C⟩
 refine Vh (m:=P+E+1) ah.tz iy ix H.2.sz H.1.sz o fun w3 h3 w i3=>⟨_,_,_,_,_,_,_,_,rfl,w,?_⟩
 have j:=A0 lp w
 refine X8 (m:=2*(P+E+1)+1) i3 (il.le j) ((H.2.sz.sub H.1.sz).mono o) (zl.mono o) o ⟨_,rfl,B0 _,?_⟩
 refine B4 (fun af=>?_) (fun _=>?_)
 ·have ao:L<y-x:=Oy.1 af
  have V:=Ba 30
  rcases gr with ⟨e0,_⟩|⟨k,e,F,C,i,hm⟩
  ·exfalso
   have:=aK (show 0 <= -L from gz0) (aE V)
   grind
  have hb:e<k+1+30:=i.bound (by
   have:=aT (show 0<(y-x)-L from gz0) V
   grind)
  have dm:Dg P E (mid x y):=(i.a.half i.b).le o
  obtain ⟨ac,al⟩:=i.mids
  refine Ln (m:=P+E+1) (gl.mono j).tz (ix.le w) (iy.le w) H.1.sz H.2.sz o fun X h5 l5 u=>⟨_,_,_,_,_,_,_,_,rfl,?_⟩
  have u:RQ h5 X (mid x y):=u
  have W:=A0 j l5
  refine Bu (r.mono W) u o bS dm.sz O ?_
  intro s6 A6 n6 c6 z6 a1 h6 G ak ae _
  refine ⟨_,_,_,_,rfl,O9 ak ⟨_,rfl,?_⟩⟩
  rw [ae.sg]
  have B:=A0 W G
  have T:=A0 w (A0 l5 G)
  obtain ⟨ad,ap,ai,ag⟩:=no
  have lt:=i.lt
  have n5:sgR (pe S x)=sgR (pe S p)/\sgR (pe S y)=sgR (pe S q):=by
   rcases ag with ⟨z,_⟩|⟨_,z⟩
   ·exfalso;grind
   ·exact z
  refine C8 (fun R=>?_) (fun R=>C8 (fun z1=>?_) (fun z1=>?_))
  ·exact hK (mid x y) (mid x y) X X h6 B (u.le G) (u.le G) ⟨gz0,aZ,gz0,.inl ⟨rfl,N7.1 R⟩⟩ (.inl ⟨rfl,dm⟩)
  ·have Q:B9h h S P E p q (m-1) _ h6:=⟨mid x y,y,X,b2,rfl,B,u.le G,iy.le T,⟨gz0,gz0,ai,.inr ⟨al,z1,n5.2⟩⟩,.inr ⟨k,e+1,F,o,i.right,o⟩⟩
   exact ⟨⟨_,Q⟩,by rw [em];exact bK ((D _ _ ⟨_,Q⟩).2 _ Q) o⟩
  ·have hs:sgR (pe S (mid x y))=sgR (pe S q):=is.half gz0 (D9 _) R z1
   have Q:B9h h S P E p q (m-1) _ h6:=⟨x,mid x y,a2,X,rfl,B,ix.le T,u.le G,⟨ad,gz0,gz0,.inr ⟨ac,n5.1,hs⟩⟩,.inr ⟨k,e+1,F,o,i.left,o⟩⟩
   exact ⟨⟨_,Q⟩,by rw [em];exact bK ((D _ _ ⟨_,Q⟩).2 _ Q) o⟩
 ·refine hK x y a2 b2 h3 j (ix.le w) (iy.le w) no ?_
  rcases gr with ⟨e0,d⟩|⟨k,e,F,C,i,_⟩
  ·exact .inl ⟨e0,d⟩
  ·exact .inr ⟨k,e,F,C,i⟩
end
instance:Enc (HV × HV):=⟨⟨fun s=>[.slice s.1.A s.1.n s.1.c,.slice s.2.A s.2.n s.2.c],2,fun _=>rfl,fun s v hv=>by simp at hv;rcases hv with rfl|rfl<;>rfl⟩⟩
abbrev ptV(a:QV)(v:Nat)(r:Bool):aW:=.agg #[.bool a.s,.slice a.A a.n a.c,.bool a.s2,.slice a.A2 a.n2 a.c2,I (v:Int),.bool r]
def C2m:∀ (l:List Int) (b:Int),chg b l<=l.length:=by
 intro l
 induction l with
 | nil=>intro b;simp [chg]
 | cons s l ih=>
  intro b
  rw [chg,List.length_cons]
  split
  ·have:=ih b;omega
  ·have:=ih s;split<;>omega
def B91(L:List (List Int))(x:Rat):Vn L x<=L.length:=by
 have:=C2m (Vs L x) 0
 simpa [Vn,Vs] using this
def Bs(S:List Int)(t:List (List Int))(P E pb:Nat)(Ac:Option aR)(nc cc:Nat)(gt hp:aP)(m:Nat):Prop:=∃ (g o:aP) (A:Option aR) (c:Nat) (xs:List I2),gt.le g/\Sep hp g o/\RowX o pb [(⟨Ac,nc,cc⟩:HV),⟨A,xs.length,c⟩]/\OwnSl o 86 A c xs/\A≠some ⟨pb,0,none⟩/\xs.length<=m/\∀ x∈xs,∃ p q,RQ g x.a p/\RQ g x.b q/\Gd S t P E p q
section
variable {S w:List Int} {t:List (List Int)} {P E M pb nc cc m N k:Nat} {Ac:Option aR} {gt g0 hp h h':aP} {K:VP} {a b:QV} {p q:Rat}
def Bs.le(b:Bs S t P E pb Ac nc cc gt hp m):gt.le hp:=by
 obtain ⟨g,o,A,c,xs,a,s,_⟩:=b
 exact A0 a s.le
def Bs.weak(b:Bs S t P E pb Ac nc cc gt hp m)(l:g0.le gt):Bs S t P E pb Ac nc cc g0 hp m:=by
 obtain ⟨g,o,A,c,xs,a,r⟩:=b
 exact ⟨g,o,A,c,xs,A0 l a,r⟩
def Bs.more(b:Bs S t P E pb Ac nc cc gt hp m)(l:m<=N):Bs S t P E pb Ac nc cc gt hp N:=by
 obtain ⟨g,o,A,c,xs,j,s,a,d,e,k,i⟩:=b
 exact ⟨g,o,A,c,xs,j,s,a,d,e,oo,i⟩
def Bs.cell(b:Bs S t P E pb Ac nc cc gt hp m):hp.cell? (aL ⟨pb,0,none⟩ 0)=some (.slice Ac nc cc):=by
 obtain ⟨g,o,A,c,xs,n,s,a,e,k,d,l⟩:=b
 exact s.cell (RowB.cell a.rowB (i:=0) (by simp) (j:=0) (v:=.slice Ac nc cc) rfl)
def Bs.after(b:Bs S t P E pb Ac nc cc gt hp m)(l:hp.le h'):∃ g',gt.le g'/\Bs S t P E pb Ac nc cc g' h' m:=by
 obtain ⟨g,o,A,c,xs,y,s,n,r,u,e,w⟩:=b
 obtain ⟨g',a,i⟩:=s.after l
 exact ⟨g',A0 y a,g',o,A,c,xs,B0 _,i,n,r,u,e,fun x d=>by
  obtain ⟨p,q,i1,k,j⟩:=w x d
  exact ⟨p,q,i1.le a,k.le a,j⟩⟩
def Bs.call{F:FuncId}{args:Array aW}(b:Bs S t P E pb Ac nc cc gt hp m)(x:∀ g,gt.le g->aF prog F args g (fun r g'=>g.le g'/\∀ h',hp.le h'->Bs S t P E pb Ac nc cc g' h' m->K r h')):aF prog F args hp K:=by
 obtain ⟨g,o,A,c,xs,z,s,n,u,w,i,y⟩:=b
 refine s.call (FCall.mono (x g z) ?_)
 rintro v g' ⟨a,k⟩ h' e
 exact k h' (s.le_le e a) ⟨g',o,A,c,xs,B0 _,e,n,u,w,i,fun x d=>by
  obtain ⟨p,q,i1,l,j⟩:=y x d
  exact ⟨p,q,i1.le a,l.le a,j⟩⟩
def Bs.push{x y:QV}(b:Bs S t P E pb Ac nc cc gt hp m)(ix:RQ gt x p)(iy:RQ gt y q)(gd:Gd S t P E p q)(hm:m<=100){K:aP->Prop}(hK:∀ h',Bs S t P E pb Ac nc cc gt h' (m+1)->K h'):
 ∃ a,some (⟨pb,0,none⟩:aR)=some a/\∃ (A:Option aR) (n:Nat) (c:Nat),Heap.cell? hp (aL a 1)=some (.slice A n c)/\wpH prog (Instr.buildSlice 79 1 #[(0,.agg #[.bool x.s,.slice x.A x.n x.c,.bool x.s2,.slice x.A2 x.n2 x.c2,.bool y.s,.slice y.A y.n y.c,.bool y.s2,.slice y.A2 y.n2 y.c2])]) (fun v hp1=>∃ (B:Option aR) (bn:Nat) (bc:Nat),v= .slice B bn bc/\Heap.le hp hp1/\
  wpH prog (Builtin.append_ #[79,79] 79 #[.slice A n c,.slice B bn bc]) (fun v1 hp2=>∃ (A':Option aR) (n':Nat) (c':Nat),v1= .slice A' n' c'/\∃ a1,some (⟨pb,0,none⟩:aR)=some a1/\wpH prog (Instr.storeAt 79 (.pointer (some (aL a1 1))) (.slice A' n' c')) (fun _ hp3=>K hp3) hp2) hp1) hp:=by
 obtain ⟨g,o,A,c,xs,w,s,G,ow,hA,O,hx⟩:=b
 refine ⟨_,rfl,A,xs.length,c,s.cell (RowB.cell G.rowB (i:=1) (by simp) (j:=0) (v:=.slice A xs.length c) rfl),?_⟩
 refine OwnSl.push (ty:=79) B9w s ow (y:=(⟨x,y⟩:I2)) rfl dc oo oo (K1:=fun V=>Heap.le hp V) (fun _ l=>l) ?_
 intro A' c' h' X o' d M F N
 obtain ⟨e,T⟩:=G
 obtain ⟨L,H⟩:=N pb _ T hA
 refine ⟨_,rfl,?_⟩
 have D:RowX o' pb [(⟨Ac,nc,cc⟩:HV),⟨A,xs.length,c⟩]:=⟨e,L⟩
 refine E7 (α:=HV) A2u (y:=(⟨A',xs.length+1,c'⟩:HV)) rfl M D (i:=1) (by simp) ?_
 intro Q o2 x2 e2 s2 C
 refine hK Q ⟨X,o2,A',c',xs++[⟨x,y⟩],A0 w d,s2,?_,F.keep (fun b u q W=>?_),H,by simp;omega,?_⟩
 ·rw [List.length_append];exact C
 ·rw [e2,B6 _ _ (by rintro rfl;exact H q)];exact W
 ·intro z k
  rcases List.mem_append.1 k with k|k
  ·obtain ⟨p',q',i1,R,r⟩:=hx z k
   exact ⟨p',q',i1.le d,R.le d,r⟩
  ·rw [List.mem_singleton.1 k]
   exact ⟨p,q,ix.le (A0 w d),iy.le (A0 w d),gd⟩
def Rw{e:Nat}(r:ChV h Ac nc (S::t))(cB:ChB M (S::t))(c0:h.cell? (aL ⟨pb,0,none⟩ 0)=some (.slice Ac nc cc))(i:RQ h a q)(hq:Sz e q)(hT:89*(M+1)+7*(e+1)<=40000000)(hnc:nc<=6)
 (hK:∀ h',h.le h'->K (ptV a (Vn (S::t) q) (decide (pe S q=0))) h'):aF prog 92 #[.pointer (some ⟨pb,0,none⟩),a.v] h K:=by
 refine (fnk func92 (os:=[(1,[0,1,2,3,4,5,6,8,9,10,11,12,13,14,7,15,16,17,18])]) (own:=[3,4])) ?_
 have g:nc=(S::t).length:=by obtain ⟨_,_,e,_⟩:=r;exact e
 obtain ⟨E,s,b,rfl,p,m,wv,C⟩:=r.at (i:=0) (by rw [g];simp)
 obtain rfl:b=S:=by simpa using p.symm
 refine ⟨_,rfl,_,_,_,c0,_,rfl,_,_,_,c0,_,rfl,o,by rw [g];simp,_,_,_,m,?_⟩
 refine Cy r i cB o hq hT ?_
 intro A c
 refine ⟨_,rfl,c,?_⟩
 have D:=cB.len b List.mem_cons_self
 have w:=wv.1
 have d:89*(M+1)+(s.n+2)*(e+1)<=40000000:=by
  have:=bH (e+1) (show s.n+2<=7 from o)
  omega
 refine Bu (wv.mono c) (i.le c) o (cB.bits b List.mem_cons_self) hq d ?_
 intro x A2 B c2 k pw y j u l _
 refine ⟨_,_,_,_,rfl,j,F0 u ⟨_,rfl,B0 _,?_⟩⟩
 have e:decide (k=0)=decide (pe b q=0):=by
  have:=l.sg
  refine decide_eq_decide.2 ⟨fun z=>?_,fun z=>?_⟩
  ·rw [z] at this;exact N7.1 this.symm
  ·rw [z] at this;exact Int.sign_eq_zero_iff_zero.1 this
 rw [e]
 exact hK _ (A0 c j)
def Ui(f:SqF w S)(q0:Sq w S t)(hb:A47 m S)(h2:2<=S.length)(h4:S.length<=4)(cB:ChB M (S::t))(hnc:nc<=6)(hE:Za m P+P+1<=E)(hkP:k<=P)(hPE:P+E<=100000)(hT:89*(M+1)+7*(P+E+2)<=10000000):
 ∀ (d:Nat) (gt hp:aP) (a b:QV) (p q:Rat) (e N:Nat) (K:VP),e+d=E->Gtz gt->ChV gt Ac nc (S::t)->RQ gt a p->RQ gt b q->Lv P k e p q->Bs S t P E pb Ac nc cc gt hp N->N+(Vn (S::t) p-Vn (S::t) q)<=100->
  (∀ h',Bs S t P E pb Ac nc cc gt h' (N+(Vn (S::t) p-Vn (S::t) q))->K (.tuple #[]) h')->aF prog 91 #[.pointer (some ⟨pb,0,none⟩),ptV a (Vn (S::t) p) (decide (pe S p=0)),ptV b (Vn (S::t) q) (decide (pe S q=0))] hp K:=by
 intro d
 induction d using Nat.strongRecOn with
 | ind d ih=>
 intro gt hp a b p q e N K ab L B W x i bs hN F
 refine (fnk func91 (own:=[4,5,7]) (wr:=[91,1000000000])) ?_
 have hl:nc=(S::t).length:=by obtain ⟨_,_,e,_⟩:=B;exact e
 have vp:=B91 (S::t) p
 have vq:=B91 (S::t) q
 have down:=q0.down f (aE i.lt)
 have en:B9 ((Vn (S::t) p:Int)-(Vn (S::t) q:Int))=((Vn (S::t) p-Vn (S::t) q:Nat):Int):=by rw [B5 o o];omega
 rw [en]
 have D:0<Vn (S::t) p-Vn (S::t) q->¬ (Vn (S::t) p-Vn (S::t) q=1/\pe S p≠0)->
  aF prog 105 #[spV a b] hp (fun r Q=>∃ (t190:Bool) (t191A:Option aR) (t191n:Nat) (t191c:Nat) (t192:Bool) (t193A:Option aR) (t193n:Nat) (t193c:Nat),r= .agg #[.bool t190,.slice t191A t191n t191c,.bool t192,.slice t193A t193n t193c]/\
   aF prog 92 #[.pointer (some ⟨pb,0,none⟩),.agg #[.bool t190,.slice t191A t191n t191c,.bool t192,.slice t193A t193n t193c]] Q (fun r1 V=>∃ (t200:Bool) (t201A:Option aR) (t201n:Nat) (t201c:Nat) (t202:Bool) (t203A:Option aR) (t203n:Nat) (t203c:Nat) (t204:Int) (t205:Bool),r1= .agg #[.bool t200,.slice t201A t201n t201c,.bool t202,.slice t203A t203n t203c,I t204,.bool t205]/\
    aF prog 91 #[.pointer (some ⟨pb,0,none⟩),ptV a (Vn (S::t) p) (decide (pe S p=0)),.agg #[.bool t200,.slice t201A t201n t201c,.bool t202,.slice t203A t203n t203c,I t204,.bool t205]] V (fun r2 H=>r2= .tuple #[]/\
     aF prog 91 #[.pointer (some ⟨pb,0,none⟩),.agg #[.bool t200,.slice t201A t201n t201c,.bool t202,.slice t203A t203n t203c,I t204,.bool t205],ptV b (Vn (S::t) q) (decide (pe S q=0))] H (fun r3 aa=>r3= .tuple #[]/\K (.tuple #[]) aa)))):=by
  intro n0 nl
  have hd:d≠0:=by
   intro z
   subst z
   obtain ⟨s1,s2⟩:=Lv.small q0 f hb h2 h4 i hkP o
   by_cases z:pe S p=0
   ·have:=s2 z;omega
   ·exact nl ⟨o,z⟩
  obtain ⟨d',rfl⟩:=Nat.exists_eq_succ_of_ne_zero hd
  have m1:=q0.down f (aE i.mids.1)
  have m2:=q0.down f (aE i.mids.2)
  refine bs.call (fun g C=>Ln (m:=P+E+1) (L.mono C) (W.le C) (x.le C) (i.a.le (f:=E) o).sz (i.b.le (f:=E) o).sz o fun w5 g5 l5 s=>⟨l5,fun h5 _ j=>⟨_,_,_,_,_,_,_,_,rfl,?_⟩⟩)
  have s:RQ g5 w5 (mid p q):=s
  have A:=A0 C l5
  have u:=j.le
  refine Rw (e:=P+E+1) ((B.mono A).mono u) cB j.cell (s.le u) ((i.a.half i.b).le (f:=E) o).sz o hnc fun h6 l6=>⟨_,_,_,_,_,_,_,_,_,_,rfl,?_⟩
  obtain ⟨g6,l,O⟩:=j.after l6
  have c:=A0 A l
  refine ih d' o g6 h6 a w5 p (mid p q) (e+1) N _ o (L.mono c) (B.mono c) (W.le c) (s.le l) i.left O o (fun h7 R=>⟨rfl,?_⟩)
  exact ih d' o g6 h7 w5 b (mid p q) q (e+1) _ _ o (L.mono c) (B.mono c) (s.le l) (x.le c) i.right R o (fun h8 X=>⟨rfl,F h8 ((X.weak c).more o)⟩)
 refine B4 (fun h0=>F hp (bs.more o)) (fun h0=>C8 (fun G=>?_) (fun G=>C8 (fun z=>absurd z G) (fun _=>D o (fun z=>G o))))
 refine B4 (fun T=>?_) (fun T=>C8 (fun _=>Br.not (B4 (fun z=>D o (fun y=>y.2 z)) (fun z=>?_))) (fun z=>absurd G z))
 ·exact bs.push x x ⟨.inl ⟨rfl,T⟩,.inl ⟨rfl,i.b.le o⟩⟩ o fun h' n=>F h' (n.more o)
 ·exact bs.push W x ⟨.inr ⟨i.lt,z,T,o⟩,.inr ⟨k,e,hkP,o,i⟩⟩ o fun h' n=>F h' (n.more o)
end
def C1n(m:Nat):2^m<10^(m/3+1):=by
 have a:2^m<2^(3*(m/3+1)):=aU dc o
 rw [Nat.pow_mul] at a
 exact Nat.lt_of_lt_of_le a (Nat.pow_le_pow_left dc _)
def B0w{m n:Nat}(h:n<2^m):(P5 n).length<=m/3+1:=(V5 o).2 (Nat.lt_trans h (C1n m))
def B6g{m:Nat}{q:Rat}(h:Sz m q):(C0 q).length<=2*(m/3)+4:=by
 have a:(Dn q.num).length<=m/3+2:=by
  have:=B0w h.num
  unfold Dn;split<;>simp<;>omega
 have b:(P5 q.den).length<=m/3+1:=B0w (by have:=h.den;unfold ZB at this;rwa [aY] at this)
 unfold C0
 rw [List.length_append]
 split
 ·simp;omega
 ·simp;omega
def PwQ(h:aP)(P m:Nat)(L:List aW)(hp:aP):Prop:=∃ (k:Nat) (s:Bool) (A:Option aR) (n c:Nat),L=[.bool s,.slice A n c]/\h.le hp/\ZI hp s A n c ((2^k:Nat):Int)/\m+k=P
def SpL(S:List Int)(t:List (List Int))(P E:Nat)(h:aP)(A:Option aR)(n:Nat):Prop:=∃ xs:List I2,SlF h A xs/\n=xs.length/\n<=100/\∀ x∈xs,∃ p q,RQ h x.a p/\RQ h x.b q/\Gd S t P E p q
def IvL(S:List Int)(t:List (List Int))(P E:Nat)(h:aP)(A:Option aR)(n:Nat):Prop:=∃ xs:List (Rat × Rat),SlF h A (xs.map fun x=>((C0 x.1,C0 x.2):Ivl))/\n=xs.length/\n<=100/\∀ x∈xs,Gd S t P E x.1 x.2
def C1g{k P:Nat}(h:k<=P):ZB (P+1) ((2^k:Nat):Int):=by
 unfold ZB
 rw [aY]
 exact aU dc o
def B7m{k P:Nat}(h:k<=P):Sz (P+1) (2^k:Rat):=by
 have:=Sz.int (m:=P+1) (C1g h) o
 rwa [Hg] at this
section
variable {h:aP} {K:VP} {A:Option aR} {n c M P E m e:Nat} {w S:List Int} {b:QV} {p q:Rat}
def Rv(gl:Gtz h)(r:WV h A n S)(f:SqF w S)(hn:n<=4)(hc:n<=c)(bS:WB M S)(hb:A47 m S)(h2:2<=S.length)(ib:RQ h b q)(zq:Sz e q)(hq:q<=2^P)(he:e<=1000)(hP:P<=900)(hE:Za m P+P+1<=E)(hE2:E<=10000)(hM:700*(M+11)<=40000000)(hT:89*(M+10+1)+7*(P+E+2)<=10000000)
 (hK:∀ t A' n' c' h',h.le h'->Sq w S t->SpL S t P E h' A' n'->K (.slice A' n' c') h'):aF prog 32 #[.slice A n c,b.v] h K:=by
 refine (fnk func32 [(2,[],[(5,2)],[.bool false,.slice none 0 0])] (os:=[(2,[0,2,1,3,4]),(5,[0,4,1,2,3,5,6,7])]) (own:=[3,5]) (wr:=[91])) ?_
 refine N5 oo oo fun s1 A1 n1 c1 h1 l1 i1=>⟨_,_,_,_,rfl,?_⟩
 obtain ⟨mu,ab⟩:=C1t (PwQ h P)
 refine ⟨fun L hp=>∃ m,PwQ h P m L hp,mu,⟨P,0,s1,A1,n1,c1,rfl,l1,i1,rfl⟩,?_⟩
 intro i0 i2 i3 i4 hp ap
 obtain ⟨m1,em,k,s,A2,n2,c2,eL,lp,iz,hm⟩:∃ m,mu _ hp=m/\PwQ h P m _ hp:=⟨_,rfl,(ab _ _ ap).1⟩
 simp only [aI,bN,aO,and_true] at eL
 obtain ⟨rfl,rfl,rfl,rfl⟩:=eL
 have d:k<=P:=oo
 refine No iz fun w2 iw=>⟨_,_,_,_,_,_,_,_,rfl,B0 _,?_⟩
 rw [Hg] at iw
 refine X8 (m:=P+e+1) iw (ib.le lp) ((B7m d).mono oo) (zq.mono oo) oo ⟨_,rfl,B0 _,?_⟩
 refine B4 (fun ag=>?_) (fun _=>?_)
 ·have lt:(2:Rat)^k<q:=Fd.1 ag
  have hk:k<P:=by
   by_cases hk:k<P
   ·exact hk
   ·exfalso
    obtain rfl:k=P:=oo
    grind
  refine Zk iz (Int.natCast_nonneg _) (C1g d) oo fun s3 A3 n3 c3 h3 l3 i3=>⟨_,_,_,_,rfl,?_⟩
  have Q:PwQ h P (m1-1) [.bool s3,.slice A3 n3 c3] h3:=⟨k+1,s3,A3,n3,c3,rfl,A0 lp l3,by
   have e2:((2^(k+1):Nat):Int)=((2^k:Nat):Int)*2:=by rw [Nat.pow_succ];omega
   rw [e2];exact i3,oo⟩
  exact ⟨⟨_,Q⟩,by rw [em];exact bK ((ab _ _ ⟨_,Q⟩).2 _ Q) oo⟩
 refine Pp (gl.mono lp) (r.mono lp) f.nz f.ne oo hc bS hM ?_
 intro t A4 n4 c4 h4 l4 ch G cB cn
 refine ⟨_,_,_,rfl,?_⟩
 have q0:=B1k f cn
 have aa:=A0 lp l4
 refine T7 A85 ?_
 intro pb ad
 refine ⟨_,rfl,?_⟩
 have s5:Sep (h4.put pb (.cells ([((⟨none,0,0⟩,⟨none,0,0⟩):HV × HV)].flatMap enc).toArray 167)) h4 (J8.put pb (.cells ([((⟨none,0,0⟩,⟨none,0,0⟩):HV × HV)].flatMap enc).toArray 167)):=F1 ad
 refine E7 (α:=HV × HV) B2l (y:=((⟨A4,n4,c4⟩,⟨none,0,0⟩):HV × HV)) rfl s5 (RowX.mk (e:=167)) (i:=0) dc ?_
 intro h6 o6 x6 e6 s6 ah
 have rx:RowX o6 pb [(⟨A4,n4,c4⟩:HV),⟨none,([]:List I2).length,0⟩]:=ah
 have bs:Bs S t P E pb A4 n4 c4 h4 h6 0:=⟨h4,o6,none,0,[],B0 _,s6,rx,OwnSl.nil,(fun z=>by cases z),bI _,(fun x hx=>by cases hx)⟩
 have ax:=bs.le
 have X:=iz.mono l4
 have e1:=r.1
 refine bs.call (fun g7 N=>U5 (X.mono N) fun s7 i7=>⟨B0 _,fun h7 l7 al=>⟨_,_,_,_,rfl,l7,?_⟩⟩)
 refine al.call (fun g8 H=>No (i7.mono H) fun w8 i8=>⟨B0 _,fun h8 l8 C=>⟨_,_,_,_,_,_,_,_,rfl,l8,?_⟩⟩)
 rw [bU,Hg] at i8
 have T:=A0 N H
 refine Rw (e:=P+2) (ch.mono (A0 T C.le)) cB C.cell (i8.le C.le) ((B7m d).neg.mono oo) oo G fun h9 l9=>⟨_,_,_,_,_,_,_,_,_,_,rfl,l9,?_⟩
 obtain ⟨g9,V,aj⟩:=C.after l9
 have ac:=A0 T V
 refine aj.call (fun au B=>No (X.mono (A0 ac B)) fun an F=>⟨B0 _,fun ar ae a=>⟨_,_,_,_,_,_,_,_,rfl,ae,?_⟩⟩)
 rw [Hg] at F
 have D:=A0 ac B
 refine Rw (e:=P+2) (ch.mono (A0 D a.le)) cB a.cell (F.le a.le) ((B7m d).mono oo) oo G fun ao W=>⟨_,_,_,_,_,_,_,_,_,_,rfl,W,?_⟩
 obtain ⟨af,u,O⟩:=a.after W
 have l:=A0 D u
 have vl:=B91 (S::t) (-2^k)
 have av:n4=(S::t).length:=by obtain ⟨_,_,e,_⟩:=ch;exact e
 refine Ui f q0 hb h2 oo cB G hE d oo hT E af ao w8 an (-2^k) (2^k) 0 0 _ oo ((gl.mono aa).mono l) (ch.mono l) (i8.le (A0 V (A0 B u))) (F.le u) (Lv.start d) O oo fun am R=>⟨rfl,?_⟩
 obtain ⟨g,o,A',c',xs,lg,s,ai,ow,hA,aq,hx⟩:=R
 refine ⟨_,_,_,s.cell (RowB.cell ai.rowB (i:=1) (by simp) (j:=0) (v:=.slice A' xs.length c') rfl),hK t _ _ _ am (A0 aa (A0 l (A0 lg s.le))) q0 ⟨xs,ow.slF s.ole,rfl,oo,fun x ak=>?_⟩⟩
 obtain ⟨p,q,ip,iq,gd⟩:=hx x ak
 exact ⟨p,q,ip.le s.le,iq.le s.le,gd⟩
def Fo{x:Rat}(d:Dg 62 1080 x):Sz 1143 x/\(C0 x).length<=800:=⟨d.sz,by have:=B6g d.sz;omega⟩
def C2o:Za 123 62+62+1<=1080:=dc
def Uh{ls:Nat->List UInt8}(gl:Gl h)(r:RowV SSr h A n ls)(h2:2<=n)(hn:n<=4)(hl:∀ i,i<n->(ls i).length<=140737488351232)(u:Uok n ls)(hs:∀ i,i<n->Sz 12 (rv (ls i)))
 (hK:∀ w D S t A' n' c' h',h.le h'->UvR (fun i=>rv (ls i)) n w D->SqF w S->Sq w S t->IvL S t 62 1080 h' A' n'->K (.tuple #[.slice A' n' c',I 0]) h'):aF prog 14 #[.slice A n c] h K:=by
 refine (fnk func14 [(6,[7,25],[],[.slice none 0 0,I 0])] (own:=[5,9])) ?_
 refine Jv (m:=12) gl r oo oo hl u hs oo ?_
 intro w D z A1 n1 c1 h1 l1 wv hc iz B bw _
 refine ⟨_,_,_,_,_,_,_,_,rfl,D6 (fun e=>absurd rfl e) (fun _=>?_)⟩
 have e1:=wv.1
 have e2:=B.len
 have w0:w≠[]:=by rintro rfl;simp at e2;omega
 have k:WB 61 w:=bw.mono oo
 refine Y9 (gl.mono l1).tz wv B.nz w0 oo hc k oo ?_
 intro S A2 n2 c2 ag l2 w2 ab O bS
 have H:=A0 l1 l2
 refine ⟨_,_,_,rfl,?_⟩
 refine A0b (M:=61) (gl.mono H).tz (wv.mono l2) B.nz oo oo hc k oo fun v q h3 l3 iq q0 hq sq=>⟨_,_,_,_,_,_,_,_,rfl,?_⟩
 have G:=A0 H l3
 have s2:=O.len2 B.nz oo
 have bB:A47 123 S:=O.bound (M:=61) B.nz w0 oo s2 k
 have e4:=w2.1
 have e5:=O.len
 refine Rv (m:=123) (P:=62) (E:=1080) (gl.mono G).tz (w2.mono l3) O oo ab bS bB s2 iq sq hq oo oo C2o oo oo oo ?_
 intro t A4 V c4 h4 l4 X sl
 refine ⟨_,_,_,rfl,?_⟩
 obtain ⟨xs,sx,ae,ah,hx⟩:=sl
 have Q:=A0 G l4
 refine ⟨fun L hp=>∃ (i:Nat) (A':Option aR) (c':Nat) (l:List (Rat × Rat)) (g o:aP),L=[.slice A' i c',I (i:Int)]/\i<=V/\l.length=i/\h4.le g/\Sep hp g o/\OwnSl o 24 A' c' (l.map fun x=>((C0 x.1,C0 x.2):Ivl))/\∀ y∈l,Gd S t 62 1080 y.1 y.2,fun L _=>V-(iAt L 1).toNat,
  ⟨0,none,0,[],h4,J8,rfl,oo,rfl,B0 _,Sep.refl _,OwnSl.nil,(fun y R=>by cases R)⟩,?_⟩
 rintro rA j rc ti hp ⟨i,A',c',l,g,o,eL,hi,R,lg,s,ow,gd⟩
 simp only [aI,aO,aN,true_and,and_true] at eL
 obtain ⟨⟨rfl,rfl,rfl⟩,rfl⟩:=eL
 have N:=A0 lg s.le
 refine B4 (fun af=>?_) (fun ad=>?_)
 ·have C:j<xs.length:=oo
  obtain ⟨a,ea,b⟩:=SlF.at dc (sx.mono N) C
  obtain ⟨p,q,ip,ac,F⟩:=hx xs[j] (List.getElem_mem C)
  have d:=F.gr.dg
  refine ⟨a,ea,oo,oo,_,_,_,_,_,_,_,_,_,_,_,_,_,_,_,_,b 0 _ rfl,b 1 _ rfl,b 2 _ rfl,b 3 _ rfl,b 4 _ rfl,b 5 _ rfl,b 6 _ rfl,b 7 _ rfl,?_⟩
  refine Po (m:=1143) ((gl.mono Q).mono N) (ip.le N) (ac.le N) d.1.sz d.2.sz oo ⟨_,_,rfl,?_⟩
  have W:j=(l.map fun x=>((C0 x.1,C0 x.2):Ivl)).length:=by rw [bF];exact R.symm
  refine Q5 (ty:=39) A79 s ow W (y:=((C0 p,C0 q):Ivl)) rfl dc (by rw [<- W];omega) (by rw [<- W];omega) ?_
  intro A5 c5 h5 g5 o5 l5 s5 aa _
  rw [<- W,wiS j oo]
  refine ⟨⟨j+1,A5,c5,l++[(p,q)],g5,o5,rfl,oo,by simp [R],A0 lg l5,s5,by rw [List.map_append];exact aa,fun y T=>?_⟩,?_⟩
  ·rcases List.mem_append.1 T with T|T
   ·exact gd y T
   ·rw [List.mem_singleton.1 T];exact F
  ·show V-((j+1:Nat):Int).toNat<V-((j:Nat):Int).toNat
   omega
 ·exact hK w D S t _ _ _ hp (A0 Q N) B O X ⟨l,ow.slF s.ole,R.symm,oo,gd⟩
def Lm{ls:Nat->List UInt8}{x:List UInt8}{L:Rat}{D:Int}(gl:Gl h)(r:RowV SSr h A n ls)(h2:2<=n)(hn:n<=4)(hl:∀ i,i<n->(ls i).length<=140737488351232)(u:Uok n ls)(hs:∀ i,i<n->Sz 12 (rv (ls i)))(uv0:UvR (fun i=>rv (ls i)) n w D)
 (ex:x=C0 L) (zl:Sz 100 L) (hL:1<=L*2^30) (g:Gr 62 1080 p q) (is:∀ S,SqF w S->IsoO S p q) (cnt:p<q->∀ S t,SqF w S->Sq w S t->(chg 0 (Vs (S::t) p):Int)-chg 0 (Vs (S::t) q)=1)
 (hK:∀ S x y h',h.le h'->SqF w S->NarO S p q x y->Gr 62 1080 x y->K (.tuple #[ivS x y,I 0]) h'):aF prog 15 #[.slice A n c,ivS p q,.string (bs x)] h K:=by
 refine (fnk func15 (own:=[4,6,9,11,13])) ?_
 refine Jv (m:=12) gl r o o hl u hs o ?_
 intro X D' z A1 n1 c1 h1 l1 wv V iz Q bw _
 obtain rfl:X=w:=Q.uniq uv0
 refine ⟨_,_,_,_,_,_,_,_,rfl,?_⟩
 have lx:=X6 zl
 refine Q9 (gl.mono l1).tz (by rw [ex];omega) (fun L' e1 l aa l2 W=>?_) (fun G=>absurd ⟨L,ex⟩ G)
 obtain rfl:L'=L:=E8 (e1.symm.trans ex)
 refine ⟨_,_,_,_,_,_,_,_,_,rfl,D6 (fun e=>absurd rfl e) (fun _=>P6 ?_)⟩
 have s:=A0 l1 l2
 have e1:=wv.1
 have e2:=Q.len
 have w0:X≠[]:=by rintro rfl;simp at e2;omega
 refine Y9 (M:=61) (gl.mono s).tz (wv.mono l2) Q.nz w0 o V (bw.mono o) o ?_
 intro S A3 n3 c3 h3 l3 H T k bS
 refine ⟨_,_,_,rfl,?_⟩
 have j:=A0 s l3
 have d:=g.dg
 have lp:=(Fo d.1).2
 have lq:=(Fo d.2).2
 have e4:=H.1
 have e5:=k.len
 refine Qj (e:=1143) (gl.mono j) H k o T bS o rfl rfl d.1.sz d.2.sz o o o (is S k) (fun lt t cn=>cnt lt S t k (B1k k cn)) fun a b h4 F ia ib=>⟨_,_,_,_,_,_,_,_,_,_,_,_,_,_,_,_,_,rfl,P6 ?_⟩
 have R:0<L':=by
  have N:=Ba 30
  by_cases V:0<L'
  ·exact V
  ·exfalso
   have:=aK (show 0 <= -L' from gz0) (aE N)
   grind
 have B:=A0 l3 F
 refine Bz (W.le B) ⟨_,rfl,B4 (fun hz=>?_) (fun _=>?_)⟩
 ·exfalso
  have hd:(0:Rat)<((L'.den:Int):Rat):=by
   have:=Rat.intCast_lt_intCast.2 (show (0:Int)<(L'.den:Int) by have:=L'.den_pos;omega)
   exact this
  have:=aT R hd
  rw [<- Xx] at this
  have e0:((0:Int):Rat)=0:=rfl
  rw [<- e0] at this
  have:=Rat.intCast_lt_intCast.1 this
  rw [Int.sign_eq_one_of_pos this] at hz
  omega
 refine Xg (P:=62) (E:=1080) (gl.mono (A0 j F)) (H.mono F) o bS ia ib (W.le B) zl hL (is S k) g o o o o fun x y a' b' h5 l5 ix iy no O=>⟨_,_,_,_,_,_,_,_,_,_,_,_,_,_,_,_,rfl,?_⟩
 have C:=A0 (A0 j F) l5
 exact Po (m:=1143) (gl.mono C) ix iy O.dg.1.sz O.dg.2.sz o ⟨_,_,rfl,hK S x y _ C k no O⟩
end
section
variable {h:aP} {K:VP} {S B A:Option aR} {c:Nat->Rat} {n sc bc ac:Nat} {a b x y p q:Rat}
def Ql(gl:Gl h)(sa:SlV h A [.string (bs (C0 x)),.string (bs (C0 y))])(sb:SlV h B [.string (bs (C0 p)),.string (bs (C0 q))])(hxy:x<=y)(hpq:p<=q)(zx:Sz 400000 x)(zy:Sz 400000 y)(zp:Sz 400000 p)(zq:Sz 400000 q)
 (hK1:mx x p<=mn y q->∀ A' h',h.le h'->SlV h' A' [.string (bs (C0 (mx x p))),.string (bs (C0 (mn y q)))]->K (.tuple #[.slice A' 1 1,.bool true]) h') (hK0:∀ h',h.le h'->K (.tuple #[.slice none 0 0,.bool false]) h'):aF prog 41 #[.slice A 1 ac,.slice B 1 bc] h K:=by
 refine (fnk func41 [(3,[16],[],[I 0])] (os:=[(5,[0,1,2,3,4,5,6,7,13,8,9,10,11,12,14,15,16])]) (own:=[8])) ?_
 refine D8 A79 (zx:=(([],[]):Ivl)) rfl o o o o ?_
 intro b r
 have j:Sep (W9 24 h b (aX 1 (([],[]):Ivl))) h (J8.put b (.cells ((aX 1 (([],[]):Ivl)).flatMap enc).toArray 24)):=F1 r
 refine ⟨_,_,_,rfl,fun L c=>(L=[I 0]/\c=W9 24 h b (aX 1 (([],[]):Ivl)))\/(L=[I 1]/\h.le c/\mx x p<=mn y q/\SlV c (some ⟨b,0,none⟩) [.string (bs (C0 (mx x p))),.string (bs (C0 (mn y q)))]),fun L _=>(1-iAt L 0).toNat,.inl ⟨rfl,rfl⟩,?_⟩
 rintro t c (⟨g,rfl⟩|⟨g,n,a,s⟩)
 ·obtain rfl:t=0:=by simpa using g
  refine B4 (fun _=>?_) (fun F=>o)
  have d:=j.le
  obtain ⟨H,rfl,c0,c1⟩:=U2 (sa.mono d)
  obtain ⟨E,rfl,z,u⟩:=U2 (sb.mono d)
  refine ⟨_,rfl,o,o,_,_,c0,c1,_,rfl,o,o,_,_,z,u,A9y (m:=400000) (gl.mono d) (Tx.of zx o) (Tx.of zy o) (Tx.of zp o) (Tx.of zq o) o ?_⟩
  by_cases a:mx x p<=mn y q
  ·rw [Oo hxy hpq a]
   refine ⟨_,_,_,_,rfl,B0 _,D6 (fun e=>absurd rfl e) (fun _=>P6 ⟨_,rfl,o,o,?_⟩)⟩
   refine E7 Rc (y:=((C0 (mx x p),C0 (mn y q)):Ivl)) rfl j (RowX.mk (e:=24)) (i:=0) dc ?_
   rintro D C G rfl k w
   rw [Jq]
   exact ⟨.inr ⟨rfl,k.le,a,w.rowB.slF k.ole⟩,W8⟩
  ·rw [Vt hxy hpq a]
   exact ⟨_,_,_,_,rfl,B0 _,D6 (fun e=>absurd rfl e) (fun _=>Pk (hK0 _ d))⟩
 ·obtain rfl:t=1:=by simpa using g
  exact B4 (fun l=>o) (fun _=>hK1 a _ _ n s)
def A0y(sa:SlV h A [.string (bs (C0 x)),.string (bs (C0 y))])(sb:SlV h B [.string (bs (C0 p)),.string (bs (C0 q))])(hK:∀ bo,K (.bool bo) h):aF prog 42 #[.slice A 1 ac,.slice B 1 bc] h K:=by
 refine (fnk func42 [(4,[13],[],[I 0])]) ?_
 refine D6 (fun e=>absurd rfl e) (fun _=>⟨fun L b=>(L=[I 0]\/L=[I 1])/\b=h,fun L _=>(1-iAt L 0).toNat,⟨.inl rfl,rfl⟩,?_⟩)
 rintro t b ⟨a|a,rfl⟩
 ·obtain rfl:t=0:=by simpa using a
  refine B4 (fun _=>?_) (fun k=>o)
  obtain ⟨j,rfl,c0,c1⟩:=U2 sa
  obtain ⟨i,rfl,c,g⟩:=U2 sb
  refine ⟨_,rfl,o,o,_,_,c0,c1,_,rfl,o,o,_,_,c,g,Br.not (Br.of (fun _=>?_) (fun _=>hK false))⟩
  rw [Jq]
  exact ⟨⟨.inr rfl,rfl⟩,W8⟩
 ·obtain rfl:t=1:=by simpa using a
  exact B4 (fun d=>o) (fun _=>hK true)
def Xv{k:Nat}{w:List Int}{D σ:Int}{δ:Rat}(g0:Gl h)(sy:Sys h S c n)(cs:Cs c n)(sb:SlV h B [.string (bs (C0 a)),.string (bs (C0 b))])(u:UvR c n w D)(v:VD c n a b σ δ)(hv:B1y c n a b k=true)(da:Dg 62 1080 a)(db:Dg 62 1080 b)(hk1:1<=k)(hk:k<=60)
 (hK:∀ A' x y cnt cc h',h.le h'->SlV h' A' [.string (bs (C0 x)),.string (bs (C0 y))]->BxO c n σ a b x y->Dg 62 1080 x->Dg 62 1080 y->K (.tuple #[.slice A' 1 cc,I cnt,I 0]) h'):aF prog 16 #[.slice S 1 sc,.slice B 1 bc,I (k:Int),I 5] h K:=by
 have ab:=cs.n1
 have aa:=cs.n5
 have z:=aE v.lt
 have Q:=Fo da
 have zb:=Fo db
 refine (fnk func16 [(13,[1,54],[],[.slice none 0 0,I 0])]) ?_
 refine Hi (m:=1280) g0 sy o (fun i V=>by have:=cs.len i V;omega) sb (Q.1.mono o) (zb.1.mono o) o z ?_
 intro h1 F
 refine ⟨_,rfl,D6 (fun e=>absurd rfl e) (fun _=>B4 (fun e=>o) (fun _=>B4 (fun e=>o) (fun _=>B4 (fun e=>o) (fun _=>B4 (fun e=>o) (fun _=>?_)))))⟩
 refine Bi (g0.mono F) (sy.mono F) cs (sb.mono F) (Q.1.mono o) (zb.1.mono o) Q.2 zb.2 z hk1 hk ?_
 intro h2 l2
 rw [hv]
 refine ⟨_,_,rfl,D6 (fun e=>absurd rfl e) (fun _=>P6 ?_)⟩
 have A:=A0 F l2
 have M:SlV h2 B ([((C0 a,C0 b):Ivl)].flatMap Aa):=sb.mono A
 refine St (l:=[((C0 a,C0 b):Ivl)]) M (List.cons_ne_nil _ _) (show 1<=1000 from dc) ?_
 intro A3 c3 h3 g3 l3 R
 have G:=A0 A (A0 l3 R.le)
 refine ⟨_,_,_,rfl,fun L O=>∃ (i:Nat) (A':Option aR) (cc:Nat) (x y:Rat),L=[.slice A' 1 cc,I (i:Int)]/\i<=5/\h.le O/\SlV O A' [.string (bs (C0 x)),.string (bs (C0 y))]/\BxO c n σ a b x y/\Dg 62 1080 x/\Dg 62 1080 y,fun L _=>5-(iAt L 1).toNat,⟨0,A3,c3,a,b,rfl,o,G,R.sl,v.box,da,db⟩,?_⟩
 rintro bA bn ac t O ⟨i,A',cc,x,y,T,V,C,p,g,r,dy⟩
 simp only [aI,aO,aN,true_and,and_true] at T
 obtain ⟨⟨rfl,rfl,rfl⟩,rfl⟩:=T
 refine B4 (fun X=>?_) (fun _=>hK _ x y _ _ _ C p g r dy)
 have N:=Fo r
 have H:=Fo dy
 refine Pz (g0.mono C) (sy.mono C) cs p (N.1.mono o) (H.1.mono o) N.2 H.2 g.xy hk1 hk (fun _ h4 d=>⟨_,_,_,_,rfl,C8 (fun _=>hK _ x y _ _ _ (A0 C d) (p.mono d) g r dy) (fun e=>absurd rfl e)⟩) (fun _ I' ic h4 d z1 z2 si=>⟨_,_,_,_,rfl,C8 (fun e=>absurd e dc) (fun _=>D6 (fun e=>absurd rfl e) (fun _=>?_))⟩)
 have j:=A0 C d
 refine Ql (g0.mono j) (p.mono d) si g.xy C22 (N.1.mono o) (H.1.mono o) z1 z2 (fun q A5 h5 s W=>⟨_,_,_,_,rfl,P6 ?_⟩) (fun h5 s=>⟨_,_,_,_,rfl,Pk (hK _ x y _ _ _ (A0 j s) ((p.mono d).mono s) g r dy)⟩)
 have E:=A0 j s
 refine A0y W ((p.mono d).mono s) fun bo=>⟨_,rfl,Br.of (fun _=>hK _ x y _ _ _ E ((p.mono d).mono s) g r dy) (fun _=>?_)⟩
 rw [wiS i o]
 refine ⟨⟨i+1,A5,1,_,_,rfl,o,E,W,g.step u v q,r.mx dy o A55.1 (bL q (B3n _ _).1),r.mn dy o A55.2 (bL (B3r _ _).1 q)⟩,?_⟩
 show 5-((i+1:Nat):Int).toNat<5-((i:Nat):Int).toNat
 omega
end
def A7g{c:Nat->Rat}{n:Nat}{a:Rat}{z v:Int}(h:B3i c n a z=v)(hv:v=0\/v=1):(if sQ c a n=0 then B9 (z+1) else z)=v:=by
 unfold B3i at h
 split at h
 ·rename_i e
  rw [iP e,h,B5 o o]
 ·rename_i e
  rw [iN e];exact h
section
variable {h:aP} {K:VP} {A B:Option aR} {n c m:Nat} {ls:Nat->List UInt8}
def Hl{lo hi:List UInt8}{p q:Rat}(gl:Gl h)(r:RowV SSr h A n ls)(hn:n<=5)(h0:0<n)(hl:∀ i,i<n->(ls i).length<=4)(u:Uok n ls)(elo:lo=C0 p)(ehi:hi=C0 q)(zp:Sz 1280 p)(zq:Sz 1280 q)(llo:lo.length<=800)(lhi:hi.length<=800)
 (hK:∀ w D z h',h.le h'->UvR (fun i=>rv (ls i)) n w D->B9i w p q z->K (.tuple #[I (if sQ (fun i=>rv (ls i)) p n=0 then B9 (z+1) else z),.bool true]) h'):aF prog 13 #[.slice A n c,ivT lo hi] h K:=by
 refine (fnk func13 (own:=[3])) ?_
 have g:∀ i,i<n->Sz 16 (rv (ls i)):=fun i hi=>Xf (k:=4) (hl i hi) o
 refine A0d (m:=16) (e:=1280) gl r hn h0 (fun i hi=>by have:=hl i hi;omega) u g o elo ehi zp zq o o o ?_
 intro w D z B d s x
 refine ⟨_,_,rfl,A2l (m:=16) (e:=1280) (gl.mono d) (r.mono Jc d) hn h0 (fun i hi=>by have:=hl i hi;omega) u g o elo zp o o o ?_⟩
 intro j l
 have a:=hK w D z j (A0 d l) s x
 have y:(aJ (bs (C0 (sQ (fun i=>rv (ls i)) p n)))==aJ ({ data:=#[48] }:ByteArray))=decide (C0 (sQ (fun i=>rv (ls i)) p n)=[48]):=Na _ [48]
 refine ⟨_,_,rfl,?_⟩
 rw [y]
 refine B4 (fun e=>?_) (fun e=>?_)
 ·have b:sQ (fun i=>rv (ls i)) p n=0:=by rw [<- Rq] at e;exact E8 e
  rw [iP b] at a
  exact C8 (fun _=>a) (fun e=>absurd rfl e)
 ·have b:sQ (fun i=>rv (ls i)) p n≠0:=fun z=>e (by rw [z];exact Rq)
  rw [iN b] at a
  exact C8 (fun _=>a) (fun e=>absurd rfl e)
def Uo{lo hi:List UInt8}{bits:Int}(gl:Gl h)(r:RowV SSr h A n ls)(aw:∀ h',h.le h'->aF prog 8 #[] h' (fun r hp=>∃ t,r= .bool t/\B4x h (.bool t) hp)):
 aF prog 3 #[.slice A n c,ivT lo hi,I bits] h (B4x h):=by
 refine (fnk func3 (own:=[4,7])) ?_
 refine B4 (fun _=>aw _ (B0 _)) (fun h5=>?_)
 have H:n<=5:=o
 refine Hm r o (fun ao=>⟨_,rfl,P6 ?_⟩) (fun _=>⟨_,rfl,Pk (aw _ (B0 _))⟩)
 have T:∀ i,i<n->(ls i).length<=4:=fun i hi=>by have:=ao i hi;omega
 refine Gq gl r o (fun i hi=>by have:=T i hi;omega) (fun u h1 l1=>⟨_,rfl,P6 ?_⟩) (fun _ h1 l1=>⟨_,rfl,Pk (aw _ l1)⟩)
 refine C8 (fun _=>aw _ l1) (fun au=>?_)
 have h0:0<n:=o
 refine H8 P9 (vs:=[.string (bs lo),.string (bs hi)]) (fun u g=>by simp at g;rcases g with rfl|rfl<;>rfl) rfl (by show 2*1<=16777216;decide) rfl ?_
 intro b2 al
 refine ⟨_,_,_,rfl,?_⟩
 have l2:=A0 l1 (Heap.le_put (.cells ([aC (bs lo),.string (bs hi)].flatMap (fun v=>v.cells.toList)).toArray 9) al)
 have r2:RowV SSr (h1.put b2 (.cells ([aC (bs lo),.string (bs hi)].flatMap (fun v=>v.cells.toList)).toArray 9)) (some ⟨b2,0,none⟩) 2 (fun i=>if i=0 then lo else hi):=by
  refine ⟨[lo,hi],U4 9 h1 b2 [lo,hi],rfl,fun i hi=>?_⟩
  match i,hi with
  | 0,_=>exact ⟨_,rfl,rfl⟩
  | 1,_=>exact ⟨_,rfl,rfl⟩
 refine Hm (n:=2) r2 dc (fun S=>⟨_,rfl,P6 ?_⟩) (fun _=>⟨_,rfl,Pk (aw _ l2)⟩)
 have C:lo.length<=8:=by have:=S 0 dc;simp at this;omega
 have F:hi.length<=8:=by have:=S 1 dc;simp at this;omega
 have ab:=gl.mono l2
 refine I6 ab (Rj (k:=8) C o o) (Rj (k:=8) F o o) o (fun p q s j l=>⟨_,rfl,P6 ?_⟩) (fun _=>⟨_,rfl,Pk (aw _ l2)⟩)
 have zp:Sz 32 p:=by have:=Xf (k:=8) C o;rw [s,C2] at this;exact this
 have zq:Sz 32 q:=by have:=Xf (k:=8) F o;rw [j,C2] at this;exact this
 have hs:∀ i,i<n->Sz 16 (rv (ls i)):=fun i hi=>Xf (k:=4) (T i hi) o
 have cs:Cs (fun i=>rv (ls i)) n:=⟨h0,H,fun i hi=>by
  obtain ⟨x,a⟩:=u.1 i hi
  have:=T i hi
  rw [a] at this ⊢
  rw [C2];exact this,hs⟩
 refine Om (b:=40) dc dc ?_
 intro k hk
 refine ⟨_,rfl,?_⟩
 refine Kv (m:=16) ab (r.mono Jc l2) h0 o (fun i hi=>by have:=T i hi;omega) u hs o o ?_
 intro A3 c3 h3 l3 ap
 refine ⟨_,_,_,_,_,rfl,?_⟩
 have ag:=A0 l2 l3
 rw [show B9 ((k:Int)+4)=((k+4:Nat):Int) by rw [B5]<;>omega]
 have Q:∀ (a:aP) (b:Nat),h3.le a->a b=none->Sys (a.put b (.cells ([aH #[I 1,.slice A3 (tU (fun i=>rv (ls i)) n).length c3]].flatMap (fun v=>v.cells.toList)).toArray 32)) (some ⟨b,0,none⟩) (fun i=>rv (ls i)) n:=fun a b lx hb=>by
  refine ⟨A3,c3,U4 32 a b [(⟨1,A3,(tU (fun i=>rv (ls i)) n).length,c3⟩:PV)],ap.mono (A0 lx (Heap.le_put _ hb))⟩
 have box:∀ (a:aP) (b:Nat),SlV (a.put b (.cells ([ivT lo hi].flatMap (fun v=>v.cells.toList)).toArray 24)) (some ⟨b,0,none⟩) [.string (bs (C0 p)),.string (bs (C0 q))]:=fun a b=>by
  rw [<- s,<- j]
  exact U4 24 a b [((lo,hi):Ivl)]
 refine H8 Vc (vs:=[.agg #[I 1,.slice A3 (tU (fun i=>rv (ls i)) n).length c3]]) (fun u g=>by rw [List.mem_singleton.1 g];rfl) rfl (by show 1*2<=16777216;decide) rfl ?_
 intro b4 aa
 refine ⟨_,_,_,rfl,?_⟩
 refine H8 A79 (vs:=[ivT lo hi]) (fun u g=>by rw [List.mem_singleton.1 g];rfl) rfl (by show 1*2<=16777216;decide) rfl ?_
 intro b5 ak
 have aj:=Heap.le_put (.cells ([aH #[I 1,.slice A3 (tU (fun i=>rv (ls i)) n).length c3]].flatMap (fun v=>v.cells.toList)).toArray 32) aa
 have L:=Heap.le_put (.cells ([ivT lo hi].flatMap (fun v=>v.cells.toList)).toArray 24) ak
 have aq:=(Q h3 b4 (B0 _) aa).mono L
 have ad:=box (h3.put b4 (.cells ([aH #[I 1,.slice A3 (tU (fun i=>rv (ls i)) n).length c3]].flatMap (fun v=>v.cells.toList)).toArray 32)) b5
 refine ⟨_,_,_,rfl,?_⟩
 have W:=A0 aj L
 have O:=A0 ag W
 have tp:(C0 p).length<=8:=by rw [<- s];exact C
 have tq:(C0 q).length<=8:=by rw [<- j];exact F
 refine Bi (k:=k+4) (gl.mono O) aq cs ad (zp.mono o) (zq.mono o) o o l o o ?_
 intro h7 l7
 refine ⟨_,_,rfl,?_⟩
 have ah:=A0 W l7
 refine H8 Vc (vs:=[.agg #[I 1,.slice A3 (tU (fun i=>rv (ls i)) n).length c3]]) (fun u g=>by rw [List.mem_singleton.1 g];rfl) rfl (by show 1*2<=16777216;decide) rfl ?_
 intro b8 X
 refine ⟨_,_,_,rfl,?_⟩
 refine H8 A79 (vs:=[ivT lo hi]) (fun u g=>by rw [List.mem_singleton.1 g];rfl) rfl (by show 1*2<=16777216;decide) rfl ?_
 intro b9 ai
 have an:=Heap.le_put (.cells ([aH #[I 1,.slice A3 (tU (fun i=>rv (ls i)) n).length c3]].flatMap (fun v=>v.cells.toList)).toArray 32) X
 have V:=Heap.le_put (.cells ([ivT lo hi].flatMap (fun v=>v.cells.toList)).toArray 24) ai
 have G:=(Q h7 b8 ah X).mono V
 have R:=box (h7.put b8 (.cells ([aH #[I 1,.slice A3 (tU (fun i=>rv (ls i)) n).length c3]].flatMap (fun v=>v.cells.toList)).toArray 32)) b9
 refine ⟨_,_,_,rfl,?_⟩
 have ac:=A0 an V
 have y:=A0 (A0 O l7) ac
 refine Sj (gl.mono y) G cs R (zp.mono o) (zq.mono o) o o l ?_
 intro ar ae
 refine ⟨_,_,rfl,?_⟩
 have d:=A0 y ae
 refine Hl (gl.mono d) (r.mono Jc d) H h0 T u s j (zp.mono o) (zq.mono o) o o ?_
 intro w D z E af uv co
 have N:=A0 d af
 have B:=aw _ N
 refine ⟨_,_,rfl,D6 (fun e=>absurd rfl e) (fun _=>D6 (fun e=>absurd rfl e) (fun _=>D6 (fun e=>absurd rfl e) (fun _=>P6 ?_)))⟩
 have out:exB (fun i=>rv (ls i)) n p q=true->(if sQ (fun i=>rv (ls i)) p n=0 then B9 (z+1) else z)=0:=fun e=>A7g (B0a uv l (C29 e) co) (.inl rfl)
 have am:B1y (fun i=>rv (ls i)) n p q (k+4)=true->(if sQ (fun i=>rv (ls i)) p n=0 then B9 (z+1) else z)=1:=fun e=>A7g (Zq uv (A7i l e) co) (.inr rfl)
 have M:Br (!exB (fun i=>rv (ls i)) n p q) (aF prog 8 #[] E (fun r hp=>∃ t,r= .bool t/\B4x h (.bool t) hp))
  (Br ((if sQ (fun i=>rv (ls i)) p n=0 then B9 (z+1) else z)==(0:Int)) (aF prog 8 #[] E (fun r hp=>∃ t,r= .bool t/\B4x h (.bool t) hp)) (B4x h (.bool false) E)):=by
  cases e:exB (fun i=>rv (ls i)) n p q with
  | true=>exact P6 (C8 (fun _=>B) (fun z=>absurd (out e) z))
  | false=>exact Pk B
 cases e:B1y (fun i=>rv (ls i)) n p q (k+4) with
 | true=>exact P6 (C8 (fun _=>M) (fun z=>absurd (am e) z))
 | false=>exact Pk M
end
def cA:Nat->Rat
 | 0=> -2
 | 2=>1
 | _=>0
def B9v:tU cA 3=T2:=by decide +kernel
def C57:Cs cA 3:=⟨o,o,fun i a=>by
 match i,a with
 | 0,_=>decide +kernel
 | 1,_=>decide +kernel
 | 2,_=>decide +kernel,fun i a=>by
 match i,a with
 | 0,_=>exact B9z (by decide +kernel)
 | 1,_=>exact B9z (by decide +kernel)
 | 2,_=>exact B9z (by decide +kernel)⟩
def C2p:B1y cA 3 1 2 10=true:=by decide +kernel
def C5h:({ data:=#[49] }:ByteArray)=bs (tI 1):=by decide +kernel
def C3q:({ data:=#[45,49] }:ByteArray)=bs (tI (-1)):=by decide +kernel
def C3p:({ data:=#[45,50] }:ByteArray)=bs (tI (-2)):=by decide +kernel
def C3o:tI (-3)=[45,51]:=by decide +kernel
def C5v:({ data:=#[49] }:ByteArray)=bs (C0 1):=by decide +kernel
def C5u:({ data:=#[50] }:ByteArray)=bs (C0 2):=by decide +kernel
section
variable {h:aP} {K:VP}
def Qe(gl:Gl h)(hK:∀ h',h.le h'->K (.bool true) h'):aF prog 8 #[] h K:=by
 refine (fnk func8 (own:=[1,4])) ?_
 refine Y5 Qh rfl ?_
 intro d E
 refine ⟨_,_,_,rfl,?_⟩
 have X:=Heap.le_put (.cells #[I 2] 3) E
 have T:SlV (h.put d (.cells #[I 2] 3)) (some ⟨d,0,none⟩) [I 2]:=U4 3 h d [(2:Int)]
 generalize h.put d (.cells #[I 2] 3)=h1 at *
 refine Y5 Qh rfl ?_
 intro g B
 refine ⟨_,_,_,rfl,?_⟩
 have L:=Heap.le_put (.cells #[I 0] 3) B
 have O:SlV (h1.put g (.cells #[I 0] 3)) (some ⟨g,0,none⟩) [I 0]:=U4 3 h1 g [(0:Int)]
 generalize h1.put g (.cells #[I 0] 3)=h2 at *
 refine H8 A4k (vs:=[.agg #[.string ⟨#[49]⟩,.slice (some ⟨d,0,none⟩) 1 1],.agg #[.string ⟨#[45,50]⟩,.slice (some ⟨g,0,none⟩) 1 1]]) (fun u j=>by simp at j;rcases j with rfl|rfl<;>rfl) rfl (by show 2*2<=16777216;decide) rfl ?_
 intro b F
 refine ⟨_,_,_,rfl,?_⟩
 have y:=Heap.le_put (.cells ([aH #[.string ⟨#[49]⟩,.slice (some ⟨d,0,none⟩) 1 1],.agg #[.string ⟨#[45,50]⟩,.slice (some ⟨g,0,none⟩) 1 1]].flatMap (fun v=>v.cells.toList)).toArray 61) F
 have W:SlV (h2.put b (.cells ([aH #[.string ⟨#[49]⟩,.slice (some ⟨d,0,none⟩) 1 1],.agg #[.string ⟨#[45,50]⟩,.slice (some ⟨g,0,none⟩) 1 1]].flatMap (fun v=>v.cells.toList)).toArray 61)) (some ⟨b,0,none⟩) [.string (bs (tI 1)),.slice (some ⟨d,0,none⟩) 1 1,.string (bs (tI (-2))),.slice (some ⟨g,0,none⟩) 1 1]:=by
  rw [<- C5h,<- C3p]
  exact U4 61 h2 b [(⟨[49],some ⟨d,0,none⟩,1,1⟩:TV),(⟨[45,50],some ⟨g,0,none⟩,1,1⟩:TV)]
 generalize h2.put b (.cells ([aH #[.string ⟨#[49]⟩,.slice (some ⟨d,0,none⟩) 1 1],.agg #[.string ⟨#[45,50]⟩,.slice (some ⟨g,0,none⟩) 1 1]].flatMap (fun v=>v.cells.toList)).toArray 61)=h3 at *
 have M:PolyAt h3 (some ⟨b,0,none⟩) T2:=by
  intro i V
  rcases W with e|⟨a,ea,c⟩
  ·cases e
  ·cases ea
   match i,V with
   | 0,_=>exact ⟨_,some ⟨d,0,none⟩,1,rfl,by rw [D4,D4];exact (D4 b 0 0)▸c 0 _ rfl,by rw [D4,D4];exact (D4 b 0 1)▸c 1 _ rfl,SlV.mono (A0 L y) T⟩
   | 1,_=>exact ⟨_,some ⟨g,0,none⟩,1,rfl,by rw [D4,D4];exact (D4 b 0 2)▸c 2 _ rfl,by rw [D4,D4];exact (D4 b 0 3)▸c 3 _ rfl,SlV.mono y O⟩
 have m:=A0 X (A0 L y)
 have R:Bc 1 T2:=by rw [<- B9v];exact A81 cA o
 refine H8 Vc (vs:=[.agg #[I 1,.slice (some ⟨b,0,none⟩) 2 2]]) (fun u j=>by rw [List.mem_singleton.1 j];rfl) rfl (by show 1*2<=16777216;decide) rfl ?_
 intro q D
 refine ⟨_,_,_,rfl,?_⟩
 have z:=Heap.le_put (.cells ([aH #[I 1,.slice (some ⟨b,0,none⟩) 2 2]].flatMap (fun v=>v.cells.toList)).toArray 32) D
 have N:Sys (h3.put q (.cells ([aH #[I 1,.slice (some ⟨b,0,none⟩) 2 2]].flatMap (fun v=>v.cells.toList)).toArray 32)) (some ⟨q,0,none⟩) cA 3:=by
  unfold Sys
  rw [B9v]
  exact ⟨_,2,U4 32 h3 q [(⟨1,some ⟨b,0,none⟩,2,2⟩:PV)],M.mono z⟩
 generalize h3.put q (.cells ([aH #[I 1,.slice (some ⟨b,0,none⟩) 2 2]].flatMap (fun v=>v.cells.toList)).toArray 32)=h4 at *
 refine H8 A79 (vs:=[ivT [49] [50]]) (fun u j=>by rw [List.mem_singleton.1 j];rfl) rfl (by show 1*2<=16777216;decide) rfl ?_
 intro p x
 refine ⟨_,_,_,rfl,?_⟩
 have r:=Heap.le_put (.cells ([ivT [49] [50]].flatMap (fun v=>v.cells.toList)).toArray 24) x
 have w:SlV (h4.put p (.cells ([ivT [49] [50]].flatMap (fun v=>v.cells.toList)).toArray 24)) (some ⟨p,0,none⟩) [.string (bs (C0 1)),.string (bs (C0 2))]:=by
  rw [<- C5v,<- C5u]
  exact U4 24 h4 p [(([49],[50]):Ivl)]
 generalize h4.put p (.cells ([ivT [49] [50]].flatMap (fun v=>v.cells.toList)).toArray 24)=h5 at *
 have G:=A0 m (A0 z r)
 refine Bi (k:=10) (gl.mono G) (N.mono r) C57 w ((B9z (by decide +kernel)).mono o) ((B9z (by decide +kernel)).mono o) (by decide +kernel) (by decide +kernel) (by decide +kernel) o o ?_
 intro H l6
 rw [C2p]
 refine ⟨_,_,rfl,?_⟩
 refine H8 A79 (vs:=[ivT [45,49] [49]]) (fun u j=>by rw [List.mem_singleton.1 j];rfl) rfl (by show 1*2<=16777216;decide) rfl ?_
 intro A C
 refine ⟨_,_,_,rfl,?_⟩
 have S:=Heap.le_put (.cells ([ivT [45,49] [49]].flatMap (fun v=>v.cells.toList)).toArray 24) C
 have s:SlV (H.put A (.cells ([ivT [45,49] [49]].flatMap (fun v=>v.cells.toList)).toArray 24)) (some ⟨A,0,none⟩) [.string (bs (tI (-1))),.string (bs (tI 1))]:=by
  rw [<- C5h,<- C3q]
  exact U4 24 H A [(([45,49],[49]):Ivl)]
 have n:=A0 z (A0 r (A0 l6 S))
 have l:=A0 m n
 refine A1z (gl.mono l) (M.mono n) R s ?_
 intro h8 Q
 refine ⟨_,_,_,rfl,?_⟩
 refine C8 (fun _=>C8 (fun _=>?_) (fun e=>absurd rfl e)) (fun e=>absurd rfl e)
 have e:((aJ (bs (tI (-3)))==aJ ({ data:=#[45,51] }:ByteArray))&&((aJ (bs (tI (-1)))==aJ ({ data:=#[45,49] }:ByteArray))&&true))=true:=by
  rw [Hv,Hv,C3o,C3n,ByteArray.toList_eq,ByteArray.toList_eq];decide
 show Br true (K (.bool _) _) _
 rw [e]
 exact hK _ (A0 l Q)
def law_topNewton{A:Option aR}{n c:Nat}{ls:Nat->List UInt8}{lo hi:List UInt8}{bits:Int}(gl:Gl h)(r:RowV SSr h A n ls):
 aF prog 3 #[.slice A n c,ivT lo hi,I bits] h (B4x h):=
 Uo gl r fun d l=>Qe (gl.mono l) fun b a=>⟨_,rfl,rfl,A0 l a⟩
end
def e64:([49,47,54,52]:List UInt8)=C0 (1/64):=by decide +kernel
def C2e:([49,47,54,53,53,51,54]:List UInt8)=C0 (1/65536):=by decide +kernel
def z64:Sz 20 (1/64:Rat):=⟨by unfold ZB;decide +kernel,by unfold ZB;decide +kernel⟩
def B51:Sz 20 (1/65536:Rat):=⟨by unfold ZB;decide +kernel,by unfold ZB;decide +kernel⟩
def l64:(1:Rat)<=1/64*2^30:=by decide +kernel
def l22:(1:Rat)<=1/64*(1/65536)*2^30:=by decide +kernel
def C33{X Y:Prop}(x:X):Br true X Y:=Br.of (fun _=>x) (fun e=>absurd e dc)
section
variable {h:aP} {A:Option aR} {n c:Nat} {ls:Nat->List UInt8}
def law_topRefinedRoots{k bits:Int}(gl:Gl h)(r:RowV SSr h A n ls):aF prog 4 #[.slice A n c,I k,I bits] h (B4x h):=by
 have aw:∀ h',h.le h'->aF prog 8 #[] h' (fun r hp=>∃ t,r= .bool t/\B4x h (.bool t) hp):=fun h' l=>Qe (gl.mono l) fun be l2=>⟨_,rfl,rfl,A0 l l2⟩
 refine (fnk func4 (os:=[(19,[0,1,2,3,9,4,5,6,7,8,10,11,12])]) (own:=[9,10,16,17])) ?_
 refine B4 (fun _=>aw _ (B0 _)) (fun h5=>?_)
 have R:n<=4:=o
 refine Hm r o (fun ba=>⟨_,rfl,P6 ?_⟩) (fun _=>⟨_,rfl,Pk (aw _ (B0 _))⟩)
 have hl:∀ i,i<n->(ls i).length<=3:=fun i s=>by have:=ba i s;omega
 have C:∀ i,i<n->(ls i).length<=140737488351232:=fun i s=>by have:=hl i s;omega
 refine Gq gl r o C (fun u h1 X=>⟨_,rfl,P6 ?_⟩) (fun _ h1 X=>⟨_,rfl,Pk (aw _ X)⟩)
 refine B4 (fun _=>aw _ X) (fun bg=>?_)
 have V:2<=n:=o
 have hs:∀ i,i<n->Sz 12 (rv (ls i)):=fun i s=>Xf (k:=3) (hl i s) o
 have M:∀ i,i<n->Sz 16 (rv (ls i)):=fun i s=>(hs i s).mono o
 have cs:Cs (fun i=>rv (ls i)) n:=⟨o,o,fun i s=>by
  obtain ⟨x,B⟩:=u.1 i s
  have:=hl i s
  rw [B] at this ⊢
  rw [C2];omega,M⟩
 refine Uh (gl.mono X) (r.mono Jc X) V R C u hs ?_
 intro w D S t A2 n2 c2 h2 l2 H sf sq il
 have G:=A0 X l2
 refine ⟨_,_,_,_,rfl,D6 (fun e=>absurd rfl e) (fun _=>C8 (fun _=>C8 (fun _=>aw _ G) (fun e=>absurd rfl e)) (fun bb=>?_))⟩
 obtain ⟨xs,sx,bj,bh,gd⟩:=il
 refine Om (b:=n2) o o ?_
 intro k' bc
 refine ⟨_,rfl,?_⟩
 have ac:k'<xs.length:=o
 obtain ⟨a,ea,hc⟩:=SlF.at dc sx (i:=k') (by rw [bF];exact ac)
 obtain ⟨⟨p,q⟩,hpq⟩:∃ x,xs[k']=x:=⟨_,rfl⟩
 have F:=gd xs[k'] (List.getElem_mem ac)
 rw [hpq] at F
 simp only [List.getElem_map,hpq] at hc
 refine ⟨a,ea,o,o,_,_,hc 0 _ rfl,hc 1 _ rfl,?_⟩
 have L:IsoO S p q:=F.is.iso sf sq
 refine Lm (x:=[49,47,54,52]) (p:=p) (q:=q) (gl.mono G) (r.mono Jc G) V R C u hs H e64 (z64.mono o) l64 F.gr (fun S' W=>IsoO.other sf W L) (fun lt S' t' W q'=>B1s sf sq W q' F.is lt) ?_
 intro S1 x y h3 l3 Q no E
 have T:=A0 G l3
 have N:IsoO S1 x y:=NarO.iso (IsoO.other sf Q L) no
 have ag:x<=y:=no.2.1
 have zx:=Fo E.dg.1
 have zy:=Fo E.dg.2
 refine ⟨_,_,_,rfl,?_⟩
 refine Kv (m:=16) (gl.mono T) (r.mono Jc T) o o C u M o o ?_
 intro A4 c4 h4 l4 ay
 have a6:=A0 T l4
 refine ⟨_,_,_,_,_,rfl,D6 (fun e=>absurd rfl e) (fun _=>D6 (fun e=>absurd rfl e) (fun _=>?_))⟩
 refine Om (b:=20) dc dc ?_
 intro kb bd
 refine ⟨_,rfl,?_⟩
 rw [show B9 ((kb:Int)+20)=((kb+20:Nat):Int) by rw [B5]<;>omega]
 have ah:∀ (B:aP) (b:Nat),h4.le B->B b=none->Sys (B.put b (.cells ([aH #[I 1,.slice A4 (tU (fun i=>rv (ls i)) n).length c4]].flatMap (fun v=>v.cells.toList)).toArray 32)) (some ⟨b,0,none⟩) (fun i=>rv (ls i)) n:=fun B b lx hb=>by
  refine ⟨A4,c4,U4 32 B b [(⟨1,A4,(tU (fun i=>rv (ls i)) n).length,c4⟩:PV)],ay.mono (A0 lx (Heap.le_put _ hb))⟩
 have box:∀ (B:aP) (b:Nat),SlV (B.put b (.cells ([ivS x y].flatMap (fun v=>v.cells.toList)).toArray 24)) (some ⟨b,0,none⟩) [.string (bs (C0 x)),.string (bs (C0 y))]:=fun B b=>U4 24 B b [((C0 x,C0 y):Ivl)]
 refine H8 Vc (vs:=[.agg #[I 1,.slice A4 (tU (fun i=>rv (ls i)) n).length c4]]) (fun u O=>by rw [List.mem_singleton.1 O];rfl) rfl (by show 1*2<=16777216;decide) rfl ?_
 intro b5 ao
 refine ⟨_,_,_,rfl,?_⟩
 refine H8 A79 (vs:=[ivS x y]) (fun u O=>by rw [List.mem_singleton.1 O];rfl) rfl (by show 1*2<=16777216;decide) rfl ?_
 intro b6 a2
 have au:=Heap.le_put (.cells ([aH #[I 1,.slice A4 (tU (fun i=>rv (ls i)) n).length c4]].flatMap (fun v=>v.cells.toList)).toArray 32) ao
 have ap:=Heap.le_put (.cells ([ivS x y].flatMap (fun v=>v.cells.toList)).toArray 24) a2
 have a0:=(ah h4 b5 (B0 _) ao).mono ap
 have a3:=box (h4.put b5 (.cells ([aH #[I 1,.slice A4 (tU (fun i=>rv (ls i)) n).length c4]].flatMap (fun v=>v.cells.toList)).toArray 32)) b6
 refine ⟨_,_,_,rfl,?_⟩
 have am:=A0 au ap
 have ak:=A0 a6 am
 refine Bi (k:=kb+20) (gl.mono ak) a0 cs a3 (zx.1.mono o) (zy.1.mono o) zx.2 zy.2 ag o o ?_
 intro h7 l7
 have aa:=A0 ak l7
 have a1:=A0 am l7
 refine ⟨_,_,rfl,D6 (fun e=>absurd rfl e) (fun _=>?_)⟩
 cases hv:B1y (fun i=>rv (ls i)) n x y (kb+20) with
 | false=>exact Pk (C8 (fun _=>aw _ aa) (fun e=>absurd rfl e))
 | true=>
 refine P6 ?_
 refine H8 Vc (vs:=[.agg #[I 1,.slice A4 (tU (fun i=>rv (ls i)) n).length c4]]) (fun u O=>by rw [List.mem_singleton.1 O];rfl) rfl (by show 1*2<=16777216;decide) rfl ?_
 intro b8 ae
 refine ⟨_,_,_,rfl,?_⟩
 refine H8 A79 (vs:=[ivS x y]) (fun u O=>by rw [List.mem_singleton.1 O];rfl) rfl (by show 1*2<=16777216;decide) rfl ?_
 intro b9 ax
 have a9:=Heap.le_put (.cells ([aH #[I 1,.slice A4 (tU (fun i=>rv (ls i)) n).length c4]].flatMap (fun v=>v.cells.toList)).toArray 32) ae
 have ad:=Heap.le_put (.cells ([ivS x y].flatMap (fun v=>v.cells.toList)).toArray 24) ax
 have a7:=(ah h7 b8 a1 ae).mono ad
 have az:=box (h7.put b8 (.cells ([aH #[I 1,.slice A4 (tU (fun i=>rv (ls i)) n).length c4]].flatMap (fun v=>v.cells.toList)).toArray 32)) b9
 refine ⟨_,_,_,rfl,?_⟩
 have af:=A0 aa (A0 a9 ad)
 have vo:=A7i ag hv
 obtain ⟨σ,δ,v⟩:=vo.data H
 refine Xv (k:=kb+20) (gl.mono af) a7 cs az H v hv E.dg.1 E.dg.2 o o fun A' bx bl cnt cc bf ar sb bo d1 d2=>⟨_,_,_,_,_,rfl,?_⟩
 have d:=A0 af ar
 have al:rv [49,47,54,52]=1/64:=by rw [e64,C2]
 have g:rv [49,47,54,53,53,51,54]=1/65536:=by rw [C2e,C2]
 refine P1 (m:=20) (a:=[49,47,54,52]) (b:=[49,47,54,53,53,51,54]) (gl.mono d) ⟨by simp,by rw [al];exact z64⟩ ⟨by simp,by rw [g];exact B51⟩ o ⟨_,rfl,?_⟩
 rw [al,g]
 have av:sQ (fun i=>rv (ls i)) x n≠0:=fun z=>by
  have:=v.lo
  rw [z,Rat.mul_zero] at this
  exact absurd this dc
 refine Lm (x:=C0 (1/64*(1/65536))) (p:=x) (q:=y) (gl.mono d) (r.mono Jc d) V R C u hs H rfl ((z64.mul B51).mono o) l22 E (fun S' W=>IsoO.other Q W N) (fun lt S' t' W q'=>?_) ?_
 ·have:=Zq (z:=(chg 0 (Vs (S'::t') x):Int)-chg 0 (Vs (S'::t') y)) H vo ⟨fun hh=>absurd lt hh,fun _=>⟨S',t',q',rfl⟩⟩
  unfold B3i at this
  rwa [iN av] at this
 intro S2 x2 y2 bk an aj a5 ai
 have j:=A0 d an
 have aq:IsoO S2 x y:=IsoO.other Q aj N
 have nb:BxO (fun i=>rv (ls i)) n σ x y x2 y2:=a5.box H aj v aq
 have hm:=BxO.meet H v bo nb
 have z1:=Fo d1
 have z2:=Fo d2
 have z3:=Fo ai.dg.1
 have z4:=Fo ai.dg.2
 refine ⟨_,_,_,rfl,D6 (fun e=>absurd rfl e) (fun _=>D6 (fun e=>absurd rfl e) (fun _=>D6 (fun e=>absurd rfl e) (fun _=>?_)))⟩
 obtain ⟨ab,rfl,c0,c1⟩:=U2 (sb.mono an)
 refine ⟨_,rfl,o,o,_,_,c0,c1,?_⟩
 refine A9y (m:=1143) (gl.mono j) (Tx.of z1.1 o) (Tx.of z2.1 o) (Tx.of z3.1 o) (Tx.of z4.1 o) o ?_
 rw [Oo bo.xy nb.xy hm]
 refine ⟨_,_,_,_,rfl,B0 _,_,rfl,o,o,_,_,c0,c1,?_⟩
 refine Hl (gl.mono j) (r.mono Jc j) o o (fun i s=>by have:=hl i s;omega) u rfl rfl (z1.1.mono o) (z2.1.mono o) z1.2 z2.2 ?_
 intro w' D' z bi a4 a8 co
 obtain rfl:w'=w:=a8.uniq H
 have e1:(if sQ (fun i=>rv (ls i)) bx n=0 then B9 (z+1) else z)=1:=A7g (bo.num H v co) (.inr rfl)
 refine ⟨_,_,rfl,?_⟩
 rw [e1]
 exact C8 (fun _=>C33 (C33 (C8 (fun _=>aw _ (A0 j a4)) (fun e=>absurd rfl e)))) (fun e=>absurd rfl e)
end
end Go.Proofs.YtbgkfnjmcjfokaaGreatDoor
namespace Go.Proofs.YtbgkfnjmcjfokaaGreatDoor
set_option maxRecDepth 20000
open Go Go.RowKit
def C2r(s:ByteArray):bs s.data.toList=s:=by
 cases s;simp [bs]
def open_strV{H:Type}{enc:TypeId × aW->H}{P:Program}{W:World}{base:Nat}{sp:Nat->Bool}{held:Bool}{t e:TypeId}{fuel:Nat}{A:Option aR}{len cap:Nat}{x:DataW H × List MemPlace}(ht:P.underlying t=some (.slice e))(he:P.underlying e=some .string)(hc:P.cellsOf e=1)
 (hf:DataW.trod enc P W base sp held fuel t [.slice A len cap]=some x):∃ ls:Nat->List UInt8,RowV SSr (memOf W) A len ls/\len<=maxLen:=by
 rcases Deep.open_strs ht he hc hf with ⟨b,_⟩|⟨a,l,c,m,Sx,b,_,q,p,j,_,d⟩
 ·simp at b
  obtain ⟨rfl,rfl,rfl⟩:=b
  exact ⟨fun _=>[],RowV.nil,Nat.zero_le _⟩
 ·simp at b
  obtain ⟨rfl,rfl,rfl⟩:=b
  have n:len<=m:=by rw [j];split<;>omega
  have sl:SlV (memOf W) (some a) (((List.range len).map fun i=>(Sx i).data.toList).map fun l=>aC (bs l)):=by
   refine .inr ⟨a,rfl,fun i v g=>?_⟩
   rw [List.getElem?_map,List.getElem?_map] at g
   by_cases k:i<len
   ·rw [List.getElem?_range k] at g
    simp only [Option.map_some,Option.some.injEq,C2r] at g
    rw [<- g]
    exact Oh (d i o).1
   ·rw [List.getElem?_eq_none (by simpa using k)] at g;cases g
  have:=A8i sl
  rw [bF,List.length_range] at this
  exact ⟨_,this,o⟩
