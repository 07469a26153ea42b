/- A part. -/
import Derived.Test.YtmbfcbbkbefgfaaGreatDoorG30
import Derived.Test.YtmbfcbbkbefgfaaGreatDoorG22
open Go.Proofs.Tryz
set_option linter.all false
open Int renaming toNat_natCast->aC
open List renaming getElem?_cons_zero->aD,getElem?_cons_succ->aE,take_length->aF
namespace Go.Proofs.YtmbfcbbkbefgfaaGreatDoor
set_option maxRecDepth 20000
open Go
def Yv:List Int->Int->Int
 | [],d=>d
 | e::r,d=>if e<0\/e>24-d then -1 else Yv r (d+e)
def B2i(xs:List Int):Int:=if xs.length>6 then -1 else Yv xs 0
def Uu(xs:List Int):Bool:=decide (0<=B2i xs)
def Vs{xs:List Int}{k:Nat}{d:Int}(hk:k<xs.length):Yv (xs.drop k) d=if xs.getD k 0<0\/xs.getD k 0>24-d then -1 else Yv (xs.drop (k+1)) (d+xs.getD k 0):=by
 rw [List.drop_eq_getElem_cons hk,Yv]
 simp [List.getD,hk]
def Xs{xs:List Int}{A:Option Addr}{c:Nat}{h:Heap}{K:VP}(s:SlI .i64 h A xs)(hK:K (I (B2i xs)) h):FCall prog Nl #[.slice A xs.length c] h K:=by
 refine A4h _ _ _ ?_
 unfold A5z
 refine B4 (fun y=>?_) (fun y=>?_)
 ·have:xs.length>6:=by omega
  simpa [B2i,this] using hK
 ·have o:¬ xs.length>6:=by omega
  refine ⟨fun l x=>∃ (k:Nat) (d:Int),l=[I d,I k]/\k<=xs.length/\0<=d/\d<=24/\B2i xs=Yv (xs.drop k) d/\x=h,fun l _=>xs.length-(iAt l 1).toNat,⟨0,0,rfl,by omega,by omega,by omega,by simp [B2i,o],rfl⟩,?_⟩
  rintro a i B ⟨k,d,u,z,w,r,e,rfl⟩
  obtain ⟨rfl,rfl⟩:a=d/\i=(k:Int):=by simpa using u
  refine B4 (fun q=>?_) (fun q=>?_)
  ·refine s.load rfl (by omega) (by omega) ?_
   have g:k<xs.length:=by omega
   rw [aC]
   have b:=Vs (d:=a) g
   have p:B5 (24-a)=24-a:=B6 (by omega) (by omega)
   refine B4 (fun m=>?_) (fun m=>?_)
   ·rw [e,b,iP (.inl m)] at hK;exact hK
   ·rw [p]
    refine B4 (fun j=>?_) (fun j=>?_)
    ·rw [e,b,iP (.inr j)] at hK;exact hK
    ·rw [B6 (n:=a+xs.getD k 0) (by omega) (by omega),B6 (n:=(k:Int)+1) (by omega) (by omega)]
     refine ⟨⟨k+1,a+xs.getD k 0,by simp,by omega,by omega,by omega,?_,rfl⟩,by simp only [iAt,aE,aD];omega⟩
     rw [e,b,iN (by omega)]
  ·have:k=xs.length:=by omega
   subst this
   rw [e] at hK;simpa [Yv] using hK
def A0y{xs:List Int}{A:Option Addr}{c:Nat}{h:Heap}{K:VP}(s:SlI .i64 h A xs)(hK:K (I (B2i xs)) h):FCall prog Ry #[.slice A xs.length c] h K:=by
 refine A7i _ _ _ ?_
 unfold B1l
 refine B4 (fun y=>?_) (fun y=>?_)
 ·have:xs.length>6:=by omega
  simpa [B2i,this] using hK
 ·have o:¬ xs.length>6:=by omega
  refine ⟨fun l x=>∃ (k:Nat) (d:Int),l=[I d,I k]/\k<=xs.length/\0<=d/\d<=24/\B2i xs=Yv (xs.drop k) d/\x=h,fun l _=>xs.length-(iAt l 1).toNat,⟨0,0,rfl,by omega,by omega,by omega,by simp [B2i,o],rfl⟩,?_⟩
  rintro a i B ⟨k,d,u,z,w,r,e,rfl⟩
  obtain ⟨rfl,rfl⟩:a=d/\i=(k:Int):=by simpa using u
  refine B4 (fun q=>?_) (fun q=>?_)
  ·refine s.load rfl (by omega) (by omega) ?_
   have g:k<xs.length:=by omega
   rw [aC]
   have b:=Vs (d:=a) g
   have p:B5 (24-a)=24-a:=B6 (by omega) (by omega)
   refine B4 (fun m=>?_) (fun m=>?_)
   ·rw [e,b,iP (.inl m)] at hK;exact hK
   ·refine s.load rfl (by omega) (by omega) ?_
    rw [p,aC]
    refine B4 (fun j=>?_) (fun j=>?_)
    ·rw [e,b,iP (.inr j)] at hK;exact hK
    ·refine s.load rfl (by omega) (by omega) ?_
     rw [aC,B6 (n:=a+xs.getD k 0) (by omega) (by omega),B6 (n:=(k:Int)+1) (by omega) (by omega)]
     refine ⟨⟨k+1,a+xs.getD k 0,by simp,by omega,by omega,by omega,?_,rfl⟩,by simp only [iAt,aE,aD];omega⟩
     rw [e,b,iN (by omega)]
  ·have:k=xs.length:=by omega
   subst this
   rw [e] at hK;simpa [Yv] using hK
def A11{xs:List Int}{A:Option Addr}{c:Nat}{h:Heap}{K:VP}(s:SlI .i64 h A xs)(hK:K (.bool (Uu xs)) h):FCall prog Sb #[.slice A xs.length c] h K:=by
 refine A7q _ _ _ ?_
 unfold B1w
 exact Xs s ⟨_,rfl,by simpa [Uu] using hK⟩
def A3h{xs:List Int}{A:Option Addr}{c:Nat}{h:Heap}{K:VP}(s:SlI .i64 h A xs)(hK:K (.bool (Uu xs)) h):FCall prog Yj #[.slice A xs.length c] h K:=by
 refine B1j _ _ _ ?_
 unfold B63
 refine B4 (fun a=>?_) (fun a=>?_)
 ·exact A0y s ⟨_,rfl,by simpa [Uu] using hK⟩
 ·have:xs.length>6:=by omega
  simpa [Uu,B2i,this] using hK
def A30{l:List Int}(h:∀ x∈l,0<=x):0<=l.sum:=by
 induction l with
 | nil=>simp
 | cons x l ih=>have:=ih (fun y a=>h y (by simp [a]));have:=h x (by simp);simp;omega
def Z8{xs:List Int}{k:Nat}(hk:k<xs.length):(xs.take (k+1)).sum=(xs.take k).sum+xs.getD k 0:=by
 rw [List.take_succ_eq_append_getElem hk,List.sum_append];simp [List.getD,hk]
structure ExB (xs:List Int):Prop where
 len:xs.length<=6
 all:∀ x∈xs,0<=x/\x<=1048576
def B6r{l:List Int}(h:∀ x∈l,x<=1048576):l.sum<=1048576*(l.length:Int):=by
 induction l with
 | nil=>simp
 | cons x l ih=>have:=ih (fun y a=>h y (by simp [a]));have:=h x (by simp);simp only [List.sum_cons,List.length_cons];omega
def Dq{xs:List Int}(h:ExB xs)(k:Nat):0<=(xs.take k).sum/\(xs.take k).sum<=6291456:=by
 refine ⟨A30 fun x a=>(h.all x (List.mem_of_mem_take a)).1,?_⟩
 have:=B6r (l:=xs.take k) fun x a=>(h.all x (List.mem_of_mem_take a)).2
 have:=h.len
 have:(xs.take k).length<=6:=by simp;omega
 omega
def Y2(a b:List Int):Nat->Int
 | 0=>0
 | k+1=>if a.getD k 0≠b.getD k 0 then Cj (b.getD k 0) (a.getD k 0) else Y2 a b k
def B2g(a b:List Int):Int:=if a.sum≠b.sum then Cj a.sum b.sum else Y2 a b a.length
section
variable {h:Heap} {K:VP} {a b:List Int} {A B:Option Addr} {ac bc:Nat}
def A3j(hl:a.length=b.length)(va:ExB a)(vb:ExB b)(sa:SlI .i64 h A a)(sb:SlI .i64 h B b)(hK:K (I (B2g a b)) h):FCall prog Sc #[.slice A a.length ac,.slice B b.length bc] h K:=by
 have w:=va.len
 refine A7r _ _ _ _ _ _ ?_
 unfold B1x
 refine ⟨fun l g=>∃ k:Nat,l=[I (a.take k).sum,I (b.take k).sum,I k]/\k<=a.length/\g=h,fun l _=>a.length-(iAt l 2).toNat,⟨0,by simp,by omega,rfl⟩,?_⟩
 rintro y q i j ⟨k,d,D,rfl⟩
 obtain ⟨rfl,rfl,rfl⟩:y=(a.take k).sum/\q=(b.take k).sum/\i=(k:Int):=by simpa using d
 have E:=Dq va (k+1)
 have F:=Dq vb (k+1)
 refine B4 (fun x=>?_) (fun x=>?_)
 ·refine sa.load rfl (by omega) (by omega) ?_
  refine sb.load rfl (by omega) (by omega) ?_
  rw [aC,<- Z8 (by omega),<- Z8 (by omega),B6 (by omega) (by omega),B6 (by omega) (by omega),B6 (by omega) (by omega)]
  exact ⟨⟨k+1,by simp,by omega,rfl⟩,by simp only [iAt,aE,aD];omega⟩
 ·have e:k=a.length:=by omega
  subst e
  rw [aF,show b.take a.length=b by rw [hl];exact aF]
  refine N8 (fun p=>Ss ⟨_,rfl,by simpa [B2g,p] using hK⟩) (fun p=>?_)
  have r:B2g a b=Y2 a b a.length:=by simp [B2g,p]
  rw [r] at hK
  refine ⟨fun l g=>∃ k:Nat,l=[I ((k:Int)-1)]/\k<=a.length/\Y2 a b a.length=Y2 a b k/\g=j,fun l _=>(iAt l 0+1).toNat,⟨a.length,by rw [B6 (by omega) (by omega)],by omega,rfl,rfl⟩,?_⟩
  rintro i z ⟨k,o,s,c,rfl⟩
  obtain rfl:i=(k:Int)-1:=by simpa using o
  refine B4 (fun C=>?_) (fun C=>?_)
  ·obtain ⟨k,rfl⟩:∃ m,k=m+1:=⟨k-1,by omega⟩
   have u:((k+1:Nat):Int)-1=(k:Int):=by omega
   rw [u]
   refine sa.load rfl (by omega) (by omega) ?_
   refine sb.load rfl (by omega) (by omega) ?_
   rw [aC]
   refine N8 (fun n=>?_) (fun n=>?_)
   ·refine sb.load rfl (by omega) (by omega) ?_
    refine sa.load rfl (by omega) (by omega) ?_
    rw [aC]
    refine Ss ⟨_,rfl,B3 _,?_⟩
    rw [c,Y2,iP n] at hK;exact hK
   ·rw [B6 (by omega) (by omega)]
    refine ⟨⟨k,rfl,by omega,?_,rfl⟩,by simp only [iAt,aD];omega⟩
    rw [c,Y2,iN (by simpa using n)]
  ·have:k=0:=by omega
   subst this
   rw [c] at hK;exact hK
def A36(hl:a.length=b.length)(va:ExB a)(vb:ExB b)(sa:SlI .i64 h A a)(sb:SlI .i64 h B b)(hK:K (I (B2g a b)) h):FCall prog Yk #[.slice A a.length ac,.slice B b.length bc] h K:=by
 have y:=va.len
 refine B1k _ _ _ _ _ _ ?_
 unfold B64
 refine ⟨fun l n=>∃ k:Nat,l=[I (a.take k).sum,I (b.take k).sum,I k]/\k<=a.length/\n=h,fun l _=>a.length-(iAt l 2).toNat,⟨0,by simp,by omega,rfl⟩,?_⟩
 rintro C u i o ⟨k,g,E,rfl⟩
 obtain ⟨rfl,rfl,rfl⟩:C=(a.take k).sum/\u=(b.take k).sum/\i=(k:Int):=by simpa using g
 have F:=Dq va (k+1)
 have G:=Dq vb (k+1)
 refine B4 (fun z=>?_) (fun z=>?_)
 ·refine sa.load rfl (by omega) (by omega) ?_
  refine sb.load rfl (by omega) (by omega) ?_
  rw [aC,<- Z8 (by omega),<- Z8 (by omega),B6 (by omega) (by omega),B6 (by omega) (by omega),B6 (by omega) (by omega)]
  exact ⟨⟨k+1,by simp,by omega,rfl⟩,by simp only [iAt,aE,aD];omega⟩
 ·have j:k=a.length:=by omega
  subst j
  rw [aF,show b.take a.length=b by rw [hl];exact aF]
  refine N8 (fun r=>?_) (fun r=>?_)
  ·have e:B2g a b=Cj a.sum b.sum:=by simp [B2g,r]
   rw [e] at hK
   refine B4 (fun d=>?_) (fun d=>?_)
   ·simpa [Cj,d] using hK
   ·have:a.sum>b.sum:=by omega
    simpa [Cj,d,this] using hK
  have e:B2g a b=Y2 a b a.length:=by simp [B2g,r]
  rw [e] at hK
  refine ⟨fun l n=>∃ k:Nat,l=[I ((k:Int)-1)]/\k<=a.length/\Y2 a b a.length=Y2 a b k/\n=o,fun l _=>(iAt l 0+1).toNat,⟨a.length,by rw [B6 (by omega) (by omega)],by omega,rfl,rfl⟩,?_⟩
  rintro i D ⟨k,q,w,c,rfl⟩
  obtain rfl:i=(k:Int)-1:=by simpa using q
  refine B4 (fun d=>?_) (fun d=>?_)
  ·obtain ⟨k,rfl⟩:∃ m,k=m+1:=⟨k-1,by omega⟩
   have x:((k+1:Nat):Int)-1=(k:Int):=by omega
   rw [x]
   refine sa.load rfl (by omega) (by omega) ?_
   refine sb.load rfl (by omega) (by omega) ?_
   rw [aC]
   refine N8 (fun p=>?_) (fun p=>?_)
   ·refine sa.load rfl (by omega) (by omega) ?_
    refine sb.load rfl (by omega) (by omega) ?_
    rw [aC]
    rw [c,Y2,iP p] at hK
    refine B4 (fun s=>?_) (fun s=>?_)
    ·have:b.getD k 0<a.getD k 0:=s
     rw [Cj,iP this] at hK;exact hK
    ·rw [Cj,iN (by omega),iP (by omega)] at hK;exact hK
   ·rw [B6 (by omega) (by omega)]
    refine ⟨⟨k,rfl,by omega,?_,rfl⟩,by simp only [iAt,aD];omega⟩
    rw [c,Y2,iN (by simpa using p)]
  ·have:k=0:=by omega
   subst this
   rw [c] at hK;exact hK
end
