/- A part. -/
import Derived.Test.YtmbfcbbkbefgfaaGreatDoorG30
import Derived.Test.YtmbfcbbkbefgfaaGreatDoorG22
open Go.Proofs.Tryz
set_option linter.all false
open Int renaming toNat_natCast->aC
open List renaming getElem?_cons_zero->aD,getElem?_cons_succ->aE
namespace Go.Proofs.YtmbfcbbkbefgfaaGreatDoor
set_option maxRecDepth 20000
open Go
def A2i:List Int->Int->Int
 | [],d=>d
 | e::r,d=>if e<0\/e>24-d then -1 else A2i r (d+e)
def B8i(xs:List Int):Int:=if xs.length>6 then -1 else A2i xs 0
def A6c(xs:List Int):Bool:=decide (0<=B8i xs)
def A57{xs:List Int}{k:Nat}{d:Int}(hk:k<xs.length):A2i (xs.drop k) d=if xs.getD k 0<0\/xs.getD k 0>24-d then -1 else A2i (xs.drop (k+1)) (d+xs.getD k 0):=by
 rw [List.drop_eq_getElem_cons hk,A2i]
 simp [List.getD,hk]
def Wl{xs:List Int}{A:Option Addr}{c:Nat}{h:Heap}{K:VP}(s:SlI .i64 h A xs)(hK:K (I (B8i xs)) h):FCall prog Mh #[.slice A xs.length c] h K:=by
 refine A31 _ _ _ ?_
 unfold A4d
 refine B3 (fun y=>?_) (fun y=>?_)
 ·have:xs.length>6:=by omega
  simpa [B8i,this] using hK
 ·have x:¬ xs.length>6:=by omega
  refine ⟨fun l r=>∃ (k:Nat) (d:Int),l=[I d,I k]/\k<=xs.length/\0<=d/\d<=24/\B8i xs=A2i (xs.drop k) d/\r=h,fun l _=>xs.length-(iAt l 1).toNat,⟨0,0,rfl,by omega,by omega,by omega,by simp [B8i,x],rfl⟩,?_⟩
  rintro a i B ⟨k,d,o,z,w,u,e,rfl⟩
  obtain ⟨rfl,rfl⟩:a=d/\i=(k:Int):=by simpa using o
  refine B3 (fun p=>?_) (fun p=>?_)
  ·refine s.load rfl (by omega) (by omega) ?_
   have g:k<xs.length:=by omega
   rw [aC]
   have b:=A57 (d:=a) g
   have q:B4 (24-a)=24-a:=B5 (by omega) (by omega)
   refine B3 (fun m=>?_) (fun m=>?_)
   ·rw [e,b,iP (.inl m)] at hK;exact hK
   ·rw [q]
    refine B3 (fun j=>?_) (fun j=>?_)
    ·rw [e,b,iP (.inr j)] at hK;exact hK
    ·rw [B5 (n:=a+xs.getD k 0) (by omega) (by omega),B5 (n:=(k:Int)+1) (by omega) (by omega)]
     refine ⟨⟨k+1,a+xs.getD k 0,by simp,by omega,by omega,by omega,?_,rfl⟩,by simp only [iAt,aE,aD];omega⟩
     rw [e,b,iN (by omega)]
  ·have:k=xs.length:=by omega
   subst this
   rw [e] at hK;simpa [A2i] using hK
def No{xs:List Int}{A:Option Addr}{c:Nat}{h:Heap}{K:VP}(s:SlI .i64 h A xs)(hK:K (.bool (A6c xs)) h):FCall prog Qz #[.slice A xs.length c] h K:=by
 refine A5t _ _ _ ?_
 unfold A9y
 exact Wl s ⟨_,rfl,by simpa [A6c] using hK⟩
def A1k{l:List Int}(h:∀ x∈l,0<=x):0<=l.sum:=by
 induction l with
 | nil=>simp
 | cons x l ih=>have:=ih (fun y a=>h y (by simp [a]));have:=h x (by simp);simp;omega
def Jl{xs:List Int}{k:Nat}(hk:k<xs.length):(xs.take (k+1)).sum=(xs.take k).sum+xs.getD k 0:=by
 rw [List.take_succ_eq_append_getElem hk,List.sum_append];simp [List.getD,hk]
structure ExB (xs:List Int):Prop where
 len:xs.length<=6
 all:∀ x∈xs,0<=x/\x<=1048576
def B4p{l:List Int}(h:∀ x∈l,x<=1048576):l.sum<=1048576*(l.length:Int):=by
 induction l with
 | nil=>simp
 | cons x l ih=>have:=ih (fun y a=>h y (by simp [a]));have:=h x (by simp);simp only [List.sum_cons,List.length_cons];omega
def Pu{xs:List Int}(h:ExB xs)(k:Nat):0<=(xs.take k).sum/\(xs.take k).sum<=6291456:=by
 refine ⟨A1k fun x a=>(h.all x (List.mem_of_mem_take a)).1,?_⟩
 have:=B4p (l:=xs.take k) fun x a=>(h.all x (List.mem_of_mem_take a)).2
 have:=h.len
 have:(xs.take k).length<=6:=by simp;omega
 omega
def Ie(a b:List Int):Nat->Int
 | 0=>0
 | k+1=>if a.getD k 0≠b.getD k 0 then Cc (b.getD k 0) (a.getD k 0) else Ie a b k
def B7m(a b:List Int):Int:=if a.sum≠b.sum then Cc a.sum b.sum else Ie a b a.length
section
variable {h:Heap} {K:VP} {a b:List Int} {A B:Option Addr} {ac bc:Nat}
def Qe(hl:a.length=b.length)(va:ExB a)(vb:ExB b)(sa:SlI .i64 h A a)(sb:SlI .i64 h B b)(hK:K (I (B7m a b)) h):FCall prog Ra #[.slice A a.length ac,.slice B b.length bc] h K:=by
 have x:=va.len
 refine A5u _ _ _ _ _ _ ?_
 unfold A9z
 refine ⟨fun l p=>∃ k:Nat,l=[I (a.take k).sum,I (b.take k).sum,I k]/\k<=a.length/\p=h,fun l _=>a.length-(iAt l 2).toNat,⟨0,by simp,by omega,rfl⟩,?_⟩
 rintro y w i e ⟨k,g,E,rfl⟩
 obtain ⟨rfl,rfl,rfl⟩:y=(a.take k).sum/\w=(b.take k).sum/\i=(k:Int):=by simpa using g
 have F:=Pu va (k+1)
 have D:=Pu vb (k+1)
 refine B3 (fun q=>?_) (fun q=>?_)
 ·refine sa.load rfl (by omega) (by omega) ?_
  refine sb.load rfl (by omega) (by omega) ?_
  rw [aC,<- Jl (by omega),<- Jl (by omega),B5 (by omega) (by omega),B5 (by omega) (by omega),B5 (by omega) (by omega)]
  exact ⟨⟨k+1,by simp,by omega,rfl⟩,by simp only [iAt,aE,aD];omega⟩
 ·have d:k=a.length:=by omega
  subst d
  rw [List.take_length,show b.take a.length=b by rw [hl];exact List.take_length]
  refine J9 (fun j=>Rj ⟨_,rfl,by simpa [B7m,j] using hK⟩) (fun j=>?_)
  have z:B7m a b=Ie a b a.length:=by simp [B7m,j]
  rw [z] at hK
  refine ⟨fun l p=>∃ k:Nat,l=[I ((k:Int)-1)]/\k<=a.length/\Ie a b a.length=Ie a b k/\p=e,fun l _=>(iAt l 0+1).toNat,⟨a.length,by rw [B5 (by omega) (by omega)],by omega,rfl,rfl⟩,?_⟩
  rintro i s ⟨k,o,r,c,rfl⟩
  obtain rfl:i=(k:Int)-1:=by simpa using o
  refine B3 (fun C=>?_) (fun C=>?_)
  ·obtain ⟨k,rfl⟩:∃ m,k=m+1:=⟨k-1,by omega⟩
   have u:((k+1:Nat):Int)-1=(k:Int):=by omega
   rw [u]
   refine sa.load rfl (by omega) (by omega) ?_
   refine sb.load rfl (by omega) (by omega) ?_
   rw [aC]
   refine J9 (fun n=>?_) (fun n=>?_)
   ·refine sb.load rfl (by omega) (by omega) ?_
    refine sa.load rfl (by omega) (by omega) ?_
    rw [aC]
    refine Rj ⟨_,rfl,B0 _,?_⟩
    rw [c,Ie,iP n] at hK;exact hK
   ·rw [B5 (by omega) (by omega)]
    refine ⟨⟨k,rfl,by omega,?_,rfl⟩,by simp only [iAt,aD];omega⟩
    rw [c,Ie,iN (by simpa using n)]
  ·have:k=0:=by omega
   subst this
   rw [c] at hK;exact hK
end
