/-
  Texts of this proof, merged by a program of ours.
-/
import Derived.Test.YtajkakhfcokljaaGreatDoorG11
set_option linter.all false
open Int renaming mul_le_mul_of_nonneg_left->B8t,le_of_lt->B8u
open List renaming take_succ_eq_append_getElem->B8v,length_take->B8w
open Nat renaming min_eq_left->B8x
namespace Go.Proofs.YtajkakhfcokljaaGreatDoor
open Go
def val(B:Int):List Int->Int
 | []=>0
 | x::r=>x+B*val B r
def Dig(B:Int)(xs:List Int):Prop:=∀ x∈xs,0<=x/\x<B
def Norm(xs:List Int):Prop:=xs.getLast? ≠ some 0
theorem F6(B:Int):∀ xs ys:List Int,val B (xs++ys)=val B xs+B^xs.length*val B ys
 | [],ys=>by simp [val]
 | x::xs,ys=>by
  simp only [List.cons_append,val,F6 B xs ys,List.length_cons,Int.pow_succ]
  grind
theorem S1(B x:Int):val B [x]=x:=by simp [val]
theorem E6(B:Int)(xs:List Int)(x:Int):val B (xs++[x])=val B xs+B^xs.length*x:=by rw [F6,S1]
theorem Af(B:Int):∀ n,val B (List.replicate n 0)=0
 | 0=>rfl
 | n+1=>by rw [List.replicate_succ];simp [val,Af B n]
theorem Dig.nil{B:Int}:Dig B []:=fun x h=>by cases h
theorem Dig.append{B:Int}{xs ys:List Int}(h1:Dig B xs)(h2:Dig B ys):Dig B (xs++ys):=fun x h=>by
 rcases List.mem_append.1 h with h|h
 ·exact h1 x h
 ·exact h2 x h
theorem Dig.one{B x:Int}(h:0<=x/\x<B):Dig B [x]:=fun y hy=>by simp at hy;subst hy;exact h
theorem Dig.take{B:Int}{xs:List Int}(h:Dig B xs)(n:Nat):Dig B (xs.take n):=fun x hx=>h x (List.mem_of_mem_take hx)
theorem Dig.drop{B:Int}{xs:List Int}(h:Dig B xs)(n:Nat):Dig B (xs.drop n):=fun x hx=>h x (List.mem_of_mem_drop hx)
theorem Dig.getD{B:Int}(hB:0<B){xs:List Int}(h:Dig B xs)(i:Nat):0<=xs.getD i 0/\xs.getD i 0<B:=by
 by_cases hi:i<xs.length
 ·have e:xs.getD i 0=xs[i]:=by simp [List.getD,hi]
  rw [e];exact h _ (List.getElem_mem hi)
 ·have e:xs.getD i 0=0:=by simp [List.getD,List.getElem?_eq_none (Nat.le_of_not_lt hi)]
  rw [e];exact ⟨Int.le_refl _,hB⟩
theorem Dig.set{B:Int}{xs:List Int}(h:Dig B xs){i:Nat}{v:Int}(hv:0<=v/\v<B):Dig B (xs.set i v):=fun x hx=>by
 rcases List.mem_or_eq_of_mem_set hx with h1|h1
 ·exact h x h1
 ·rw [h1];exact hv
theorem H0{B:Int}(hB:0<B)(n:Nat):Dig B (List.replicate n 0):=fun x hx=>by
 have:=List.eq_of_mem_replicate hx;omega
theorem C4{B:Int}(hB:0<B):∀ {xs:List Int},Dig B xs->0<=val B xs
 | [],_=>Int.le_refl _
 | x::xs,h=>by
  have h1:=h x (by simp)
  have h2:=C4 hB (xs:=xs) fun y hy=>h y (by simp [hy])
  have:=Int.mul_nonneg (B8u hB) h2
  simp only [val];omega
theorem K7{B:Int}(hB:0<B):∀ {xs:List Int},Dig B xs->val B xs<B^xs.length
 | [],_=>by simp [val]
 | x::xs,h=>by
  have h1:=h x (by simp)
  have h2:=K7 hB (xs:=xs) fun y hy=>h y (by simp [hy])
  have h3:B*(val B xs+1)<=B*B^xs.length:=B8t (by omega) (B8u hB)
  rw [Int.mul_add] at h3
  simp only [val,List.length_cons,Int.pow_succ]
  rw [Int.mul_comm (B^xs.length)];omega
theorem D4{B:Int}(hB:0<B)(n:Nat):0<B^n:=Int.pow_pos hB
theorem Em{xs:List Int}{i:Nat}(hi:i<xs.length):xs.take (i+1)=xs.take i++[xs.getD i 0]:=by
 rw [B8v hi];simp [List.getD,hi]
theorem L7(B:Int){xs:List Int}{i:Nat}(hi:i<xs.length):val B (xs.take (i+1))=val B (xs.take i)+B^i*xs.getD i 0:=by
 rw [Em hi,E6,B8w,B8x (by omega)]
theorem C7{xs:List Int}{i:Nat}{v:Int}(hi:i<xs.length):(xs.set i v).take (i+1)=xs.take i++[v]:=by
 rw [B8v (by simpa using hi)]
 simp [List.take_set_of_le]
theorem F0(B:Int)(xs:List Int){i:Nat}(hi:i<=xs.length):val B xs=val B (xs.take i)+B^i*val B (xs.drop i):=by
 have h:=F6 B (xs.take i) (xs.drop i)
 rw [List.take_append_drop,B8w,B8x hi] at h
 exact h
theorem Norm.nil:Norm []:=by simp [Norm]
theorem Wl{xs:List Int}{x:Int}(h:x≠0):Norm (xs++[x]):=by simp [Norm,h]
theorem A4o{B:Int}(hB:0<B){xs:List Int}(h:Dig B xs)(hn:Norm xs)(hl:xs.length≠0):B^(xs.length-1)<=val B xs:=by
 obtain ⟨n,hn1⟩:∃ n,xs.length=n+1:=⟨xs.length-1,by omega⟩
 have e:=Em (xs:=xs) (i:=n) (by omega)
 rw [<- hn1,List.take_length] at e
 have hlast:xs.getD n 0≠0:=by
  intro e0
  rw [e0] at e
  apply hn
  rw [e];simp
 have hg:=h.getD hB n
 have hv:=L7 B (xs:=xs) (i:=n) (by omega)
 rw [<- hn1,List.take_length] at hv
 have h0:=C4 hB (h.take n)
 have:B^n*1<=B^n*xs.getD n 0:=B8t (by omega) (B8u (D4 hB n))
 rw [hn1,Nat.add_sub_cancel,hv];omega
theorem Zb{B:Int}(hB:0<B){xs:List Int}(h:Dig B xs)(hn:Norm xs):val B xs=0↔xs.length=0:=by
 constructor
 ·intro e
  by_cases hl:xs.length=0
  ·exact hl
  ·have:=A4o hB h hn hl
   have:=D4 hB (xs.length-1)
   omega
 ·intro e
  rw [List.eq_nil_of_length_eq_zero e];rfl
theorem C8{B:Int}(hB:0<B){m n:Nat}(h:m<=n):B^m<=B^n:=by
 obtain ⟨k,rfl⟩:=Nat.exists_eq_add_of_le h
 rw [Int.pow_add]
 have:B^m*1<=B^m*B^k:=B8t (by have:=D4 hB k;omega) (B8u (D4 hB m))
 omega
theorem Fx{B:Int}(hB:0<B){xs ys:List Int}(hx:Dig B xs)(hy:Dig B ys)(ny:Norm ys)(hl:xs.length<ys.length):val B xs<val B ys:=by
 have h1:=K7 hB hx
 have h2:=A4o hB hy ny (by omega)
 have h3:=C8 hB (show xs.length<=ys.length-1 by omega)
 omega
theorem Fw{B:Int}(hB:0<B){xs ys:List Int}(hx:Dig B xs)(hy:Dig B ys){i:Nat}(hi:i<xs.length)(hi2:i<ys.length)(he:xs.drop (i+1)=ys.drop (i+1))(hlt:xs.getD i 0<ys.getD i 0):val B xs<val B ys:=by
 rw [F0 B xs (show i+1<=xs.length by omega),F0 B ys (show i+1<=ys.length by omega),he,L7 B hi,L7 B hi2]
 have h1:=K7 hB (hx.take i)
 have h2:=C4 hB (hy.take i)
 rw [B8w,B8x (by omega)] at h1
 have:B^i*(xs.getD i 0+1)<=B^i*ys.getD i 0:=B8t (by omega) (B8u (D4 hB i))
 rw [Int.mul_add] at this
 omega
end Go.Proofs.YtajkakhfcokljaaGreatDoor
