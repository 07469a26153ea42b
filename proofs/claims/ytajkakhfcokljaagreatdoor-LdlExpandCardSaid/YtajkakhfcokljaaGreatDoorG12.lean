/-
  Texts of this proof, merged by a program of ours.
-/
import Derived.Test.YtajkakhfcokljaaGreatDoorG11
set_option linter.all false
open Int renaming mul_le_mul_of_nonneg_left->C34,le_of_lt->C35
open List renaming take_succ_eq_append_getElem->C36,length_take->C37
open Nat renaming min_eq_left->C38
namespace Go.Proofs.YtajkakhfcokljaaGreatDoor
open Go
def val(B:Int):List Int->Int
 | []=>0
 | x::r=>x+B*val B r
def Dig(B:Int)(xs:List Int):Prop:=∀ x∈xs,0<=x/\x<B
def Norm(xs:List Int):Prop:=xs.getLast? ≠ some 0
theorem F8(B:Int):∀ xs ys:List Int,val B (xs++ys)=val B xs+B^xs.length*val B ys
 | [],ys=>by simp [val]
 | x::xs,ys=>by
  simp only [List.cons_append,val,F8 B xs ys,List.length_cons,Int.pow_succ]
  grind
theorem T3(B x:Int):val B [x]=x:=by simp [val]
theorem E9(B:Int)(xs:List Int)(x:Int):val B (xs++[x])=val B xs+B^xs.length*x:=by rw [F8,T3]
theorem Be(B:Int):∀ n,val B (List.replicate n 0)=0
 | 0=>rfl
 | n+1=>by rw [List.replicate_succ];simp [val,Be B n]
theorem Dig.nil{B:Int}:Dig B []:=fun x h=>by cases h
theorem Dig.append{B:Int}{xs ys:List Int}(h1:Dig B xs)(h2:Dig B ys):Dig B (xs++ys):=fun x h=>by
 rcases List.mem_append.1 h with h|h
 ·exact h1 x h
 ·exact h2 x h
theorem Dig.one{B x:Int}(h:0<=x/\x<B):Dig B [x]:=fun y hy=>by simp at hy;subst hy;exact h
theorem Dig.take{B:Int}{xs:List Int}(h:Dig B xs)(n:Nat):Dig B (xs.take n):=fun x hx=>h x (List.mem_of_mem_take hx)
theorem Dig.drop{B:Int}{xs:List Int}(h:Dig B xs)(n:Nat):Dig B (xs.drop n):=fun x hx=>h x (List.mem_of_mem_drop hx)
theorem Dig.getD{B:Int}(hB:0<B){xs:List Int}(h:Dig B xs)(i:Nat):0<=xs.getD i 0/\xs.getD i 0<B:=by
 by_cases hi:i<xs.length
 ·have e:xs.getD i 0=xs[i]:=by simp [List.getD,hi]
  rw [e];exact h _ (List.getElem_mem hi)
 ·have e:xs.getD i 0=0:=by simp [List.getD,List.getElem?_eq_none (Nat.le_of_not_lt hi)]
  rw [e];exact ⟨Int.le_refl _,hB⟩
theorem Dig.set{B:Int}{xs:List Int}(h:Dig B xs){i:Nat}{v:Int}(hv:0<=v/\v<B):Dig B (xs.set i v):=fun x hx=>by
 rcases List.mem_or_eq_of_mem_set hx with h1|h1
 ·exact h x h1
 ·rw [h1];exact hv
theorem H0{B:Int}(hB:0<B)(n:Nat):Dig B (List.replicate n 0):=fun x hx=>by
 have:=List.eq_of_mem_replicate hx;omega
theorem C7{B:Int}(hB:0<B):∀ {xs:List Int},Dig B xs->0<=val B xs
 | [],_=>Int.le_refl _
 | x::xs,h=>by
  have h1:=h x (by simp)
  have h2:=C7 hB (xs:=xs) fun y hy=>h y (by simp [hy])
  have:=Int.mul_nonneg (C35 hB) h2
  simp only [val];omega
theorem K6{B:Int}(hB:0<B):∀ {xs:List Int},Dig B xs->val B xs<B^xs.length
 | [],_=>by simp [val]
 | x::xs,h=>by
  have h1:=h x (by simp)
  have h2:=K6 hB (xs:=xs) fun y hy=>h y (by simp [hy])
  have h3:B*(val B xs+1)<=B*B^xs.length:=C34 (by omega) (C35 hB)
  rw [Int.mul_add] at h3
  simp only [val,List.length_cons,Int.pow_succ]
  rw [Int.mul_comm (B^xs.length)];omega
theorem D6{B:Int}(hB:0<B)(n:Nat):0<B^n:=Int.pow_pos hB
theorem Fn{xs:List Int}{i:Nat}(hi:i<xs.length):xs.take (i+1)=xs.take i++[xs.getD i 0]:=by
 rw [C36 hi];simp [List.getD,hi]
theorem N7(B:Int){xs:List Int}{i:Nat}(hi:i<xs.length):val B (xs.take (i+1))=val B (xs.take i)+B^i*xs.getD i 0:=by
 rw [Fn hi,E9,C37,C38 (by omega)]
theorem C9{xs:List Int}{i:Nat}{v:Int}(hi:i<xs.length):(xs.set i v).take (i+1)=xs.take i++[v]:=by
 rw [C36 (by simpa using hi)]
 simp [List.take_set_of_le]
theorem F1(B:Int)(xs:List Int){i:Nat}(hi:i<=xs.length):val B xs=val B (xs.take i)+B^i*val B (xs.drop i):=by
 have h:=F8 B (xs.take i) (xs.drop i)
 rw [List.take_append_drop,C37,C38 hi] at h
 exact h
theorem Norm.nil:Norm []:=by simp [Norm]
theorem A0a{xs:List Int}{x:Int}(h:x≠0):Norm (xs++[x]):=by simp [Norm,h]
theorem A7a{B:Int}(hB:0<B){xs:List Int}(h:Dig B xs)(hn:Norm xs)(hl:xs.length≠0):B^(xs.length-1)<=val B xs:=by
 obtain ⟨n,hn1⟩:∃ n,xs.length=n+1:=⟨xs.length-1,by omega⟩
 have e:=Fn (xs:=xs) (i:=n) (by omega)
 rw [<- hn1,List.take_length] at e
 have hlast:xs.getD n 0≠0:=by
  intro e0
  rw [e0] at e
  apply hn
  rw [e];simp
 have hg:=h.getD hB n
 have hv:=N7 B (xs:=xs) (i:=n) (by omega)
 rw [<- hn1,List.take_length] at hv
 have h0:=C7 hB (h.take n)
 have:B^n*1<=B^n*xs.getD n 0:=C34 (by omega) (C35 (D6 hB n))
 rw [hn1,Nat.add_sub_cancel,hv];omega
theorem A23{B:Int}(hB:0<B){xs:List Int}(h:Dig B xs)(hn:Norm xs):val B xs=0↔xs.length=0:=by
 constructor
 ·intro e
  by_cases hl:xs.length=0
  ·exact hl
  ·have:=A7a hB h hn hl
   have:=D6 hB (xs.length-1)
   omega
 ·intro e
  rw [List.eq_nil_of_length_eq_zero e];rfl
theorem D0{B:Int}(hB:0<B){m n:Nat}(h:m<=n):B^m<=B^n:=by
 obtain ⟨k,rfl⟩:=Nat.exists_eq_add_of_le h
 rw [Int.pow_add]
 have:B^m*1<=B^m*B^k:=C34 (by have:=D6 hB k;omega) (C35 (D6 hB m))
 omega
theorem Hj{B:Int}(hB:0<B){xs ys:List Int}(hx:Dig B xs)(hy:Dig B ys)(ny:Norm ys)(hl:xs.length<ys.length):val B xs<val B ys:=by
 have h1:=K6 hB hx
 have h2:=A7a hB hy ny (by omega)
 have h3:=D0 hB (show xs.length<=ys.length-1 by omega)
 omega
theorem Hi{B:Int}(hB:0<B){xs ys:List Int}(hx:Dig B xs)(hy:Dig B ys){i:Nat}(hi:i<xs.length)(hi2:i<ys.length)(he:xs.drop (i+1)=ys.drop (i+1))(hlt:xs.getD i 0<ys.getD i 0):val B xs<val B ys:=by
 rw [F1 B xs (show i+1<=xs.length by omega),F1 B ys (show i+1<=ys.length by omega),he,N7 B hi,N7 B hi2]
 have h1:=K6 hB (hx.take i)
 have h2:=C7 hB (hy.take i)
 rw [C37,C38 (by omega)] at h1
 have:B^i*(xs.getD i 0+1)<=B^i*ys.getD i 0:=C34 (by omega) (C35 (D6 hB i))
 rw [Int.mul_add] at this
 omega
end Go.Proofs.YtajkakhfcokljaaGreatDoor
