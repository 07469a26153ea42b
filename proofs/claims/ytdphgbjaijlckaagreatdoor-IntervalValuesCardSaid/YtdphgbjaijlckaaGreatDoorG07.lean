/- A part. -/
import Derived.Test.YtdphgbjaijlckaaGreatDoorG06
set_option linter.all false
open Int renaming mul_le_mul_of_nonneg_left->aC,le_of_lt->aD
namespace Go.Proofs.YtdphgbjaijlckaaGreatDoor
open Go
def val(B:Int):List Int->Int
 | []=>0
 | x::r=>x+B*val B r
def Dig(B:Int)(xs:List Int):Prop:=∀ x∈xs,0<=x/\x<B
def Norm(xs:List Int):Prop:=xs.getLast? ≠ some 0
def E5(B:Int):∀ xs ys:List Int,val B (xs++ys)=val B xs+B^xs.length*val B ys
 | [],ys=>by simp [val]
 | x::xs,ys=>by
  simp only [List.cons_append,val,E5 B xs ys,List.length_cons,Int.pow_succ]
  grind
def Y6(B x:Int):val B [x]=x:=by simp [val]
def F5(B:Int)(xs:List Int)(x:Int):val B (xs++[x])=val B xs+B^xs.length*x:=by rw [E5,Y6]
def V6(B:Int):∀ n,val B (List.replicate n 0)=0
 | 0=>rfl
 | n+1=>by rw [List.replicate_succ];simp [val,V6 B n]
def Dig.nil{B:Int}:Dig B []:=fun x h=>by cases h
def Dig.append{B:Int}{xs ys:List Int}(h1:Dig B xs)(h2:Dig B ys):Dig B (xs++ys):=fun x h=>by
 rcases List.mem_append.1 h with h|h
 ·exact h1 x h
 ·exact h2 x h
def Dig.one{B x:Int}(h:0<=x/\x<B):Dig B [x]:=fun y a=>by grind
def Dig.take{B:Int}{xs:List Int}(h:Dig B xs)(n:Nat):Dig B (xs.take n):=fun x a=>h x (List.mem_of_mem_take a)
def Dig.drop{B:Int}{xs:List Int}(h:Dig B xs)(n:Nat):Dig B (xs.drop n):=fun x a=>h x (List.mem_of_mem_drop a)
def Dig.getD{B:Int}(hB:0<B){xs:List Int}(h:Dig B xs)(i:Nat):0<=xs.getD i 0/\xs.getD i 0<B:=by
 by_cases a:i<xs.length
 ·have e:xs.getD i 0=xs[i]:=gz0
  rw [e];exact h _ (List.getElem_mem a)
 grind
def Dig.set{B:Int}{xs:List Int}(h:Dig B xs){i:Nat}{v:Int}(hv:0<=v/\v<B):Dig B (xs.set i v):=fun x b=>by
 rcases List.mem_or_eq_of_mem_set b with a|a
 ·exact h x a
 omega
def H7{B:Int}(hB:0<B)(n:Nat):Dig B (List.replicate n 0):=fun x a=>by
 grind
def C3{B:Int}(hB:0<B):∀ {xs:List Int},Dig B xs->0<=val B xs
 | [],_=>Int.le_refl _
 | x::xs,h=>by
  have h1:=h x (by simp)
  have a:=C3 hB (xs:=xs) fun y b=>h y (by simp [b])
  have:=Int.mul_nonneg (aD hB) a
  simp only [val];omega
def J4{B:Int}(hB:0<B):∀ {xs:List Int},Dig B xs->val B xs<B^xs.length
 | [],_=>by simp [val]
 | x::xs,h=>by
  have h1:=h x (by simp)
  have b:=J4 hB (xs:=xs) fun y a=>h y (by simp [a])
  have c:B*(val B xs+1)<=B*B^xs.length:=aC o (aD hB)
  simp only [val,List.length_cons,Int.pow_succ]
  grind
def D4{B:Int}(hB:0<B)(n:Nat):0<B^n:=Int.pow_pos hB
def Od{xs:List Int}{i:Nat}(hi:i<xs.length):xs.take (i+1)=xs.take i++[xs.getD i 0]:=by
 simp_all
def K3(B:Int){xs:List Int}{i:Nat}(hi:i<xs.length):val B (xs.take (i+1))=val B (xs.take i)+B^i*xs.getD i 0:=by
 rw [Od hi,F5,List.length_take,Nat.min_eq_left o]
def C9{xs:List Int}{i:Nat}{v:Int}(hi:i<xs.length):(xs.set i v).take (i+1)=xs.take i++[v]:=by
 rw [List.take_succ_eq_append_getElem gz0]
 simp [List.take_set_of_le]
def F7(B:Int)(xs:List Int){i:Nat}(hi:i<=xs.length):val B xs=val B (xs.take i)+B^i*val B (xs.drop i):=by
 have h:=E5 B (xs.take i) (xs.drop i)
 simp_all
def Norm.nil:Norm []:=by simp [Norm]
def Xu{xs:List Int}{x:Int}(h:x≠0):Norm (xs++[x]):=by simp [Norm,h]
def Wi{B:Int}(hB:0<B){xs:List Int}(h:Dig B xs)(hn:Norm xs)(hl:xs.length≠0):B^(xs.length-1)<=val B xs:=by
 obtain ⟨n,hn1⟩:∃ n,xs.length=n+1:=⟨xs.length-1,o⟩
 have a:xs.getD n 0≠0:=by
  intro b
  apply hn
  grind
 have e:=h.getD hB n
 have c:=K3 B (xs:=xs) (i:=n) o
 have d:=C3 hB (h.take n)
 have:B^n*1<=B^n*xs.getD n 0:=aC o (aD (D4 hB n))
 grind
def Qx{B:Int}(hB:0<B){xs:List Int}(h:Dig B xs)(hn:Norm xs):val B xs=0↔xs.length=0:=by
 constructor
 ·intro e
  by_cases a:xs.length=0
  ·exact a
  ·have:=Wi hB h hn a
   have:=D4 hB (xs.length-1)
   omega
 ·intro e
  rw [List.eq_nil_of_length_eq_zero e];rfl
def C8{B:Int}(hB:0<B){m n:Nat}(h:m<=n):B^m<=B^n:=by
 obtain ⟨k,rfl⟩:=Nat.exists_eq_add_of_le h
 rw [Int.pow_add]
 have:B^m*1<=B^m*B^k:=aC (by have:=D4 hB k;omega) (aD (D4 hB m))
 omega
def Kc{B:Int}(hB:0<B){xs ys:List Int}(hx:Dig B xs)(hy:Dig B ys)(ny:Norm ys)(hl:xs.length<ys.length):val B xs<val B ys:=by
 have a:=J4 hB hx
 have b:=Wi hB hy ny o
 have c:=C8 hB (show xs.length<=ys.length-1 from o)
 omega
def Kb{B:Int}(hB:0<B){xs ys:List Int}(hx:Dig B xs)(hy:Dig B ys){i:Nat}(hi:i<xs.length)(hi2:i<ys.length)(he:xs.drop (i+1)=ys.drop (i+1))(hlt:xs.getD i 0<ys.getD i 0):val B xs<val B ys:=by
 rw [F7 B xs (show i+1<=xs.length from o),F7 B ys (show i+1<=ys.length from o),he,K3 B hi,K3 B hi2]
 have a:=J4 hB (hx.take i)
 have b:=C3 hB (hy.take i)
 have:B^i*(xs.getD i 0+1)<=B^i*ys.getD i 0:=aC o (aD (D4 hB i))
 grind
