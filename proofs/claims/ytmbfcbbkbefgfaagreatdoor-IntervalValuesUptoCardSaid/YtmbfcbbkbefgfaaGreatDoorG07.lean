/- A part. -/
import Derived.Test.YtmbfcbbkbefgfaaGreatDoorG06
set_option linter.all false
open Int renaming mul_le_mul_of_nonneg_left->aC,le_of_lt->aD
open List renaming take_succ_eq_append_getElem->aE,length_take->aF
open Nat renaming min_eq_left->aG
namespace Go.Proofs.YtmbfcbbkbefgfaaGreatDoor
open Go
def val(B:Int):List Int->Int
 | []=>0
 | x::r=>x+B*val B r
def Dig(B:Int)(xs:List Int):Prop:=∀ x∈xs,0<=x/\x<B
def Norm(xs:List Int):Prop:=xs.getLast? ≠ some 0
def E8(B:Int):∀ xs ys:List Int,val B (xs++ys)=val B xs+B^xs.length*val B ys
 | [],ys=>by simp [val]
 | x::xs,ys=>by
  simp only [List.cons_append,val,E8 B xs ys,List.length_cons,Int.pow_succ]
  grind
def Dk(B x:Int):val B [x]=x:=by simp [val]
def G2(B:Int)(xs:List Int)(x:Int):val B (xs++[x])=val B xs+B^xs.length*x:=by rw [E8,Dk]
def Cm(B:Int):∀ n,val B (List.replicate n 0)=0
 | 0=>rfl
 | n+1=>by rw [List.replicate_succ];simp [val,Cm B n]
def Dig.nil{B:Int}:Dig B []:=fun x h=>by cases h
def Dig.append{B:Int}{xs ys:List Int}(h1:Dig B xs)(h2:Dig B ys):Dig B (xs++ys):=fun x h=>by
 rcases List.mem_append.1 h with h|h
 ·exact h1 x h
 ·exact h2 x h
def Dig.one{B x:Int}(h:0<=x/\x<B):Dig B [x]:=fun y a=>by simp at a;subst a;exact h
def Dig.take{B:Int}{xs:List Int}(h:Dig B xs)(n:Nat):Dig B (xs.take n):=fun x a=>h x (List.mem_of_mem_take a)
def Dig.drop{B:Int}{xs:List Int}(h:Dig B xs)(n:Nat):Dig B (xs.drop n):=fun x a=>h x (List.mem_of_mem_drop a)
def Dig.getD{B:Int}(hB:0<B){xs:List Int}(h:Dig B xs)(i:Nat):0<=xs.getD i 0/\xs.getD i 0<B:=by
 by_cases a:i<xs.length
 ·have e:xs.getD i 0=xs[i]:=by simp [List.getD,a]
  rw [e];exact h _ (List.getElem_mem a)
 ·have e:xs.getD i 0=0:=by simp [List.getD,List.getElem?_eq_none (Nat.le_of_not_lt a)]
  rw [e];exact ⟨Int.le_refl _,hB⟩
def Dig.set{B:Int}{xs:List Int}(h:Dig B xs){i:Nat}{v:Int}(hv:0<=v/\v<B):Dig B (xs.set i v):=fun x b=>by
 rcases List.mem_or_eq_of_mem_set b with a|a
 ·exact h x a
 ·rw [a];exact hv
def J7{B:Int}(hB:0<B)(n:Nat):Dig B (List.replicate n 0):=fun x a=>by
 have:=List.eq_of_mem_replicate a;omega
def C1{B:Int}(hB:0<B):∀ {xs:List Int},Dig B xs->0<=val B xs
 | [],_=>Int.le_refl _
 | x::xs,h=>by
  have h1:=h x (by simp)
  have a:=C1 hB (xs:=xs) fun y b=>h y (by simp [b])
  have:=Int.mul_nonneg (aD hB) a
  simp only [val];omega
def N5{B:Int}(hB:0<B):∀ {xs:List Int},Dig B xs->val B xs<B^xs.length
 | [],_=>by simp [val]
 | x::xs,h=>by
  have h1:=h x (by simp)
  have c:=N5 hB (xs:=xs) fun y b=>h y (by simp [b])
  have a:B*(val B xs+1)<=B*B^xs.length:=aC (by omega) (aD hB)
  rw [Int.mul_add] at a
  simp only [val,List.length_cons,Int.pow_succ]
  rw [Int.mul_comm (B^xs.length)];omega
def D4{B:Int}(hB:0<B)(n:Nat):0<B^n:=Int.pow_pos hB
def Jj{xs:List Int}{i:Nat}(hi:i<xs.length):xs.take (i+1)=xs.take i++[xs.getD i 0]:=by
 rw [aE hi];simp [List.getD,hi]
def O3(B:Int){xs:List Int}{i:Nat}(hi:i<xs.length):val B (xs.take (i+1))=val B (xs.take i)+B^i*xs.getD i 0:=by
 rw [Jj hi,G2,aF,aG (by omega)]
def D5{xs:List Int}{i:Nat}{v:Int}(hi:i<xs.length):(xs.set i v).take (i+1)=xs.take i++[v]:=by
 rw [aE (by simpa using hi)]
 simp [List.take_set_of_le]
def G4(B:Int)(xs:List Int){i:Nat}(hi:i<=xs.length):val B xs=val B (xs.take i)+B^i*val B (xs.drop i):=by
 have h:=E8 B (xs.take i) (xs.drop i)
 rw [List.take_append_drop,aF,aG hi] at h
 exact h
def Norm.nil:Norm []:=by simp [Norm]
def A7e{xs:List Int}{x:Int}(h:x≠0):Norm (xs++[x]):=by simp [Norm,h]
def A6e{B:Int}(hB:0<B){xs:List Int}(h:Dig B xs)(hn:Norm xs)(hl:xs.length≠0):B^(xs.length-1)<=val B xs:=by
 obtain ⟨n,hn1⟩:∃ n,xs.length=n+1:=⟨xs.length-1,by omega⟩
 have e:=Jj (xs:=xs) (i:=n) (by omega)
 rw [<- hn1,List.take_length] at e
 have a:xs.getD n 0≠0:=by
  intro c
  rw [c] at e
  apply hn
  rw [e];simp
 have d:=h.getD hB n
 have b:=O3 B (xs:=xs) (i:=n) (by omega)
 rw [<- hn1,List.take_length] at b
 have g:=C1 hB (h.take n)
 have:B^n*1<=B^n*xs.getD n 0:=aC (by omega) (aD (D4 hB n))
 rw [hn1,Nat.add_sub_cancel,b];omega
def A1d{B:Int}(hB:0<B){xs:List Int}(h:Dig B xs)(hn:Norm xs):val B xs=0↔xs.length=0:=by
 constructor
 ·intro e
  by_cases a:xs.length=0
  ·exact a
  ·have:=A6e hB h hn a
   have:=D4 hB (xs.length-1)
   omega
 ·intro e
  rw [List.eq_nil_of_length_eq_zero e];rfl
def D3{B:Int}(hB:0<B){m n:Nat}(h:m<=n):B^m<=B^n:=by
 obtain ⟨k,rfl⟩:=Nat.exists_eq_add_of_le h
 rw [Int.pow_add]
 have:B^m*1<=B^m*B^k:=aC (by have:=D4 hB k;omega) (aD (D4 hB m))
 omega
def Tq{B:Int}(hB:0<B){xs ys:List Int}(hx:Dig B xs)(hy:Dig B ys)(ny:Norm ys)(hl:xs.length<ys.length):val B xs<val B ys:=by
 have c:=N5 hB hx
 have a:=A6e hB hy ny (by omega)
 have b:=D3 hB (show xs.length<=ys.length-1 by omega)
 omega
def Tp{B:Int}(hB:0<B){xs ys:List Int}(hx:Dig B xs)(hy:Dig B ys){i:Nat}(hi:i<xs.length)(hi2:i<ys.length)(he:xs.drop (i+1)=ys.drop (i+1))(hlt:xs.getD i 0<ys.getD i 0):val B xs<val B ys:=by
 rw [G4 B xs (show i+1<=xs.length by omega),G4 B ys (show i+1<=ys.length by omega),he,O3 B hi,O3 B hi2]
 have a:=N5 hB (hx.take i)
 have b:=C1 hB (hy.take i)
 rw [aF,aG (by omega)] at a
 have:B^i*(xs.getD i 0+1)<=B^i*ys.getD i 0:=aC (by omega) (aD (D4 hB i))
 rw [Int.mul_add] at this
 omega
