/- A part. -/
import Derived.Test.YtbgkfnjmcjfokaaGreatDoorG11
import Derived.Test.YtbgkfnjmcjfokaaGreatDoorG09
open Go.Proofs.Tryz
set_option linter.all false
open Int renaming mul_le_mul_of_nonneg_left->aC,le_of_lt->aF
open List renaming replicate->aI,take_of_length_le->aJ
open _root_.Go renaming IntKind->aE
open _root_.Go.Proofs.YtbgkfnjmcjfokaaGreatDoor renaming Heap->aH
namespace Go.Proofs.YtbgkfnjmcjfokaaGreatDoor
set_option maxRecDepth 20000
open Go
def val(B:Int):List Int->Int
 | []=>0
 | x::r=>x+B*val B r
def Dig(B:Int)(xs:List Int):Prop:=∀ x∈xs,0<=x/\x<B
def Norm(xs:List Int):Prop:=xs.getLast? ≠ some 0
def H1(B:Int):∀ xs ys:List Int,val B (xs++ys)=val B xs+B^xs.length*val B ys
 | [],ys=>by simp [val]
 | x::xs,ys=>by
  simp only [List.cons_append,val,H1 B xs ys,List.length_cons,Int.pow_succ]
  grind
def Er(B x:Int):val B [x]=x:=by simp [val]
def J4(B:Int)(xs:List Int)(x:Int):val B (xs++[x])=val B xs+B^xs.length*x:=by rw [H1,Er]
def Dl(B:Int):∀ n,val B (aI n 0)=0
 | 0=>rfl
 | n+1=>by rw [List.replicate_succ];simp [val,Dl B n]
def Dig.nil{B:Int}:Dig B []:=fun x h=>by cases h
def Dig.append{B:Int}{xs ys:List Int}(h1:Dig B xs)(h2:Dig B ys):Dig B (xs++ys):=fun x h=>by
 rcases List.mem_append.1 h with h|h
 ·exact h1 x h
 ·exact h2 x h
def Dig.one{B x:Int}(h:0<=x/\x<B):Dig B [x]:=fun y a=>by grind
def Dig.take{B:Int}{xs:List Int}(h:Dig B xs)(n:Nat):Dig B (xs.take n):=fun x a=>h x (List.mem_of_mem_take a)
def Dig.drop{B:Int}{xs:List Int}(h:Dig B xs)(n:Nat):Dig B (xs.drop n):=fun x a=>h x (List.mem_of_mem_drop a)
def Dig.getD{B:Int}(hB:0<B){xs:List Int}(h:Dig B xs)(i:Nat):0<=xs.getD i 0/\xs.getD i 0<B:=by
 by_cases a:i<xs.length
 ·have e:xs.getD i 0=xs[i]:=gz0
  rw [e];exact h _ (List.getElem_mem a)
 grind
def Dig.set{B:Int}{xs:List Int}(h:Dig B xs){i:Nat}{v:Int}(hv:0<=v/\v<B):Dig B (xs.set i v):=fun x b=>by
 rcases List.mem_or_eq_of_mem_set b with a|a
 ·exact h x a
 omega
def P4{B:Int}(hB:0<B)(n:Nat):Dig B (aI n 0):=fun x a=>by
 grind
def C5{B:Int}(hB:0<B):∀ {xs:List Int},Dig B xs->0<=val B xs
 | [],_=>Int.le_refl _
 | x::xs,h=>by
  have h1:=h x (by simp)
  have a:=C5 hB (xs:=xs) fun y b=>h y (by simp [b])
  have:=Int.mul_nonneg (aF hB) a
  simp only [val];omega
def R9{B:Int}(hB:0<B):∀ {xs:List Int},Dig B xs->val B xs<B^xs.length
 | [],_=>by simp [val]
 | x::xs,h=>by
  have h1:=h x (by simp)
  have b:=R9 hB (xs:=xs) fun y a=>h y (by simp [a])
  have c:B*(val B xs+1)<=B*B^xs.length:=aC o (aF hB)
  simp only [val,List.length_cons,Int.pow_succ]
  grind
def E9{B:Int}(hB:0<B)(n:Nat):0<B^n:=Int.pow_pos hB
def A03{xs:List Int}{i:Nat}(hi:i<xs.length):xs.take (i+1)=xs.take i++[xs.getD i 0]:=by
 simp_all
def S9(B:Int){xs:List Int}{i:Nat}(hi:i<xs.length):val B (xs.take (i+1))=val B (xs.take i)+B^i*xs.getD i 0:=by
 rw [A03 hi,J4,List.length_take,Nat.min_eq_left o]
def E6{xs:List Int}{i:Nat}{v:Int}(hi:i<xs.length):(xs.set i v).take (i+1)=xs.take i++[v]:=by
 rw [List.take_succ_eq_append_getElem gz0]
 simp [List.take_set_of_le]
def J6(B:Int)(xs:List Int){i:Nat}(hi:i<=xs.length):val B xs=val B (xs.take i)+B^i*val B (xs.drop i):=by
 have h:=H1 B (xs.take i) (xs.drop i)
 simp_all
def Norm.nil:Norm []:=by simp [Norm]
def A9a{xs:List Int}{x:Int}(h:x≠0):Norm (xs++[x]):=by simp [Norm,h]
def A7l{B:Int}(hB:0<B){xs:List Int}(h:Dig B xs)(hn:Norm xs)(hl:xs.length≠0):B^(xs.length-1)<=val B xs:=by
 obtain ⟨n,hn1⟩:∃ n,xs.length=n+1:=⟨xs.length-1,o⟩
 have a:xs.getD n 0≠0:=by
  intro b
  apply hn
  grind
 have e:=h.getD hB n
 have c:=S9 B (xs:=xs) (i:=n) o
 have d:=C5 hB (h.take n)
 have:B^n*1<=B^n*xs.getD n 0:=aC o (aF (E9 hB n))
 grind
def A2k{B:Int}(hB:0<B){xs:List Int}(h:Dig B xs)(hn:Norm xs):val B xs=0↔xs.length=0:=by
 constructor
 ·intro e
  by_cases a:xs.length=0
  ·exact a
  ·have:=A7l hB h hn a
   have:=E9 hB (xs.length-1)
   omega
 ·intro e
  rw [List.eq_nil_of_length_eq_zero e];rfl
def D5{B:Int}(hB:0<B){m n:Nat}(h:m<=n):B^m<=B^n:=by
 obtain ⟨k,rfl⟩:=Nat.exists_eq_add_of_le h
 rw [Int.pow_add]
 have:B^m*1<=B^m*B^k:=aC (by have:=E9 hB k;omega) (aF (E9 hB m))
 omega
def Uy{B:Int}(hB:0<B){xs ys:List Int}(hx:Dig B xs)(hy:Dig B ys)(ny:Norm ys)(hl:xs.length<ys.length):val B xs<val B ys:=by
 have a:=R9 hB hx
 have b:=A7l hB hy ny o
 have c:=D5 hB (show xs.length<=ys.length-1 from o)
 omega
def Ux{B:Int}(hB:0<B){xs ys:List Int}(hx:Dig B xs)(hy:Dig B ys){i:Nat}(hi:i<xs.length)(hi2:i<ys.length)(he:xs.drop (i+1)=ys.drop (i+1))(hlt:xs.getD i 0<ys.getD i 0):val B xs<val B ys:=by
 rw [J6 B xs (show i+1<=xs.length from o),J6 B ys (show i+1<=ys.length from o),he,S9 B hi,S9 B hi2]
 have a:=R9 hB (hx.take i)
 have b:=C5 hB (hy.take i)
 have:B^i*(xs.getD i 0+1)<=B^i*ys.getD i 0:=aC o (aF (E9 hB i))
 grind
section
set_option maxRecDepth 100000
variable {h:aH} {K:VP}
def Gv:SliceT prog 179 5 (Y (0:Int)) 1 1:=⟨by kernel_rfl,by kernel_rfl,rfl,dc⟩
def A5s:prog.cellsOf 5=1/\(prog.info? 5).isSome=true:=⟨by kernel_rfl,by kernel_rfl⟩
def P9:SliceT prog 22 9 (.string ({ data:=#[] }:ByteArray)) 1 16:=⟨by kernel_rfl,by kernel_rfl,rfl,dc⟩
def Am:prog.cellsOf 9=1/\(prog.info? 9).isSome=true:=⟨by kernel_rfl,by kernel_rfl⟩
end
def blk(k:aE)(e:TypeId)(g:aH)(b:Nat)(zs:List Int):aH:=g.put b (.cells (zs.map (Value.int k)).toArray e)
def Wd{k:aE}{e:TypeId}{g:aH}{b:Nat}(hb:g b=none)(zs:List Int):g.le (blk k e g b zs):=Heap.le_put _ hb
def Tm(k:aE)(e:TypeId)(g:aH)(b:Nat)(zs:List Int):SlI k (blk k e g b zs) (some ⟨b,0,none⟩) zs:=SlI.new g b zs e _
def T6{P:Program}{k:aE}{t e:TypeId}{bytes:Nat}(s:SliceT P t e (.int k 0) 1 bytes){n:Int}(h0:0<=n)(h2:n*bytes<=281474976710656)(h3:n<=9223372036854775807){K:VP}{h:aH}
 (x:∀ b,h b=none->K (.slice (some ⟨b,0,none⟩) n.toNat n.toNat) (blk k e h b (aI n.toNat 0))):wpH P (Instr.makeSlice t (I n) (I n)) K h:=by
 refine A9k s h0 (Int.le_refl n) h2 h3 ?_
 intro b a
 have:=x b a
 unfold blk at this
 rw [List.map_replicate] at this
 rw [show (Value.int k 0).cells=#[.int k 0] from rfl,A0e]
 exact this
def Tl{P:Program}{t:TypeId}(one:P.cellsOf t=1/\(P.info? t).isSome=true){k:aE}{n i:Int}{g:aH}{b:Nat}{e:TypeId}{zs:List Int}(hi:i.toNat<zs.length){K:Unit->aH->Prop}
 (x:K () (blk k e g b (zs.set i.toNat n))):wpH P (Instr.storeAt t (.pointer (some (Addr.add ⟨b,0,none⟩ (i.toNat*1)))) (.int k n)) K (blk k e g b zs):=by
 refine A88 one gz0 ?_
 unfold blk at x
 simp_all
def Mag(k:aE)(B:Int)(h:aH)(A:Option Addr)(len:Nat)(n:Int):Prop:=∃ xs:List Int,len=xs.length/\SlI k h A xs/\Dig B xs/\Norm xs/\val B xs=n
def Mag.mono{k:aE}{B:Int}{h h':aH}(hl:h.le h'){A:Option Addr}{len:Nat}{n:Int}(m:Mag k B h A len n):Mag k B h' A len n:=by
 obtain ⟨xs,a,b,c⟩:=m;exact ⟨xs,a,b.mono hl,c⟩
def Mag.zero{k:aE}{B:Int}{h:aH}{A:Option Addr}:Mag k B h A 0 0:=⟨[],rfl,SlI.nil,Dig.nil,Norm.nil,rfl⟩
def Mag.nonneg{k:aE}{B:Int}(hB:0<B){h:aH}{A:Option Addr}{len:Nat}{n:Int}(m:Mag k B h A len n):0<=n:=by
 obtain ⟨xs,_,_,a,_,rfl⟩:=m;exact C5 hB a
def Mag.len_zero{k:aE}{B:Int}(hB:0<B){h:aH}{A:Option Addr}{len:Nat}{n:Int}(m:Mag k B h A len n):n=0↔len=0:=by
 obtain ⟨xs,rfl,_,b,a,rfl⟩:=m;exact A2k hB b a
def Mag.lt{k:aE}{B:Int}(hB:0<B){h:aH}{A:Option Addr}{len:Nat}{n:Int}(m:Mag k B h A len n):n<B^len:=by
 obtain ⟨xs,rfl,_,a,_,rfl⟩:=m;exact R9 hB a
def Mag.ge{k:aE}{B:Int}(hB:0<B){h:aH}{A:Option Addr}{len:Nat}{n:Int}(m:Mag k B h A len n)(hl:len≠0):B^(len-1)<=n:=by
 obtain ⟨xs,rfl,_,b,a,rfl⟩:=m;exact A7l hB b a hl
def Mag.len_le{k:aE}{B:Int}(hB:1<B){h:aH}{A:Option Addr}{len:Nat}{n:Int}(m:Mag k B h A len n){j:Nat}(hn:n<B^j):len<=j:=by
 by_cases b:len=0
 ·omega
 ·have c:=m.ge o b
  by_cases a:len<=j
  ·exact a
  ·have:=D5 (B:=B) o (show j<=len-1 from o)
   omega
abbrev b32:Int:=4294967296
abbrev Mg(h:aH)(A:Option Addr)(len:Nat)(n:Int):Prop:=Mag .u32 b32 h A len n
section
variable {h g:aH} {K:VP} {A B:Option Addr} {ac bc:Nat}
end
def C7(B:Int)(xs:List Int)(i:Nat):val B (xs.take (i+1))=val B (xs.take i)+B^i*xs.getD i 0:=by
 by_cases a:i<xs.length
 ·exact S9 B a
 ·rw [aJ o,aJ o]
  grind
def C04{c:Int}:Int.fdiv c (2^(min ((32:Int)).toNat 64))=c/4294967296:=by
 grind
def Pb{B P v c:Int}:v+P*(c%B)+c/B*(P*B)=v+P*c:=by
 have:=Int.emod_add_mul_ediv c B
 grind
section
variable {h g:aH} {K:VP} {A B:Option Addr} {ac bc:Nat}
end
