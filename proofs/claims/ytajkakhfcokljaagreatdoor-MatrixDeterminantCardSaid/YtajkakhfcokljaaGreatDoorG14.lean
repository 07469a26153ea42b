/-
  Texts of this proof, merged by a program of ours.
-/
import Derived.Test.YtajkakhfcokljaaGreatDoorG12
import Derived.Test.YtajkakhfcokljaaGreatDoorG13
set_option linter.all false
namespace Go.Proofs.YtajkakhfcokljaaGreatDoor
set_option maxRecDepth 20000
open Go
def blk(k:IntKind)(e:TypeId)(g:Heap)(b:Nat)(zs:List Int):Heap:=g.put b (.cells (zs.map (Value.int k)).toArray e)
theorem Ja{k:IntKind}{e:TypeId}{g:Heap}{b:Nat}(hb:g b=none)(zs:List Int):g.le (blk k e g b zs):=Heap.le_put _ hb
theorem Pm(k:IntKind)(e:TypeId)(g:Heap)(b:Nat)(zs:List Int):SlI k (blk k e g b zs) (some ⟨b,0,none⟩) zs:=SlI.new g b zs e _
theorem O3{P:Program}{k:IntKind}{t e:TypeId}{bytes:Nat}(s:SliceT P t e (.int k 0) 1 bytes){n:Int}(h0:0<=n)(h2:n*bytes<=281474976710656)(h3:n<=9223372036854775807){K:VP}{h:Heap}
 (x:∀ b,h b=none->K (.slice (some ⟨b,0,none⟩) n.toNat n.toNat) (blk k e h b (List.replicate n.toNat 0))):wpH P (Instr.makeSlice t (I n) (I n)) K h:=by
 refine A5i s h0 (Int.le_refl n) h2 h3 ?_
 intro b hb
 have:=x b hb
 unfold blk at this
 rw [List.map_replicate] at this
 rw [show (Value.int k 0).cells=#[.int k 0] from rfl,Wy]
 exact this
theorem Pl{P:Program}{t:TypeId}(one:P.cellsOf t=1/\(P.info? t).isSome=true){k:IntKind}{n i:Int}{g:Heap}{b:Nat}{e:TypeId}{zs:List Int}(hi:i.toNat<zs.length){K:Unit->Heap->Prop}
 (x:K () (blk k e g b (zs.set i.toNat n))):wpH P (Instr.storeAt t (.pointer (some (Addr.add ⟨b,0,none⟩ (i.toNat*1)))) (.int k n)) K (blk k e g b zs):=by
 refine A4o one (by simpa using hi) ?_
 unfold blk at x
 rw [List.map_set] at x
 simpa using x
def Mag(k:IntKind)(B:Int)(h:Heap)(A:Option Addr)(len:Nat)(n:Int):Prop:=∃ xs:List Int,len=xs.length/\SlI k h A xs/\Dig B xs/\Norm xs/\val B xs=n
theorem Mag.mono{k:IntKind}{B:Int}{h h':Heap}(hl:h.le h'){A:Option Addr}{len:Nat}{n:Int}(m:Mag k B h A len n):Mag k B h' A len n:=by
 obtain ⟨xs,h1,h2,h3⟩:=m;exact ⟨xs,h1,h2.mono hl,h3⟩
theorem Mag.zero{k:IntKind}{B:Int}{h:Heap}{A:Option Addr}:Mag k B h A 0 0:=⟨[],rfl,SlI.nil,Dig.nil,Norm.nil,rfl⟩
theorem Mag.nonneg{k:IntKind}{B:Int}(hB:0<B){h:Heap}{A:Option Addr}{len:Nat}{n:Int}(m:Mag k B h A len n):0<=n:=by
 obtain ⟨xs,_,_,h3,_,rfl⟩:=m;exact C5 hB h3
theorem Mag.len_zero{k:IntKind}{B:Int}(hB:0<B){h:Heap}{A:Option Addr}{len:Nat}{n:Int}(m:Mag k B h A len n):n=0↔len=0:=by
 obtain ⟨xs,rfl,_,h3,h4,rfl⟩:=m;exact Zm hB h3 h4
theorem Mag.lt{k:IntKind}{B:Int}(hB:0<B){h:Heap}{A:Option Addr}{len:Nat}{n:Int}(m:Mag k B h A len n):n<B^len:=by
 obtain ⟨xs,rfl,_,h3,_,rfl⟩:=m;exact M0 hB h3
theorem Mag.ge{k:IntKind}{B:Int}(hB:0<B){h:Heap}{A:Option Addr}{len:Nat}{n:Int}(m:Mag k B h A len n)(hl:len≠0):B^(len-1)<=n:=by
 obtain ⟨xs,rfl,_,h3,h4,rfl⟩:=m;exact A46 hB h3 h4 hl
theorem Mag.len_le{k:IntKind}{B:Int}(hB:1<B){h:Heap}{A:Option Addr}{len:Nat}{n:Int}(m:Mag k B h A len n){j:Nat}(hn:n<B^j):len<=j:=by
 by_cases hl:len=0
 ·omega
 ·have h1:=m.ge (by omega) hl
  by_cases hj:len<=j
  ·exact hj
  ·have:=D0 (B:=B) (by omega) (show j<=len-1 by omega)
   omega
abbrev b32:Int:=4294967296
abbrev Mg(h:Heap)(A:Option Addr)(len:Nat)(n:Int):Prop:=Mag .u32 b32 h A len n
section
variable {h g:Heap} {K:VP} {A B:Option Addr} {ac bc:Nat}
end
theorem C7(B:Int)(xs:List Int)(i:Nat):val B (xs.take (i+1))=val B (xs.take i)+B^i*xs.getD i 0:=by
 by_cases hi:i<xs.length
 ·exact N7 B hi
 ·rw [List.take_of_length_le (by omega),List.take_of_length_le (by omega)]
  simp [List.getD,List.getElem?_eq_none (Nat.le_of_not_lt hi)]
theorem B49{c:Int}:Int.fdiv c (2^(min ((32:Int)).toNat 64))=c/4294967296:=by
 rw [show (2:Int)^(min ((32:Int)).toNat 64)=4294967296 by decide];exact Int.fdiv_eq_ediv_of_nonneg c (by decide)
theorem Kq{B P v c:Int}:v+P*(c%B)+c/B*(P*B)=v+P*c:=by
 have:=Int.emod_add_mul_ediv c B
 grind
section
variable {h g:Heap} {K:VP} {A B:Option Addr} {ac bc:Nat}
end
end Go.Proofs.YtajkakhfcokljaaGreatDoor
