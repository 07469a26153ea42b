/- A part. -/
import Derived.Test.YtmbfcbbkbefgfaaGreatDoorG07
import Derived.Test.YtmbfcbbkbefgfaaGreatDoorG09
set_option linter.all false
open List renaming take_of_length_le->aE
open _root_.Go renaming IntKind->aC
open _root_.Go.Proofs.YtmbfcbbkbefgfaaGreatDoor renaming Heap->aD
namespace Go.Proofs.YtmbfcbbkbefgfaaGreatDoor
set_option maxRecDepth 20000
open Go
def blk(k:aC)(e:TypeId)(g:aD)(b:Nat)(zs:List Int):aD:=g.put b (.cells (zs.map (Value.int k)).toArray e)
def Kp{k:aC}{e:TypeId}{g:aD}{b:Nat}(hb:g b=none)(zs:List Int):g.le (blk k e g b zs):=Heap.le_put _ hb
def Rn(k:aC)(e:TypeId)(g:aD)(b:Nat)(zs:List Int):SlI k (blk k e g b zs) (some ⟨b,0,none⟩) zs:=SlI.new g b zs e _
def P2{P:Program}{k:aC}{t e:TypeId}{bytes:Nat}(s:SliceT P t e (.int k 0) 1 bytes){n:Int}(h0:0<=n)(h2:n*bytes<=281474976710656)(h3:n<=9223372036854775807){K:VP}{h:aD}
 (x:∀ b,h b=none->K (.slice (some ⟨b,0,none⟩) n.toNat n.toNat) (blk k e h b (List.replicate n.toNat 0))):wpH P (Instr.makeSlice t (I n) (I n)) K h:=by
 refine A7n s h0 (Int.le_refl n) h2 h3 ?_
 intro b a
 have:=x b a
 unfold blk at this
 rw [List.map_replicate] at this
 rw [show (Value.int k 0).cells=#[.int k 0] from rfl,Ze]
 exact this
def Rm{P:Program}{t:TypeId}(one:P.cellsOf t=1/\(P.info? t).isSome=true){k:aC}{n i:Int}{g:aD}{b:Nat}{e:TypeId}{zs:List Int}(hi:i.toNat<zs.length){K:Unit->aD->Prop}
 (x:K () (blk k e g b (zs.set i.toNat n))):wpH P (Instr.storeAt t (.pointer (some (Addr.add ⟨b,0,none⟩ (i.toNat*1)))) (.int k n)) K (blk k e g b zs):=by
 refine A6v one (by simpa using hi) ?_
 unfold blk at x
 rw [List.map_set] at x
 simpa using x
def Mag(k:aC)(B:Int)(h:aD)(A:Option Addr)(len:Nat)(n:Int):Prop:=∃ xs:List Int,len=xs.length/\SlI k h A xs/\Dig B xs/\Norm xs/\val B xs=n
def Mag.mono{k:aC}{B:Int}{h h':aD}(hl:h.le h'){A:Option Addr}{len:Nat}{n:Int}(m:Mag k B h A len n):Mag k B h' A len n:=by
 obtain ⟨xs,c,a,b⟩:=m;exact ⟨xs,c,a.mono hl,b⟩
def Mag.zero{k:aC}{B:Int}{h:aD}{A:Option Addr}:Mag k B h A 0 0:=⟨[],rfl,SlI.nil,Dig.nil,Norm.nil,rfl⟩
def Mag.nonneg{k:aC}{B:Int}(hB:0<B){h:aD}{A:Option Addr}{len:Nat}{n:Int}(m:Mag k B h A len n):0<=n:=by
 obtain ⟨xs,_,_,a,_,rfl⟩:=m;exact C1 hB a
def Mag.len_zero{k:aC}{B:Int}(hB:0<B){h:aD}{A:Option Addr}{len:Nat}{n:Int}(m:Mag k B h A len n):n=0↔len=0:=by
 obtain ⟨xs,rfl,_,b,a,rfl⟩:=m;exact A1d hB b a
def Mag.lt{k:aC}{B:Int}(hB:0<B){h:aD}{A:Option Addr}{len:Nat}{n:Int}(m:Mag k B h A len n):n<B^len:=by
 obtain ⟨xs,rfl,_,a,_,rfl⟩:=m;exact N5 hB a
def Mag.ge{k:aC}{B:Int}(hB:0<B){h:aD}{A:Option Addr}{len:Nat}{n:Int}(m:Mag k B h A len n)(hl:len≠0):B^(len-1)<=n:=by
 obtain ⟨xs,rfl,_,b,a,rfl⟩:=m;exact A6e hB b a hl
def Mag.len_le{k:aC}{B:Int}(hB:1<B){h:aD}{A:Option Addr}{len:Nat}{n:Int}(m:Mag k B h A len n){j:Nat}(hn:n<B^j):len<=j:=by
 by_cases a:len=0
 ·omega
 ·have c:=m.ge (by omega) a
  by_cases b:len<=j
  ·exact b
  ·have:=D3 (B:=B) (by omega) (show j<=len-1 by omega)
   omega
abbrev b32:Int:=4294967296
abbrev Mg(h:aD)(A:Option Addr)(len:Nat)(n:Int):Prop:=Mag .u32 b32 h A len n
section
variable {h g:aD} {K:VP} {A B:Option Addr} {ac bc:Nat}
end
def C6(B:Int)(xs:List Int)(i:Nat):val B (xs.take (i+1))=val B (xs.take i)+B^i*xs.getD i 0:=by
 by_cases a:i<xs.length
 ·exact O3 B a
 ·rw [aE (by omega),aE (by omega)]
  simp [List.getD,List.getElem?_eq_none (Nat.le_of_not_lt a)]
def B7g{c:Int}:Int.fdiv c (2^(min ((32:Int)).toNat 64))=c/4294967296:=by
 rw [show (2:Int)^(min ((32:Int)).toNat 64)=4294967296 by decide];exact Int.fdiv_eq_ediv_of_nonneg c (by decide)
def Ms{B P v c:Int}:v+P*(c%B)+c/B*(P*B)=v+P*c:=by
 have:=Int.emod_add_mul_ediv c B
 grind
section
variable {h g:aD} {K:VP} {A B:Option Addr} {ac bc:Nat}
end
