/- A part. -/
import Derived.Test.YtdphgbjaijlckaaGreatDoorG11
import Derived.Test.YtdphgbjaijlckaaGreatDoorG07
open Go.Proofs.Tryz
set_option linter.all false
open List renaming take_of_length_le->aE
open _root_.Go renaming IntKind->aC
open _root_.Go.Proofs.YtdphgbjaijlckaaGreatDoor renaming Heap->aD
namespace Go.Proofs.YtdphgbjaijlckaaGreatDoor
set_option maxRecDepth 20000
open Go
section
set_option maxRecDepth 100000
variable {h:aD} {K:VP}
def Bc:SliceT prog 166 5 (Y (0:Int)) 1 1:=⟨by kernel_rfl,by kernel_rfl,rfl,dc⟩
def Ul:prog.cellsOf 5=1/\(prog.info? 5).isSome=true:=⟨by kernel_rfl,by kernel_rfl⟩
def R1:SliceT prog 52 9 (.string ({ data:=#[] }:ByteArray)) 1 16:=⟨by kernel_rfl,by kernel_rfl,rfl,dc⟩
def Gr:prog.cellsOf 9=1/\(prog.info? 9).isSome=true:=⟨by kernel_rfl,by kernel_rfl⟩
end
def blk(k:aC)(e:TypeId)(g:aD)(b:Nat)(zs:List Int):aD:=g.put b (.cells (zs.map (Value.int k)).toArray e)
def Lc{k:aC}{e:TypeId}{g:aD}{b:Nat}(hb:g b=none)(zs:List Int):g.le (blk k e g b zs):=Heap.le_put _ hb
def Jj(k:aC)(e:TypeId)(g:aD)(b:Nat)(zs:List Int):SlI k (blk k e g b zs) (some ⟨b,0,none⟩) zs:=SlI.new g b zs e _
def K6{P:Program}{k:aC}{t e:TypeId}{bytes:Nat}(s:SliceT P t e (.int k 0) 1 bytes){n:Int}(h0:0<=n)(h2:n*bytes<=281474976710656)(h3:n<=9223372036854775807){K:VP}{h:aD}
 (x:∀ b,h b=none->K (.slice (some ⟨b,0,none⟩) n.toNat n.toNat) (blk k e h b (List.replicate n.toNat 0))):wpH P (Instr.makeSlice t (I n) (I n)) K h:=by
 refine Yd s h0 (Int.le_refl n) h2 h3 ?_
 intro b a
 have:=x b a
 unfold blk at this
 rw [List.map_replicate] at this
 rw [show (Value.int k 0).cells=#[.int k 0] from rfl,Ok]
 exact this
def Ji{P:Program}{t:TypeId}(one:P.cellsOf t=1/\(P.info? t).isSome=true){k:aC}{n i:Int}{g:aD}{b:Nat}{e:TypeId}{zs:List Int}(hi:i.toNat<zs.length){K:Unit->aD->Prop}
 (x:K () (blk k e g b (zs.set i.toNat n))):wpH P (Instr.storeAt t (.pointer (some (Addr.add ⟨b,0,none⟩ (i.toNat*1)))) (.int k n)) K (blk k e g b zs):=by
 refine Wt one gz0 ?_
 unfold blk at x
 simp_all
def Mag(k:aC)(B:Int)(h:aD)(A:Option Addr)(len:Nat)(n:Int):Prop:=∃ xs:List Int,len=xs.length/\SlI k h A xs/\Dig B xs/\Norm xs/\val B xs=n
def Mag.mono{k:aC}{B:Int}{h h':aD}(hl:h.le h'){A:Option Addr}{len:Nat}{n:Int}(m:Mag k B h A len n):Mag k B h' A len n:=by
 obtain ⟨xs,a,b,c⟩:=m;exact ⟨xs,a,b.mono hl,c⟩
def Mag.zero{k:aC}{B:Int}{h:aD}{A:Option Addr}:Mag k B h A 0 0:=⟨[],rfl,SlI.nil,Dig.nil,Norm.nil,rfl⟩
def Mag.nonneg{k:aC}{B:Int}(hB:0<B){h:aD}{A:Option Addr}{len:Nat}{n:Int}(m:Mag k B h A len n):0<=n:=by
 obtain ⟨xs,_,_,a,_,rfl⟩:=m;exact C3 hB a
def Mag.len_zero{k:aC}{B:Int}(hB:0<B){h:aD}{A:Option Addr}{len:Nat}{n:Int}(m:Mag k B h A len n):n=0↔len=0:=by
 obtain ⟨xs,rfl,_,b,a,rfl⟩:=m;exact Qx hB b a
def Mag.lt{k:aC}{B:Int}(hB:0<B){h:aD}{A:Option Addr}{len:Nat}{n:Int}(m:Mag k B h A len n):n<B^len:=by
 obtain ⟨xs,rfl,_,a,_,rfl⟩:=m;exact J4 hB a
def Mag.ge{k:aC}{B:Int}(hB:0<B){h:aD}{A:Option Addr}{len:Nat}{n:Int}(m:Mag k B h A len n)(hl:len≠0):B^(len-1)<=n:=by
 obtain ⟨xs,rfl,_,b,a,rfl⟩:=m;exact Wi hB b a hl
def Mag.len_le{k:aC}{B:Int}(hB:1<B){h:aD}{A:Option Addr}{len:Nat}{n:Int}(m:Mag k B h A len n){j:Nat}(hn:n<B^j):len<=j:=by
 by_cases b:len=0
 ·omega
 ·have c:=m.ge o b
  by_cases a:len<=j
  ·exact a
  ·have:=C8 (B:=B) o (show j<=len-1 from o)
   omega
abbrev b32:Int:=4294967296
abbrev Mg(h:aD)(A:Option Addr)(len:Nat)(n:Int):Prop:=Mag .u32 b32 h A len n
section
variable {h g:aD} {K:VP} {A B:Option Addr} {ac bc:Nat}
end
def C5(B:Int)(xs:List Int)(i:Nat):val B (xs.take (i+1))=val B (xs.take i)+B^i*xs.getD i 0:=by
 by_cases a:i<xs.length
 ·exact K3 B a
 ·rw [aE o,aE o]
  grind
def A5i{c:Int}:Int.fdiv c (2^(min ((32:Int)).toNat 64))=c/4294967296:=by
 grind
def Gf{B P v c:Int}:v+P*(c%B)+c/B*(P*B)=v+P*c:=by
 have:=Int.emod_add_mul_ediv c B
 grind
section
variable {h g:aD} {K:VP} {A B:Option Addr} {ac bc:Nat}
end
