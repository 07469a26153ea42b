/-
  Texts of this proof, merged by a program of ours.
-/
import Derived.Test.YtajkakhfcokljaaGreatDoorG23
import Derived.Test.YtajkakhfcokljaaGreatDoorG24
set_option linter.all false
open List renaming flatMap_cons->C34,getElem?_eq_getElem->C35,replicate->C38,length_append->C39,size_toArray->C3a,eq_nil_of_length_eq_zero->C3b
open Nat renaming one_mul->C36,add_mul->C37
namespace Go.Proofs.YtajkakhfcokljaaGreatDoor
open Go
structure EncS (α:Type) where
 enc:α->List Value
 size:Nat
 len:∀ x,(enc x).length=size
 one:∀ x,∀ v∈enc x,A1v v=true
abbrev Enc(α:Type):=Inhabited (EncS α)
abbrev enc{α:Type}[E:Enc α](x:α):List Value:=E.default.enc x
section
variable {α:Type} [E:Enc α]
theorem J9(xs:List α):(xs.flatMap enc).length=xs.length*E.default.size:=by
 induction xs with
 | nil=>simp
 | cons x xs ih=>rw [C34,C39,ih,E.default.len,List.length_cons,C37,C36,Nat.add_comm]
theorem A0n(xs:List α):∀ i,(xs.flatMap enc).take (i*E.default.size)=(xs.take i).flatMap enc:=by
 induction xs with
 | nil=>intro i;simp
 | cons x xs ih=>
  intro i
  cases i with
  | zero=>simp
  | succ i=>
   rw [C34,List.take_succ_cons,C34,C37,C36,List.take_append,E.default.len,List.take_of_length_le (by rw [E.default.len];omega),Nat.add_sub_cancel,ih]
theorem Rm(xs:List α):∀ i,(xs.flatMap enc).drop (i*E.default.size)=(xs.drop i).flatMap enc:=by
 induction xs with
 | nil=>intro i;simp
 | cons x xs ih=>
  intro i
  cases i with
  | zero=>simp
  | succ i=>
   rw [C34,List.drop_succ_cons,C37,C36,List.drop_append,E.default.len,List.drop_of_length_le (by rw [E.default.len];omega),Nat.add_sub_cancel,ih,List.nil_append]
theorem A2w(xs:List α){i:Nat}(hi:i<xs.length){j:Nat}(hj:j<E.default.size):(xs.flatMap enc)[i*E.default.size+j]? = (enc xs[i])[j]? :=by
 have h1:(xs.flatMap enc)[i*E.default.size+j]? = ((xs.flatMap enc).drop (i*E.default.size))[j]? :=by rw [List.getElem?_drop]
 rw [h1,Rm,List.drop_eq_getElem_cons hi,C34,List.getElem?_append_left (by rw [E.default.len];exact hj)]
theorem Xh(xs:List α){i:Nat}(hi:i<xs.length)(y:α):J7 (xs.flatMap enc) (i*E.default.size) (enc y)=(xs.set i y).flatMap enc:=by
 have e1:xs.set i y=xs.take i++y::xs.drop (i+1):=List.set_eq_take_append_cons_drop▸(by rw [if_pos hi])
 have e2:i*E.default.size+(enc y).length=(i+1)*E.default.size:=by rw [E.default.len,C37,C36]
 unfold J7
 rw [e2,A0n,Rm,e1,List.flatMap_append,C34,List.append_assoc]
def SlF(h:Heap)(A:Option Addr)(xs:List α):Prop:=SlV h A (xs.flatMap enc)
theorem SlF.mono{h h':Heap}(hl:h.le h'){A:Option Addr}{xs:List α}(s:SlF h A xs):SlF h' A xs:=SlV.mono hl s
theorem SlF.nil{h:Heap}{A:Option Addr}:SlF h A ([]:List α):=.inl rfl
theorem SlF.at(pos:0<E.default.size){h:Heap}{A:Option Addr}{xs:List α}(s:SlF h A xs){i:Nat}(hi:i<xs.length):∃ a,A=some a/\∀ j v,(enc xs[i])[j]? = some v->h.cell? (Addr.add (Addr.add a (i*E.default.size)) j)=some v:=by
 have hl:=J9 xs
 have hle:(i+1)*E.default.size<=xs.length*E.default.size:=Nat.mul_le_mul_right _ hi
 rw [C37,C36] at hle
 obtain ⟨a,ha,_⟩:=SlV.at s (i:=0) (by omega)
 refine ⟨a,ha,fun j v hv=>?_⟩
 have hj:j<E.default.size:=by
  by_cases hj:j<E.default.size
  ·exact hj
  ·rw [List.getElem?_eq_none (by rw [E.default.len];omega)] at hv;cases hv
 obtain ⟨a',ha',hc⟩:=SlV.at s (i:=i*E.default.size+j) (by omega)
 rw [ha] at ha'
 cases ha'
 rw [Yk,hc]
 have:=A2w xs hi hj
 rw [C35 (by omega),hv] at this
 exact this
theorem SlF.cut{h:Heap}{A:Option Addr}{xs:List α}(s:SlF h A xs){c l m:Nat}(hl:l<=m)(hm:m<=xs.length)(hc:xs.length<=c):SlF h (K0 A c l E.default.size) ((xs.drop l).take (m-l)):=by
 by_cases he:m-l=0
 ·left;simp [he]
 ·rcases s with s|⟨a,e,hcell⟩
  ·have h0:=J9 xs
   rw [s] at h0
   simp only [List.length_nil] at h0
   left
   have:(((xs.drop l).take (m-l)).flatMap enc).length=0:=by
    rw [J9]
    have:E.default.size=0:=by
     rcases Nat.mul_eq_zero.1 h0.symm with h1|h1
     ·omega
     ·exact h1
    rw [this,Nat.mul_zero]
   exact C3b this
  ·right
   refine ⟨a.add (l*E.default.size),?_,fun i v hv=>?_⟩
   ·unfold K0;rw [if_neg (by omega),e];simp
   ·rw [Yk]
    refine hcell _ v ?_
    rw [<- A0n,<- Rm,List.getElem?_take] at hv
    split at hv
    ·rwa [List.getElem?_drop] at hv
    ·cases hv
def B4v(e:TypeId)(g:Heap)(b:Nat)(xs:List α):Heap:=g.put b (.cells (xs.flatMap enc).toArray e)
theorem A9t(e:TypeId)(g:Heap)(b:Nat)(xs:List α):SlF (B4v e g b xs) (some ⟨b,0,none⟩) xs:=SlV.new g b _ _ e _ (fun i v hv=>by simpa using hv)
theorem B2h(z:α)(n:Nat)(pos:0<E.default.size):F0 (enc z).toArray n=((C38 n z).flatMap enc).toArray:=by
 have hl:(enc z).length=E.default.size:=E.default.len z
 apply Array.ext
 ·simp [F0,J9,hl]
 ·intro i h1 h2
  simp only [F0,C3a,hl,Array.size_map,Array.size_range] at h1
  have hi:i/E.default.size<n:=Nat.div_lt_of_lt_mul (by rw [Nat.mul_comm];exact h1)
  have hm:i%E.default.size<E.default.size:=Nat.mod_lt _ pos
  have hd:i/E.default.size*E.default.size+i%E.default.size=i:=by rw [Nat.mul_comm];exact Nat.div_add_mod i E.default.size
  have:=A2w (C38 n z) (i:=i/E.default.size) (by simpa using hi) hm
  rw [hd,List.getElem_replicate] at this
  have h3:i<((C38 n z).flatMap enc).length:=by simpa using h2
  rw [C35 h3,C35 (by rw [hl];exact hm)] at this
  simp only [F0,Array.getElem_map,Array.getElem_range,C3a,hl,List.getElem_toArray]
  rw [Option.some.inj this]
  rw [getElem!_pos _ _ (by simpa [hl] using hm)]
  simp
theorem O3{P:Program}{t e:TypeId}{z:Value}{bytes:Nat}(s:SliceT P t e z E.default.size bytes){zx:α}(hz:z.cells=(enc zx).toArray){n c:Int}(h0:0<=n)(h1:n<=c)(h2:c*bytes<=281474976710656)(h3:c<=9223372036854775807){K:VP}{h:Heap}
 (x:∀ b,h b=none->K (.slice (some ⟨b,0,none⟩) n.toNat c.toNat) (B4v e h b (C38 c.toNat zx))):wpH P (Instr.makeSlice t (I n) (I c)) K h:=by
 refine A8j s h0 h1 h2 h3 ?_
 intro b hb
 rw [hz,B2h zx _ s.pos]
 exact x b hb
theorem A7q{P:Program}{t:TypeId}(one:P.cellsOf t=E.default.size/\(P.info? t).isSome=true){v:Value}{y:α}(hv:v.cells=(enc y).toArray){g:Heap}{b:Nat}{e:TypeId}{xs:List α}{i:Nat}(hi:i<xs.length){K:Unit->Heap->Prop}
 (x:K () (B4v e g b (xs.set i y))):wpH P (Instr.storeAt t (.pointer (some (Addr.add ⟨b,0,none⟩ (i*E.default.size)))) v) K (B4v e g b xs):=by
 obtain ⟨ti,hti⟩:=Option.isSome_iff_exists.1 one.2
 have hs:ti.size=E.default.size:=by simpa [Program.cellsOf,hti] using one.1
 have hl:=E.default.len y
 have hle:(i+1)*E.default.size<=xs.length*E.default.size:=Nat.mul_le_mul_right _ hi
 rw [C37,C36] at hle
 unfold Instr.storeAt
 simp only [C6,Instr.sureAddr,F7,storeVar,K4 hti,hs,hv,C3a,hl,ne_eq,not_true_eq_false,if_false]
 rw [D8,Nat.zero_add]
 unfold B4v
 refine I0 (enc y) (i*E.default.size) 0 _ (by rw [J9,hl];omega) (E.default.one y) ?_
 rw [Nat.add_zero,Xh xs hi]
 exact x
def PrivF(h g:Heap)(e:TypeId)(A:Option Addr)(c:Nat)(xs:List α):Prop:=Priv h g e E.default.size A xs.length c (xs.flatMap enc)
theorem PrivF.le{h g:Heap}{e:TypeId}{A:Option Addr}{c:Nat}{xs:List α}(p:PrivF h g e A c xs):g.le h:=Priv.le p
theorem PrivF.sl{h g:Heap}{e:TypeId}{A:Option Addr}{c:Nat}{xs:List α}(p:PrivF h g e A c xs):SlF h A xs:=by
 have hl:=J9 xs
 rcases p.2.2 with ⟨hc0,_⟩|⟨b,arr,hA,hgb,hh,hal,hat⟩
 ·left
  have h1:=p.2.1
  have:xs.length=0:=by omega
  rw [C3b this];rfl
 ·right
  refine ⟨_,hA,fun j v hj=>?_⟩
  rw [D8,hh,E6]
  rw [<- hat,List.getElem?_take] at hj
  split at hj
  ·simpa using hj
  ·cases hj
theorem PrivF.nil(h:Heap)(e:TypeId)(A:Option Addr):PrivF h h e A 0 ([]:List α):=Priv.nil h e _ A
theorem PrivF.after{h g h':Heap}{e:TypeId}{A:Option Addr}{c:Nat}{xs:List α}(p:PrivF h g e A c xs)(hl:h.le h'):∃ g',g.le g'/\PrivF h' g' e A c xs:=Priv.after p hl
theorem Ns{P:Program}{t e ty:TypeId}{z:Value}{bytes:Nat}(st:SliceT P t e z E.default.size bytes){h g:Heap}{A:Option Addr}{c:Nat}{xs:List α}(p:PrivF h g e A c xs){B:Option Addr}{d m:Nat}{ys:List α}(hm:m=ys.length)(sy:SlF h B ys)
 (hb:(2*(xs.length+ys.length)+192)*bytes<=281474976710656) (hn:xs.length+ys.length<=9223372036854775807) {K:VP}
 (x:∀ A' c' h' g',g.le g'->PrivF h' g' e A' c' (xs++ys)->K (.slice A' (xs++ys).length c') h'):wpH P (Builtin.append_ #[t,t] ty #[.slice A xs.length c,.slice B m d]) K h:=by
 subst hm
 refine Ln st p (ys:=ys.flatMap enc) (J9 ys) (SlV.cells sy) (fun v hv=>?_) hb hn ?_
 ·obtain ⟨y,_,hy⟩:=List.mem_flatMap.1 hv
  exact E.default.one y v hy
 ·intro A' c' h' g' hg hp
  have:=x A' c' h' g' hg
  rw [C39] at this
  refine this ?_
  unfold PrivF
  rw [C39,List.flatMap_append];exact hp
end
instance:Enc (List UInt8):=⟨⟨fun l=>[.string (bs l)],1,fun _=>rfl,fun x v hv=>by rw [List.mem_singleton.1 hv];rfl⟩⟩
end Go.Proofs.YtajkakhfcokljaaGreatDoor
