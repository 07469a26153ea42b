/- A part. -/
import Derived.Test.YtmbfcbbkbefgfaaGreatDoorG22
import Derived.Test.YtmbfcbbkbefgfaaGreatDoorG23
set_option linter.all false
open List renaming flatMap_cons->aC,getElem?_eq_getElem->aF,replicate->aH,length_append->aI,size_toArray->aJ,eq_nil_of_length_eq_zero->aL
open Nat renaming one_mul->aD,add_mul->aE
open _root_.Go renaming TypeId->aG,Addr->aM
open _root_.Go.Proofs.YtmbfcbbkbefgfaaGreatDoor renaming Heap->aK
namespace Go.Proofs.YtmbfcbbkbefgfaaGreatDoor
open Go
structure EncS (α:Type) where
 enc:α->List Value
 size:Nat
 len:∀ x,(enc x).length=size
 one:∀ x,∀ v∈enc x,A8f v=true
abbrev Enc(α:Type):=Inhabited (EncS α)
abbrev enc{α:Type}[E:Enc α](x:α):List Value:=E.default.enc x
section
variable {α:Type} [E:Enc α]
def K9(xs:List α):(xs.flatMap enc).length=xs.length*E.default.size:=by
 induction xs with
 | nil=>simp
 | cons x xs ih=>rw [aC,aI,ih,E.default.len,List.length_cons,aE,aD,Nat.add_comm]
def A45(xs:List α):∀ i,(xs.flatMap enc).take (i*E.default.size)=(xs.take i).flatMap enc:=by
 induction xs with
 | nil=>intro i;simp
 | cons x xs ih=>
  intro i
  cases i with
  | zero=>simp
  | succ i=>
   rw [aC,List.take_succ_cons,aC,aE,aD,List.take_append,E.default.len,List.take_of_length_le (by rw [E.default.len];omega),Nat.add_sub_cancel,ih]
def Vg(xs:List α):∀ i,(xs.flatMap enc).drop (i*E.default.size)=(xs.drop i).flatMap enc:=by
 induction xs with
 | nil=>intro i;simp
 | cons x xs ih=>
  intro i
  cases i with
  | zero=>simp
  | succ i=>
   rw [aC,List.drop_succ_cons,aE,aD,List.drop_append,E.default.len,List.drop_of_length_le (by rw [E.default.len];omega),Nat.add_sub_cancel,ih,List.nil_append]
def A6p(xs:List α){i:Nat}(hi:i<xs.length){j:Nat}(hj:j<E.default.size):(xs.flatMap enc)[i*E.default.size+j]? = (enc xs[i])[j]? :=by
 have a:(xs.flatMap enc)[i*E.default.size+j]? = ((xs.flatMap enc).drop (i*E.default.size))[j]? :=by rw [List.getElem?_drop]
 rw [a,Vg,List.drop_eq_getElem_cons hi,aC,List.getElem?_append_left (by rw [E.default.len];exact hj)]
def A0x(xs:List α){i:Nat}(hi:i<xs.length)(y:α):N5 (xs.flatMap enc) (i*E.default.size) (enc y)=(xs.set i y).flatMap enc:=by
 have b:xs.set i y=xs.take i++y::xs.drop (i+1):=List.set_eq_take_append_cons_drop▸(by rw [iP hi])
 have a:i*E.default.size+(enc y).length=(i+1)*E.default.size:=by rw [E.default.len,aE,aD]
 unfold N5
 rw [a,A45,Vg,b,List.flatMap_append,aC,List.append_assoc]
def SlF(h:aK)(A:Option aM)(xs:List α):Prop:=SlV h A (xs.flatMap enc)
def SlF.mono{h h':aK}(hl:h.le h'){A:Option aM}{xs:List α}(s:SlF h A xs):SlF h' A xs:=SlV.mono hl s
def SlF.nil{h:aK}{A:Option aM}:SlF h A ([]:List α):=.inl rfl
def SlF.at(pos:0<E.default.size){h:aK}{A:Option aM}{xs:List α}(s:SlF h A xs){i:Nat}(hi:i<xs.length):∃ a,A=some a/\∀ j v,(enc xs[i])[j]? = some v->h.cell? (Addr.add (Addr.add a (i*E.default.size)) j)=some v:=by
 have l:=K9 xs
 have e:(i+1)*E.default.size<=xs.length*E.default.size:=Nat.mul_le_mul_right _ hi
 rw [aE,aD] at e
 obtain ⟨a,f,_⟩:=SlV.at s (i:=0) (by omega)
 refine ⟨a,f,fun j v d=>?_⟩
 have c:j<E.default.size:=by
  by_cases c:j<E.default.size
  ·exact c
  ·rw [List.getElem?_eq_none (by rw [E.default.len];omega)] at d;cases d
 obtain ⟨k,b,g⟩:=SlV.at s (i:=i*E.default.size+j) (by omega)
 rw [f] at b
 cases b
 rw [A1v,g]
 have:=A6p xs hi c
 rw [aF (by omega),d] at this
 exact this
def SlF.cut{h:aK}{A:Option aM}{xs:List α}(s:SlF h A xs){c l m:Nat}(hl:l<=m)(hm:m<=xs.length)(hc:xs.length<=c):SlF h (J9 A c l E.default.size) ((xs.drop l).take (m-l)):=by
 by_cases j:m-l=0
 ·left;simp [j]
 ·rcases s with s|⟨a,e,b⟩
  ·have f:=K9 xs
   rw [s] at f
   simp only [List.length_nil] at f
   left
   have:(((xs.drop l).take (m-l)).flatMap enc).length=0:=by
    rw [K9]
    have:E.default.size=0:=by
     rcases Nat.mul_eq_zero.1 f.symm with g|g
     ·omega
     ·exact g
    rw [this,Nat.mul_zero]
   exact aL this
  ·right
   refine ⟨a.add (l*E.default.size),?_,fun i v d=>?_⟩
   ·unfold J9;rw [iN (by omega),e];simp
   ·rw [A1v]
    refine b _ v ?_
    rw [<- A45,<- Vg,List.getElem?_take] at d
    split at d
    ·rwa [List.getElem?_drop] at d
    ·cases d
def B9i(e:aG)(g:aK)(b:Nat)(xs:List α):aK:=g.put b (.cells (xs.flatMap enc).toArray e)
def Lu(e:aG)(g:aK)(b:Nat)(xs:List α):SlF (B9i e g b xs) (some ⟨b,0,none⟩) xs:=SlV.new g b _ _ e _ (fun i v a=>by simpa using a)
def B74(z:α)(n:Nat)(pos:0<E.default.size):F2 (enc z).toArray n=((aH n z).flatMap enc).toArray:=by
 have a:(enc z).length=E.default.size:=E.default.len z
 apply Array.ext
 ·simp [F2,K9,a]
 ·intro i c f
  simp only [F2,aJ,a,Array.size_map,Array.size_range] at c
  have d:i/E.default.size<n:=Nat.div_lt_of_lt_mul (by rw [Nat.mul_comm];exact c)
  have b:i%E.default.size<E.default.size:=Nat.mod_lt _ pos
  have g:i/E.default.size*E.default.size+i%E.default.size=i:=by rw [Nat.mul_comm];exact Nat.div_add_mod i E.default.size
  have:=A6p (aH n z) (i:=i/E.default.size) (by simpa using d) b
  rw [g,List.getElem_replicate] at this
  have e:i<((aH n z).flatMap enc).length:=by simpa using f
  rw [aF e,aF (by rw [a];exact b)] at this
  simp only [F2,Array.getElem_map,Array.getElem_range,aJ,a,List.getElem_toArray]
  rw [Option.some.inj this]
  rw [getElem!_pos _ _ (by simpa [a] using b)]
  simp
def K8{P:Program}{t e:aG}{z:Value}{bytes:Nat}(s:SliceT P t e z E.default.size bytes){zx:α}(hz:z.cells=(enc zx).toArray){n c:Int}(h0:0<=n)(h1:n<=c)(h2:c*bytes<=281474976710656)(h3:c<=9223372036854775807){K:VP}{h:aK}
 (x:∀ b,h b=none->K (.slice (some ⟨b,0,none⟩) n.toNat c.toNat) (B9i e h b (aH c.toNat zx))):wpH P (Instr.makeSlice t (I n) (I c)) K h:=by
 refine B3b s h0 h1 h2 h3 ?_
 intro b a
 rw [hz,B74 zx _ s.pos]
 exact x b a
def B29{P:Program}{t:aG}(one:P.cellsOf t=E.default.size/\(P.info? t).isSome=true){v:Value}{y:α}(hv:v.cells=(enc y).toArray){g:aK}{b:Nat}{e:aG}{xs:List α}{i:Nat}(hi:i<xs.length){K:Unit->aK->Prop}
 (x:K () (B9i e g b (xs.set i y))):wpH P (Instr.storeAt t (.pointer (some (Addr.add ⟨b,0,none⟩ (i*E.default.size)))) v) K (B9i e g b xs):=by
 obtain ⟨f,a⟩:=Option.isSome_iff_exists.1 one.2
 have j:f.size=E.default.size:=by simpa [Program.cellsOf,a] using one.1
 have d:=E.default.len y
 have c:(i+1)*E.default.size<=xs.length*E.default.size:=Nat.mul_le_mul_right _ hi
 rw [aE,aD] at c
 unfold Instr.storeAt
 simp only [C5,Instr.sureAddr,G2,storeVar,N4 a,j,hv,aJ,d,ne_eq,not_true_eq_false,if_false]
 rw [E6,Nat.zero_add]
 unfold B9i
 refine J8 (enc y) (i*E.default.size) 0 _ (by rw [K9,d];omega) (E.default.one y) ?_
 rw [Nat.add_zero,A0x xs hi]
 exact x
def PrivF(h g:aK)(e:aG)(A:Option aM)(c:Nat)(xs:List α):Prop:=Priv h g e E.default.size A xs.length c (xs.flatMap enc)
def PrivF.le{h g:aK}{e:aG}{A:Option aM}{c:Nat}{xs:List α}(p:PrivF h g e A c xs):g.le h:=Priv.le p
def PrivF.sl{h g:aK}{e:aG}{A:Option aM}{c:Nat}{xs:List α}(p:PrivF h g e A c xs):SlF h A xs:=by
 have q:=K9 xs
 rcases p.2.2 with ⟨f,_⟩|⟨b,i,l,m,n,k,d⟩
 ·left
  have o:=p.2.1
  have:xs.length=0:=by omega
  rw [aL this];rfl
 ·right
  refine ⟨_,l,fun j v a=>?_⟩
  rw [E6,n,E7]
  rw [<- d,List.getElem?_take] at a
  split at a
  ·simpa using a
  ·cases a
def PrivF.nil(h:aK)(e:aG)(A:Option aM):PrivF h h e A 0 ([]:List α):=Priv.nil h e _ A
def PrivF.after{h g h':aK}{e:aG}{A:Option aM}{c:Nat}{xs:List α}(p:PrivF h g e A c xs)(hl:h.le h'):∃ g',g.le g'/\PrivF h' g' e A c xs:=Priv.after p hl
def Y3{P:Program}{t e ty:aG}{z:Value}{bytes:Nat}(st:SliceT P t e z E.default.size bytes){h g:aK}{A:Option aM}{c:Nat}{xs:List α}(p:PrivF h g e A c xs){B:Option aM}{d m:Nat}{ys:List α}(hm:m=ys.length)(sy:SlF h B ys)
 (hb:(2*(xs.length+ys.length)+192)*bytes<=281474976710656) (hn:xs.length+ys.length<=9223372036854775807) {K:VP}
 (x:∀ A' c' h' g',g.le g'->PrivF h' g' e A' c' (xs++ys)->K (.slice A' (xs++ys).length c') h'):wpH P (Builtin.append_ #[t,t] ty #[.slice A xs.length c,.slice B m d]) K h:=by
 subst hm
 refine Oy st p (ys:=ys.flatMap enc) (K9 ys) (SlV.cells sy) (fun v a=>?_) hb hn ?_
 ·obtain ⟨y,_,f⟩:=List.mem_flatMap.1 a
  exact E.default.one y v f
 ·intro A' c' h' g' i b
  have:=x A' c' h' g' i
  rw [aI] at this
  refine this ?_
  unfold PrivF
  rw [aI,List.flatMap_append];exact b
end
instance:Enc (List UInt8):=⟨⟨fun l=>[.string (bs l)],1,fun _=>rfl,fun x v hv=>by rw [List.mem_singleton.1 hv];rfl⟩⟩
