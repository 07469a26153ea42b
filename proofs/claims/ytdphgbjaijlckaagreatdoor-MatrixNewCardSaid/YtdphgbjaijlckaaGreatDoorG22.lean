/- A part. -/
import Derived.Test.YtdphgbjaijlckaaGreatDoorG20
import Derived.Test.YtdphgbjaijlckaaGreatDoorG21
set_option linter.all false
open List renaming flatMap_cons->aC,size_toArray->aG,replicate->aI
open Nat renaming one_mul->aD,add_mul->aE
open _root_.Go renaming TypeId->aF,Addr->aJ
open _root_.Go.Proofs.YtdphgbjaijlckaaGreatDoor renaming Heap->aH
namespace Go.Proofs.YtdphgbjaijlckaaGreatDoor
open Go
structure EncS (α:Type) where
 enc:α->List Value
 size:Nat
 len:∀ x,(enc x).length=size
 one:∀ x,∀ v∈enc x,Qx v=true
abbrev Enc(α:Type):=Inhabited (EncS α)
abbrev enc{α:Type}[E:Enc α](x:α):List Value:=E.default.enc x
section
variable {α:Type} [E:Enc α]
def I7(xs:List α):(xs.flatMap enc).length=xs.length*E.default.size:=by
 induction xs with
 | nil=>simp
 | cons x xs ih=>rw [aC,List.length_append,ih,E.default.len,List.length_cons,aE,aD,Nat.add_comm]
def Ot(xs:List α):∀ i,(xs.flatMap enc).take (i*E.default.size)=(xs.take i).flatMap enc:=by
 induction xs with
 | nil=>grind
 | cons x xs ih=>
  intro i
  cases i with
  | zero=>simp
  | succ i=>
   rw [aC,List.take_succ_cons,aC,aE,aD,List.take_append,E.default.len,List.take_of_length_le (by rw [E.default.len];omega),Nat.add_sub_cancel,ih]
def Ij(xs:List α):∀ i,(xs.flatMap enc).drop (i*E.default.size)=(xs.drop i).flatMap enc:=by
 induction xs with
 | nil=>grind
 | cons x xs ih=>
  intro i
  cases i with
  | zero=>simp
  | succ i=>
   rw [aC,List.drop_succ_cons,aE,aD,List.drop_append,E.default.len,List.drop_of_length_le (by rw [E.default.len];omega),Nat.add_sub_cancel,ih,List.nil_append]
def Rg(xs:List α){i:Nat}(hi:i<xs.length){j:Nat}(hj:j<E.default.size):(xs.flatMap enc)[i*E.default.size+j]? = (enc xs[i])[j]? :=by
 have a:(xs.flatMap enc)[i*E.default.size+j]? = ((xs.flatMap enc).drop (i*E.default.size))[j]? :=gz0
 rw [a,Ij,List.drop_eq_getElem_cons hi,aC,List.getElem?_append_left (by rw [E.default.len];exact hj)]
def Lp(xs:List α){i:Nat}(hi:i<xs.length)(y:α):H0 (xs.flatMap enc) (i*E.default.size) (enc y)=(xs.set i y).flatMap enc:=by
 have b:xs.set i y=xs.take i++y::xs.drop (i+1):=List.set_eq_take_append_cons_drop▸gz0
 have a:i*E.default.size+(enc y).length=(i+1)*E.default.size:=by rw [E.default.len,aE,aD]
 unfold H0
 rw [a,Ot,Ij,b,List.flatMap_append,aC,List.append_assoc]
def SlF(h:aH)(A:Option aJ)(xs:List α):Prop:=SlV h A (xs.flatMap enc)
def SlF.mono{h h':aH}(hl:h.le h'){A:Option aJ}{xs:List α}(s:SlF h A xs):SlF h' A xs:=SlV.mono hl s
def SlF.nil{h:aH}{A:Option aJ}:SlF h A ([]:List α):=.inl rfl
def SlF.at(pos:0<E.default.size){h:aH}{A:Option aJ}{xs:List α}(s:SlF h A xs){i:Nat}(hi:i<xs.length):∃ a,A=some a/\∀ j v,(enc xs[i])[j]? = some v->h.cell? (Addr.add (Addr.add a (i*E.default.size)) j)=some v:=by
 have k:=I7 xs
 have d:(i+1)*E.default.size<=xs.length*E.default.size:=Nat.mul_le_mul_right _ hi
 rw [aE,aD] at d
 obtain ⟨a,f,_⟩:=SlV.at s (i:=0) o
 refine ⟨a,f,fun j v e=>?_⟩
 have c:j<E.default.size:=by
  by_cases c:j<E.default.size
  ·exact c
  ·rw [List.getElem?_eq_none (by rw [E.default.len];omega)] at e;cases e
 obtain ⟨l,b,g⟩:=SlV.at s (i:=i*E.default.size+j) o
 rw [f] at b
 cases b
 rw [Md,g]
 have:=Rg xs hi c
 grind
def SlF.cut{h:aH}{A:Option aJ}{xs:List α}(s:SlF h A xs){c l m:Nat}(hl:l<=m)(hm:m<=xs.length)(hc:xs.length<=c):SlF h (N3 A c l E.default.size) ((xs.drop l).take (m-l)):=by
 by_cases j:m-l=0
 ·left;simp [j]
 ·rcases s with s|⟨a,e,b⟩
  ·have f:=I7 xs
   rw [s] at f
   left
   have:(((xs.drop l).take (m-l)).flatMap enc).length=0:=by
    rw [I7]
    have:E.default.size=0:=by
     rcases Nat.mul_eq_zero.1 f.symm with d|d
     ·omega
     ·exact d
    grind
   grind
  ·right
   refine ⟨a.add (l*E.default.size),?_,fun i v g=>?_⟩
   ·unfold N3;grind
   ·rw [Md]
    refine b _ v ?_
    rw [<- Ot,<- Ij,List.getElem?_take] at g
    grind
def A4m(e:aF)(g:aH)(b:Nat)(xs:List α):aH:=g.put b (.cells (xs.flatMap enc).toArray e)
def Rq(e:aF)(g:aH)(b:Nat)(xs:List α):SlF (A4m e g b xs) (some ⟨b,0,none⟩) xs:=SlV.new g b _ _ e _ (fun i v a=>gz0)
def A0x(z:α)(n:Nat)(pos:0<E.default.size):E8 (enc z).toArray n=((aI n z).flatMap enc).toArray:=by
 have a:(enc z).length=E.default.size:=E.default.len z
 apply Array.ext
 ·simp [E8,I7,a]
 ·intro i c e
  simp only [E8,aG,a,Array.size_map,Array.size_range] at c
  have f:i/E.default.size<n:=Nat.div_lt_of_lt_mul gz0
  have b:i%E.default.size<E.default.size:=Nat.mod_lt _ pos
  have d:i/E.default.size*E.default.size+i%E.default.size=i:=by rw [Nat.mul_comm];exact Nat.div_add_mod i E.default.size
  have:=Rg (aI n z) (i:=i/E.default.size) gz0 b
  simp only [E8,Array.getElem_map,Array.getElem_range,aG,a,List.getElem_toArray]
  grind
def T9{P:Program}{t e:aF}{z:Value}{bytes:Nat}(s:SliceT P t e z E.default.size bytes){zx:α}(hz:z.cells=(enc zx).toArray){n c:Int}(h0:0<=n)(h1:n<=c)(h2:c*bytes<=281474976710656)(h3:c<=9223372036854775807){K:VP}{h:aH}
 (x:∀ b,h b=none->K (.slice (some ⟨b,0,none⟩) n.toNat c.toNat) (A4m e h b (aI c.toNat zx))):wpH P (Instr.makeSlice t (I n) (I c)) K h:=by
 refine Yb s h0 h1 h2 h3 ?_
 intro b a
 rw [hz,A0x zx _ s.pos]
 exact x b a
def Wp{P:Program}{t:aF}(one:P.cellsOf t=E.default.size/\(P.info? t).isSome=true){v:Value}{y:α}(hv:v.cells=(enc y).toArray){g:aH}{b:Nat}{e:aF}{xs:List α}{i:Nat}(hi:i<xs.length){K:Unit->aH->Prop}
 (x:K () (A4m e g b (xs.set i y))):wpH P (Instr.storeAt t (.pointer (some (Addr.add ⟨b,0,none⟩ (i*E.default.size)))) v) K (A4m e g b xs):=by
 obtain ⟨f,a⟩:=Option.isSome_iff_exists.1 one.2
 have j:f.size=E.default.size:=by simpa [Program.cellsOf,a] using one.1
 have d:=E.default.len y
 have c:(i+1)*E.default.size<=xs.length*E.default.size:=Nat.mul_le_mul_right _ hi
 rw [aE,aD] at c
 unfold Instr.storeAt
 simp only [C0,Instr.sureAddr,F3,storeVar,H1 a,j,hv,aG,d,ne_eq,not_true_eq_false,if_false]
 rw [D4,Nat.zero_add]
 refine G1 (enc y) (i*E.default.size) 0 _ (by rw [I7,d];omega) (E.default.one y) ?_
 rw [Nat.add_zero,Lp xs hi]
 exact x
def PrivF(h g:aH)(e:aF)(A:Option aJ)(c:Nat)(xs:List α):Prop:=Priv h g e E.default.size A xs.length c (xs.flatMap enc)
def PrivF.le{h g:aH}{e:aF}{A:Option aJ}{c:Nat}{xs:List α}(p:PrivF h g e A c xs):g.le h:=Priv.le p
def PrivF.sl{h g:aH}{e:aF}{A:Option aJ}{c:Nat}{xs:List α}(p:PrivF h g e A c xs):SlF h A xs:=by
 rcases p.2.2 with ⟨d,_⟩|⟨b,l,k,a,f,i,m⟩
 ·left
  have q:=p.2.1
  simp_all
 ·right
  refine ⟨_,k,fun j v n=>?_⟩
  rw [D4,f,D6]
  grind
def PrivF.nil(h:aH)(e:aF)(A:Option aJ):PrivF h h e A 0 ([]:List α):=Priv.nil h e _ A
def PrivF.after{h g h':aH}{e:aF}{A:Option aJ}{c:Nat}{xs:List α}(p:PrivF h g e A c xs)(hl:h.le h'):∃ g',g.le g'/\PrivF h' g' e A c xs:=Priv.after p hl
def Gc{P:Program}{t e ty:aF}{z:Value}{bytes:Nat}(st:SliceT P t e z E.default.size bytes){h g:aH}{A:Option aJ}{c:Nat}{xs:List α}(p:PrivF h g e A c xs){B:Option aJ}{d m:Nat}{ys:List α}(hm:m=ys.length)(sy:SlF h B ys)
 (hb:(2*(xs.length+ys.length)+192)*bytes<=281474976710656) (hn:xs.length+ys.length<=9223372036854775807) {K:VP}
 (x:∀ A' c' h' g',g.le g'->PrivF h' g' e A' c' (xs++ys)->K (.slice A' (xs++ys).length c') h'):wpH P (Builtin.append_ #[t,t] ty #[.slice A xs.length c,.slice B m d]) K h:=by
 subst hm
 refine Ez st p (ys:=ys.flatMap enc) (I7 ys) (SlV.cells sy) (fun v a=>?_) hb hn ?_
 ·obtain ⟨y,_,b⟩:=List.mem_flatMap.1 a
  exact E.default.one y v b
 ·intro A' c' h' g' f i
  have:=x A' c' h' g' f
  rw [List.length_append] at this
  refine this ?_
  unfold PrivF
  grind
end
instance:Enc (List UInt8):=⟨⟨fun l=>[.string (bs l)],1,fun _=>rfl,fun x v hv=>by rw [List.mem_singleton.1 hv];rfl⟩⟩
