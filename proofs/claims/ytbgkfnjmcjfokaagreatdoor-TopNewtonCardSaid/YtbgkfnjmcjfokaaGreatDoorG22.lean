/- A part. -/
import Derived.Test.YtbgkfnjmcjfokaaGreatDoorG20
import Derived.Test.YtbgkfnjmcjfokaaGreatDoorG21
set_option linter.all false
open List renaming flatMap_cons->aC,length_append->aJ,size_toArray->aK,replicate->aN
open Nat renaming one_mul->aF,add_mul->aH
open _root_.Go renaming TypeId->aE,Addr->aL
open _root_.Go.Proofs.YtbgkfnjmcjfokaaGreatDoor renaming Heap->aI
namespace Go.Proofs.YtbgkfnjmcjfokaaGreatDoor
open Go
structure EncS (α:Type) where
 enc:α->List Value
 size:Nat
 len:∀ x,(enc x).length=size
 one:∀ x,∀ v∈enc x,Jz v=true
abbrev Enc(α:Type):=Inhabited (EncS α)
abbrev enc{α:Type}[E:Enc α](x:α):List Value:=E.default.enc x
section
variable {α:Type} [E:Enc α]
def I7(xs:List α):(xs.flatMap enc).length=xs.length*E.default.size:=by
 induction xs with
 | nil=>simp
 | cons x xs ih=>rw [aC,aJ,ih,E.default.len,List.length_cons,aH,aF,Nat.add_comm]
def A1g(xs:List α):∀ i,(xs.flatMap enc).take (i*E.default.size)=(xs.take i).flatMap enc:=by
 induction xs with
 | nil=>grind
 | cons x xs ih=>
  intro i
  cases i with
  | zero=>simp
  | succ i=>
   rw [aC,List.take_succ_cons,aC,aH,aF,List.take_append,E.default.len,List.take_of_length_le (by rw [E.default.len];omega),Nat.add_sub_cancel,ih]
def Sw(xs:List α):∀ i,(xs.flatMap enc).drop (i*E.default.size)=(xs.drop i).flatMap enc:=by
 induction xs with
 | nil=>grind
 | cons x xs ih=>
  intro i
  cases i with
  | zero=>simp
  | succ i=>
   rw [aC,List.drop_succ_cons,aH,aF,List.drop_append,E.default.len,List.drop_of_length_le (by rw [E.default.len];omega),Nat.add_sub_cancel,ih,List.nil_append]
def A3s(xs:List α){i:Nat}(hi:i<xs.length){j:Nat}(hj:j<E.default.size):(xs.flatMap enc)[i*E.default.size+j]? = (enc xs[i])[j]? :=by
 have a:(xs.flatMap enc)[i*E.default.size+j]? = ((xs.flatMap enc).drop (i*E.default.size))[j]? :=gz0
 rw [a,Sw,List.drop_eq_getElem_cons hi,aC,List.getElem?_append_left (by rw [E.default.len];exact hj)]
def Yp(xs:List α){i:Nat}(hi:i<xs.length)(y:α):F2 (xs.flatMap enc) (i*E.default.size) (enc y)=(xs.set i y).flatMap enc:=by
 have b:xs.set i y=xs.take i++y::xs.drop (i+1):=List.set_eq_take_append_cons_drop▸gz0
 have a:i*E.default.size+(enc y).length=(i+1)*E.default.size:=by rw [E.default.len,aH,aF]
 unfold F2
 rw [a,A1g,Sw,b,List.flatMap_append,aC,List.append_assoc]
def SlF(h:aI)(A:Option aL)(xs:List α):Prop:=SlV h A (xs.flatMap enc)
def SlF.mono{h h':aI}(hl:h.le h'){A:Option aL}{xs:List α}(s:SlF h A xs):SlF h' A xs:=SlV.mono hl s
def SlF.nil{h:aI}{A:Option aL}:SlF h A ([]:List α):=.inl rfl
def SlF.at(pos:0<E.default.size){h:aI}{A:Option aL}{xs:List α}(s:SlF h A xs){i:Nat}(hi:i<xs.length):∃ a,A=some a/\∀ j v,(enc xs[i])[j]? = some v->h.cell? (Addr.add (Addr.add a (i*E.default.size)) j)=some v:=by
 have l:=I7 xs
 have d:(i+1)*E.default.size<=xs.length*E.default.size:=Nat.mul_le_mul_right _ hi
 rw [aH,aF] at d
 obtain ⟨a,g,_⟩:=SlV.at s (i:=0) o
 refine ⟨a,g,fun j v e=>?_⟩
 have c:j<E.default.size:=by
  by_cases c:j<E.default.size
  ·exact c
  ·rw [List.getElem?_eq_none (by rw [E.default.len];omega)] at e;cases e
 obtain ⟨m,b,k⟩:=SlV.at s (i:=i*E.default.size+j) o
 rw [g] at b
 cases b
 rw [T8,k]
 have:=A3s xs hi c
 grind
def SlF.cut{h:aI}{A:Option aL}{xs:List α}(s:SlF h A xs){c l m:Nat}(hl:l<=m)(hm:m<=xs.length)(hc:xs.length<=c):SlF h (U3 A c l E.default.size) ((xs.drop l).take (m-l)):=by
 by_cases k:m-l=0
 ·left;simp [k]
 ·rcases s with s|⟨a,e,b⟩
  ·have g:=I7 xs
   rw [s] at g
   left
   have:(((xs.drop l).take (m-l)).flatMap enc).length=0:=by
    rw [I7]
    have:E.default.size=0:=by
     rcases Nat.mul_eq_zero.1 g.symm with d|d
     ·omega
     ·exact d
    grind
   grind
  ·right
   refine ⟨a.add (l*E.default.size),?_,fun i v j=>?_⟩
   ·unfold U3;grind
   ·rw [T8]
    refine b _ v ?_
    rw [<- A1g,<- Sw,List.getElem?_take] at j
    grind
def W9(e:aE)(g:aI)(b:Nat)(xs:List α):aI:=g.put b (.cells (xs.flatMap enc).toArray e)
def R1{e:aE}{g:aI}{b:Nat}(hb:g b=none)(xs:List α):g.le (W9 e g b xs):=Heap.le_put _ hb
def U4(e:aE)(g:aI)(b:Nat)(xs:List α):SlF (W9 e g b xs) (some ⟨b,0,none⟩) xs:=SlV.new g b _ _ e _ (fun i v a=>gz0)
def Pd{e:aE}{g h':aI}{b:Nat}{xs:List α}(hb:g b=none)(hl:(W9 e g b xs).le h'):∃ g',g.le g'/\g' b=none/\h'=W9 e g' b xs:=Jp hb hl
def B2y(z:α)(n:Nat)(pos:0<E.default.size):J1 (enc z).toArray n=((aN n z).flatMap enc).toArray:=by
 have a:(enc z).length=E.default.size:=E.default.len z
 apply Array.ext
 ·simp [J1,I7,a]
 ·intro i c e
  simp only [J1,aK,a,Array.size_map,Array.size_range] at c
  have g:i/E.default.size<n:=Nat.div_lt_of_lt_mul gz0
  have b:i%E.default.size<E.default.size:=Nat.mod_lt _ pos
  have d:i/E.default.size*E.default.size+i%E.default.size=i:=by rw [Nat.mul_comm];exact Nat.div_add_mod i E.default.size
  have:=A3s (aN n z) (i:=i/E.default.size) gz0 b
  simp only [J1,Array.getElem_map,Array.getElem_range,aK,a,List.getElem_toArray]
  grind
def D8{P:Program}{t e:aE}{z:Value}{bytes:Nat}(s:SliceT P t e z E.default.size bytes){zx:α}(hz:z.cells=(enc zx).toArray){n c:Int}(h0:0<=n)(h1:n<=c)(h2:c*bytes<=281474976710656)(h3:c<=9223372036854775807){K:VP}{h:aI}
 (x:∀ b,h b=none->K (.slice (some ⟨b,0,none⟩) n.toNat c.toNat) (W9 e h b (aN c.toNat zx))):wpH P (Instr.makeSlice t (I n) (I c)) K h:=by
 refine A9k s h0 h1 h2 h3 ?_
 intro b a
 rw [hz,B2y zx _ s.pos]
 exact x b a
def Bv{P:Program}{t:aE}(one:P.cellsOf t=E.default.size/\(P.info? t).isSome=true){v:Value}{y:α}(hv:v.cells=(enc y).toArray){g:aI}{b:Nat}{e:aE}{xs:List α}{i:Nat}(hi:i<xs.length){K:Unit->aI->Prop}
 (x:K () (W9 e g b (xs.set i y))):wpH P (Instr.storeAt t (.pointer (some (Addr.add ⟨b,0,none⟩ (i*E.default.size)))) v) K (W9 e g b xs):=by
 obtain ⟨j,a⟩:=Option.isSome_iff_exists.1 one.2
 have k:j.size=E.default.size:=by simpa [Program.cellsOf,a] using one.1
 have d:=E.default.len y
 have c:(i+1)*E.default.size<=xs.length*E.default.size:=Nat.mul_le_mul_right _ hi
 rw [aH,aF] at c
 unfold Instr.storeAt
 simp only [C1,Instr.sureAddr,I4,storeVar,L4 a,k,hv,aK,d,ne_eq,not_true_eq_false,if_false]
 rw [D4,Nat.zero_add]
 refine I3 (enc y) (i*E.default.size) 0 _ (by rw [I7,d];omega) (E.default.one y) ?_
 rw [Nat.add_zero,Yp xs hi]
 exact x
def PrivF(h g:aI)(e:aE)(A:Option aL)(c:Nat)(xs:List α):Prop:=Priv h g e E.default.size A xs.length c (xs.flatMap enc)
def PrivF.le{h g:aI}{e:aE}{A:Option aL}{c:Nat}{xs:List α}(p:PrivF h g e A c xs):g.le h:=Priv.le p
def PrivF.sl{h g:aI}{e:aE}{A:Option aL}{c:Nat}{xs:List α}(p:PrivF h g e A c xs):SlF h A xs:=by
 rcases p.2.2 with ⟨d,_⟩|⟨b,m,l,a,i,k,n⟩
 ·left
  have r:=p.2.1
  simp_all
 ·right
  refine ⟨_,l,fun j v q=>?_⟩
  rw [D4,i,C4]
  grind
def PrivF.nil(h:aI)(e:aE)(A:Option aL):PrivF h h e A 0 ([]:List α):=Priv.nil h e _ A
def PrivF.after{h g h':aI}{e:aE}{A:Option aL}{c:Nat}{xs:List α}(p:PrivF h g e A c xs)(hl:h.le h'):∃ g',g.le g'/\PrivF h' g' e A c xs:=Priv.after p hl
def Af{P:Program}{t e ty:aE}{z:Value}{bytes:Nat}(st:SliceT P t e z E.default.size bytes){h g:aI}{A:Option aL}{c:Nat}{xs:List α}(p:PrivF h g e A c xs){B:Option aL}{d m:Nat}{ys:List α}(hm:m=ys.length)(sy:SlF h B ys)
 (hb:(2*(xs.length+ys.length)+192)*bytes<=281474976710656) (hn:xs.length+ys.length<=9223372036854775807) {K:VP}
 (x:∀ A' c' h' g',g.le g'->PrivF h' g' e A' c' (xs++ys)->K (.slice A' (xs++ys).length c') h'):wpH P (Builtin.append_ #[t,t] ty #[.slice A xs.length c,.slice B m d]) K h:=by
 subst hm
 refine Tp st p (ys:=ys.flatMap enc) (I7 ys) (SlV.cells sy) (fun v a=>?_) hb hn ?_
 ·obtain ⟨y,_,b⟩:=List.mem_flatMap.1 a
  exact E.default.one y v b
 ·intro A' c' h' g' i j
  have:=x A' c' h' g' i
  rw [aJ] at this
  refine this ?_
  unfold PrivF
  grind
def Xl{P:Program}{t e ty:aE}{z:Value}{bytes:Nat}(st:SliceT P t e z E.default.size bytes){h g:aI}{A:Option aL}{c:Nat}{xs:List α}(p:PrivF h g e A c xs){v:Value}{y:α}(hv:v.cells=(enc y).toArray)(hsz:E.default.size<=1000)
 (hb:(2*(xs.length+1)+192)*bytes<=281474976710656) (hn:xs.length+1<=9223372036854775807) {K:Option aL->Nat->Nat->aI->Prop}
 (x:∀ A' c' h' g',g.le g'->PrivF h' g' e A' c' (xs++[y])->K A' (xs.length+1) c' h'):
 wpH P (Instr.buildSlice t 1 #[(0,v)]) (fun v' hp=>∃ (B:Option aL) (m d:Nat),v'= .slice B m d/\wpH P (Builtin.append_ #[t,t] ty #[.slice A xs.length c,.slice B m d]) (fun v1 hp1=>∃ (A':Option aL) (n' c':Nat),v1= .slice A' n' c'/\K A' n' c' hp1) hp) h:=by
 refine H8 st (vs:=[v]) (fun u r=>by rw [List.mem_singleton.1 r,hv];simp [E.default.len]) rfl gz0 rfl ?_
 intro b a
 have j:[v].flatMap (fun v=>v.cells.toList)=[y].flatMap enc:=by simp [hv]
 rw [j]
 refine ⟨_,_,_,rfl,?_⟩
 have q:PrivF (h.put b (.cells ([y].flatMap enc).toArray e)) (g.put b (.cells ([y].flatMap enc).toArray e)) e A c xs:=Priv.put p a _
 refine Af st q (ys:=[y]) rfl (U4 e h b [y]) hb hn ?_
 intro A' c' h' g' s hp
 have l:g.le (g.put b (.cells ([y].flatMap enc).toArray e)):=by
  intro k o n
  have i:k≠b:=by
   rintro rfl
   rw [Priv.le p k o n] at a;cases a
  rw [B6 _ _ i];exact n
 refine ⟨_,_,_,rfl,?_⟩
 rw [aJ]
 exact x A' c' h' g' (A0 l s) hp
end
instance:Enc (List UInt8):=⟨⟨fun l=>[.string (bs l)],1,fun _=>rfl,fun x v hv=>by rw [List.mem_singleton.1 hv];rfl⟩⟩
