/- A part. -/
import Derived.Test.YtmbfcbbkbefgfaaGreatDoorG17
import Derived.Test.YtmbfcbbkbefgfaaGreatDoorG25
set_option linter.all false
open List renaming flatMap_cons->aC,length_append->aD,getElem?_eq_getElem->aG,replicate->aI,size_toArray->aK,eq_nil_of_length_eq_zero->aM
open Nat renaming one_mul->aE,add_mul->aF
open _root_.Go renaming TypeId->aH,Addr->aL
open _root_.Go.Proofs.YtmbfcbbkbefgfaaGreatDoor renaming Heap->aJ
namespace Go.Proofs.YtmbfcbbkbefgfaaGreatDoor
open Go
structure EncS (α:Type) where
 enc:α->List Value
 size:Nat
 len:∀ x,(enc x).length=size
 one:∀ x,∀ v∈enc x,St v=true
abbrev Enc(α:Type):=Inhabited (EncS α)
abbrev enc{α:Type}[E:Enc α](x:α):List Value:=E.default.enc x
section
variable {α:Type} [E:Enc α]
def O6(xs:List α):(xs.flatMap enc).length=xs.length*E.default.size:=by
 induction xs with
 | nil=>simp
 | cons x xs ih=>rw [aC,aD,ih,E.default.len,List.length_cons,aF,aE,Nat.add_comm]
def A02(xs:List α):∀ i,(xs.flatMap enc).take (i*E.default.size)=(xs.take i).flatMap enc:=by
 induction xs with
 | nil=>intro i;simp
 | cons x xs ih=>
  intro i
  cases i with
  | zero=>simp
  | succ i=>
   rw [aC,List.take_succ_cons,aC,aF,aE,List.take_append,E.default.len,List.take_of_length_le (by rw [E.default.len];omega),Nat.add_sub_cancel,ih]
def Qq(xs:List α):∀ i,(xs.flatMap enc).drop (i*E.default.size)=(xs.drop i).flatMap enc:=by
 induction xs with
 | nil=>intro i;simp
 | cons x xs ih=>
  intro i
  cases i with
  | zero=>simp
  | succ i=>
   rw [aC,List.drop_succ_cons,aF,aE,List.drop_append,E.default.len,List.drop_of_length_le (by rw [E.default.len];omega),Nat.add_sub_cancel,ih,List.nil_append]
def A2c(xs:List α){i:Nat}(hi:i<xs.length){j:Nat}(hj:j<E.default.size):(xs.flatMap enc)[i*E.default.size+j]? = (enc xs[i])[j]? :=by
 have a:(xs.flatMap enc)[i*E.default.size+j]? = ((xs.flatMap enc).drop (i*E.default.size))[j]? :=by rw [List.getElem?_drop]
 rw [a,Qq,List.drop_eq_getElem_cons hi,aC,List.getElem?_append_left (by rw [E.default.len];exact hj)]
def A3p(xs:List α){i:Nat}(hi:i<xs.length)(y:α):H8 (xs.flatMap enc) (i*E.default.size) (enc y)=(xs.set i y).flatMap enc:=by
 have a:xs.set i y=xs.take i++y::xs.drop (i+1):=List.set_eq_take_append_cons_drop▸(by rw [iP hi])
 have b:i*E.default.size+(enc y).length=(i+1)*E.default.size:=by rw [E.default.len,aF,aE]
 unfold H8
 rw [b,A02,Qq,a,List.flatMap_append,aC,List.append_assoc]
def SlF(h:aJ)(A:Option aL)(xs:List α):Prop:=SlV h A (xs.flatMap enc)
def SlF.mono{h h':aJ}(hl:h.le h'){A:Option aL}{xs:List α}(s:SlF h A xs):SlF h' A xs:=SlV.mono hl s
def SlF.nil{h:aJ}{A:Option aL}:SlF h A ([]:List α):=.inl rfl
def SlF.at(pos:0<E.default.size){h:aJ}{A:Option aL}{xs:List α}(s:SlF h A xs){i:Nat}(hi:i<xs.length):∃ a,A=some a/\∀ j v,(enc xs[i])[j]? = some v->h.cell? (Addr.add (Addr.add a (i*E.default.size)) j)=some v:=by
 have l:=O6 xs
 have d:(i+1)*E.default.size<=xs.length*E.default.size:=Nat.mul_le_mul_right _ hi
 rw [aF,aE] at d
 obtain ⟨a,g,_⟩:=SlV.at s (i:=0) (by omega)
 refine ⟨a,g,fun j v e=>?_⟩
 have c:j<E.default.size:=by
  by_cases c:j<E.default.size
  ·exact c
  ·rw [List.getElem?_eq_none (by rw [E.default.len];omega)] at e;cases e
 obtain ⟨m,b,k⟩:=SlV.at s (i:=i*E.default.size+j) (by omega)
 rw [g] at b
 cases b
 rw [Ah,k]
 have:=A2c xs hi c
 rw [aG (by omega),e] at this
 exact this
def SlF.cut{h:aJ}{A:Option aL}{xs:List α}(s:SlF h A xs){c l m:Nat}(hl:l<=m)(hm:m<=xs.length)(hc:xs.length<=c):SlF h (J6 A c l E.default.size) ((xs.drop l).take (m-l)):=by
 by_cases k:m-l=0
 ·left;simp [k]
 ·rcases s with s|⟨a,e,b⟩
  ·have g:=O6 xs
   rw [s] at g
   simp only [List.length_nil] at g
   left
   have:(((xs.drop l).take (m-l)).flatMap enc).length=0:=by
    rw [O6]
    have:E.default.size=0:=by
     rcases Nat.mul_eq_zero.1 g.symm with j|j
     ·omega
     ·exact j
    rw [this,Nat.mul_zero]
   exact aM this
  ·right
   refine ⟨a.add (l*E.default.size),?_,fun i v d=>?_⟩
   ·unfold J6;rw [iN (by omega),e];simp
   ·rw [Ah]
    refine b _ v ?_
    rw [<- A02,<- Qq,List.getElem?_take] at d
    split at d
    ·rwa [List.getElem?_drop] at d
    ·cases d
def B29(e:aH)(g:aJ)(b:Nat)(xs:List α):aJ:=g.put b (.cells (xs.flatMap enc).toArray e)
def A8v(e:aH)(g:aJ)(b:Nat)(xs:List α):SlF (B29 e g b xs) (some ⟨b,0,none⟩) xs:=SlV.new g b _ _ e _ (fun i v a=>by simpa using a)
def B1d(z:α)(n:Nat)(pos:0<E.default.size):F5 (enc z).toArray n=((aI n z).flatMap enc).toArray:=by
 have a:(enc z).length=E.default.size:=E.default.len z
 apply Array.ext
 ·simp [F5,O6,a]
 ·intro i c d
  simp only [F5,aK,a,Array.size_map,Array.size_range] at c
  have e:i/E.default.size<n:=Nat.div_lt_of_lt_mul (by rw [Nat.mul_comm];exact c)
  have b:i%E.default.size<E.default.size:=Nat.mod_lt _ pos
  have g:i/E.default.size*E.default.size+i%E.default.size=i:=by rw [Nat.mul_comm];exact Nat.div_add_mod i E.default.size
  have:=A2c (aI n z) (i:=i/E.default.size) (by simpa using e) b
  rw [g,List.getElem_replicate] at this
  have j:i<((aI n z).flatMap enc).length:=by simpa using d
  rw [aG j,aG (by rw [a];exact b)] at this
  simp only [F5,Array.getElem_map,Array.getElem_range,aK,a,List.getElem_toArray]
  rw [Option.some.inj this]
  rw [getElem!_pos _ _ (by simpa [a] using b)]
  simp
def Bj{P:Program}{t e:aH}{z:Value}{bytes:Nat}(s:SliceT P t e z E.default.size bytes){zx:α}(hz:z.cells=(enc zx).toArray){n c:Int}(h0:0<=n)(h1:n<=c)(h2:c*bytes<=281474976710656)(h3:c<=9223372036854775807){K:VP}{h:aJ}
 (x:∀ b,h b=none->K (.slice (some ⟨b,0,none⟩) n.toNat c.toNat) (B29 e h b (aI c.toNat zx))):wpH P (Instr.makeSlice t (I n) (I c)) K h:=by
 refine A7n s h0 h1 h2 h3 ?_
 intro b a
 rw [hz,B1d zx _ s.pos]
 exact x b a
def A6w{P:Program}{t:aH}(one:P.cellsOf t=E.default.size/\(P.info? t).isSome=true){v:Value}{y:α}(hv:v.cells=(enc y).toArray){g:aJ}{b:Nat}{e:aH}{xs:List α}{i:Nat}(hi:i<xs.length){K:Unit->aJ->Prop}
 (x:K () (B29 e g b (xs.set i y))):wpH P (Instr.storeAt t (.pointer (some (Addr.add ⟨b,0,none⟩ (i*E.default.size)))) v) K (B29 e g b xs):=by
 obtain ⟨k,a⟩:=Option.isSome_iff_exists.1 one.2
 have j:k.size=E.default.size:=by simpa [Program.cellsOf,a] using one.1
 have d:=E.default.len y
 have c:(i+1)*E.default.size<=xs.length*E.default.size:=Nat.mul_le_mul_right _ hi
 rw [aF,aE] at c
 unfold Instr.storeAt
 simp only [B9,Instr.sureAddr,E9,storeVar,J2 a,j,hv,aK,d,ne_eq,not_true_eq_false,if_false]
 rw [H7,Nat.zero_add]
 unfold B29
 refine H1 (enc y) (i*E.default.size) 0 _ (by rw [O6,d];omega) (E.default.one y) ?_
 rw [Nat.add_zero,A3p xs hi]
 exact x
def PrivF(h g:aJ)(e:aH)(A:Option aL)(c:Nat)(xs:List α):Prop:=Priv h g e E.default.size A xs.length c (xs.flatMap enc)
def PrivF.le{h g:aJ}{e:aH}{A:Option aL}{c:Nat}{xs:List α}(p:PrivF h g e A c xs):g.le h:=Priv.le p
def PrivF.sl{h g:aJ}{e:aH}{A:Option aL}{c:Nat}{xs:List α}(p:PrivF h g e A c xs):SlF h A xs:=by
 have q:=O6 xs
 rcases p.2.2 with ⟨n,_⟩|⟨b,m,i,k,o,l,d⟩
 ·left
  have r:=p.2.1
  have:xs.length=0:=by omega
  rw [aM this];rfl
 ·right
  refine ⟨_,i,fun j v a=>?_⟩
  rw [H7,o,D7]
  rw [<- d,List.getElem?_take] at a
  split at a
  ·simpa using a
  ·cases a
def PrivF.nil(h:aJ)(e:aH)(A:Option aL):PrivF h h e A 0 ([]:List α):=Priv.nil h e _ A
def PrivF.after{h g h':aJ}{e:aH}{A:Option aL}{c:Nat}{xs:List α}(p:PrivF h g e A c xs)(hl:h.le h'):∃ g',g.le g'/\PrivF h' g' e A c xs:=Priv.after p hl
def Mt{P:Program}{t e ty:aH}{z:Value}{bytes:Nat}(st:SliceT P t e z E.default.size bytes){h g:aJ}{A:Option aL}{c:Nat}{xs:List α}(p:PrivF h g e A c xs){B:Option aL}{d m:Nat}{ys:List α}(hm:m=ys.length)(sy:SlF h B ys)
 (hb:(2*(xs.length+ys.length)+192)*bytes<=281474976710656) (hn:xs.length+ys.length<=9223372036854775807) {K:VP}
 (x:∀ A' c' h' g',g.le g'->PrivF h' g' e A' c' (xs++ys)->K (.slice A' (xs++ys).length c') h'):wpH P (Builtin.append_ #[t,t] ty #[.slice A xs.length c,.slice B m d]) K h:=by
 subst hm
 refine Rp st p (ys:=ys.flatMap enc) (O6 ys) (SlV.cells sy) (fun v b=>?_) hb hn ?_
 ·obtain ⟨y,_,j⟩:=List.mem_flatMap.1 b
  exact E.default.one y v j
 ·intro A' c' h' g' a i
  have:=x A' c' h' g' a
  rw [aD] at this
  refine this ?_
  unfold PrivF
  rw [aD,List.flatMap_append];exact i
def Wd{P:Program}{t e ty:aH}{z:Value}{bytes:Nat}(st:SliceT P t e z E.default.size bytes){h g:aJ}{A:Option aL}{c:Nat}{xs:List α}(p:PrivF h g e A c xs){v:Value}{y:α}(hv:v.cells=(enc y).toArray)(hsz:E.default.size<=1000)
 (hb:(2*(xs.length+1)+192)*bytes<=281474976710656) (hn:xs.length+1<=9223372036854775807) {K:Option aL->Nat->Nat->aJ->Prop}
 (x:∀ A' c' h' g',g.le g'->PrivF h' g' e A' c' (xs++[y])->K A' (xs.length+1) c' h'):
 wpH P (Instr.buildSlice t 1 #[(0,v)]) (fun v' hp=>∃ (B:Option aL) (m d:Nat),v'= .slice B m d/\wpH P (Builtin.append_ #[t,t] ty #[.slice A xs.length c,.slice B m d]) (fun v1 hp1=>∃ (A':Option aL) (n' c':Nat),v1= .slice A' n' c'/\K A' n' c' hp1) hp) h:=by
 refine Qi st (vs:=[v]) (fun u s=>by rw [List.mem_singleton.1 s,hv];simp [E.default.len]) rfl (by simp;omega) rfl ?_
 intro b a
 have i:[v].flatMap (fun v=>v.cells.toList)=[y].flatMap enc:=by simp [hv]
 rw [i]
 refine ⟨_,_,_,rfl,?_⟩
 have r:PrivF (h.put b (.cells ([y].flatMap enc).toArray e)) (g.put b (.cells ([y].flatMap enc).toArray e)) e A c xs:=Priv.put p a _
 refine Mt st r (ys:=[y]) rfl (A8v e h b [y]) hb hn ?_
 intro A' c' h' g' q hp
 have l:g.le (g.put b (.cells ([y].flatMap enc).toArray e)):=by
  intro k o n
  have j:k≠b:=by
   rintro rfl
   rw [Priv.le p k o n] at a;cases a
  rw [B6 _ _ j];exact n
 refine ⟨_,_,_,rfl,?_⟩
 rw [aD]
 exact x A' c' h' g' (Heap.le_trans l q) hp
end
instance:Enc (List UInt8):=⟨⟨fun l=>[.string (bs l)],1,fun _=>rfl,fun x v hv=>by rw [List.mem_singleton.1 hv];rfl⟩⟩
