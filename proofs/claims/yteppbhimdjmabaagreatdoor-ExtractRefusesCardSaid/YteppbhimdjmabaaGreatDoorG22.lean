/- A part. -/
import Derived.Test.YteppbhimdjmabaaGreatDoorG20
import Derived.Test.YteppbhimdjmabaaGreatDoorG21
set_option linter.all false
open List renaming flatMap_cons->aC,length_append->aJ,size_toArray->aK,replicate->aM
open Nat renaming one_mul->aF,add_mul->aH
open _root_ renaming Nat->J,List->Z
open _root_.Go renaming TypeId->aE,Addr->aL
open _root_.Go.Proofs.YteppbhimdjmabaaGreatDoor renaming Heap->aI
namespace Go.Proofs.YteppbhimdjmabaaGreatDoor
open Go
structure EncS (α:Type) where
 enc:α->Z Value
 size:J
 len:∀ x,(enc x).length=size
 one:∀ x,∀ v∈enc x,Qj v=true
abbrev Enc(α:Type):=Inhabited (EncS α)
abbrev enc{α:Type}[E:Enc α](x:α):Z Value:=E.default.enc x
section
variable {α:Type} [E:Enc α]
def N3(xs:Z α):(xs.flatMap enc).length=xs.length*E.default.size:=by
 induction xs with
 |nil=>simp
 |cons x xs ih=>rw[aC,aJ,ih,E.default.len,List.length_cons,aH,aF,Nat.add_comm]
def A4s(xs:Z α):∀i,(xs.flatMap enc).take (i*E.default.size)=(xs.take i).flatMap enc:=by
 induction xs with
 |nil=>grind
 |cons x xs ih=>
  intro i
  cases i with
  |zero=>simp
  |succ i=>
   rw[aC,List.take_succ_cons,aC,aH,aF,List.take_append,E.default.len,List.take_of_length_le (by rw[E.default.len];omega),Nat.add_sub_cancel,ih]
def Wo(xs:Z α):∀i,(xs.flatMap enc).drop (i*E.default.size)=(xs.drop i).flatMap enc:=by
 induction xs with
 |nil=>grind
 |cons x xs ih=>
  intro i
  cases i with
  |zero=>simp
  |succ i=>
   rw[aC,List.drop_succ_cons,aH,aF,List.drop_append,E.default.len,List.drop_of_length_le (by rw[E.default.len];omega),Nat.add_sub_cancel,ih,List.nil_append]
def A78(xs:Z α){i:J}(hi:i<xs.length){j:J}(hj:j<E.default.size):(xs.flatMap enc)[i*E.default.size+j]? =(enc xs[i])[j]? :=by have a:(xs.flatMap enc)[i*E.default.size+j]? =((xs.flatMap enc).drop (i*E.default.size))[j]? :=gz0;rw[a,Wo,List.drop_eq_getElem_cons hi,aC,List.getElem?_append_left (by rw[E.default.len];exact hj)]
def A1u(xs:Z α){i:J}(hi:i<xs.length)(y:α):J0 (xs.flatMap enc) (i*E.default.size) (enc y)=(xs.set i y).flatMap enc:=by have b:xs.set i y=xs.take i++y::xs.drop (i+1):=List.set_eq_take_append_cons_drop▸gz0;have a:i*E.default.size+(enc y).length=(i+1)*E.default.size:=by{rw[E.default.len,aH,aF]};unfold J0;rw[a,A4s,Wo,b,List.flatMap_append,aC,List.append_assoc]
def SlF(h:aI)(A:Option aL)(xs:Z α):Prop:=SlV h A (xs.flatMap enc)
def SlF.mono{h h':aI}(hl:h.le h'){A:Option aL}{xs:Z α}(s:SlF h A xs):SlF h' A xs:=SlV.mono hl s
def SlF.nil{h:aI}{A:Option aL}:SlF h A ([]:Z α):=.inl rfl
def SlF.at(pos:0<E.default.size){h:aI}{A:Option aL}{xs:Z α}(s:SlF h A xs){i:J}(hi:i<xs.length):∃a,A=some a/\∀j v,(enc xs[i])[j]? = some v->h.cell? (Addr.add (Addr.add a (i*E.default.size)) j)=some v:=by have hl:=N3 xs;have d:(i+1)*E.default.size<=xs.length*E.default.size:=Nat.mul_le_mul_right _ hi;rw[aH,aF]at d;obtain⟨a,e,_⟩:=SlV.at s (i:=0) o;refine⟨a,e,fun j v f=>?_⟩;have c:j<E.default.size:=by{by_cases c:j<E.default.size;{exact c};·rw[List.getElem?_eq_none (by rw[E.default.len];omega)]at f;cases f};obtain⟨k,b,g⟩:=SlV.at s (i:=i*E.default.size+j) o;rw[e]at b;cases b;rw[Qb,g];have:=A78 xs hi c;grind
def SlF.cut{h:aI}{A:Option aL}{xs:Z α}(s:SlF h A xs){c l m:J}(hl:l<=m)(hm:m<=xs.length)(hc:xs.length<=c):SlF h (X9 A c l E.default.size) ((xs.drop l).take (m-l)):=by by_cases j:m-l=0;{left;simp[j]};·rcases s with s|⟨a,e,b⟩;{have f:=N3 xs;rw[s]at f;left;have:(((xs.drop l).take (m-l)).flatMap enc).length=0:=by{rw[N3];have:E.default.size=0:=by{rcases Nat.mul_eq_zero.1 f.symm with d|d;{omega};·exact d};grind};grind};·right;refine⟨a.add (l*E.default.size),?_,fun i v g=>?_⟩;{unfold X9;grind};·rw[Qb];refine b _ v ?_;rw[<- A4s,<- Wo,List.getElem?_take]at g;grind
def A59(e:aE)(g:aI)(b:J)(xs:Z α):aI:=g.put b (.cells (xs.flatMap enc).toArray e)
def A26{e:aE}{g:aI}{b:J}(hb:g b=none)(xs:Z α):g.le (A59 e g b xs):=Heap.le_put _ hb
def Rv(e:aE)(g:aI)(b:J)(xs:Z α):SlF (A59 e g b xs) (some ⟨b,0,none⟩) xs:=SlV.new g b _ _ e _ (fun i v a=>gz0)
def B0z{e:aE}{g h':aI}{b:J}{xs:Z α}(hb:g b=none)(hl:(A59 e g b xs).le h'):∃g',g.le g'/\g' b=none/\h'=A59 e g' b xs:=Mi hb hl
def B6i(z:α)(n:J)(pos:0<E.default.size):H9 (enc z).toArray n=((aM n z).flatMap enc).toArray:=by have hl:(enc z).length=E.default.size:=E.default.len z;apply Array.ext;{simp[H9,N3,hl]};·intro i b d;simp only[H9,aK,hl,Array.size_map,Array.size_range]at b;have e:i/E.default.size<n:=Nat.div_lt_of_lt_mul gz0;have a:i%E.default.size<E.default.size:=Nat.mod_lt _ pos;have c:i/E.default.size*E.default.size+i%E.default.size=i:=by{rw[Nat.mul_comm];exact Nat.div_add_mod i E.default.size};have:=A78 (aM n z) (i:=i/E.default.size) gz0 a;simp only[H9,Array.getElem_map,Array.getElem_range,aK,hl,List.getElem_toArray];grind
def G7{P:Program}{t e:aE}{z:Value}{bytes:J}(s:SliceT P t e z E.default.size bytes){zx:α}(hz:z.cells=(enc zx).toArray){n c:Int}(h0:0<=n)(h1:n<=c)(h2:c*bytes<=281474976710656)(h3:c<=9223372036854775807){K:VP}{h:aI} (x:∀b,h b=none->K (.slice (some ⟨b,0,none⟩) n.toNat c.toNat) (A59 e h b (aM c.toNat zx))):wpH P (Instr.makeSlice t (I n) (I c)) K h:=by refine Wi s h0 h1 h2 h3 ?_;intro b a;rw[hz,B6i zx _ s.pos];exact x b a
def B1z{P:Program}{t:aE}(one:P.cellsOf t=E.default.size/\(P.info? t).isSome=true){v:Value}{y:α}(hv:v.cells=(enc y).toArray){g:aI}{b:J}{e:aE}{xs:Z α}{i:J}(hi:i<xs.length){K:Unit->aI->Prop} (x:K () (A59 e g b (xs.set i y))):wpH P (Instr.storeAt t (.pointer (some (Addr.add ⟨b,0,none⟩ (i*E.default.size)))) v) K (A59 e g b xs):=by obtain⟨d,a⟩:=Option.isSome_iff_exists.1 one.2;have hs:d.size=E.default.size:=by{simpa[Program.cellsOf,a]using one.1};have hl:=E.default.len y;have c:(i+1)*E.default.size<=xs.length*E.default.size:=Nat.mul_le_mul_right _ hi;rw[aH,aF]at c;unfold Instr.storeAt;simp only[C8,Instr.sureAddr,I5,storeVar,K4 a,hs,hv,aK,hl,ne_eq,not_true_eq_false,if_false];rw[D9,Nat.zero_add];refine H8 (enc y) (i*E.default.size) 0 _ (by rw[N3,hl];omega) (E.default.one y) ?_;rw[Nat.add_zero,A1u xs hi];exact x
def PrivF(h g:aI)(e:aE)(A:Option aL)(c:J)(xs:Z α):Prop:=Priv h g e E.default.size A xs.length c (xs.flatMap enc)
def PrivF.le{h g:aI}{e:aE}{A:Option aL}{c:J}{xs:Z α}(p:PrivF h g e A c xs):g.le h:=Priv.le p
def PrivF.sl{h g:aI}{e:aE}{A:Option aL}{c:J}{xs:Z α}(p:PrivF h g e A c xs):SlF h A xs:=by rcases p.2.2 with⟨d,_⟩|⟨b,l,k,a,f,i,m⟩;{left;have q:=p.2.1;simp_all};·right;refine⟨_,k,fun j v n=>?_⟩;rw[D9,f,E6];grind
def PrivF.nil(h:aI)(e:aE)(A:Option aL):PrivF h h e A 0 ([]:Z α):=Priv.nil h e _ A
def R9{P:Program}{t e ty:aE}{z:Value}{bytes:J}(st:SliceT P t e z E.default.size bytes){h g:aI}{A:Option aL}{c:J}{xs:Z α}(p:PrivF h g e A c xs){B:Option aL}{d m:J}{ys:Z α}(hm:m=ys.length)(sy:SlF h B ys) (hb:(2*(xs.length+ys.length)+192)*bytes<=281474976710656) (hn:xs.length+ys.length<=9223372036854775807) {K:VP} (x:∀A' c' h' g',g.le g'->PrivF h' g' e A' c' (xs++ys)->K (.slice A' (xs++ys).length c') h'):wpH P (Builtin.append_ #[t,t] ty #[.slice A xs.length c,.slice B m d]) K h:=by subst hm;refine Bz st p (ys:=ys.flatMap enc) (N3 ys) (SlV.cells sy) (fun v a=>?_) hb hn ?_;{obtain⟨y,_,b⟩:=List.mem_flatMap.1 a;exact E.default.one y v b};·intro A' c' h' g' f i;have:=x A' c' h' g' f;rw[aJ]at this;refine this ?_;unfold PrivF;grind
def B6v{P:Program}{t e ty:aE}{z:Value}{bytes:J}(st:SliceT P t e z E.default.size bytes){h g:aI}{A:Option aL}{c:J}{xs:Z α}(p:PrivF h g e A c xs){v:Value}{y:α}(hv:v.cells=(enc y).toArray)(hsz:E.default.size<=1000) (hb:(2*(xs.length+1)+192)*bytes<=281474976710656) (hn:xs.length+1<=9223372036854775807) {K:Option aL->J->J->aI->Prop} (x:∀A' c' h' g',g.le g'->PrivF h' g' e A' c' (xs++[y])->K A' (xs.length+1) c' h'): wpH P (Instr.buildSlice t 1 #[(0,v)]) (fun v' hp=>∃(B:Option aL) (m d:J),v'= .slice B m d/\wpH P (Builtin.append_ #[t,t] ty #[.slice A xs.length c,.slice B m d]) (fun v1 hp1=>∃(A':Option aL) (n' c':J),v1= .slice A' n' c'/\K A' n' c' hp1) hp) h:=by refine Ah st (vs:=[v]) (fun u q=>by rw[List.mem_singleton.1 q,hv];simp[E.default.len]) rfl gz0 rfl ?_;intro b a;have i:[v].flatMap (fun v=>v.cells.toList)=[y].flatMap enc:=by{simp[hv]};rw[i];refine⟨_,_,_,rfl,?_⟩;have n:PrivF (h.put b (.cells ([y].flatMap enc).toArray e)) (g.put b (.cells ([y].flatMap enc).toArray e)) e A c xs:=Priv.put p a _;refine R9 st n (ys:=[y]) rfl (Rv e h b [y]) hb hn ?_;intro A' c' h' g' r hp;have j:g.le (g.put b (.cells ([y].flatMap enc).toArray e)):=by{intro k o l;have f:k≠b:=by{rintro rfl;rw[Priv.le p k o l]at a;cases a};rw[C1 _ _ f];exact l};refine⟨_,_,_,rfl,?_⟩;rw[aJ];exact x A' c' h' g' (B6 j r) hp
end
instance:Enc (Z UInt8):=⟨⟨fun l=>[.string (bs l)],1,fun _=>rfl,fun x v hv=>by rw [List.mem_singleton.1 hv];rfl⟩⟩
