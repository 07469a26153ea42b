/- A part. -/
import Derived.Test.YtmbfcbbkbefgfaaGreatDoorG05
set_option linter.all false
open _root_.Go.Builtin renaming growBy->aH,nextslicecap->aN,zeroCells->aO
open _root_.Go.Instr renaming buildSlice->aK
open List renaming length_append->aC,eq_nil_of_length_eq_zero->aE,take_of_length_le->aL
open Nat renaming add_mul->aD,mul_le_mul_right->aG
open _root_.Go renaming Value->aF,Program->aI,TypeId->aJ
open _root_.Go.Proofs.YtmbfcbbkbefgfaaGreatDoor renaming Heap->aM
namespace Go.Proofs.YtmbfcbbkbefgfaaGreatDoor
open Go
def Cs{P:aI}{t e:aJ}{z:aF}{size bytes:Nat}(s:SliceT P t e z size bytes){len:Nat}{parts:Array (Nat × aF)}(hlen:len*size<=16777216){cells:Array aF}
 (hfill:Instr.fill (fun i=>some (i*size,size)) (G0 z.cells len) parts.toList=some cells) {K:VP} {h:aM}
 (x:∀ b,h b=none->K (.slice (some ⟨b,0,none⟩) len len) (h.put b (.cells cells e))):wpH P (aK t len parts) K h:=by
 obtain ⟨i,f,g,d,l⟩:=s.parts
 unfold aK
 simp only [C8,F4 s.und,L9 f,d]
 rw [iN (by simp only [show (2^24:Nat)=16777216 from rfl];omega)]
 have a:G0 z.cells len=(Array.range (len*size)).map (z.cells[· % z.cells.size]!):=by unfold G0;rw [s.cells]
 by_cases c:len*size=0
 ·simp only [c,if_true]
  have k:(Array.range 0).map (fun x=>(#[]:Array aF)[x%(#[]:Array aF).size]!)=G0 z.cells len:=by
   rw [a,c]
   apply Array.ext
   ·simp
   ·intro i j m;simp at j
  rw [C8,H8,k]
  simp only [hfill,C8,S9,H8]
  exact x
 ·simp only [c,if_false,C8,S8 f g,H8]
  rw [a] at hfill
  simp only [hfill,C8,S9,H8]
  exact x
def Qb{P:aI}{h:aM}(a:Addr)(K:Array aF->aM->Prop):∀ (cs:List aF) (i:Nat) (acc:Array aF),(∀ j v,cs[j]? = some v->h.cell? (a.add (i+j))=some v)->K (acc++cs.toArray) h->wpH P (loadCellsFrom a i cs.length acc) K h:=by
 intro cs
 induction cs with
 | nil=>intro i acc _ x;simpa [loadCellsFrom,H8] using x
 | cons c cs ih=>
  intro i acc b x
  simp only [List.length_cons,loadCellsFrom,C8]
  refine ⟨c,by simpa using b 0 c rfl,?_⟩
  refine ih (i+1) (acc.push c) (fun j v d=>?_) ?_
  ·have:=b (j+1) v (by simpa using d)
   rwa [show i+(j+1)=i+1+j by omega] at this
  ·simpa using x
def W8{P:aI}{h:aM}{a:Addr}{K:Array aF->aM->Prop}{cs:List aF}{n:Nat}(hn:n=cs.length)(hc:∀ j v,cs[j]? = some v->h.cell? (a.add j)=some v)(x:K cs.toArray h):wpH P (loadCells a n) K h:=by
 subst hn
 exact Qb a K cs 0 #[] (fun j v b=>by simpa using hc j v b) (by simpa using x)
def J9{P:aI}{g:aM}{b:Nat}{e:aJ}{K:Unit->aM->Prop}: ∀ (vs:List aF) (off i:Nat) (arr:List aF),off+i+vs.length<=arr.length->(∀ v∈vs,A5q v=true)->
 K () (g.put b (.cells (L3 arr (off+i) vs).toArray e))->wpH P (storeCells ⟨b,off,none⟩ vs i) K (g.put b (.cells arr.toArray e)):=by
 intro vs
 induction vs with
 | nil=>
  intro off i arr _ _ x
  have:L3 arr (off+i) []=arr:=by simp [L3]
  rw [this] at x
  exact x
 | cons v vs ih=>
  intro off i arr c a x
  simp only [List.length_cons] at c
  simp only [storeCells,C8]
  refine ⟨a v (by simp),⟨arr[off+i]'(by omega),?_⟩,?_,?_⟩
  ·rw [E6,E8];simp [show off+i<arr.length by omega]
  ·rw [E6];simp [Heap.frozen?,Heap.put]
  ·show wpH P (storeCells _ vs (i+1)) K _
   rw [E6,Hx]
   have f:(arr.toArray.setIfInBounds (off+i) v)=(arr.set (off+i) v).toArray:=by simp
   rw [f]
   refine ih off (i+1) (arr.set (off+i) v) (by simp;omega) (fun u d=>a u (by simp [d])) ?_
   rw [<- Nat.add_assoc,Yp arr (off+i) v vs (by omega)]
   exact x
def Priv(h g:aM)(e:aJ)(s:Nat)(A:Option Addr)(n c:Nat)(xs:List aF):Prop:=
 xs.length=n*s/\n<=c/\
 ((c=0/\h=g)\/∃ b arr,A=some ⟨b,0,none⟩/\g b=none/\h=g.put b (.cells (List.toArray arr) e)/\arr.length=c*s/\arr.take (n*s)=xs)
def Priv.le{h g:aM}{e:aJ}{s:Nat}{A:Option Addr}{n c:Nat}{xs:List aF}(p:Priv h g e s A n c xs):g.le h:=by
 rcases p.2.2 with ⟨_,rfl⟩|⟨b,d,_,a,rfl,_⟩
 ·exact B5 _
 ·exact Heap.le_put _ a
def Priv.slV{h g:aM}{e:aJ}{A:Option Addr}{n c:Nat}{xs:List aF}(p:Priv h g e 1 A n c xs):SlV h A xs:=by
 rcases p.2.2 with ⟨rfl,rfl⟩|⟨b,f,rfl,k,rfl,j,d⟩
 ·left
  have:=p.1;have:=p.2.1
  exact aE (by omega)
 ·right
  refine ⟨_,rfl,fun i v a=>?_⟩
  rw [E6,E8]
  rw [<- d,List.getElem?_take] at a
  split at a
  ·simpa using a
  ·cases a
def Priv.nil(h:aM)(e:aJ)(s:Nat)(A:Option Addr):Priv h h e s A 0 0 []:=⟨by simp,Nat.le_refl _,.inl ⟨rfl,rfl⟩⟩
def Priv.put{h g:aM}{e:aJ}{s:Nat}{A:Option Addr}{n c:Nat}{xs:List aF}(p:Priv h g e s A n c xs){b:Nat}(hb:h b=none)(o:Obj):Priv (h.put b o) (g.put b o) e s A n c xs:=by
 refine ⟨p.1,p.2.1,?_⟩
 rcases p.2.2 with ⟨d,rfl⟩|⟨i,f,d,k,rfl,j⟩
 ·exact .inl ⟨d,rfl⟩
 ·have a:i≠b:=by rintro rfl;rw [C2] at hb;cases hb
  exact .inr ⟨i,f,d,by rw [C0 _ _ a];exact k,Heap.put_comm g _ _ a,j⟩
def N5{P:aI}{h:aM}{A:Option Addr}{n c s:Nat}{cs:List aF}(hl:cs.length=n*s)(hc:cs=[]\/∃ a,A=some a/\∀ j v,cs[j]? = some v->h.cell? (a.add j)=some v){K:Array aF->aM->Prop}(x:K cs.toArray h):
 wpH P (Builtin.firstCells s n (.slice A n c)) K h:=by
 cases A with
 | none=>
  rcases hc with rfl|⟨a,e,_⟩
  ·exact x
  ·cases e
 | some a=>
  show wpH P (loadCells a (n*s)) K h
  rcases hc with rfl|⟨b,e,hc⟩
  ·exact W8 (cs:=[]) hl.symm (fun j v e=>by simp at e) x
  ·cases e
   exact W8 hl.symm hc x
def Jy{P:aI}{q:Question}(hq:q.forced=false){K:Nat->aM->Prop}{h:aM}(x:∀ t,K (q.cut t) h):wpH P (choose q) K h:=by
 show if q.forced then _ else _
 rw [hq];exact x
def A47(new:Nat):∀ (r c:Nat),c<=new->aH new r c<=new+(new+768)/4
 | 0,c,h=>by simp only [aH];omega
 | r+1,c,h=>by
  simp only [aH]
  split
  ·omega
  ·rename_i hlt
   by_cases h2:c+(c+768)/4<=new
   ·exact A47 new r _ h2
   ·have:∀ r',aH new r' (c+(c+768)/4)=c+(c+768)/4:=by
     intro r'
     cases r' with
     | zero=>rfl
     | succ r'=>simp only [aH];rw [iP (by omega)]
    rw [this];omega
def Qi{need c:Nat}(h:c<need):aN need c<=2*need+192:=by
 unfold aN
 split
 ·omega
 ·split
  ·omega
  ·have:=A47 need 4 c (by omega);omega
def Pj{P:aI}{t e ty:aJ}{z:aF}{size bytes:Nat}(st:SliceT P t e z size bytes){h g:aM}{A:Option Addr}{n c:Nat}{xs:List aF}(p:Priv h g e size A n c xs)
 {B:Option Addr} {m d:Nat} {ys:List aF} (hy:ys.length=m*size) (hc:ys=[]\/∃ a,B=some a/\∀ j v,ys[j]? = some v->h.cell? (a.add j)=some v) (h1:∀ v∈ys,A5q v=true)
 (hb:(2*(n+m)+192)*bytes<=281474976710656) (hm:n+m<=9223372036854775807) {K:VP}
 (x:∀ A' c' h' g',g.le g'->Priv h' g' e size A' (n+m) c' (xs++ys)->K (.slice A' (n+m) c') h'):
 wpH P (Builtin.append_ #[t,t] ty #[.slice A n c,.slice B m d]) K h:=by
 obtain ⟨i,G,hz,L,D⟩:=st.parts
 have T:=st.pos
 unfold Builtin.append_
 simp only [List.getElem?_toArray,List.getElem?_cons_zero,List.getElem?_cons_succ,C8,F4 st.und,L9 G,H8,Bool.false_eq_true,if_false,Builtin.lenOf,L,Bool.not_false,if_true]
 by_cases f:n+m<=c
 ·simp only [f,if_true,C8]
  refine N5 hy hc ?_
  rcases p.2.2 with ⟨H,hg⟩|⟨b,k,X,u,O,l,q⟩
  ·
   have s:n=0:=by omega
   have M:m=0:=by omega
   subst s;subst M;subst hg
   have R:ys=[]:=aE (by simpa using hy)
   have V:xs=[]:=aE (by simpa using p.1)
   subst R;subst V
   have E:K (.slice A (0+0) c) h:=x A c h h (B5 _) ⟨by simp,by omega,.inl ⟨H,rfl⟩⟩
   cases A with
   | none=>exact E
   | some a=>exact E
  ·subst X
   simp only [C8,E6,Nat.zero_add]
   rw [O]
   refine J9 ys.toArray.toList (n*size) 0 k ?_ (fun v hv=>h1 v (by simpa using hv)) ?_
   ·simp only
    rw [hy,l]
    have:(n+m)*size<=c*size:=aG _ f
    rw [aD] at this;omega
   ·simp only [H8,Nat.add_zero]
    refine x _ c _ g (B5 _) ⟨by rw [aC,p.1,hy,aD],f,.inr ⟨b,_,rfl,u,rfl,?_,?_⟩⟩
    ·have:(n+m)*size<=c*size:=aG _ f
     rw [aD] at this
     simp only [L3,aC,List.length_take,List.length_drop,l,hy];omega
    ·have:(n+m)*size<=c*size:=aG _ f
     rw [aD] at this
     have C:(k.take (n*size)).length=n*size:=by rw [List.length_take,l];omega
     unfold L3
     have t1:(k.take (n*size)).take (n*size+m*size)=k.take (n*size):=aL (by rw [C];omega)
     have t2:ys.take (m*size)=ys:=aL (by omega)
     rw [aD,List.append_assoc,List.take_append,C,Nat.add_sub_cancel_left,List.take_append,t1,t2,hy,Nat.sub_self,List.take_zero,List.append_nil,q]
 ·have N:c<n+m:=by omega
  simp only [f,if_false,C8,J3 G,D]
  have Q:=Qi N
  have aa:aN (n+m) c*bytes<=281474976710656:=Nat.le_trans (aG _ Q) hb
  rw [iN (by rintro ⟨h',_⟩;simp only [IntKind.max,IntKind.signed,IntKind.bits] at h';simp at h';omega)]
  simp only [C8,J3 G,D]
  rw [iN (by simp only [show (2^48:Nat)=281474976710656 from rfl];omega)]
  simp only [H8,C8]
  refine Jy rfl fun tt=>?_
  simp only [Fx,J3 G]
  have y:xs=[]\/∃ a,A=some a/\∀ j v,xs[j]? = some v->h.cell? (a.add j)=some v:=by
   rcases p.2.2 with ⟨H,hg⟩|⟨b,k,X,u,O,l,q⟩
   ·left
    have s:n=0:=by have:=p.2.1;omega
    have:=p.1
    rw [s] at this
    exact aE (by simpa using this)
   ·right
    refine ⟨_,X,fun j v J=>?_⟩
    rw [E6,O,E8]
    rw [<- q,List.getElem?_take] at J
    split at J
    ·simpa using J
    ·cases J
  refine N5 p.1 y ?_
  refine N5 hy hc ?_
  simp only [S8 G hz,S9]
  intro b o
  have w:∃ r,(Question.appendCap (n+m) c e).cut tt=r/\n+m<=r:=⟨_,rfl,by simp only [Question.cut];omega⟩
  obtain ⟨r,S,W⟩:=w
  rw [S]
  have F:=p.le
  refine x _ r _ h F ⟨by rw [aC,p.1,hy,aD],W,.inr ⟨b,xs++ys++(aO z.cells (r-(n+m))).toList,rfl,o,?_,?_,?_⟩⟩
  ·congr 1;simp
  ·have Z:(aO z.cells (r-(n+m))).toList.length=(r-(n+m))*size:=by simp [aO,st.cells]
   rw [aC,aC,p.1,hy,Z,<- aD,<- aD]
   congr 1;omega
  ·rw [List.take_append_of_le_length (by rw [aC,p.1,hy,aD];omega),aL (by rw [aC,p.1,hy,aD];omega)]
def A3p(z:aF)(n:Nat):G0 #[z] n=(List.replicate n z).toArray:=by
 unfold G0
 apply Array.ext
 ·simp
 ·intro i b a
  simp [Nat.mod_one]
def B2b{P:aI}{t:aJ}(one:P.cellsOf t=1/\(P.info? t).isSome=true){k:IntKind}{n i:Int}{g:aM}{b:Nat}{c:Array aF}{e:aJ}(hi:i.toNat<c.size){K:Unit->aM->Prop}
 (x:K () (g.put b (.cells (c.setIfInBounds i.toNat (.int k n)) e))):wpH P (Instr.storeAt t (.pointer (some (Addr.add ⟨b,0,none⟩ (i.toNat*1)))) (.int k n)) K (g.put b (.cells c e)):=by
 rw [E6,Nat.mul_one,Nat.zero_add]
 exact Ey one.1 one.2 rfl rfl hi x
def Bn{P:aI}{t e:aJ}{z:aF}{bytes:Nat}(s:SliceT P t e z 1 bytes){v:aF}(hv:v.cells=#[v]){K:VP}{h:aM}
 (x:∀ b,h b=none->K (.slice (some ⟨b,0,none⟩) 1 1) (h.put b (.cells #[v] e))):wpH P (aK t 1 #[(0,v)]) K h:=by
 refine Cs s (by omega) (cells:=#[v]) ?_ x
 have a:(G0 z.cells 1).size=1:=by simp [G0,s.cells]
 have:G0 z.cells 1=#[(G0 z.cells 1)[0]'(by omega)]:=by
  apply Array.ext
  ·simpa using a
  ·intro i d c
   have:i=0:=by simp at c;omega
   subst this;rfl
 rw [this]
 simp [Instr.fill,hv]
def Qm{P:aI}{t e:aJ}{z:aF}{size bytes:Nat}(s:SliceT P t e z size bytes){K:VP}{h:aM}
 (x:∀ b,h b=none->K (.slice (some ⟨b,0,none⟩) 0 0) (h.put b (.cells #[] e))):wpH P (aK t 0 #[]) K h:=by
 refine Cs s (by omega) (cells:=#[]) ?_ x
 have:G0 z.cells 0=#[]:=by simp [G0]
 rw [this];rfl
