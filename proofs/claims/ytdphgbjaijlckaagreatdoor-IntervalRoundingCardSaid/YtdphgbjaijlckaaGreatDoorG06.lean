/- A part. -/
import Derived.Test.YtdphgbjaijlckaaGreatDoorG05
set_option linter.all false
open _root_.Go.Builtin renaming growBy->aG,nextslicecap->aM,zeroCells->aN
open _root_.Go.Instr renaming buildSlice->aJ
open List renaming length_append->aC,take_of_length_le->aK,eq_nil_of_length_eq_zero->aO
open Nat renaming add_mul->aE,mul_le_mul_right->aF
open _root_.Go renaming Value->aD,Program->aH,TypeId->aI
open _root_.Go.Proofs.YtdphgbjaijlckaaGreatDoor renaming Heap->aL
namespace Go.Proofs.YtdphgbjaijlckaaGreatDoor
open Go
def Y6{P:aH}{t e:aI}{z:aD}{size bytes:Nat}(s:SliceT P t e z size bytes){len:Nat}{parts:Array (Nat × aD)}(hlen:len*size<=16777216){cells:Array aD}
 (hfill:Instr.fill (fun i=>some (i*size,size)) (G4 z.cells len) parts.toList=some cells) {K:VP} {h:aL}
 (x:∀ b,h b=none->K (.slice (some ⟨b,0,none⟩) len len) (h.put b (.cells cells e))):wpH P (aJ t len parts) K h:=by
 obtain ⟨i,g,l,d,k⟩:=s.parts
 unfold aJ
 simp only [C1,D4 s.und,K8 g,d]
 rw [iN o]
 have a:G4 z.cells len=(Array.range (len*size)).map (z.cells[· % z.cells.size]!):=by unfold G4;rw [s.cells]
 by_cases c:len*size=0
 ·simp only [c,if_true]
  have j:(Array.range 0).map (fun x=>(#[]:Array aD)[x%(#[]:Array aD).size]!)=G4 z.cells len:=by
   grind
  rw [C1,G6,j]
  simp only [hfill,C1,Q8,G6]
  exact x
 ·simp only [c,if_false,C1,J1 g l,G6]
  rw [a] at hfill
  simp only [hfill,C1,Q8,G6]
  exact x
def Eh{P:aH}{h:aL}(a:Addr)(K:Array aD->aL->Prop):∀ (cs:List aD) (i:Nat) (acc:Array aD),(∀ j v,cs[j]? = some v->h.cell? (a.add (i+j))=some v)->K (acc++cs.toArray) h->wpH P (loadCellsFrom a i cs.length acc) K h:=by
 intro cs
 induction cs with
 | nil=>intro i acc _ x;simpa [loadCellsFrom,G6] using x
 | cons c cs ih=>
  intro i acc b x
  refine ⟨c,by simpa using b 0 c rfl,?_⟩
  refine ih (i+1) (acc.push c) (fun j v d=>?_) ?_
  ·have:=b (j+1) v (by assumption)
   grind
  simp_all
def L6{P:aH}{h:aL}{a:Addr}{K:Array aD->aL->Prop}{cs:List aD}{n:Nat}(hn:n=cs.length)(hc:∀ j v,cs[j]? = some v->h.cell? (a.add j)=some v)(x:K cs.toArray h):wpH P (loadCells a n) K h:=by
 subst hn
 exact Eh a K cs 0 #[] (fun j v b=>gz0) gz0
def J7{P:aH}{g:aL}{b:Nat}{e:aI}{K:Unit->aL->Prop}: ∀ (vs:List aD) (off i:Nat) (arr:List aD),off+i+vs.length<=arr.length->(∀ v∈vs,Sv v=true)->
 K () (g.put b (.cells (K0 arr (off+i) vs).toArray e))->wpH P (storeCells ⟨b,off,none⟩ vs i) K (g.put b (.cells arr.toArray e)):=by
 intro vs
 induction vs with
 | nil=>
  intro off i arr _ _ x
  have:K0 arr (off+i) []=arr:=by simp [K0]
  rw [this] at x
  exact x
 | cons v vs ih=>
  intro off i arr c a x
  simp only [List.length_cons] at c
  refine ⟨a v (by simp),⟨arr[off+i]'o,?_⟩,?_,?_⟩
  ·rw [K5,G0];grind
  ·rw [K5];simp [Heap.frozen?,Heap.put]
  ·show wpH P (storeCells _ vs (i+1)) K _
   rw [K5,Ae]
   have j:(arr.toArray.setIfInBounds (off+i) v)=(arr.set (off+i) v).toArray:=by simp
   rw [j]
   refine ih off (i+1) (arr.set (off+i) v) gz0 (fun u d=>a u (by simp [d])) ?_
   rw [<- Nat.add_assoc,Iu arr (off+i) v vs o]
   exact x
def Priv(h g:aL)(e:aI)(s:Nat)(A:Option Addr)(n c:Nat)(xs:List aD):Prop:=
 xs.length=n*s/\n<=c/\
 ((c=0/\h=g)\/∃ b arr,A=some ⟨b,0,none⟩/\g b=none/\h=g.put b (.cells (List.toArray arr) e)/\arr.length=c*s/\arr.take (n*s)=xs)
def Priv.le{h g:aL}{e:aI}{s:Nat}{A:Option Addr}{n c:Nat}{xs:List aD}(p:Priv h g e s A n c xs):g.le h:=by
 rcases p.2.2 with ⟨_,rfl⟩|⟨b,a,_,d,rfl,_⟩
 ·exact B3 _
 ·exact Heap.le_put _ d
def Priv.slV{h g:aL}{e:aI}{A:Option Addr}{n c:Nat}{xs:List aD}(p:Priv h g e 1 A n c xs):SlV h A xs:=by
 rcases p.2.2 with ⟨rfl,rfl⟩|⟨b,a,rfl,l,rfl,j,k⟩
 ·left
  have:=p.1;have:=p.2.1
  grind
 ·right
  refine ⟨_,rfl,fun i v d=>?_⟩
  rw [K5,G0]
  grind
def Priv.nil(h:aL)(e:aI)(s:Nat)(A:Option Addr):Priv h h e s A 0 0 []:=⟨by simp,Nat.le_refl _,.inl ⟨rfl,rfl⟩⟩
def Priv.put{h g:aL}{e:aI}{s:Nat}{A:Option Addr}{n c:Nat}{xs:List aD}(p:Priv h g e s A n c xs){b:Nat}(hb:h b=none)(o:Obj):Priv (h.put b o) (g.put b o) e s A n c xs:=by
 refine ⟨p.1,p.2.1,?_⟩
 rcases p.2.2 with ⟨i,rfl⟩|⟨j,d,i,k,rfl,l⟩
 ·grind
 ·have a:j≠b:=by rintro rfl;rw [C4] at hb;cases hb
  exact .inr ⟨j,d,i,by rw [B7 _ _ a];exact k,Heap.put_comm g _ _ a,l⟩
def G9{P:aH}{h:aL}{A:Option Addr}{n c s:Nat}{cs:List aD}(hl:cs.length=n*s)(hc:cs=[]\/∃ a,A=some a/\∀ j v,cs[j]? = some v->h.cell? (a.add j)=some v){K:Array aD->aL->Prop}(x:K cs.toArray h):
 wpH P (Builtin.firstCells s n (.slice A n c)) K h:=by
 cases A with
 | none=>
  rcases hc with rfl|⟨a,e,_⟩
  ·exact x
  ·cases e
 | some a=>
  show wpH P (loadCells a (n*s)) K h
  rcases hc with rfl|⟨b,e,hc⟩
  ·exact L6 (cs:=[]) hl.symm (fun j v e=>by simp at e) x
  ·cases e
   exact L6 hl.symm hc x
def Bo{P:aH}{q:Question}(hq:q.forced=false){K:Nat->aL->Prop}{h:aL}(x:∀ t,K (q.cut t) h):wpH P (choose q) K h:=by
 show if q.forced then _ else _
 rw [hq];exact x
def Ni(new:Nat):∀ (r c:Nat),c<=new->aG new r c<=new+(new+768)/4
 | 0,c,h=>by simp only [aG];omega
 | r+1,c,h=>by
  simp only [aG]
  split
  ·omega
  ·by_cases h2:c+(c+768)/4<=new
   ·exact Ni new r _ h2
   ·have:∀ r',aG new r' (c+(c+768)/4)=c+(c+768)/4:=by
     intro r'
     cases r' with
     | zero=>rfl
     | succ r'=>simp only [aG];grind
    grind
def Es{need c:Nat}(h:c<need):aM need c<=2*need+192:=by
 unfold aM
 split
 ·omega
 ·split
  ·omega
  ·have:=Ni need 4 c o;omega
def Id{P:aH}{t e ty:aI}{z:aD}{size bytes:Nat}(st:SliceT P t e z size bytes){h g:aL}{A:Option Addr}{n c:Nat}{xs:List aD}(p:Priv h g e size A n c xs)
 {B:Option Addr} {m d:Nat} {ys:List aD} (hy:ys.length=m*size) (hc:ys=[]\/∃ a,B=some a/\∀ j v,ys[j]? = some v->h.cell? (a.add j)=some v) (h1:∀ v∈ys,Sv v=true)
 (hb:(2*(n+m)+192)*bytes<=281474976710656) (hm:n+m<=9223372036854775807) {K:VP}
 (x:∀ A' c' h' g',g.le g'->Priv h' g' e size A' (n+m) c' (xs++ys)->K (.slice A' (n+m) c') h'):
 wpH P (Builtin.append_ #[t,t] ty #[.slice A n c,.slice B m d]) K h:=by
 obtain ⟨i,E,hz,V,D⟩:=st.parts
 unfold Builtin.append_
 simp only [List.getElem?_toArray,List.getElem?_cons_zero,List.getElem?_cons_succ,C1,D4 st.und,K8 E,G6,Bool.false_eq_true,if_false,Builtin.lenOf,V,Bool.not_false,if_true]
 by_cases k:n+m<=c
 ·simp only [k,if_true,C1]
  refine G9 hy hc ?_
  rcases p.2.2 with ⟨s,hg⟩|⟨b,l,T,G,X,L,w⟩
  ·
   have H:n=0:=o
   have Q:m=0:=o
   subst H;subst Q;subst hg
   have S:ys=[]:=aO o
   have O:xs=[]:=aO (by simpa using p.1)
   subst S;subst O
   have u:K (.slice A (0+0) c) h:=x A c h h (B3 _) ⟨by simp,o,.inl ⟨s,rfl⟩⟩
   cases A with
   | none=>exact u
   | some a=>exact u
  ·subst T
   simp only [C1,K5,Nat.zero_add]
   rw [X]
   refine J7 ys.toArray.toList (n*size) 0 l ?_ (fun v hv=>h1 v o) ?_
   ·have:(n+m)*size<=c*size:=aF _ k
    grind
   ·simp only [G6,Nat.add_zero]
    refine x _ c _ g (B3 _) ⟨by rw [aC,p.1,hy,aE],k,.inr ⟨b,_,rfl,G,rfl,?_,?_⟩⟩
    ·have:(n+m)*size<=c*size:=aF _ k
     rw [aE] at this
     simp only [K0,aC,List.length_take,List.length_drop,L,hy];omega
    ·have:(n+m)*size<=c*size:=aF _ k
     have ab:(l.take (n*size)).length=n*size:=gz0
     unfold K0
     have t1:(l.take (n*size)).take (n*size+m*size)=l.take (n*size):=aK o
     have t2:ys.take (m*size)=ys:=aK o
     rw [aE,List.append_assoc,List.take_append,ab,Nat.add_sub_cancel_left,List.take_append,t1,t2,hy,Nat.sub_self,List.take_zero,List.append_nil,w]
 ·have N:c<n+m:=o
  simp only [k,if_false,C1,F1 E,D]
  have W:=Es N
  have ac:aM (n+m) c*bytes<=281474976710656:=Nat.le_trans (aF _ W) hb
  rw [iN (by rintro ⟨h',_⟩;simp only [IntKind.max,IntKind.signed,IntKind.bits] at h';omega)]
  simp only [C1,F1 E,D]
  rw [iN o]
  simp only [G6,C1]
  refine Bo rfl fun tt=>?_
  simp only [W9,F1 E]
  have C:xs=[]\/∃ a,A=some a/\∀ j v,xs[j]? = some v->h.cell? (a.add j)=some v:=by
   rcases p.2.2 with ⟨s,hg⟩|⟨b,l,T,G,X,L,w⟩
   ·left
    have H:n=0:=by have:=p.2.1;omega
    have:=p.1
    simp_all
   ·right
    refine ⟨_,T,fun j v hj=>?_⟩
    rw [K5,X,G0]
    grind
  refine G9 p.1 C ?_
  refine G9 hy hc ?_
  simp only [J1 E hz,Q8]
  intro b q
  have F:∃ r,(Question.appendCap (n+m) c e).cut tt=r/\n+m<=r:=⟨_,rfl,by simp only [Question.cut];omega⟩
  obtain ⟨r,aa,M⟩:=F
  rw [aa]
  have y:=p.le
  refine x _ r _ h y ⟨by rw [aC,p.1,hy,aE],M,.inr ⟨b,xs++ys++(aN z.cells (r-(n+m))).toList,rfl,q,?_,?_,?_⟩⟩
  ·congr 1;simp
  ·have R:(aN z.cells (r-(n+m))).toList.length=(r-(n+m))*size:=by simp [aN,st.cells]
   rw [aC,aC,p.1,hy,R,<- aE,<- aE]
   grind
  ·rw [List.take_append_of_le_length (by rw [aC,p.1,hy,aE];omega),aK (by rw [aC,p.1,hy,aE];omega)]
def Mi(z:aD)(n:Nat):G4 #[z] n=(List.replicate n z).toArray:=by
 unfold G4
 grind
def Tp{P:aH}{t:aI}(one:P.cellsOf t=1/\(P.info? t).isSome=true){k:IntKind}{n i:Int}{g:aL}{b:Nat}{c:Array aD}{e:aI}(hi:i.toNat<c.size){K:Unit->aL->Prop}
 (x:K () (g.put b (.cells (c.setIfInBounds i.toNat (.int k n)) e))):wpH P (Instr.storeAt t (.pointer (some (Addr.add ⟨b,0,none⟩ (i.toNat*1)))) (.int k n)) K (g.put b (.cells c e)):=by
 rw [K5,Nat.mul_one,Nat.zero_add]
 exact Mc one.1 one.2 rfl rfl hi x
def P7{P:aH}{t e:aI}{z:aD}{bytes:Nat}(s:SliceT P t e z 1 bytes){v:aD}(hv:v.cells=#[v]){K:VP}{h:aL}
 (x:∀ b,h b=none->K (.slice (some ⟨b,0,none⟩) 1 1) (h.put b (.cells #[v] e))):wpH P (aJ t 1 #[(0,v)]) K h:=by
 refine Y6 s o (cells:=#[v]) ?_ x
 have a:(G4 z.cells 1).size=1:=by simp [G4,s.cells]
 have:G4 z.cells 1=#[(G4 z.cells 1)[0]'o]:=by
  grind
 rw [this]
 simp [Instr.fill,hv]
def Va{P:aH}{t e:aI}{z:aD}{size bytes:Nat}(s:SliceT P t e z size bytes){K:VP}{h:aL}
 (x:∀ b,h b=none->K (.slice (some ⟨b,0,none⟩) 0 0) (h.put b (.cells #[] e))):wpH P (aJ t 0 #[]) K h:=by
 refine Y6 s o (cells:=#[]) ?_ x
 have:G4 z.cells 0=#[]:=by simp [G4]
 rw [this];rfl
