/- A part. -/
import Derived.Test.YtbgkfnjmcjfokaaGreatDoorG05
set_option linter.all false
open _root_.Go.Builtin renaming growBy->aI,nextslicecap->aP,zeroCells->aQ
open _root_.Go.Instr renaming buildSlice->aL
open List renaming length_append->aC,take_of_length_le->aN,eq_nil_of_length_eq_zero->aR
open Nat renaming add_mul->aF,mul_le_mul_right->aH
open _root_.Go renaming Value->aE,Program->aJ,TypeId->aK
open _root_.Go.Proofs.YtbgkfnjmcjfokaaGreatDoor renaming Heap->aO
namespace Go.Proofs.YtbgkfnjmcjfokaaGreatDoor
open Go
def Fe{P:aJ}{t e:aK}{z:aE}{size bytes:Nat}(s:SliceT P t e z size bytes){len:Nat}{parts:Array (Nat × aE)}(hlen:len*size<=16777216){cells:Array aE}
 (hfill:Instr.fill (fun i=>some (i*size,size)) (J1 z.cells len) parts.toList=some cells) {K:VP} {h:aO}
 (x:∀ b,h b=none->K (.slice (some ⟨b,0,none⟩) len len) (h.put b (.cells cells e))):wpH P (aL t len parts) K h:=by
 obtain ⟨i,g,l,d,k⟩:=s.parts
 unfold aL
 simp only [C1,E4 s.und,L4 g,d]
 rw [iN o]
 have a:J1 z.cells len=(Array.range (len*size)).map (z.cells[· % z.cells.size]!):=by unfold J1;rw [s.cells]
 by_cases c:len*size=0
 ·simp only [c,if_true]
  have j:(Array.range 0).map (fun x=>(#[]:Array aE)[x%(#[]:Array aE).size]!)=J1 z.cells len:=by
   grind
  rw [C1,I4,j]
  simp only [hfill,C1,Y8,I4]
  exact x
 ·simp only [c,if_false,C1,P7 g l,I4]
  rw [a] at hfill
  simp only [hfill,C1,Y8,I4]
  exact x
def Nn{P:aJ}{h:aO}(a:Addr)(K:Array aE->aO->Prop):∀ (cs:List aE) (i:Nat) (acc:Array aE),(∀ j v,cs[j]? = some v->h.cell? (a.add (i+j))=some v)->K (acc++cs.toArray) h->wpH P (loadCellsFrom a i cs.length acc) K h:=by
 intro cs
 induction cs with
 | nil=>intro i acc _ x;simpa [loadCellsFrom,I4] using x
 | cons c cs ih=>
  intro i acc b x
  refine ⟨c,by simpa using b 0 c rfl,?_⟩
  refine ih (i+1) (acc.push c) (fun j v d=>?_) ?_
  ·have:=b (j+1) v (by assumption)
   grind
  simp_all
def X3{P:aJ}{h:aO}{a:Addr}{K:Array aE->aO->Prop}{cs:List aE}{n:Nat}(hn:n=cs.length)(hc:∀ j v,cs[j]? = some v->h.cell? (a.add j)=some v)(x:K cs.toArray h):wpH P (loadCells a n) K h:=by
 subst hn
 exact Nn a K cs 0 #[] (fun j v b=>gz0) gz0
def I3{P:aJ}{g:aO}{b:Nat}{e:aK}{K:Unit->aO->Prop}: ∀ (vs:List aE) (off i:Nat) (arr:List aE),off+i+vs.length<=arr.length->(∀ v∈vs,Jz v=true)->
 K () (g.put b (.cells (F2 arr (off+i) vs).toArray e))->wpH P (storeCells ⟨b,off,none⟩ vs i) K (g.put b (.cells arr.toArray e)):=by
 intro vs
 induction vs with
 | nil=>
  intro off i arr _ _ x
  have:F2 arr (off+i) []=arr:=by simp [F2]
  rw [this] at x
  exact x
 | cons v vs ih=>
  intro off i arr c a x
  simp only [List.length_cons] at c
  refine ⟨a v (by simp),⟨arr[off+i]'o,?_⟩,?_,?_⟩
  ·rw [D4,C4];grind
  ·rw [D4];simp [Heap.frozen?,Heap.put]
  ·show wpH P (storeCells _ vs (i+1)) K _
   rw [D4,Ga]
   have j:(arr.toArray.setIfInBounds (off+i) v)=(arr.set (off+i) v).toArray:=by simp
   rw [j]
   refine ih off (i+1) (arr.set (off+i) v) gz0 (fun u d=>a u (by simp [d])) ?_
   rw [<- Nat.add_assoc,Vd arr (off+i) v vs o]
   exact x
def Priv(h g:aO)(e:aK)(s:Nat)(A:Option Addr)(n c:Nat)(xs:List aE):Prop:=
 xs.length=n*s/\n<=c/\
 ((c=0/\h=g)\/∃ b arr,A=some ⟨b,0,none⟩/\g b=none/\h=g.put b (.cells (List.toArray arr) e)/\arr.length=c*s/\arr.take (n*s)=xs)
def Priv.le{h g:aO}{e:aK}{s:Nat}{A:Option Addr}{n c:Nat}{xs:List aE}(p:Priv h g e s A n c xs):g.le h:=by
 rcases p.2.2 with ⟨_,rfl⟩|⟨b,a,_,d,rfl,_⟩
 ·exact B0 _
 ·exact Heap.le_put _ d
def Priv.slV{h g:aO}{e:aK}{A:Option Addr}{n c:Nat}{xs:List aE}(p:Priv h g e 1 A n c xs):SlV h A xs:=by
 rcases p.2.2 with ⟨rfl,rfl⟩|⟨b,a,rfl,l,rfl,j,k⟩
 ·left
  have:=p.1;have:=p.2.1
  grind
 ·right
  refine ⟨_,rfl,fun i v d=>?_⟩
  rw [D4,C4]
  grind
def Priv.nil(h:aO)(e:aK)(s:Nat)(A:Option Addr):Priv h h e s A 0 0 []:=⟨by simp,Nat.le_refl _,.inl ⟨rfl,rfl⟩⟩
def Priv.put{h g:aO}{e:aK}{s:Nat}{A:Option Addr}{n c:Nat}{xs:List aE}(p:Priv h g e s A n c xs){b:Nat}(hb:h b=none)(o:Obj):Priv (h.put b o) (g.put b o) e s A n c xs:=by
 refine ⟨p.1,p.2.1,?_⟩
 rcases p.2.2 with ⟨i,rfl⟩|⟨j,d,i,k,rfl,l⟩
 ·grind
 ·have a:j≠b:=by rintro rfl;rw [B8] at hb;cases hb
  exact .inr ⟨j,d,i,by rw [B6 _ _ a];exact k,Heap.put_comm g _ _ a,l⟩
def O6{P:aJ}{h:aO}{A:Option Addr}{n c s:Nat}{cs:List aE}(hl:cs.length=n*s)(hc:cs=[]\/∃ a,A=some a/\∀ j v,cs[j]? = some v->h.cell? (a.add j)=some v){K:Array aE->aO->Prop}(x:K cs.toArray h):
 wpH P (Builtin.firstCells s n (.slice A n c)) K h:=by
 cases A with
 | none=>
  rcases hc with rfl|⟨a,e,_⟩
  ·exact x
  ·cases e
 | some a=>
  show wpH P (loadCells a (n*s)) K h
  rcases hc with rfl|⟨b,e,hc⟩
  ·exact X3 (cs:=[]) hl.symm (fun j v e=>by simp at e) x
  ·cases e
   exact X3 hl.symm hc x
def Ik{P:aJ}{q:Question}(hq:q.forced=false){K:Nat->aO->Prop}{h:aO}(x:∀ t,K (q.cut t) h):wpH P (choose q) K h:=by
 show if q.forced then _ else _
 rw [hq];exact x
def A1e(new:Nat):∀ (r c:Nat),c<=new->aI new r c<=new+(new+768)/4
 | 0,c,h=>by simp only [aI];omega
 | r+1,c,h=>by
  simp only [aI]
  split
  ·omega
  ·by_cases h2:c+(c+768)/4<=new
   ·exact A1e new r _ h2
   ·have:∀ r',aI new r' (c+(c+768)/4)=c+(c+768)/4:=by
     intro r'
     cases r' with
     | zero=>rfl
     | succ r'=>simp only [aI];grind
    grind
def Oe{need c:Nat}(h:c<need):aP need c<=2*need+192:=by
 unfold aP
 split
 ·omega
 ·split
  ·omega
  ·have:=A1e need 4 c o;omega
def Tp{P:aJ}{t e ty:aK}{z:aE}{size bytes:Nat}(st:SliceT P t e z size bytes){h g:aO}{A:Option Addr}{n c:Nat}{xs:List aE}(p:Priv h g e size A n c xs)
 {B:Option Addr} {m d:Nat} {ys:List aE} (hy:ys.length=m*size) (hc:ys=[]\/∃ a,B=some a/\∀ j v,ys[j]? = some v->h.cell? (a.add j)=some v) (h1:∀ v∈ys,Jz v=true)
 (hb:(2*(n+m)+192)*bytes<=281474976710656) (hm:n+m<=9223372036854775807) {K:VP}
 (x:∀ A' c' h' g',g.le g'->Priv h' g' e size A' (n+m) c' (xs++ys)->K (.slice A' (n+m) c') h'):
 wpH P (Builtin.append_ #[t,t] ty #[.slice A n c,.slice B m d]) K h:=by
 obtain ⟨i,E,hz,V,D⟩:=st.parts
 unfold Builtin.append_
 simp only [List.getElem?_toArray,List.getElem?_cons_zero,List.getElem?_cons_succ,C1,E4 st.und,L4 E,I4,Bool.false_eq_true,if_false,Builtin.lenOf,V,Bool.not_false,if_true]
 by_cases k:n+m<=c
 ·simp only [k,if_true,C1]
  refine O6 hy hc ?_
  rcases p.2.2 with ⟨s,hg⟩|⟨b,l,T,G,X,L,w⟩
  ·
   have H:n=0:=o
   have Q:m=0:=o
   subst H;subst Q;subst hg
   have S:ys=[]:=aR o
   have O:xs=[]:=aR (by simpa using p.1)
   subst S;subst O
   have u:K (.slice A (0+0) c) h:=x A c h h (B0 _) ⟨by simp,o,.inl ⟨s,rfl⟩⟩
   cases A with
   | none=>exact u
   | some a=>exact u
  ·subst T
   simp only [C1,D4,Nat.zero_add]
   rw [X]
   refine I3 ys.toArray.toList (n*size) 0 l ?_ (fun v hv=>h1 v o) ?_
   ·have:(n+m)*size<=c*size:=aH _ k
    grind
   ·simp only [I4,Nat.add_zero]
    refine x _ c _ g (B0 _) ⟨by rw [aC,p.1,hy,aF],k,.inr ⟨b,_,rfl,G,rfl,?_,?_⟩⟩
    ·have:(n+m)*size<=c*size:=aH _ k
     rw [aF] at this
     simp only [F2,aC,List.length_take,List.length_drop,L,hy];omega
    ·have:(n+m)*size<=c*size:=aH _ k
     have ab:(l.take (n*size)).length=n*size:=gz0
     unfold F2
     have t1:(l.take (n*size)).take (n*size+m*size)=l.take (n*size):=aN o
     have t2:ys.take (m*size)=ys:=aN o
     rw [aF,List.append_assoc,List.take_append,ab,Nat.add_sub_cancel_left,List.take_append,t1,t2,hy,Nat.sub_self,List.take_zero,List.append_nil,w]
 ·have N:c<n+m:=o
  simp only [k,if_false,C1,I8 E,D]
  have W:=Oe N
  have ac:aP (n+m) c*bytes<=281474976710656:=Nat.le_trans (aH _ W) hb
  rw [iN (by rintro ⟨h',_⟩;simp only [IntKind.max,IntKind.signed,IntKind.bits] at h';omega)]
  simp only [C1,I8 E,D]
  rw [iN o]
  simp only [I4,C1]
  refine Ik rfl fun tt=>?_
  simp only [Eo,I8 E]
  have C:xs=[]\/∃ a,A=some a/\∀ j v,xs[j]? = some v->h.cell? (a.add j)=some v:=by
   rcases p.2.2 with ⟨s,hg⟩|⟨b,l,T,G,X,L,w⟩
   ·left
    have H:n=0:=by have:=p.2.1;omega
    have:=p.1
    simp_all
   ·right
    refine ⟨_,T,fun j v hj=>?_⟩
    rw [D4,X,C4]
    grind
  refine O6 p.1 C ?_
  refine O6 hy hc ?_
  simp only [P7 E hz,Y8]
  intro b q
  have F:∃ r,(Question.appendCap (n+m) c e).cut tt=r/\n+m<=r:=⟨_,rfl,by simp only [Question.cut];omega⟩
  obtain ⟨r,aa,M⟩:=F
  rw [aa]
  have y:=p.le
  refine x _ r _ h y ⟨by rw [aC,p.1,hy,aF],M,.inr ⟨b,xs++ys++(aQ z.cells (r-(n+m))).toList,rfl,q,?_,?_,?_⟩⟩
  ·congr 1;simp
  ·have R:(aQ z.cells (r-(n+m))).toList.length=(r-(n+m))*size:=by simp [aQ,st.cells]
   rw [aC,aC,p.1,hy,R,<- aF,<- aF]
   grind
  ·rw [List.take_append_of_le_length (by rw [aC,p.1,hy,aF];omega),aN (by rw [aC,p.1,hy,aF];omega)]
def A0e(z:aE)(n:Nat):J1 #[z] n=(List.replicate n z).toArray:=by
 unfold J1
 grind
def A88{P:aJ}{t:aK}(one:P.cellsOf t=1/\(P.info? t).isSome=true){k:IntKind}{n i:Int}{g:aO}{b:Nat}{c:Array aE}{e:aK}(hi:i.toNat<c.size){K:Unit->aO->Prop}
 (x:K () (g.put b (.cells (c.setIfInBounds i.toNat (.int k n)) e))):wpH P (Instr.storeAt t (.pointer (some (Addr.add ⟨b,0,none⟩ (i.toNat*1)))) (.int k n)) K (g.put b (.cells c e)):=by
 rw [D4,Nat.mul_one,Nat.zero_add]
 exact Dr one.1 one.2 rfl rfl hi x
def Y5{P:aJ}{t e:aK}{z:aE}{bytes:Nat}(s:SliceT P t e z 1 bytes){v:aE}(hv:v.cells=#[v]){K:VP}{h:aO}
 (x:∀ b,h b=none->K (.slice (some ⟨b,0,none⟩) 1 1) (h.put b (.cells #[v] e))):wpH P (aL t 1 #[(0,v)]) K h:=by
 refine Fe s o (cells:=#[v]) ?_ x
 have a:(J1 z.cells 1).size=1:=by simp [J1,s.cells]
 have:J1 z.cells 1=#[(J1 z.cells 1)[0]'o]:=by
  grind
 rw [this]
 simp [Instr.fill,hv]
def Yg{P:aJ}{t e:aK}{z:aE}{size bytes:Nat}(s:SliceT P t e z size bytes){K:VP}{h:aO}
 (x:∀ b,h b=none->K (.slice (some ⟨b,0,none⟩) 0 0) (h.put b (.cells #[] e))):wpH P (aL t 0 #[]) K h:=by
 refine Fe s o (cells:=#[]) ?_ x
 have:J1 z.cells 0=#[]:=by simp [J1]
 rw [this];rfl
