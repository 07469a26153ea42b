/- A part. -/
import Derived.Test.YtmbfcbbkbefgfaaGreatDoorG05
set_option linter.all false
open _root_.Go.Builtin renaming growBy->aH,nextslicecap->aN,zeroCells->aO
open _root_.Go.Instr renaming buildSlice->aK
open List renaming length_append->aC,eq_nil_of_length_eq_zero->aE,take_of_length_le->aL
open Nat renaming add_mul->aD,mul_le_mul_right->aG
open _root_.Go renaming Value->aF,Program->aI,TypeId->aJ
open _root_.Go.Proofs.YtmbfcbbkbefgfaaGreatDoor renaming Heap->aM
namespace Go.Proofs.YtmbfcbbkbefgfaaGreatDoor
open Go
def Ak{P:aI}{t e:aJ}{z:aF}{size bytes:Nat}(s:SliceT P t e z size bytes){len:Nat}{parts:Array (Nat × aF)}(hlen:len*size<=16777216){cells:Array aF}
 (hfill:Instr.fill (fun i=>some (i*size,size)) (E6 z.cells len) parts.toList=some cells) {K:VP} {h:aM}
 (x:∀ b,h b=none->K (.slice (some ⟨b,0,none⟩) len len) (h.put b (.cells cells e))):wpH P (aK t len parts) K h:=by
 obtain ⟨i,g,l,d,j⟩:=s.parts
 unfold aK
 simp only [C3,E3 s.und,J5 g,d]
 rw [iN (by simp only [show (2^24:Nat)=16777216 from rfl];omega)]
 have a:E6 z.cells len=(Array.range (len*size)).map (z.cells[· % z.cells.size]!):=by unfold E6;rw [s.cells]
 by_cases c:len*size=0
 ·simp only [c,if_true]
  have k:(Array.range 0).map (fun x=>(#[]:Array aF)[x%(#[]:Array aF).size]!)=E6 z.cells len:=by
   rw [a,c]
   apply Array.ext
   ·simp
   ·intro i m n;simp at m
  rw [C3,F4,k]
  simp only [hfill,C3,N9,F4]
  exact x
 ·simp only [c,if_false,C3,K6 g l,F4]
  rw [a] at hfill
  simp only [hfill,C3,N9,F4]
  exact x
def Mi{P:aI}{h:aM}(a:Addr)(K:Array aF->aM->Prop):∀ (cs:List aF) (i:Nat) (acc:Array aF),(∀ j v,cs[j]? = some v->h.cell? (a.add (i+j))=some v)->K (acc++cs.toArray) h->wpH P (loadCellsFrom a i cs.length acc) K h:=by
 intro cs
 induction cs with
 | nil=>intro i acc _ x;simpa [loadCellsFrom,F4] using x
 | cons c cs ih=>
  intro i acc b x
  simp only [List.length_cons,loadCellsFrom,C3]
  refine ⟨c,by simpa using b 0 c rfl,?_⟩
  refine ih (i+1) (acc.push c) (fun j v d=>?_) ?_
  ·have:=b (j+1) v (by simpa using d)
   rwa [show i+(j+1)=i+1+j by omega] at this
  ·simpa using x
def R1{P:aI}{h:aM}{a:Addr}{K:Array aF->aM->Prop}{cs:List aF}{n:Nat}(hn:n=cs.length)(hc:∀ j v,cs[j]? = some v->h.cell? (a.add j)=some v)(x:K cs.toArray h):wpH P (loadCells a n) K h:=by
 subst hn
 exact Mi a K cs 0 #[] (fun j v b=>by simpa using hc j v b) (by simpa using x)
def H5{P:aI}{g:aM}{b:Nat}{e:aJ}{K:Unit->aM->Prop}: ∀ (vs:List aF) (off i:Nat) (arr:List aF),off+i+vs.length<=arr.length->(∀ v∈vs,Vj v=true)->
 K () (g.put b (.cells (J8 arr (off+i) vs).toArray e))->wpH P (storeCells ⟨b,off,none⟩ vs i) K (g.put b (.cells arr.toArray e)):=by
 intro vs
 induction vs with
 | nil=>
  intro off i arr _ _ x
  have:J8 arr (off+i) []=arr:=by simp [J8]
  rw [this] at x
  exact x
 | cons v vs ih=>
  intro off i arr j a x
  simp only [List.length_cons] at j
  simp only [storeCells,C3]
  refine ⟨a v (by simp),⟨arr[off+i]'(by omega),?_⟩,?_,?_⟩
  ·rw [I0,G3];simp [show off+i<arr.length by omega]
  ·rw [I0];simp [Heap.frozen?,Heap.put]
  ·show wpH P (storeCells _ vs (i+1)) K _
   rw [I0,Fc]
   have c:(arr.toArray.setIfInBounds (off+i) v)=(arr.set (off+i) v).toArray:=by simp
   rw [c]
   refine ih off (i+1) (arr.set (off+i) v) (by simp;omega) (fun u d=>a u (by simp [d])) ?_
   rw [<- Nat.add_assoc,Ux arr (off+i) v vs (by omega)]
   exact x
def Priv(h g:aM)(e:aJ)(s:Nat)(A:Option Addr)(n c:Nat)(xs:List aF):Prop:=
 xs.length=n*s/\n<=c/\
 ((c=0/\h=g)\/∃ b arr,A=some ⟨b,0,none⟩/\g b=none/\h=g.put b (.cells (List.toArray arr) e)/\arr.length=c*s/\arr.take (n*s)=xs)
def Priv.le{h g:aM}{e:aJ}{s:Nat}{A:Option Addr}{n c:Nat}{xs:List aF}(p:Priv h g e s A n c xs):g.le h:=by
 rcases p.2.2 with ⟨_,rfl⟩|⟨b,a,_,d,rfl,_⟩
 ·exact B3 _
 ·exact Heap.le_put _ d
def Priv.slV{h g:aM}{e:aJ}{A:Option Addr}{n c:Nat}{xs:List aF}(p:Priv h g e 1 A n c xs):SlV h A xs:=by
 rcases p.2.2 with ⟨rfl,rfl⟩|⟨b,d,rfl,l,rfl,k,j⟩
 ·left
  have:=p.1;have:=p.2.1
  exact aE (by omega)
 ·right
  refine ⟨_,rfl,fun i v a=>?_⟩
  rw [I0,G3]
  rw [<- j,List.getElem?_take] at a
  split at a
  ·simpa using a
  ·cases a
def Priv.nil(h:aM)(e:aJ)(s:Nat)(A:Option Addr):Priv h h e s A 0 0 []:=⟨by simp,Nat.le_refl _,.inl ⟨rfl,rfl⟩⟩
def Priv.put{h g:aM}{e:aJ}{s:Nat}{A:Option Addr}{n c:Nat}{xs:List aF}(p:Priv h g e s A n c xs){b:Nat}(hb:h b=none)(o:Obj):Priv (h.put b o) (g.put b o) e s A n c xs:=by
 refine ⟨p.1,p.2.1,?_⟩
 rcases p.2.2 with ⟨i,rfl⟩|⟨j,d,i,k,rfl,l⟩
 ·exact .inl ⟨i,rfl⟩
 ·have a:j≠b:=by rintro rfl;rw [C4] at hb;cases hb
  exact .inr ⟨j,d,i,by rw [B7 _ _ a];exact k,Heap.put_comm g _ _ a,l⟩
def I6{P:aI}{h:aM}{A:Option Addr}{n c s:Nat}{cs:List aF}(hl:cs.length=n*s)(hc:cs=[]\/∃ a,A=some a/\∀ j v,cs[j]? = some v->h.cell? (a.add j)=some v){K:Array aF->aM->Prop}(x:K cs.toArray h):
 wpH P (Builtin.firstCells s n (.slice A n c)) K h:=by
 cases A with
 | none=>
  rcases hc with rfl|⟨a,e,_⟩
  ·exact x
  ·cases e
 | some a=>
  show wpH P (loadCells a (n*s)) K h
  rcases hc with rfl|⟨b,e,hc⟩
  ·exact R1 (cs:=[]) hl.symm (fun j v e=>by simp at e) x
  ·cases e
   exact R1 hl.symm hc x
def Hf{P:aI}{q:Question}(hq:q.forced=false){K:Nat->aM->Prop}{h:aM}(x:∀ t,K (q.cut t) h):wpH P (choose q) K h:=by
 show if q.forced then _ else _
 rw [hq];exact x
def A1d(new:Nat):∀ (r c:Nat),c<=new->aH new r c<=new+(new+768)/4
 | 0,c,h=>by simp only [aH];omega
 | r+1,c,h=>by
  simp only [aH]
  split
  ·omega
  ·rename_i hlt
   by_cases h2:c+(c+768)/4<=new
   ·exact A1d new r _ h2
   ·have:∀ r',aH new r' (c+(c+768)/4)=c+(c+768)/4:=by
     intro r'
     cases r' with
     | zero=>rfl
     | succ r'=>simp only [aH];rw [iP (by omega)]
    rw [this];omega
def Mz{need c:Nat}(h:c<need):aN need c<=2*need+192:=by
 unfold aN
 split
 ·omega
 ·split
  ·omega
  ·have:=A1d need 4 c (by omega);omega
def Ll{P:aI}{t e ty:aJ}{z:aF}{size bytes:Nat}(st:SliceT P t e z size bytes){h g:aM}{A:Option Addr}{n c:Nat}{xs:List aF}(p:Priv h g e size A n c xs)
 {B:Option Addr} {m d:Nat} {ys:List aF} (hy:ys.length=m*size) (hc:ys=[]\/∃ a,B=some a/\∀ j v,ys[j]? = some v->h.cell? (a.add j)=some v) (h1:∀ v∈ys,Vj v=true)
 (hb:(2*(n+m)+192)*bytes<=281474976710656) (hm:n+m<=9223372036854775807) {K:VP}
 (x:∀ A' c' h' g',g.le g'->Priv h' g' e size A' (n+m) c' (xs++ys)->K (.slice A' (n+m) c') h'):
 wpH P (Builtin.append_ #[t,t] ty #[.slice A n c,.slice B m d]) K h:=by
 obtain ⟨i,G,hz,aa,D⟩:=st.parts
 have V:=st.pos
 unfold Builtin.append_
 simp only [List.getElem?_toArray,List.getElem?_cons_zero,List.getElem?_cons_succ,C3,E3 st.und,J5 G,F4,Bool.false_eq_true,if_false,Builtin.lenOf,aa,Bool.not_false,if_true]
 by_cases k:n+m<=c
 ·simp only [k,if_true,C3]
  refine I6 hy hc ?_
  rcases p.2.2 with ⟨y,hg⟩|⟨b,l,O,C,X,o,s⟩
  ·
   have r:n=0:=by omega
   have N:m=0:=by omega
   subst r;subst N;subst hg
   have T:ys=[]:=aE (by simpa using hy)
   have S:xs=[]:=aE (by simpa using p.1)
   subst T;subst S
   have w:K (.slice A (0+0) c) h:=x A c h h (B3 _) ⟨by simp,by omega,.inl ⟨y,rfl⟩⟩
   cases A with
   | none=>exact w
   | some a=>exact w
  ·subst O
   simp only [C3,I0,Nat.zero_add]
   rw [X]
   refine H5 ys.toArray.toList (n*size) 0 l ?_ (fun v hv=>h1 v (by simpa using hv)) ?_
   ·simp only
    rw [hy,o]
    have:(n+m)*size<=c*size:=aG _ k
    rw [aD] at this;omega
   ·simp only [F4,Nat.add_zero]
    refine x _ c _ g (B3 _) ⟨by rw [aC,p.1,hy,aD],k,.inr ⟨b,_,rfl,C,rfl,?_,?_⟩⟩
    ·have:(n+m)*size<=c*size:=aG _ k
     rw [aD] at this
     simp only [J8,aC,List.length_take,List.length_drop,o,hy];omega
    ·have:(n+m)*size<=c*size:=aG _ k
     rw [aD] at this
     have E:(l.take (n*size)).length=n*size:=by rw [List.length_take,o];omega
     unfold J8
     have t1:(l.take (n*size)).take (n*size+m*size)=l.take (n*size):=aL (by rw [E];omega)
     have t2:ys.take (m*size)=ys:=aL (by omega)
     rw [aD,List.append_assoc,List.take_append,E,Nat.add_sub_cancel_left,List.take_append,t1,t2,hy,Nat.sub_self,List.take_zero,List.append_nil,s]
 ·have R:c<n+m:=by omega
  simp only [k,if_false,C3,G5 G,D]
  have Z:=Mz R
  have ab:aN (n+m) c*bytes<=281474976710656:=Nat.le_trans (aG _ Z) hb
  rw [iN (by rintro ⟨h',_⟩;simp only [IntKind.max,IntKind.signed,IntKind.bits] at h';simp at h';omega)]
  simp only [C3,G5 G,D]
  rw [iN (by simp only [show (2^48:Nat)=281474976710656 from rfl];omega)]
  simp only [F4,C3]
  refine Hf rfl fun tt=>?_
  simp only [Dm,G5 G]
  have F:xs=[]\/∃ a,A=some a/\∀ j v,xs[j]? = some v->h.cell? (a.add j)=some v:=by
   rcases p.2.2 with ⟨y,hg⟩|⟨b,l,O,C,X,o,s⟩
   ·left
    have r:n=0:=by have:=p.2.1;omega
    have:=p.1
    rw [r] at this
    exact aE (by simpa using this)
   ·right
    refine ⟨_,O,fun j v L=>?_⟩
    rw [I0,X,G3]
    rw [<- s,List.getElem?_take] at L
    split at L
    ·simpa using L
    ·cases L
  refine I6 p.1 F ?_
  refine I6 hy hc ?_
  simp only [K6 G hz,N9]
  intro b u
  have H:∃ q,(Question.appendCap (n+m) c e).cut tt=q/\n+m<=q:=⟨_,rfl,by simp only [Question.cut];omega⟩
  obtain ⟨q,M,W⟩:=H
  rw [M]
  have J:=p.le
  refine x _ q _ h J ⟨by rw [aC,p.1,hy,aD],W,.inr ⟨b,xs++ys++(aO z.cells (q-(n+m))).toList,rfl,u,?_,?_,?_⟩⟩
  ·congr 1;simp
  ·have Q:(aO z.cells (q-(n+m))).toList.length=(q-(n+m))*size:=by simp [aO,st.cells]
   rw [aC,aC,p.1,hy,Q,<- aD,<- aD]
   congr 1;omega
  ·rw [List.take_append_of_le_length (by rw [aC,p.1,hy,aD];omega),aL (by rw [aC,p.1,hy,aD];omega)]
def A0s(z:aF)(n:Nat):E6 #[z] n=(List.replicate n z).toArray:=by
 unfold E6
 apply Array.ext
 ·simp
 ·intro i b a
  simp [Nat.mod_one]
def A8n{P:aI}{t:aJ}(one:P.cellsOf t=1/\(P.info? t).isSome=true){k:IntKind}{n i:Int}{g:aM}{b:Nat}{c:Array aF}{e:aJ}(hi:i.toNat<c.size){K:Unit->aM->Prop}
 (x:K () (g.put b (.cells (c.setIfInBounds i.toNat (.int k n)) e))):wpH P (Instr.storeAt t (.pointer (some (Addr.add ⟨b,0,none⟩ (i.toNat*1)))) (.int k n)) K (g.put b (.cells c e)):=by
 rw [I0,Nat.mul_one,Nat.zero_add]
 exact A0i one.1 one.2 rfl rfl hi x
def Y4{P:aI}{t e:aJ}{z:aF}{bytes:Nat}(s:SliceT P t e z 1 bytes){v:aF}(hv:v.cells=#[v]){K:VP}{h:aM}
 (x:∀ b,h b=none->K (.slice (some ⟨b,0,none⟩) 1 1) (h.put b (.cells #[v] e))):wpH P (aK t 1 #[(0,v)]) K h:=by
 refine Ak s (by omega) (cells:=#[v]) ?_ x
 have a:(E6 z.cells 1).size=1:=by simp [E6,s.cells]
 have:E6 z.cells 1=#[(E6 z.cells 1)[0]'(by omega)]:=by
  apply Array.ext
  ·simpa using a
  ·intro i d c
   have:i=0:=by simp at c;omega
   subst this;rfl
 rw [this]
 simp [Instr.fill,hv]
def Rf{P:aI}{t e:aJ}{z:aF}{size bytes:Nat}(s:SliceT P t e z size bytes){K:VP}{h:aM}
 (x:∀ b,h b=none->K (.slice (some ⟨b,0,none⟩) 0 0) (h.put b (.cells #[] e))):wpH P (aK t 0 #[]) K h:=by
 refine Ak s (by omega) (cells:=#[]) ?_ x
 have:E6 z.cells 0=#[]:=by simp [E6]
 rw [this];rfl
