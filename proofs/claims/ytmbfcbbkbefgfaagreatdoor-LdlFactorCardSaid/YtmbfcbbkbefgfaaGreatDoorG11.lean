/- A part. -/
import Derived.Test.YtmbfcbbkbefgfaaGreatDoorG05
set_option linter.all false
open _root_.Go.Builtin renaming growBy->aH,nextslicecap->aN,zeroCells->aO
open _root_.Go.Instr renaming buildSlice->aK
open List renaming length_append->aC,eq_nil_of_length_eq_zero->aE,take_of_length_le->aL
open Nat renaming add_mul->aD,mul_le_mul_right->aG
open _root_.Go renaming Value->aF,Program->aI,TypeId->aJ
open _root_.Go.Proofs.YtmbfcbbkbefgfaaGreatDoor renaming Heap->aM
namespace Go.Proofs.YtmbfcbbkbefgfaaGreatDoor
open Go
def Cm{P:aI}{t e:aJ}{z:aF}{size bytes:Nat}(s:SliceT P t e z size bytes){len:Nat}{parts:Array (Nat × aF)}(hlen:len*size<=16777216){cells:Array aF}
 (hfill:Instr.fill (fun i=>some (i*size,size)) (G0 z.cells len) parts.toList=some cells) {K:VP} {h:aM}
 (x:∀ b,h b=none->K (.slice (some ⟨b,0,none⟩) len len) (h.put b (.cells cells e))):wpH P (aK t len parts) K h:=by
 obtain ⟨i,f,j,d,l⟩:=s.parts
 unfold aK
 simp only [C8,F4 s.und,M0 f,d]
 rw [iN (by simp only [show (2^24:Nat)=16777216 from rfl];omega)]
 have a:G0 z.cells len=(Array.range (len*size)).map (z.cells[· % z.cells.size]!):=by unfold G0;rw [s.cells]
 by_cases c:len*size=0
 ·simp only [c,if_true]
  have g:(Array.range 0).map (fun x=>(#[]:Array aF)[x%(#[]:Array aF).size]!)=G0 z.cells len:=by
   rw [a,c]
   apply Array.ext
   ·simp
   ·intro i k m;simp at k
  rw [C8,H1,g]
  simp only [hfill,C8,S7,H1]
  exact x
 ·simp only [c,if_false,C8,S6 f j,H1]
  rw [a] at hfill
  simp only [hfill,C8,S7,H1]
  exact x
def Pp{P:aI}{h:aM}(a:Addr)(K:Array aF->aM->Prop):∀ (cs:List aF) (i:Nat) (acc:Array aF),(∀ j v,cs[j]? = some v->h.cell? (a.add (i+j))=some v)->K (acc++cs.toArray) h->wpH P (loadCellsFrom a i cs.length acc) K h:=by
 intro cs
 induction cs with
 | nil=>intro i acc _ x;simpa [loadCellsFrom,H1] using x
 | cons c cs ih=>
  intro i acc b x
  simp only [List.length_cons,loadCellsFrom,C8]
  refine ⟨c,by simpa using b 0 c rfl,?_⟩
  refine ih (i+1) (acc.push c) (fun j v d=>?_) ?_
  ·have:=b (j+1) v (by simpa using d)
   rwa [show i+(j+1)=i+1+j by omega] at this
  ·simpa using x
def W5{P:aI}{h:aM}{a:Addr}{K:Array aF->aM->Prop}{cs:List aF}{n:Nat}(hn:n=cs.length)(hc:∀ j v,cs[j]? = some v->h.cell? (a.add j)=some v)(x:K cs.toArray h):wpH P (loadCells a n) K h:=by
 subst hn
 exact Pp a K cs 0 #[] (fun j v b=>by simpa using hc j v b) (by simpa using x)
def J8{P:aI}{g:aM}{b:Nat}{e:aJ}{K:Unit->aM->Prop}: ∀ (vs:List aF) (off i:Nat) (arr:List aF),off+i+vs.length<=arr.length->(∀ v∈vs,A5c v=true)->
 K () (g.put b (.cells (L4 arr (off+i) vs).toArray e))->wpH P (storeCells ⟨b,off,none⟩ vs i) K (g.put b (.cells arr.toArray e)):=by
 intro vs
 induction vs with
 | nil=>
  intro off i arr _ _ x
  have:L4 arr (off+i) []=arr:=by simp [L4]
  rw [this] at x
  exact x
 | cons v vs ih=>
  intro off i arr c a x
  simp only [List.length_cons] at c
  simp only [storeCells,C8]
  refine ⟨a v (by simp),⟨arr[off+i]'(by omega),?_⟩,?_,?_⟩
  ·rw [E6,E9];simp [show off+i<arr.length by omega]
  ·rw [E6];simp [Heap.frozen?,Heap.put]
  ·show wpH P (storeCells _ vs (i+1)) K _
   rw [E6,Hi]
   have d:(arr.toArray.setIfInBounds (off+i) v)=(arr.set (off+i) v).toArray:=by simp
   rw [d]
   refine ih off (i+1) (arr.set (off+i) v) (by simp;omega) (fun u f=>a u (by simp [f])) ?_
   rw [<- Nat.add_assoc,Yf arr (off+i) v vs (by omega)]
   exact x
def Priv(h g:aM)(e:aJ)(s:Nat)(A:Option Addr)(n c:Nat)(xs:List aF):Prop:=
 xs.length=n*s/\n<=c/\
 ((c=0/\h=g)\/∃ b arr,A=some ⟨b,0,none⟩/\g b=none/\h=g.put b (.cells (List.toArray arr) e)/\arr.length=c*s/\arr.take (n*s)=xs)
def Priv.le{h g:aM}{e:aJ}{s:Nat}{A:Option Addr}{n c:Nat}{xs:List aF}(p:Priv h g e s A n c xs):g.le h:=by
 rcases p.2.2 with ⟨_,rfl⟩|⟨b,a,_,d,rfl,_⟩
 ·exact B5 _
 ·exact Heap.le_put _ d
def Priv.slV{h g:aM}{e:aJ}{A:Option Addr}{n c:Nat}{xs:List aF}(p:Priv h g e 1 A n c xs):SlV h A xs:=by
 rcases p.2.2 with ⟨rfl,rfl⟩|⟨b,d,rfl,j,rfl,k,f⟩
 ·left
  have:=p.1;have:=p.2.1
  exact aE (by omega)
 ·right
  refine ⟨_,rfl,fun i v a=>?_⟩
  rw [E6,E9]
  rw [<- f,List.getElem?_take] at a
  split at a
  ·simpa using a
  ·cases a
def Priv.nil(h:aM)(e:aJ)(s:Nat)(A:Option Addr):Priv h h e s A 0 0 []:=⟨by simp,Nat.le_refl _,.inl ⟨rfl,rfl⟩⟩
def Priv.put{h g:aM}{e:aJ}{s:Nat}{A:Option Addr}{n c:Nat}{xs:List aF}(p:Priv h g e s A n c xs){b:Nat}(hb:h b=none)(o:Obj):Priv (h.put b o) (g.put b o) e s A n c xs:=by
 refine ⟨p.1,p.2.1,?_⟩
 rcases p.2.2 with ⟨f,rfl⟩|⟨i,d,f,k,rfl,j⟩
 ·exact .inl ⟨f,rfl⟩
 ·have a:i≠b:=by rintro rfl;rw [C2] at hb;cases hb
  exact .inr ⟨i,d,f,by rw [B9 _ _ a];exact k,Heap.put_comm g _ _ a,j⟩
def N5{P:aI}{h:aM}{A:Option Addr}{n c s:Nat}{cs:List aF}(hl:cs.length=n*s)(hc:cs=[]\/∃ a,A=some a/\∀ j v,cs[j]? = some v->h.cell? (a.add j)=some v){K:Array aF->aM->Prop}(x:K cs.toArray h):
 wpH P (Builtin.firstCells s n (.slice A n c)) K h:=by
 cases A with
 | none=>
  rcases hc with rfl|⟨a,e,_⟩
  ·exact x
  ·cases e
 | some a=>
  show wpH P (loadCells a (n*s)) K h
  rcases hc with rfl|⟨b,e,hc⟩
  ·exact W5 (cs:=[]) hl.symm (fun j v e=>by simp at e) x
  ·cases e
   exact W5 hl.symm hc x
def Jl{P:aI}{q:Question}(hq:q.forced=false){K:Nat->aM->Prop}{h:aM}(x:∀ t,K (q.cut t) h):wpH P (choose q) K h:=by
 show if q.forced then _ else _
 rw [hq];exact x
def A3v(new:Nat):∀ (r c:Nat),c<=new->aH new r c<=new+(new+768)/4
 | 0,c,h=>by simp only [aH];omega
 | r+1,c,h=>by
  simp only [aH]
  split
  ·omega
  ·rename_i hlt
   by_cases h2:c+(c+768)/4<=new
   ·exact A3v new r _ h2
   ·have:∀ r',aH new r' (c+(c+768)/4)=c+(c+768)/4:=by
     intro r'
     cases r' with
     | zero=>rfl
     | succ r'=>simp only [aH];rw [iP (by omega)]
    rw [this];omega
def Px{need c:Nat}(h:c<need):aN need c<=2*need+192:=by
 unfold aN
 split
 ·omega
 ·split
  ·omega
  ·have:=A3v need 4 c (by omega);omega
def Oy{P:aI}{t e ty:aJ}{z:aF}{size bytes:Nat}(st:SliceT P t e z size bytes){h g:aM}{A:Option Addr}{n c:Nat}{xs:List aF}(p:Priv h g e size A n c xs)
 {B:Option Addr} {m d:Nat} {ys:List aF} (hy:ys.length=m*size) (hc:ys=[]\/∃ a,B=some a/\∀ j v,ys[j]? = some v->h.cell? (a.add j)=some v) (h1:∀ v∈ys,A5c v=true)
 (hb:(2*(n+m)+192)*bytes<=281474976710656) (hm:n+m<=9223372036854775807) {K:VP}
 (x:∀ A' c' h' g',g.le g'->Priv h' g' e size A' (n+m) c' (xs++ys)->K (.slice A' (n+m) c') h'):
 wpH P (Builtin.append_ #[t,t] ty #[.slice A n c,.slice B m d]) K h:=by
 obtain ⟨i,u,hz,O,D⟩:=st.parts
 have M:=st.pos
 unfold Builtin.append_
 simp only [List.getElem?_toArray,List.getElem?_cons_zero,List.getElem?_cons_succ,C8,F4 st.und,M0 u,H1,Bool.false_eq_true,if_false,Builtin.lenOf,O,Bool.not_false,if_true]
 by_cases f:n+m<=c
 ·simp only [f,if_true,C8]
  refine N5 hy hc ?_
  rcases p.2.2 with ⟨E,hg⟩|⟨b,k,R,F,N,l,q⟩
  ·
   have r:n=0:=by omega
   have X:m=0:=by omega
   subst r;subst X;subst hg
   have W:ys=[]:=aE (by simpa using hy)
   have S:xs=[]:=aE (by simpa using p.1)
   subst W;subst S
   have G:K (.slice A (0+0) c) h:=x A c h h (B5 _) ⟨by simp,by omega,.inl ⟨E,rfl⟩⟩
   cases A with
   | none=>exact G
   | some a=>exact G
  ·subst R
   simp only [C8,E6,Nat.zero_add]
   rw [N]
   refine J8 ys.toArray.toList (n*size) 0 k ?_ (fun v hv=>h1 v (by simpa using hv)) ?_
   ·simp only
    rw [hy,l]
    have:(n+m)*size<=c*size:=aG _ f
    rw [aD] at this;omega
   ·simp only [H1,Nat.add_zero]
    refine x _ c _ g (B5 _) ⟨by rw [aC,p.1,hy,aD],f,.inr ⟨b,_,rfl,F,rfl,?_,?_⟩⟩
    ·have:(n+m)*size<=c*size:=aG _ f
     rw [aD] at this
     simp only [L4,aC,List.length_take,List.length_drop,l,hy];omega
    ·have:(n+m)*size<=c*size:=aG _ f
     rw [aD] at this
     have w:(k.take (n*size)).length=n*size:=by rw [List.length_take,l];omega
     unfold L4
     have t1:(k.take (n*size)).take (n*size+m*size)=k.take (n*size):=aL (by rw [w];omega)
     have t2:ys.take (m*size)=ys:=aL (by omega)
     rw [aD,List.append_assoc,List.take_append,w,Nat.add_sub_cancel_left,List.take_append,t1,t2,hy,Nat.sub_self,List.take_zero,List.append_nil,q]
 ·have V:c<n+m:=by omega
  simp only [f,if_false,C8,J3 u,D]
  have L:=Px V
  have aa:aN (n+m) c*bytes<=281474976710656:=Nat.le_trans (aG _ L) hb
  rw [iN (by rintro ⟨h',_⟩;simp only [IntKind.max,IntKind.signed,IntKind.bits] at h';simp at h';omega)]
  simp only [C8,J3 u,D]
  rw [iN (by simp only [show (2^48:Nat)=281474976710656 from rfl];omega)]
  simp only [H1,C8]
  refine Jl rfl fun tt=>?_
  simp only [Fl,J3 u]
  have C:xs=[]\/∃ a,A=some a/\∀ j v,xs[j]? = some v->h.cell? (a.add j)=some v:=by
   rcases p.2.2 with ⟨E,hg⟩|⟨b,k,R,F,N,l,q⟩
   ·left
    have r:n=0:=by have:=p.2.1;omega
    have:=p.1
    rw [r] at this
    exact aE (by simpa using this)
   ·right
    refine ⟨_,R,fun j v J=>?_⟩
    rw [E6,N,E9]
    rw [<- q,List.getElem?_take] at J
    split at J
    ·simpa using J
    ·cases J
  refine N5 p.1 C ?_
  refine N5 hy hc ?_
  simp only [S6 u hz,S7]
  intro b s
  have y:∃ o,(Question.appendCap (n+m) c e).cut tt=o/\n+m<=o:=⟨_,rfl,by simp only [Question.cut];omega⟩
  obtain ⟨o,Q,Z⟩:=y
  rw [Q]
  have H:=p.le
  refine x _ o _ h H ⟨by rw [aC,p.1,hy,aD],Z,.inr ⟨b,xs++ys++(aO z.cells (o-(n+m))).toList,rfl,s,?_,?_,?_⟩⟩
  ·congr 1;simp
  ·have T:(aO z.cells (o-(n+m))).toList.length=(o-(n+m))*size:=by simp [aO,st.cells]
   rw [aC,aC,p.1,hy,T,<- aD,<- aD]
   congr 1;omega
  ·rw [List.take_append_of_le_length (by rw [aC,p.1,hy,aD];omega),aL (by rw [aC,p.1,hy,aD];omega)]
def A3d(z:aF)(n:Nat):G0 #[z] n=(List.replicate n z).toArray:=by
 unfold G0
 apply Array.ext
 ·simp
 ·intro i a b
  simp [Nat.mod_one]
def B20{P:aI}{t:aJ}(one:P.cellsOf t=1/\(P.info? t).isSome=true){k:IntKind}{n i:Int}{g:aM}{b:Nat}{c:Array aF}{e:aJ}(hi:i.toNat<c.size){K:Unit->aM->Prop}
 (x:K () (g.put b (.cells (c.setIfInBounds i.toNat (.int k n)) e))):wpH P (Instr.storeAt t (.pointer (some (Addr.add ⟨b,0,none⟩ (i.toNat*1)))) (.int k n)) K (g.put b (.cells c e)):=by
 rw [E6,Nat.mul_one,Nat.zero_add]
 exact Eo one.1 one.2 rfl rfl hi x
def Bi{P:aI}{t e:aJ}{z:aF}{bytes:Nat}(s:SliceT P t e z 1 bytes){v:aF}(hv:v.cells=#[v]){K:VP}{h:aM}
 (x:∀ b,h b=none->K (.slice (some ⟨b,0,none⟩) 1 1) (h.put b (.cells #[v] e))):wpH P (aK t 1 #[(0,v)]) K h:=by
 refine Cm s (by omega) (cells:=#[v]) ?_ x
 have a:(G0 z.cells 1).size=1:=by simp [G0,s.cells]
 have:G0 z.cells 1=#[(G0 z.cells 1)[0]'(by omega)]:=by
  apply Array.ext
  ·simpa using a
  ·intro i d c
   have:i=0:=by simp at c;omega
   subst this;rfl
 rw [this]
 simp [Instr.fill,hv]
def Qb{P:aI}{t e:aJ}{z:aF}{size bytes:Nat}(s:SliceT P t e z size bytes){K:VP}{h:aM}
 (x:∀ b,h b=none->K (.slice (some ⟨b,0,none⟩) 0 0) (h.put b (.cells #[] e))):wpH P (aK t 0 #[]) K h:=by
 refine Cm s (by omega) (cells:=#[]) ?_ x
 have:G0 z.cells 0=#[]:=by simp [G0]
 rw [this];rfl
