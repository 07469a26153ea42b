/- A part. -/
import Derived.Test.YtkfhdoblhajcbaaGreatDoorG05
set_option linter.all false
open _root_.Go.Builtin renaming growBy->aI,nextslicecap->aM,zeroCells->aN
open _root_.Go.Instr renaming buildSlice->aJ
open List renaming length_append->aD,take_of_length_le->aL,eq_nil_of_length_eq_zero->aP,replicate->aQ
open Nat renaming add_mul->aE,mul_le_mul_right->aF
open _root_.Go.Value renaming int->aO
open _root_.Go renaming Value->aC,TypeId->aG,Program->aH
open _root_.Go.Proofs.YtkfhdoblhajcbaaGreatDoor renaming Heap->aK
namespace Go.Proofs.YtkfhdoblhajcbaaGreatDoor
open Go
def Bn{P:aH}{t e:aG}{z:aC}{size bytes:Nat}(s:SliceT P t e z size bytes){len:Nat}{parts:Array (Nat × aC)}(hlen:len*size<=16777216){cells:Array aC}
 (hfill:Instr.fill (fun i=>some (i*size,size)) (F3 z.cells len) parts.toList=some cells) {K:VP} {h:aK}
 (x:∀ b,h b=none->K (.slice (some ⟨b,0,none⟩) len len) (h.put b (.cells cells e))):wpH P (aJ t len parts) K h:=by
 obtain ⟨i,f,k,d,j⟩:=s.parts
 unfold aJ
 simp only [C9,E9 s.und,J5 f,d]
 rw [iN o]
 have a:F3 z.cells len=(Array.range (len*size)).map (z.cells[· % z.cells.size]!):=by unfold F3;rw [s.cells]
 by_cases c:len*size=0
 ·simp only [c,if_true]
  have g:(Array.range 0).map (fun x=>(#[]:Array aC)[x%(#[]:Array aC).size]!)=F3 z.cells len:=by
   grind
  rw [C9,H9,g]
  simp only [hfill,C9,Z2,H9]
  exact x
 ·simp only [c,if_false,C9,N9 f k,H9]
  rw [a] at hfill
  simp only [hfill,C9,Z2,H9]
  exact x
def Np{P:aH}{h:aK}(a:Addr)(K:Array aC->aK->Prop):∀ (cs:List aC) (i:Nat) (acc:Array aC),(∀ j v,cs[j]? = some v->h.cell? (a.add (i+j))=some v)->K (acc++cs.toArray) h->wpH P (loadCellsFrom a i cs.length acc) K h:=by
 intro cs
 induction cs with
 | nil=>intro i acc _ x;simpa [loadCellsFrom,H9] using x
 | cons c cs ih=>
  intro i acc b x
  refine ⟨c,by simpa using b 0 c rfl,?_⟩
  refine ih (i+1) (acc.push c) (fun j v d=>?_) ?_
  ·have:=b (j+1) v (by assumption)
   grind
  simp_all
def W7{P:aH}{h:aK}{a:Addr}{K:Array aC->aK->Prop}{cs:List aC}{n:Nat}(hn:n=cs.length)(hc:∀ j v,cs[j]? = some v->h.cell? (a.add j)=some v)(x:K cs.toArray h):wpH P (loadCells a n) K h:=by
 subst hn
 exact Np a K cs 0 #[] (fun j v b=>gz0) gz0
def H0{P:aH}{g:aK}{b:Nat}{e:aG}{K:Unit->aK->Prop}: ∀ (vs:List aC) (off i:Nat) (arr:List aC),off+i+vs.length<=arr.length->(∀ v∈vs,Nm v=true)->
 K () (g.put b (.cells (I3 arr (off+i) vs).toArray e))->wpH P (storeCells ⟨b,off,none⟩ vs i) K (g.put b (.cells arr.toArray e)):=by
 intro vs
 induction vs with
 | nil=>
  intro off i arr _ _ x
  have:I3 arr (off+i) []=arr:=by simp [I3]
  rw [this] at x
  exact x
 | cons v vs ih=>
  intro off i arr c a x
  simp only [List.length_cons] at c
  refine ⟨a v (by simp),⟨arr[off+i]'o,?_⟩,?_,?_⟩
  ·rw [D5,D7];grind
  ·rw [D5];simp [Heap.frozen?,Heap.put]
  ·show wpH P (storeCells _ vs (i+1)) K _
   rw [D5,Gt]
   have f:(arr.toArray.setIfInBounds (off+i) v)=(arr.set (off+i) v).toArray:=by simp
   rw [f]
   refine ih off (i+1) (arr.set (off+i) v) gz0 (fun u d=>a u (by simp [d])) ?_
   rw [<- Nat.add_assoc,Ve arr (off+i) v vs o]
   exact x
def Priv(h g:aK)(e:aG)(s:Nat)(A:Option Addr)(n c:Nat)(xs:List aC):Prop:=
 xs.length=n*s/\n<=c/\
 ((c=0/\h=g)\/∃ b arr,A=some ⟨b,0,none⟩/\g b=none/\h=g.put b (.cells (List.toArray arr) e)/\arr.length=c*s/\arr.take (n*s)=xs)
def Priv.le{h g:aK}{e:aG}{s:Nat}{A:Option Addr}{n c:Nat}{xs:List aC}(p:Priv h g e s A n c xs):g.le h:=by
 rcases p.2.2 with ⟨_,rfl⟩|⟨b,a,_,d,rfl,_⟩
 ·exact B7 _
 ·exact Heap.le_put _ d
def Priv.slV{h g:aK}{e:aG}{A:Option Addr}{n c:Nat}{xs:List aC}(p:Priv h g e 1 A n c xs):SlV h A xs:=by
 rcases p.2.2 with ⟨rfl,rfl⟩|⟨b,a,rfl,k,rfl,f,j⟩
 ·left
  have:=p.1;have:=p.2.1
  grind
 ·right
  refine ⟨_,rfl,fun i v d=>?_⟩
  rw [D5,D7]
  grind
def Priv.nil(h:aK)(e:aG)(s:Nat)(A:Option Addr):Priv h h e s A 0 0 []:=⟨by simp,Nat.le_refl _,.inl ⟨rfl,rfl⟩⟩
def Priv.put{h g:aK}{e:aG}{s:Nat}{A:Option Addr}{n c:Nat}{xs:List aC}(p:Priv h g e s A n c xs){b:Nat}(hb:h b=none)(o:Obj):Priv (h.put b o) (g.put b o) e s A n c xs:=by
 refine ⟨p.1,p.2.1,?_⟩
 rcases p.2.2 with ⟨f,rfl⟩|⟨i,d,f,j,rfl,k⟩
 ·grind
 ·have a:i≠b:=by rintro rfl;rw [C3] at hb;cases hb
  exact .inr ⟨i,d,f,by rw [B9 _ _ a];exact j,Heap.put_comm g _ _ a,k⟩
def N6{P:aH}{h:aK}{A:Option Addr}{n c s:Nat}{cs:List aC}(hl:cs.length=n*s)(hc:cs=[]\/∃ a,A=some a/\∀ j v,cs[j]? = some v->h.cell? (a.add j)=some v){K:Array aC->aK->Prop}(x:K cs.toArray h):
 wpH P (Builtin.firstCells s n (.slice A n c)) K h:=by
 cases A with
 | none=>
  rcases hc with rfl|⟨a,e,_⟩
  ·exact x
  ·cases e
 | some a=>
  show wpH P (loadCells a (n*s)) K h
  rcases hc with rfl|⟨b,e,hc⟩
  ·exact W7 (cs:=[]) hl.symm (fun j v e=>by simp at e) x
  ·cases e
   exact W7 hl.symm hc x
def Ic{P:aH}{q:Question}(hq:q.forced=false){K:Nat->aK->Prop}{h:aK}(x:∀ t,K (q.cut t) h):wpH P (choose q) K h:=by
 show if q.forced then _ else _
 rw [hq];exact x
def A1b(new:Nat):∀ (r c:Nat),c<=new->aI new r c<=new+(new+768)/4
 | 0,c,h=>by simp only [aI];omega
 | r+1,c,h=>by
  simp only [aI]
  split
  ·omega
  ·by_cases h2:c+(c+768)/4<=new
   ·exact A1b new r _ h2
   ·have:∀ r',aI new r' (c+(c+768)/4)=c+(c+768)/4:=by
     intro r'
     cases r' with
     | zero=>rfl
     | succ r'=>simp only [aI];grind
    grind
def Oc{need c:Nat}(h:c<need):aM need c<=2*need+192:=by
 unfold aM
 split
 ·omega
 ·split
  ·omega
  ·have:=A1b need 4 c o;omega
def At{P:aH}{t e ty:aG}{z:aC}{size bytes:Nat}(st:SliceT P t e z size bytes){h g:aK}{A:Option Addr}{n c:Nat}{xs:List aC}(p:Priv h g e size A n c xs)
 {B:Option Addr} {m d:Nat} {ys:List aC} (hy:ys.length=m*size) (hc:ys=[]\/∃ a,B=some a/\∀ j v,ys[j]? = some v->h.cell? (a.add j)=some v) (h1:∀ v∈ys,Nm v=true)
 (hb:(2*(n+m)+192)*bytes<=281474976710656) (hm:n+m<=9223372036854775807) {K:VP}
 (x:∀ A' c' h' g',g.le g'->Priv h' g' e size A' (n+m) c' (xs++ys)->K (.slice A' (n+m) c') h'):
 wpH P (Builtin.append_ #[t,t] ty #[.slice A n c,.slice B m d]) K h:=by
 obtain ⟨i,D,hz,T,C⟩:=st.parts
 unfold Builtin.append_
 simp only [List.getElem?_toArray,List.getElem?_cons_zero,List.getElem?_cons_succ,C9,E9 st.und,J5 D,H9,Bool.false_eq_true,if_false,Builtin.lenOf,T,Bool.not_false,if_true]
 by_cases f:n+m<=c
 ·simp only [f,if_true,C9]
  refine N6 hy hc ?_
  rcases p.2.2 with ⟨r,hg⟩|⟨b,k,S,F,W,H,u⟩
  ·
   have G:n=0:=o
   have O:m=0:=o
   subst G;subst O;subst hg
   have R:ys=[]:=aP o
   have N:xs=[]:=aP (by simpa using p.1)
   subst R;subst N
   have s:K (.slice A (0+0) c) h:=x A c h h (B7 _) ⟨by simp,o,.inl ⟨r,rfl⟩⟩
   cases A with
   | none=>exact s
   | some a=>exact s
  ·subst S
   simp only [C9,D5,Nat.zero_add]
   rw [W]
   refine H0 ys.toArray.toList (n*size) 0 k ?_ (fun v hv=>h1 v o) ?_
   ·have:(n+m)*size<=c*size:=aF _ f
    grind
   ·simp only [H9,Nat.add_zero]
    refine x _ c _ g (B7 _) ⟨by rw [aD,p.1,hy,aE],f,.inr ⟨b,_,rfl,F,rfl,?_,?_⟩⟩
    ·have:(n+m)*size<=c*size:=aF _ f
     rw [aE] at this
     simp only [I3,aD,List.length_take,List.length_drop,H,hy];omega
    ·have:(n+m)*size<=c*size:=aF _ f
     have aa:(k.take (n*size)).length=n*size:=gz0
     unfold I3
     have t1:(k.take (n*size)).take (n*size+m*size)=k.take (n*size):=aL o
     have t2:ys.take (m*size)=ys:=aL o
     rw [aE,List.append_assoc,List.take_append,aa,Nat.add_sub_cancel_left,List.take_append,t1,t2,hy,Nat.sub_self,List.take_zero,List.append_nil,u]
 ·have M:c<n+m:=o
  simp only [f,if_false,C9,I6 D,C]
  have V:=Oc M
  have ac:aM (n+m) c*bytes<=281474976710656:=Nat.le_trans (aF _ V) hb
  rw [iN (by rintro ⟨h',_⟩;simp only [IntKind.max,IntKind.signed,IntKind.bits] at h';omega)]
  simp only [C9,I6 D,C]
  rw [iN o]
  simp only [H9,C9]
  refine Ic rfl fun tt=>?_
  simp only [Fb,I6 D]
  have y:xs=[]\/∃ a,A=some a/\∀ j v,xs[j]? = some v->h.cell? (a.add j)=some v:=by
   rcases p.2.2 with ⟨r,hg⟩|⟨b,k,S,F,W,H,u⟩
   ·left
    have G:n=0:=by have:=p.2.1;omega
    have:=p.1
    simp_all
   ·right
    refine ⟨_,S,fun j v hj=>?_⟩
    rw [D5,W,D7]
    grind
  refine N6 p.1 y ?_
  refine N6 hy hc ?_
  simp only [N9 D hz,Z2]
  intro b l
  have E:∃ q,(Question.appendCap (n+m) c e).cut tt=q/\n+m<=q:=⟨_,rfl,by simp only [Question.cut];omega⟩
  obtain ⟨q,X,L⟩:=E
  rw [X]
  have w:=p.le
  refine x _ q _ h w ⟨by rw [aD,p.1,hy,aE],L,.inr ⟨b,xs++ys++(aN z.cells (q-(n+m))).toList,rfl,l,?_,?_,?_⟩⟩
  ·congr 1;simp
  ·have Q:(aN z.cells (q-(n+m))).toList.length=(q-(n+m))*size:=by simp [aN,st.cells]
   rw [aD,aD,p.1,hy,Q,<- aE,<- aE]
   grind
  ·rw [List.take_append_of_le_length (by rw [aD,p.1,hy,aE];omega),aL (by rw [aD,p.1,hy,aE];omega)]
def V4(z:aC)(n:Nat):F3 #[z] n=(aQ n z).toArray:=by
 unfold F3
 grind
def Hl{α:Type}(f:α->aC)(z:aC)(zs:List α)(k:Nat):List aC:=(zs.take k).map f++aQ (zs.length-k) z
def Wa{α:Type}(f:α->aC)(z:aC)(zs:List α):Hl f z zs 0=aQ zs.length z:=by rfl
def Ta{α:Type}(f:α->aC)(z:aC)(zs:List α):Hl f z zs zs.length=zs.map f:=by simp [Hl]
def B0b{α:Type}(f:α->aC)(z:aC)(zs:List α){k:Nat}(hk:k<zs.length):(Hl f z zs k).set k (f zs[k])=Hl f z zs (k+1):=by
 have a:((zs.take k).map f).length=k:=gz0
 have e:zs.length-k=(zs.length-(k+1))+1:=o
 unfold Hl
 rw [e,List.replicate_succ,List.set_append_right _ _ o,a,Nat.sub_self,List.set_cons_zero,List.take_succ_eq_append_getElem hk,List.map_append,List.append_assoc]
 rfl
def Ks{P:aH}{t:aG}(one:P.cellsOf t=1/\(P.info? t).isSome=true){k:IntKind}{n i:Int}{g:aK}{b:Nat}{c:Array aC}{e:aG}(hi:i.toNat<c.size){K:Unit->aK->Prop}
 (x:K () (g.put b (.cells (c.setIfInBounds i.toNat (.int k n)) e))):wpH P (Instr.storeAt t (.pointer (some (Addr.add ⟨b,0,none⟩ (i.toNat*1)))) (.int k n)) K (g.put b (.cells c e)):=by
 rw [D5,Nat.mul_one,Nat.zero_add]
 exact Ak one.1 one.2 rfl rfl hi x
def Pk{P:aH}{t:aG}(one:P.cellsOf t=1/\(P.info? t).isSome=true){k:IntKind}{n:Int}{i:Nat}{g:aK}{b:Nat}{e:aG}{zs:List Int}(hi:i<zs.length)(hn:n=zs[i]){K:Unit->aK->Prop}
 (x:K () (g.put b (.cells (Hl (aO k) (.int k 0) zs (i+1)).toArray e))):wpH P (Instr.storeAt t (.pointer (some (Addr.add ⟨b,0,none⟩ ((i:Int).toNat*1)))) (.int k n)) K (g.put b (.cells (Hl (aO k) (.int k 0) zs i).toArray e)):=by
 refine Ks one (by simp [Hl];omega) ?_
 have:(Hl (aO k) (.int k 0) zs i).toArray.setIfInBounds (i:Int).toNat (.int k n)=(Hl (aO k) (.int k 0) zs (i+1)).toArray:=by
  rw [<- B0b (aO k) (.int k 0) zs hi,hn];simp
 grind
def T4{P:aH}{t e:aG}{z:aC}{bytes:Nat}(s:SliceT P t e z 1 bytes){v:aC}(hv:v.cells=#[v]){K:VP}{h:aK}
 (x:∀ b,h b=none->K (.slice (some ⟨b,0,none⟩) 1 1) (h.put b (.cells #[v] e))):wpH P (aJ t 1 #[(0,v)]) K h:=by
 refine Bn s o (cells:=#[v]) ?_ x
 have a:(F3 z.cells 1).size=1:=by simp [F3,s.cells]
 have:F3 z.cells 1=#[(F3 z.cells 1)[0]'o]:=by
  grind
 rw [this]
 simp [Instr.fill,hv]
def Jr{P:aH}{t e:aG}{z:aC}{size bytes:Nat}(s:SliceT P t e z size bytes){K:VP}{h:aK}
 (x:∀ b,h b=none->K (.slice (some ⟨b,0,none⟩) 0 0) (h.put b (.cells #[] e))):wpH P (aJ t 0 #[]) K h:=by
 refine Bn s o (cells:=#[]) ?_ x
 have:F3 z.cells 0=#[]:=by simp [F3]
 rw [this];rfl
