/-
  Texts of this proof, merged by a program of ours: XLib2.
-/
import Derived.Test.YthilnfgnpdeofaaGreatDoorG05
/-
 Slices of the call's own that grow by append;literals of slices.
-/
namespace Go.Proofs.YthilnfgnpdeofaaGreatDoor
open Go
theorem buildSlice_ok{P:Program}{t e:TypeId}{z:Value}{size bytes:Nat}(s:SliceT P t e z size bytes){len:Nat}{parts:Array (Nat × Value)}(hlen:len*size<=16777216){cells:Array Value}
 (hfill:Instr.fill (fun i=>some (i*size,size)) (repCells z.cells len) parts.toList=some cells) {K:Value->Heap->Prop} {h:Heap}
 (x:∀ b,h b=none->K (.slice (some ⟨b,0,none⟩) len len) (h.put b (.cells cells e))):wpH P (Instr.buildSlice t len parts) K h:=by
 obtain ⟨i,hi,hz,hsz,hby⟩:=s.parts
 unfold Instr.buildSlice
 simp only [wpH_bind_eq,wpH_underlying s.und,wpH_sizeOf hi,hsz]
 rw [if_neg (by simp only [show (2^24:Nat)=16777216 from rfl];omega)]
 have hrep:repCells z.cells len=(Array.range (len*size)).map (z.cells[· % z.cells.size]!):=by unfold repCells;rw [s.cells]
 by_cases hz0:len*size=0
 ·simp only [hz0,if_true]
  have e0:(Array.range 0).map (fun x=>(#[]:Array Value)[x%(#[]:Array Value).size]!)=repCells z.cells len:=by
   rw [hrep,hz0]
   apply Array.ext
   ·simp
   ·intro i h1 h2;simp at h1
  rw [wpH_bind_eq,wpH_pure,e0]
  simp only [hfill,wpH_bind_eq,wpH_newRow,wpH_pure]
  exact x
 ·simp only [hz0,if_false,wpH_bind_eq,wpH_zeroValue hi hz,wpH_pure]
  rw [hrep] at hfill
  simp only [hfill,wpH_bind_eq,wpH_newRow,wpH_pure]
  exact x
theorem wpH_loadCellsFrom{P:Program}{h:Heap}(a:Addr)(K:Array Value->Heap->Prop):∀ (cs:List Value) (i:Nat) (acc:Array Value),(∀ j v,cs[j]? = some v->h.cell? (a.add (i+j))=some v)->K (acc++cs.toArray) h->wpH P (loadCellsFrom a i cs.length acc) K h:=by
 intro cs
 induction cs with
 | nil=>intro i acc _ x;simpa [loadCellsFrom,wpH_pure] using x
 | cons c cs ih=>
  intro i acc hc x
  simp only [List.length_cons,loadCellsFrom,wpH_bind_eq]
  refine ⟨c,by simpa using hc 0 c rfl,?_⟩
  refine ih (i+1) (acc.push c) (fun j v hj=>?_) ?_
  ·have:=hc (j+1) v (by simpa using hj)
   rwa [show i+(j+1)=i+1+j by omega] at this
  ·simpa using x
theorem wpH_loadCells{P:Program}{h:Heap}{a:Addr}{K:Array Value->Heap->Prop}{cs:List Value}{n:Nat}(hn:n=cs.length)(hc:∀ j v,cs[j]? = some v->h.cell? (a.add j)=some v)(x:K cs.toArray h):wpH P (loadCells a n) K h:=by
 subst hn
 exact wpH_loadCellsFrom a K cs 0 #[] (fun j v hj=>by simpa using hc j v hj) (by simpa using x)
theorem wpH_storeCells{P:Program}{g:Heap}{b:Nat}{e:TypeId}{K:Unit->Heap->Prop}: ∀ (vs:List Value) (off i:Nat) (arr:List Value),off+i+vs.length<=arr.length->(∀ v∈vs,oneC v=true)->
 K () (g.put b (.cells (splice arr (off+i) vs).toArray e))->wpH P (storeCells ⟨b,off,none⟩ vs i) K (g.put b (.cells arr.toArray e)):=by
 intro vs
 induction vs with
 | nil=>
  intro off i arr _ _ x
  have:splice arr (off+i) []=arr:=by simp [splice]
  rw [this] at x
  exact x
 | cons v vs ih=>
  intro off i arr hl h1 x
  simp only [List.length_cons] at hl
  simp only [storeCells,wpH_bind_eq]
  refine ⟨h1 v (by simp),⟨arr[off+i]'(by omega),?_⟩,?_,?_⟩
  ·rw [add_at,Heap.cell_put];simp [show off+i<arr.length by omega]
  ·rw [add_at];simp [Heap.frozen?,Heap.put]
  ·show wpH P (storeCells _ vs (i+1)) K _
   rw [add_at,Heap.setCell_put]
   have e1:(arr.toArray.setIfInBounds (off+i) v)=(arr.set (off+i) v).toArray:=by simp
   rw [e1]
   refine ih off (i+1) (arr.set (off+i) v) (by simp;omega) (fun u hu=>h1 u (by simp [hu])) ?_
   rw [<- Nat.add_assoc,splice_set arr (off+i) v vs (by omega)]
   exact x
def Priv(h g:Heap)(e:TypeId)(s:Nat)(A:Option Addr)(n c:Nat)(xs:List Value):Prop:=
 xs.length=n*s/\n<=c/\
 ((c=0/\h=g)\/∃ b arr,A=some ⟨b,0,none⟩/\g b=none/\h=g.put b (.cells (List.toArray arr) e)/\arr.length=c*s/\arr.take (n*s)=xs)
theorem Priv.le{h g:Heap}{e:TypeId}{s:Nat}{A:Option Addr}{n c:Nat}{xs:List Value}(p:Priv h g e s A n c xs):g.le h:=by
 rcases p.2.2 with ⟨_,rfl⟩|⟨b,arr,_,hb,rfl,_⟩
 ·exact Heap.le_refl _
 ·exact Heap.le_put _ hb
theorem Priv.slV{h g:Heap}{e:TypeId}{A:Option Addr}{n c:Nat}{xs:List Value}(p:Priv h g e 1 A n c xs):SlV h A xs:=by
 rcases p.2.2 with ⟨rfl,rfl⟩|⟨b,arr,rfl,hb,rfl,hl,ht⟩
 ·left
  have:=p.1;have:=p.2.1
  exact List.eq_nil_of_length_eq_zero (by omega)
 ·right
  refine ⟨_,rfl,fun i v hv=>?_⟩
  rw [add_at,Heap.cell_put]
  rw [<- ht,List.getElem?_take] at hv
  split at hv
  ·simpa using hv
  ·cases hv
theorem Priv.nil(h:Heap)(e:TypeId)(s:Nat)(A:Option Addr):Priv h h e s A 0 0 []:=⟨by simp,Nat.le_refl _,.inl ⟨rfl,rfl⟩⟩
theorem Priv.put{h g:Heap}{e:TypeId}{s:Nat}{A:Option Addr}{n c:Nat}{xs:List Value}(p:Priv h g e s A n c xs){b:Nat}(hb:h b=none)(o:Obj):Priv (h.put b o) (g.put b o) e s A n c xs:=by
 refine ⟨p.1,p.2.1,?_⟩
 rcases p.2.2 with ⟨h1,rfl⟩|⟨b',arr,h1,h2,rfl,h3⟩
 ·exact .inl ⟨h1,rfl⟩
 ·have hne:b'≠b:=by rintro rfl;rw [Heap.put_same] at hb;cases hb
  exact .inr ⟨b',arr,h1,by rw [Heap.put_other _ _ hne];exact h2,Heap.put_comm g _ _ hne,h3⟩
theorem firstCells_ok{P:Program}{h:Heap}{A:Option Addr}{n c s:Nat}{cs:List Value}(hl:cs.length=n*s)(hc:cs=[]\/∃ a,A=some a/\∀ j v,cs[j]? = some v->h.cell? (a.add j)=some v){K:Array Value->Heap->Prop}(x:K cs.toArray h):
 wpH P (Builtin.firstCells s n (.slice A n c)) K h:=by
 cases A with
 | none=>
  rcases hc with rfl|⟨a,e,_⟩
  ·exact x
  ·cases e
 | some a=>
  show wpH P (loadCells a (n*s)) K h
  rcases hc with rfl|⟨a',e,hc⟩
  ·exact wpH_loadCells (cs:=[]) hl.symm (fun j v e=>by simp at e) x
  ·cases e
   exact wpH_loadCells hl.symm hc x
theorem wpH_choose{P:Program}{q:Question}(hq:q.forced=false){K:Nat->Heap->Prop}{h:Heap}(x:∀ t,K (q.cut t) h):wpH P (choose q) K h:=by
 show if q.forced then _ else _
 rw [hq];exact x
theorem growBy_le(new:Nat):∀ (r c:Nat),c<=new->Builtin.growBy new r c<=new+(new+768)/4
 | 0,c,h=>by simp only [Builtin.growBy];omega
 | r+1,c,h=>by
  simp only [Builtin.growBy]
  split
  ·omega
  ·rename_i hlt
   by_cases h2:c+(c+768)/4<=new
   ·exact growBy_le new r _ h2
   ·have:∀ r',Builtin.growBy new r' (c+(c+768)/4)=c+(c+768)/4:=by
     intro r'
     cases r' with
     | zero=>rfl
     | succ r'=>simp only [Builtin.growBy];rw [if_pos (by omega)]
    rw [this];omega
theorem nextcap_le{need c:Nat}(h:c<need):Builtin.nextslicecap need c<=2*need+192:=by
 unfold Builtin.nextslicecap
 split
 ·omega
 ·split
  ·omega
  ·have:=growBy_le need 4 c (by omega);omega
theorem append_ok{P:Program}{t e ty:TypeId}{z:Value}{size bytes:Nat}(st:SliceT P t e z size bytes){h g:Heap}{A:Option Addr}{n c:Nat}{xs:List Value}(p:Priv h g e size A n c xs)
 {B:Option Addr} {m d:Nat} {ys:List Value} (hy:ys.length=m*size) (hc:ys=[]\/∃ a,B=some a/\∀ j v,ys[j]? = some v->h.cell? (a.add j)=some v) (h1:∀ v∈ys,oneC v=true)
 (hb:(2*(n+m)+192)*bytes<=281474976710656) (hm:n+m<=9223372036854775807) {K:Value->Heap->Prop}
 (x:∀ A' c' h' g',g.le g'->Priv h' g' e size A' (n+m) c' (xs++ys)->K (.slice A' (n+m) c') h'):
 wpH P (Builtin.append_ #[t,t] ty #[.slice A n c,.slice B m d]) K h:=by
 obtain ⟨i,hi,hz,hsz,hby⟩:=st.parts
 have hposx:=st.pos
 unfold Builtin.append_
 simp only [List.getElem?_toArray,List.getElem?_cons_zero,List.getElem?_cons_succ,wpH_bind_eq,wpH_underlying st.und,wpH_sizeOf hi,wpH_pure,Bool.false_eq_true,if_false,Builtin.lenOf,hsz,Bool.not_false,if_true]
 by_cases hfit:n+m<=c
 ·simp only [hfit,if_true,wpH_bind_eq]
  refine firstCells_ok hy hc ?_
  rcases p.2.2 with ⟨hc0,hg⟩|⟨b,arr,hA,hgb,hh,hal,hat⟩
  ·
   have hn0:n=0:=by omega
   have hm0:m=0:=by omega
   subst hn0;subst hm0;subst hg
   have hys:ys=[]:=List.eq_nil_of_length_eq_zero (by simpa using hy)
   have hxs:xs=[]:=List.eq_nil_of_length_eq_zero (by simpa using p.1)
   subst hys;subst hxs
   have fin:K (.slice A (0+0) c) h:=x A c h h (Heap.le_refl _) ⟨by simp,by omega,.inl ⟨hc0,rfl⟩⟩
   cases A with
   | none=>exact fin
   | some a=>exact fin
  ·subst hA
   simp only [wpH_bind_eq,add_at,Nat.zero_add]
   rw [hh]
   refine wpH_storeCells ys.toArray.toList (n*size) 0 arr ?_ (fun v hv=>h1 v (by simpa using hv)) ?_
   ·simp only
    rw [hy,hal]
    have:(n+m)*size<=c*size:=Nat.mul_le_mul_right _ hfit
    rw [Nat.add_mul] at this;omega
   ·simp only [wpH_pure,Nat.add_zero]
    refine x _ c _ g (Heap.le_refl _) ⟨by rw [List.length_append,p.1,hy,Nat.add_mul],hfit,.inr ⟨b,_,rfl,hgb,rfl,?_,?_⟩⟩
    ·have:(n+m)*size<=c*size:=Nat.mul_le_mul_right _ hfit
     rw [Nat.add_mul] at this
     simp only [splice,List.length_append,List.length_take,List.length_drop,hal,hy];omega
    ·have:(n+m)*size<=c*size:=Nat.mul_le_mul_right _ hfit
     rw [Nat.add_mul] at this
     have hl1:(arr.take (n*size)).length=n*size:=by rw [List.length_take,hal];omega
     unfold splice
     have t1:(arr.take (n*size)).take (n*size+m*size)=arr.take (n*size):=List.take_of_length_le (by rw [hl1];omega)
     have t2:ys.take (m*size)=ys:=List.take_of_length_le (by omega)
     rw [Nat.add_mul,List.append_assoc,List.take_append,hl1,Nat.add_sub_cancel_left,List.take_append,t1,t2,hy,Nat.sub_self,List.take_zero,List.append_nil,hat]
 ·have hlt:c<n+m:=by omega
  simp only [hfit,if_false,wpH_bind_eq,wpH_typeInfo hi,hby]
  have hnx:=nextcap_le hlt
  have hnb:Builtin.nextslicecap (n+m) c*bytes<=281474976710656:=Nat.le_trans (Nat.mul_le_mul_right _ hnx) hb
  rw [if_neg (by rintro ⟨h',_⟩;simp only [IntKind.max,IntKind.signed,IntKind.bits] at h';simp at h';omega)]
  simp only [wpH_bind_eq,wpH_typeInfo hi,hby]
  rw [if_neg (by simp only [show (2^48:Nat)=281474976710656 from rfl];omega)]
  simp only [wpH_pure,wpH_bind_eq]
  refine wpH_choose rfl fun tt=>?_
  simp only [wpH_askRoom,wpH_typeInfo hi]
  have hold:xs=[]\/∃ a,A=some a/\∀ j v,xs[j]? = some v->h.cell? (a.add j)=some v:=by
   rcases p.2.2 with ⟨hc0,hg⟩|⟨b,arr,hA,hgb,hh,hal,hat⟩
   ·left
    have hn0:n=0:=by have:=p.2.1;omega
    have:=p.1
    rw [hn0] at this
    exact List.eq_nil_of_length_eq_zero (by simpa using this)
   ·right
    refine ⟨_,hA,fun j v hj=>?_⟩
    rw [add_at,hh,Heap.cell_put]
    rw [<- hat,List.getElem?_take] at hj
    split at hj
    ·simpa using hj
    ·cases hj
  refine firstCells_ok p.1 hold ?_
  refine firstCells_ok hy hc ?_
  simp only [wpH_zeroValue hi hz,wpH_newRow]
  intro b hfree
  have hcut:∃ nc,(Question.appendCap (n+m) c e).cut tt=nc/\n+m<=nc:=⟨_,rfl,by simp only [Question.cut];omega⟩
  obtain ⟨nc,hnc,hge⟩:=hcut
  rw [hnc]
  have hgle:=p.le
  refine x _ nc _ h hgle ⟨by rw [List.length_append,p.1,hy,Nat.add_mul],hge,.inr ⟨b,xs++ys++(Builtin.zeroCells z.cells (nc-(n+m))).toList,rfl,hfree,?_,?_,?_⟩⟩
  ·congr 1;simp
  ·have hzl:(Builtin.zeroCells z.cells (nc-(n+m))).toList.length=(nc-(n+m))*size:=by simp [Builtin.zeroCells,st.cells]
   rw [List.length_append,List.length_append,p.1,hy,hzl,<- Nat.add_mul,<- Nat.add_mul]
   congr 1;omega
  ·rw [List.take_append_of_le_length (by rw [List.length_append,p.1,hy,Nat.add_mul];omega),List.take_of_length_le (by rw [List.length_append,p.1,hy,Nat.add_mul];omega)]
theorem repCells_one(z:Value)(n:Nat):repCells #[z] n=(List.replicate n z).toArray:=by
 unfold repCells
 apply Array.ext
 ·simp
 ·intro i h1 h2
  simp [Nat.mod_one]
theorem storeI_ok{P:Program}{t:TypeId}(one:P.cellsOf t=1/\(P.info? t).isSome=true){k:IntKind}{n i:Int}{g:Heap}{b:Nat}{c:Array Value}{e:TypeId}(hi:i.toNat<c.size){K:Unit->Heap->Prop}
 (x:K () (g.put b (.cells (c.setIfInBounds i.toNat (.int k n)) e))):wpH P (Instr.storeAt t (.pointer (some (Addr.add ⟨b,0,none⟩ (i.toNat*1)))) (.int k n)) K (g.put b (.cells c e)):=by
 rw [add_at,Nat.mul_one,Nat.zero_add]
 exact store1_ok one.1 one.2 rfl rfl hi x
theorem lit1_ok{P:Program}{t e:TypeId}{z:Value}{bytes:Nat}(s:SliceT P t e z 1 bytes){v:Value}(hv:v.cells=#[v]){K:Value->Heap->Prop}{h:Heap}
 (x:∀ b,h b=none->K (.slice (some ⟨b,0,none⟩) 1 1) (h.put b (.cells #[v] e))):wpH P (Instr.buildSlice t 1 #[(0,v)]) K h:=by
 refine buildSlice_ok s (by omega) (cells:=#[v]) ?_ x
 have hsz:(repCells z.cells 1).size=1:=by simp [repCells,s.cells]
 have:repCells z.cells 1=#[(repCells z.cells 1)[0]'(by omega)]:=by
  apply Array.ext
  ·simpa using hsz
  ·intro i h1 h2
   have:i=0:=by simp at h2;omega
   subst this;rfl
 rw [this]
 simp [Instr.fill,hv]
theorem lit0_ok{P:Program}{t e:TypeId}{z:Value}{size bytes:Nat}(s:SliceT P t e z size bytes){K:Value->Heap->Prop}{h:Heap}
 (x:∀ b,h b=none->K (.slice (some ⟨b,0,none⟩) 0 0) (h.put b (.cells #[] e))):wpH P (Instr.buildSlice t 0 #[]) K h:=by
 refine buildSlice_ok s (by omega) (cells:=#[]) ?_ x
 have:repCells z.cells 0=#[]:=by simp [repCells]
 rw [this];rfl
end Go.Proofs.YthilnfgnpdeofaaGreatDoor
