/-
  Texts of this proof, merged by a program of ours.
-/
import Derived.Test.YtajkakhfcokljaaGreatDoorG05
open _root_.Go.Builtin renaming growBy->C6h,nextslicecap->C6k,zeroCells->C6l
open _root_.Go.Instr renaming buildSlice->C6i
open List renaming length_append->C6d,eq_nil_of_length_eq_zero->C6e,take_of_length_le->C6j
open Nat renaming add_mul->C6f,mul_le_mul_right->C6g
namespace Go.Proofs.YtajkakhfcokljaaGreatDoor
open Go
theorem Cf{P:Program}{t e:TypeId}{z:Value}{size bytes:Nat}(s:SliceT P t e z size bytes){len:Nat}{parts:Array (Nat × Value)}(hlen:len*size<=16777216){cells:Array Value}
 (hfill:Instr.fill (fun i=>some (i*size,size)) (G0 z.cells len) parts.toList=some cells) {K:VP} {h:Heap}
 (x:∀ b,h b=none->K (.slice (some ⟨b,0,none⟩) len len) (h.put b (.cells cells e))):wpH P (C6i t len parts) K h:=by
 obtain ⟨i,hi,hz,hsz,hby⟩:=s.parts
 unfold C6i
 simp only [C9,F6 s.und,L8 hi,hsz]
 rw [if_neg (by simp only [show (2^24:Nat)=16777216 from rfl];omega)]
 have hrep:G0 z.cells len=(Array.range (len*size)).map (z.cells[· % z.cells.size]!):=by unfold G0;rw [s.cells]
 by_cases hz0:len*size=0
 ·simp only [hz0,if_true]
  have e0:(Array.range 0).map (fun x=>(#[]:Array Value)[x%(#[]:Array Value).size]!)=G0 z.cells len:=by
   rw [hrep,hz0]
   apply Array.ext
   ·simp
   ·intro i h1 h2;simp at h1
  rw [C9,H1,e0]
  simp only [hfill,C9,R9,H1]
  exact x
 ·simp only [hz0,if_false,C9,R8 hi hz,H1]
  rw [hrep] at hfill
  simp only [hfill,C9,R9,H1]
  exact x
theorem Of{P:Program}{h:Heap}(a:Addr)(K:Array Value->Heap->Prop):∀ (cs:List Value) (i:Nat) (acc:Array Value),(∀ j v,cs[j]? = some v->h.cell? (a.add (i+j))=some v)->K (acc++cs.toArray) h->wpH P (loadCellsFrom a i cs.length acc) K h:=by
 intro cs
 induction cs with
 | nil=>intro i acc _ x;simpa [loadCellsFrom,H1] using x
 | cons c cs ih=>
  intro i acc hc x
  simp only [List.length_cons,loadCellsFrom,C9]
  refine ⟨c,by simpa using hc 0 c rfl,?_⟩
  refine ih (i+1) (acc.push c) (fun j v hj=>?_) ?_
  ·have:=hc (j+1) v (by simpa using hj)
   rwa [show i+(j+1)=i+1+j by omega] at this
  ·simpa using x
theorem V3{P:Program}{h:Heap}{a:Addr}{K:Array Value->Heap->Prop}{cs:List Value}{n:Nat}(hn:n=cs.length)(hc:∀ j v,cs[j]? = some v->h.cell? (a.add j)=some v)(x:K cs.toArray h):wpH P (loadCells a n) K h:=by
 subst hn
 exact Of a K cs 0 #[] (fun j v hj=>by simpa using hc j v hj) (by simpa using x)
theorem J6{P:Program}{g:Heap}{b:Nat}{e:TypeId}{K:Unit->Heap->Prop}: ∀ (vs:List Value) (off i:Nat) (arr:List Value),off+i+vs.length<=arr.length->(∀ v∈vs,A3v v=true)->
 K () (g.put b (.cells (L3 arr (off+i) vs).toArray e))->wpH P (storeCells ⟨b,off,none⟩ vs i) K (g.put b (.cells arr.toArray e)):=by
 intro vs
 induction vs with
 | nil=>
  intro off i arr _ _ x
  have:L3 arr (off+i) []=arr:=by simp [L3]
  rw [this] at x
  exact x
 | cons v vs ih=>
  intro off i arr hl h1 x
  simp only [List.length_cons] at hl
  simp only [storeCells,C9]
  refine ⟨h1 v (by simp),⟨arr[off+i]'(by omega),?_⟩,?_,?_⟩
  ·rw [E8,F4];simp [show off+i<arr.length by omega]
  ·rw [E8];simp [Heap.frozen?,Heap.put]
  ·show wpH P (storeCells _ vs (i+1)) K _
   rw [E8,Gx]
   have e1:(arr.toArray.setIfInBounds (off+i) v)=(arr.set (off+i) v).toArray:=by simp
   rw [e1]
   refine ih off (i+1) (arr.set (off+i) v) (by simp;omega) (fun u hu=>h1 u (by simp [hu])) ?_
   rw [<- Nat.add_assoc,Wq arr (off+i) v vs (by omega)]
   exact x
def Priv(h g:Heap)(e:TypeId)(s:Nat)(A:Option Addr)(n c:Nat)(xs:List Value):Prop:=
 xs.length=n*s/\n<=c/\
 ((c=0/\h=g)\/∃ b arr,A=some ⟨b,0,none⟩/\g b=none/\h=g.put b (.cells (List.toArray arr) e)/\arr.length=c*s/\arr.take (n*s)=xs)
theorem Priv.le{h g:Heap}{e:TypeId}{s:Nat}{A:Option Addr}{n c:Nat}{xs:List Value}(p:Priv h g e s A n c xs):g.le h:=by
 rcases p.2.2 with ⟨_,rfl⟩|⟨b,arr,_,hb,rfl,_⟩
 ·exact B5 _
 ·exact Heap.le_put _ hb
theorem Priv.slV{h g:Heap}{e:TypeId}{A:Option Addr}{n c:Nat}{xs:List Value}(p:Priv h g e 1 A n c xs):SlV h A xs:=by
 rcases p.2.2 with ⟨rfl,rfl⟩|⟨b,arr,rfl,hb,rfl,hl,ht⟩
 ·left
  have:=p.1;have:=p.2.1
  exact C6e (by omega)
 ·right
  refine ⟨_,rfl,fun i v hv=>?_⟩
  rw [E8,F4]
  rw [<- ht,List.getElem?_take] at hv
  split at hv
  ·simpa using hv
  ·cases hv
theorem Priv.nil(h:Heap)(e:TypeId)(s:Nat)(A:Option Addr):Priv h h e s A 0 0 []:=⟨by simp,Nat.le_refl _,.inl ⟨rfl,rfl⟩⟩
theorem Priv.put{h g:Heap}{e:TypeId}{s:Nat}{A:Option Addr}{n c:Nat}{xs:List Value}(p:Priv h g e s A n c xs){b:Nat}(hb:h b=none)(o:Obj):Priv (h.put b o) (g.put b o) e s A n c xs:=by
 refine ⟨p.1,p.2.1,?_⟩
 rcases p.2.2 with ⟨h1,rfl⟩|⟨b',arr,h1,h2,rfl,h3⟩
 ·exact .inl ⟨h1,rfl⟩
 ·have hne:b'≠b:=by rintro rfl;rw [C6] at hb;cases hb
  exact .inr ⟨b',arr,h1,by rw [C0 _ _ hne];exact h2,Heap.put_comm g _ _ hne,h3⟩
theorem N2{P:Program}{h:Heap}{A:Option Addr}{n c s:Nat}{cs:List Value}(hl:cs.length=n*s)(hc:cs=[]\/∃ a,A=some a/\∀ j v,cs[j]? = some v->h.cell? (a.add j)=some v){K:Array Value->Heap->Prop}(x:K cs.toArray h):
 wpH P (Builtin.firstCells s n (.slice A n c)) K h:=by
 cases A with
 | none=>
  rcases hc with rfl|⟨a,e,_⟩
  ·exact x
  ·cases e
 | some a=>
  show wpH P (loadCells a (n*s)) K h
  rcases hc with rfl|⟨a',e,hc⟩
  ·exact V3 (cs:=[]) hl.symm (fun j v e=>by simp at e) x
  ·cases e
   exact V3 hl.symm hc x
theorem Iu{P:Program}{q:Question}(hq:q.forced=false){K:Nat->Heap->Prop}{h:Heap}(x:∀ t,K (q.cut t) h):wpH P (choose q) K h:=by
 show if q.forced then _ else _
 rw [hq];exact x
theorem A2a(new:Nat):∀ (r c:Nat),c<=new->C6h new r c<=new+(new+768)/4
 | 0,c,h=>by simp only [C6h];omega
 | r+1,c,h=>by
  simp only [C6h]
  split
  ·omega
  ·rename_i hlt
   by_cases h2:c+(c+768)/4<=new
   ·exact A2a new r _ h2
   ·have:∀ r',C6h new r' (c+(c+768)/4)=c+(c+768)/4:=by
     intro r'
     cases r' with
     | zero=>rfl
     | succ r'=>simp only [C6h];rw [if_pos (by omega)]
    rw [this];omega
theorem On{need c:Nat}(h:c<need):C6k need c<=2*need+192:=by
 unfold C6k
 split
 ·omega
 ·split
  ·omega
  ·have:=A2a need 4 c (by omega);omega
theorem No{P:Program}{t e ty:TypeId}{z:Value}{size bytes:Nat}(st:SliceT P t e z size bytes){h g:Heap}{A:Option Addr}{n c:Nat}{xs:List Value}(p:Priv h g e size A n c xs)
 {B:Option Addr} {m d:Nat} {ys:List Value} (hy:ys.length=m*size) (hc:ys=[]\/∃ a,B=some a/\∀ j v,ys[j]? = some v->h.cell? (a.add j)=some v) (h1:∀ v∈ys,A3v v=true)
 (hb:(2*(n+m)+192)*bytes<=281474976710656) (hm:n+m<=9223372036854775807) {K:VP}
 (x:∀ A' c' h' g',g.le g'->Priv h' g' e size A' (n+m) c' (xs++ys)->K (.slice A' (n+m) c') h'):
 wpH P (Builtin.append_ #[t,t] ty #[.slice A n c,.slice B m d]) K h:=by
 obtain ⟨i,hi,hz,hsz,hby⟩:=st.parts
 have hposx:=st.pos
 unfold Builtin.append_
 simp only [List.getElem?_toArray,List.getElem?_cons_zero,List.getElem?_cons_succ,C9,F6 st.und,L8 hi,H1,Bool.false_eq_true,if_false,Builtin.lenOf,hsz,Bool.not_false,if_true]
 by_cases hfit:n+m<=c
 ·simp only [hfit,if_true,C9]
  refine N2 hy hc ?_
  rcases p.2.2 with ⟨hc0,hg⟩|⟨b,arr,hA,hgb,hh,hal,hat⟩
  ·
   have hn0:n=0:=by omega
   have hm0:m=0:=by omega
   subst hn0;subst hm0;subst hg
   have hys:ys=[]:=C6e (by simpa using hy)
   have hxs:xs=[]:=C6e (by simpa using p.1)
   subst hys;subst hxs
   have fin:K (.slice A (0+0) c) h:=x A c h h (B5 _) ⟨by simp,by omega,.inl ⟨hc0,rfl⟩⟩
   cases A with
   | none=>exact fin
   | some a=>exact fin
  ·subst hA
   simp only [C9,E8,Nat.zero_add]
   rw [hh]
   refine J6 ys.toArray.toList (n*size) 0 arr ?_ (fun v hv=>h1 v (by simpa using hv)) ?_
   ·simp only
    rw [hy,hal]
    have:(n+m)*size<=c*size:=C6g _ hfit
    rw [C6f] at this;omega
   ·simp only [H1,Nat.add_zero]
    refine x _ c _ g (B5 _) ⟨by rw [C6d,p.1,hy,C6f],hfit,.inr ⟨b,_,rfl,hgb,rfl,?_,?_⟩⟩
    ·have:(n+m)*size<=c*size:=C6g _ hfit
     rw [C6f] at this
     simp only [L3,C6d,List.length_take,List.length_drop,hal,hy];omega
    ·have:(n+m)*size<=c*size:=C6g _ hfit
     rw [C6f] at this
     have hl1:(arr.take (n*size)).length=n*size:=by rw [List.length_take,hal];omega
     unfold L3
     have t1:(arr.take (n*size)).take (n*size+m*size)=arr.take (n*size):=C6j (by rw [hl1];omega)
     have t2:ys.take (m*size)=ys:=C6j (by omega)
     rw [C6f,List.append_assoc,List.take_append,hl1,Nat.add_sub_cancel_left,List.take_append,t1,t2,hy,Nat.sub_self,List.take_zero,List.append_nil,hat]
 ·have hlt:c<n+m:=by omega
  simp only [hfit,if_false,C9,J1 hi,hby]
  have hnx:=On hlt
  have hnb:C6k (n+m) c*bytes<=281474976710656:=Nat.le_trans (C6g _ hnx) hb
  rw [if_neg (by rintro ⟨h',_⟩;simp only [IntKind.max,IntKind.signed,IntKind.bits] at h';simp at h';omega)]
  simp only [C9,J1 hi,hby]
  rw [if_neg (by simp only [show (2^48:Nat)=281474976710656 from rfl];omega)]
  simp only [H1,C9]
  refine Iu rfl fun tt=>?_
  simp only [Fc,J1 hi]
  have hold:xs=[]\/∃ a,A=some a/\∀ j v,xs[j]? = some v->h.cell? (a.add j)=some v:=by
   rcases p.2.2 with ⟨hc0,hg⟩|⟨b,arr,hA,hgb,hh,hal,hat⟩
   ·left
    have hn0:n=0:=by have:=p.2.1;omega
    have:=p.1
    rw [hn0] at this
    exact C6e (by simpa using this)
   ·right
    refine ⟨_,hA,fun j v hj=>?_⟩
    rw [E8,hh,F4]
    rw [<- hat,List.getElem?_take] at hj
    split at hj
    ·simpa using hj
    ·cases hj
  refine N2 p.1 hold ?_
  refine N2 hy hc ?_
  simp only [R8 hi hz,R9]
  intro b hfree
  have hcut:∃ nc,(Question.appendCap (n+m) c e).cut tt=nc/\n+m<=nc:=⟨_,rfl,by simp only [Question.cut];omega⟩
  obtain ⟨nc,hnc,hge⟩:=hcut
  rw [hnc]
  have hgle:=p.le
  refine x _ nc _ h hgle ⟨by rw [C6d,p.1,hy,C6f],hge,.inr ⟨b,xs++ys++(C6l z.cells (nc-(n+m))).toList,rfl,hfree,?_,?_,?_⟩⟩
  ·congr 1;simp
  ·have hzl:(C6l z.cells (nc-(n+m))).toList.length=(nc-(n+m))*size:=by simp [C6l,st.cells]
   rw [C6d,C6d,p.1,hy,hzl,<- C6f,<- C6f]
   congr 1;omega
  ·rw [List.take_append_of_le_length (by rw [C6d,p.1,hy,C6f];omega),C6j (by rw [C6d,p.1,hy,C6f];omega)]
theorem A1t(z:Value)(n:Nat):G0 #[z] n=(List.replicate n z).toArray:=by
 unfold G0
 apply Array.ext
 ·simp
 ·intro i h1 h2
  simp [Nat.mod_one]
theorem B0g{P:Program}{t:TypeId}(one:P.cellsOf t=1/\(P.info? t).isSome=true){k:IntKind}{n i:Int}{g:Heap}{b:Nat}{c:Array Value}{e:TypeId}(hi:i.toNat<c.size){K:Unit->Heap->Prop}
 (x:K () (g.put b (.cells (c.setIfInBounds i.toNat (.int k n)) e))):wpH P (Instr.storeAt t (.pointer (some (Addr.add ⟨b,0,none⟩ (i.toNat*1)))) (.int k n)) K (g.put b (.cells c e)):=by
 rw [E8,Nat.mul_one,Nat.zero_add]
 exact Ee one.1 one.2 rfl rfl hi x
theorem Az{P:Program}{t e:TypeId}{z:Value}{bytes:Nat}(s:SliceT P t e z 1 bytes){v:Value}(hv:v.cells=#[v]){K:VP}{h:Heap}
 (x:∀ b,h b=none->K (.slice (some ⟨b,0,none⟩) 1 1) (h.put b (.cells #[v] e))):wpH P (C6i t 1 #[(0,v)]) K h:=by
 refine Cf s (by omega) (cells:=#[v]) ?_ x
 have hsz:(G0 z.cells 1).size=1:=by simp [G0,s.cells]
 have:G0 z.cells 1=#[(G0 z.cells 1)[0]'(by omega)]:=by
  apply Array.ext
  ·simpa using hsz
  ·intro i h1 h2
   have:i=0:=by simp at h2;omega
   subst this;rfl
 rw [this]
 simp [Instr.fill,hv]
theorem B1m{P:Program}{t e:TypeId}{z:Value}{size bytes:Nat}(s:SliceT P t e z size bytes){K:VP}{h:Heap}
 (x:∀ b,h b=none->K (.slice (some ⟨b,0,none⟩) 0 0) (h.put b (.cells #[] e))):wpH P (C6i t 0 #[]) K h:=by
 refine Cf s (by omega) (cells:=#[]) ?_ x
 have:G0 z.cells 0=#[]:=by simp [G0]
 rw [this];rfl
theorem sI1{k:IntKind}{a b:Int}(h:[Value.int k a]=[Value.int k b]):a=b:=by simpa using h
theorem sI2{k:IntKind}{A B:Option Addr}{n c n' c':Nat}{a b:Int}(h:[Value.slice A n c,Value.int k a]=[Value.slice B n' c',Value.int k b]):(A=B/\n=n'/\c=c')/\a=b:=by simpa only [List.cons.injEq,Value.int.injEq,Value.slice.injEq,true_and,and_true] using h
theorem wiM(a b:Nat)(h:a*b<=9223372036854775807):B7 ((a:Int)*(b:Int))=((a*b:Nat):Int):=by rw [<- Int.natCast_mul,B9]<;>omega
end Go.Proofs.YtajkakhfcokljaaGreatDoor
