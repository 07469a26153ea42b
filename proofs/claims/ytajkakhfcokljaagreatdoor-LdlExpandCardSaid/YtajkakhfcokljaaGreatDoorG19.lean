/-
  Texts of this proof, merged by a program of ours.
-/
import Derived.Test.YtajkakhfcokljaaGreatDoorG17
import Derived.Laws.Strings
set_option linter.all false
open _root_.ByteArray renaming data_append->C34
namespace Go.Proofs.YtajkakhfcokljaaGreatDoor
open Go
theorem FCall.frame{P:Program}{f:FuncId}{args:Array Value}{g:Heap}{b:Nat}{o:Obj}(hb:g b=none){K K':VP}(x:FCall P f args g K)(hk:∀ r h0,h0 b=none->K r h0->K' r (h0.put b o)):FCall P f args (g.put b o) K':=by
 intro W hs
 have hWb:W.heap[b]? = some o:=hs b o (C3 g b o)
 have hlt:b<W.heap.size:=by
  by_cases h:b<W.heap.size
  ·exact h
  ·rw [Array.getElem?_eq_none (by omega)] at hWb;cases hWb
 have hs':Sim g W:=fun k o' e=>hs k o' (Heap.le_put o hb k o' e)
 refine (x W hs').mono ?_
 rintro e W' ⟨r,h0,he,hK,fr⟩
 have h0b:h0 b=none:=by
  cases hx:h0 b with
  | none=>rfl
  | some o'=>have:=fr.new b o' hb hx;omega
 refine ⟨r,h0.put b o,he,hk r h0 h0b hK,⟨fun k o' e=>?_,fr.os,fr.tape,fr.output,fr.size,fun k hlt' e=>?_,fun k o' e e'=>?_⟩⟩
 ·by_cases hkb:k=b
  ·subst hkb
   rw [C3] at e
   cases e
   rw [fr.keep k hlt hb];exact hWb
  ·rw [B8 _ _ hkb] at e
   exact fr.sim k o' e
 ·have hkb:k≠b:=by rintro rfl;rw [C3] at e;cases e
  rw [B8 _ _ hkb] at e
  exact fr.keep k hlt' e
 ·have hkb:k≠b:=by rintro rfl;rw [C3] at e;cases e
  rw [B8 _ _ hkb] at e e'
  exact fr.new k o' e e'
theorem Priv.call{P:Program}{f:FuncId}{args:Array Value}{h g:Heap}{e:TypeId}{s:Nat}{A:Option Addr}{n c:Nat}{xs:List Value}(p:Priv h g e s A n c xs){K:VP}(x:FCall P f args g (fun r h0=>∀ h',Priv h' h0 e s A n c xs->K r h')):FCall P f args h K:=by
 rcases p with ⟨h1,hnc,⟨hc0,rfl⟩|⟨b,arr,hA,hgb,rfl,har⟩⟩
 ·exact x.mono fun r h0 hk=>hk h0 ⟨h1,hnc,.inl ⟨hc0,rfl⟩⟩
 ·exact FCall.frame hgb x fun r h0 h0b hk=>hk _ ⟨h1,hnc,.inr ⟨b,arr,hA,h0b,rfl,har⟩⟩
theorem Cb{P:Program}{t e:TypeId}{z:Value}{bytes:Nat}(st:SliceT P t e z 1 bytes){h g:Heap}{A:Option Addr}{n c:Nat}{xs:List Value}(p:Priv h g e 1 A n c xs){v:Value}(hv:v.cells=#[v])(h1:A1v v=true)(hb:(2*(n+1)+192)*bytes<=281474976710656)(hm:n+1<=9223372036854775807)
 {K:Option Addr->Nat->Nat->Heap->Prop} (x:∀ A' c' h' g',g.le g'->Priv h' g' e 1 A' (n+1) c' (xs++[v])->K A' (n+1) c' h'):
 wpH P (Instr.buildSlice t 1 #[(0,v)]) (fun v1 hp1=>∃ (A1:Option Addr) (n1 c1:Nat),v1= .slice A1 n1 c1/\wpH P (Builtin.append_ #[t,t] t #[.slice A n c,.slice A1 n1 c1]) (fun v2 hp2=>∃ (A2:Option Addr) (n2 c2:Nat),v2= .slice A2 n2 c2/\K A2 n2 c2 hp2) hp1) h:=by
 refine Y7 st hv ?_
 intro b hfree
 refine ⟨_,_,_,rfl,?_⟩
 have p':=p.put hfree (.cells #[v] e)
 refine Ln st p' (ys:=[v]) (by simp) (.inr ⟨⟨b,0,none⟩,rfl,fun j u hj=>?_⟩) (fun u hu=>by rw [List.mem_singleton.1 hu];exact h1) hb hm ?_
 ·rw [D8,E6]
  match j with
  | 0=>simpa using hj
  | j+1=>simp at hj
 ·intro A' c' h' g' hg p2
  have hle:g.le (g.put b (.cells #[v] e)):=by
   intro k o hk
   have hne:k≠b:=by
    rintro rfl
    rw [p.le k o hk] at hfree;cases hfree
   rw [B8 _ _ hne];exact hk
  exact ⟨_,_,_,rfl,x A' c' h' g' (B0 hle hg) p2⟩
def bs(l:List UInt8):ByteArray:=⟨l.toArray⟩
theorem I6(l:List UInt8):(bs l).size=l.length:=rfl
theorem A5f(a b:ByteArray):(a.toList==b.toList)=decide (a.data.toList=b.data.toList):=by
 rw [ByteArray.toList_eq,ByteArray.toList_eq,Bool.eq_iff_iff];simp
theorem Gn(a b:List UInt8):((bs a).toList==(bs b).toList)=decide (a=b):=by rw [A5f];rfl
theorem Ii(l:List UInt8)(i:Nat):(bs l)[i]? = l[i]? :=by
 by_cases h:i<l.length
 ·have h2:i<(bs l).size:=h
  rw [getElem?_pos (bs l) i h2,getElem?_pos l i h]
  rfl
 ·rw [getElem?_neg (bs l) i h,getElem?_neg l i h]
theorem Lm(a b:List UInt8):bs a++bs b=bs (a++b):=by
 apply ByteArray.ext
 show (bs a++bs b).data=(a++b).toArray
 rw [C34]
 simp [bs]
theorem N2(l:List UInt8)(i j:Nat):(bs l).extract i j=bs ((l.drop i).take (j-i)):=by
 apply ByteArray.ext
 rw [ByteArray.data_extract]
 apply Array.toList_inj.1
 simp [bs,List.extract_eq_take_drop]
def yv(l:List UInt8):List Value:=l.map fun c=>.int .u8 c.toNat
theorem R9(a b:List UInt8):yv (a++b)=yv a++yv b:=by simp [yv]
theorem Fi(l:List UInt8):(yv l).length=l.length:=by simp [yv]
theorem A39{P:Program}{f:Value->ByteArray->Sem (ForInStep ByteArray)}(hf:∀ n r,f (.int .u8 n) r=pure (ForInStep.yield (r.push (UInt8.ofNat n.toNat))))(l:List UInt8):∀ (s:ByteArray) (K:ByteArray->Heap->Prop) (h:Heap),K (s++bs l) h->
 wpH P (forIn (m:=Sem) (yv l) s f) K h:=by
 induction l with
 | nil=>
  intro s K h x
  have e:s++bs []=s:=ByteArray.append_empty (b:=s)
  rw [e] at x
  exact x
 | cons c l ih=>
  intro s K h x
  show wpH P (forIn (m:=Sem) (Value.int .u8 c.toNat::yv l) s f) K h
  rw [List.forIn_cons,C6,hf]
  show wpH P (forIn (m:=Sem) (yv l) (s.push (UInt8.ofNat ((c.toNat:Int)).toNat)) f) K h
  refine ih _ K h ?_
  have e:UInt8.ofNat ((c.toNat:Int)).toNat=c:=by simp
  rw [e]
  have e2:s.push c++bs l=s++bs (c::l):=by
   apply ByteArray.ext
   rw [C34,C34]
   simp [bs,ByteArray.push]
  rw [e2];exact x
theorem Jv{P:Program}{t d e:TypeId}(ht:P.underlying t=some (.slice e))(he:P.underlying e=some (.int .u8))(hd:P.underlying d=some .string){h:Heap}{A:Option Addr}{n c:Nat}{l:List UInt8}(s:SlV h A (yv l))(hn:n=l.length){K:VP}(x:K (.string (bs l)) h):wpH P (convert t d (.slice A n c)) K h:=by
 subst hn
 unfold convert
 simp only [C6,E7 ht,E7 hd,E7 he]
 unfold Conv.bytesToString
 cases A with
 | none=>
  rcases s with h0|⟨a,e,_⟩
  ·have:l=[]:=by cases l with
    | nil=>rfl
    | cons _ _=>cases h0
   subst this
   exact x
  ·cases e
 | some a=>
  simp only [C6]
  have hc:∀ j v,(yv l)[j]? = some v->h.cell? (a.add j)=some v:=by
   rcases s with h0|⟨a',e,hc⟩
   ·intro j v hj;rw [h0] at hj;simp at hj
   ·cases e;exact hc
  refine S1 (cs:=yv l) (Fi l).symm hc ?_
  simp only [List.forIn_toArray]
  refine A39 (fun n r=>rfl) l ByteArray.empty _ h ?_
  rw [ByteArray.empty_append]
  exact x
end Go.Proofs.YtajkakhfcokljaaGreatDoor
