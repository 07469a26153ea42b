/- A part. -/
import Derived.Test.YtbgkfnjmcjfokaaGreatDoorG15
set_option linter.all false
namespace Go.Proofs.YtbgkfnjmcjfokaaGreatDoor
open Go
def FCall.frame{P:Program}{f:FuncId}{args:Array Value}{g:Heap}{b:Nat}{o:Obj}(hb:g b=none){K K':VP}(x:FCall P f args g K)(hk:∀ r h0,h0 b=none->K r h0->K' r (h0.put b o)):FCall P f args (g.put b o) K':=by
 intro W q
 have l:W.heap[b]? = some o:=q b o (B8 g b o)
 have j:b<W.heap.size:=by
  grind
 have m:Sim g W:=fun k d e=>q k d (Heap.le_put o hb k d e)
 refine (x W m).mono ?_
 rintro e W' ⟨r,h0,s,u,c⟩
 have n:h0 b=none:=by
  cases hx:h0 b with
  | none=>rfl
  | some d=>have:=c.new b d hb hx;omega
 refine ⟨r,h0.put b o,s,hk r h0 n u,⟨fun k d e=>?_,c.os,c.tape,c.output,c.size,fun k i e=>?_,fun k d e p=>?_⟩⟩
 ·by_cases a:k=b
  ·subst a
   rw [B8] at e
   cases e
   rw [c.keep k j hb];exact l
  ·rw [B6 _ _ a] at e
   exact c.sim k d e
 ·have a:k≠b:=by rintro rfl;rw [B8] at e;cases e
  rw [B6 _ _ a] at e
  exact c.keep k i e
 ·have a:k≠b:=by rintro rfl;rw [B8] at e;cases e
  rw [B6 _ _ a] at e p
  exact c.new k d e p
def Priv.call{P:Program}{f:FuncId}{args:Array Value}{h g:Heap}{e:TypeId}{s:Nat}{A:Option Addr}{n c:Nat}{xs:List Value}(p:Priv h g e s A n c xs){K:VP}(x:FCall P f args g (fun r h0=>∀ h',Priv h' h0 e s A n c xs->K r h')):FCall P f args h K:=by
 rcases p with ⟨q,a,⟨j,rfl⟩|⟨b,k,u,d,rfl,m⟩⟩
 ·exact x.mono fun r h0 i=>i h0 ⟨q,a,.inl ⟨j,rfl⟩⟩
 ·exact FCall.frame d x fun r h0 l i=>i _ ⟨q,a,.inr ⟨b,k,u,l,rfl,m⟩⟩
def Gy{P:Program}{t e:TypeId}{z:Value}{bytes:Nat}(st:SliceT P t e z 1 bytes){h g:Heap}{A:Option Addr}{n c:Nat}{xs:List Value}(p:Priv h g e 1 A n c xs){v:Value}(hv:v.cells=#[v])(h1:Jz v=true)(hb:(2*(n+1)+192)*bytes<=281474976710656)(hm:n+1<=9223372036854775807)
 {K:Option Addr->Nat->Nat->Heap->Prop} (x:∀ A' c' h' g',g.le g'->Priv h' g' e 1 A' (n+1) c' (xs++[v])->K A' (n+1) c' h'):
 wpH P (Instr.buildSlice t 1 #[(0,v)]) (fun v1 hp1=>∃ (A1:Option Addr) (n1 c1:Nat),v1= .slice A1 n1 c1/\wpH P (Builtin.append_ #[t,t] t #[.slice A n c,.slice A1 n1 c1]) (fun v2 hp2=>∃ (A2:Option Addr) (n2 c2:Nat),v2= .slice A2 n2 c2/\K A2 n2 c2 hp2) hp1) h:=by
 refine Y5 st hv ?_
 intro b a
 refine ⟨_,_,_,rfl,?_⟩
 have q:=p.put a (.cells #[v] e)
 refine Tp st q (ys:=[v]) (by simp) (.inr ⟨⟨b,0,none⟩,rfl,fun j u s=>?_⟩) (fun u w=>gz0) hb hm ?_
 ·rw [D4,C4]
  grind
 ·intro A' c' h' g' r m
  have i:g.le (g.put b (.cells #[v] e)):=by
   intro k o l
   have d:k≠b:=by
    rintro rfl
    rw [p.le k o l] at a;cases a
   rw [B6 _ _ d];exact l
  exact ⟨_,_,_,rfl,x A' c' h' g' (A0 i r) m⟩
def bs(l:List UInt8):ByteArray:=⟨l.toArray⟩
def P3(l:List UInt8):(bs l).size=l.length:=rfl
def Hv(l:List UInt8):(bs l).toList=l:=by rw [ByteArray.toList_eq];rfl
def A5o(a b:ByteArray):(a.toList==b.toList)=decide (a.data.toList=b.data.toList):=by
 rw [ByteArray.toList_eq,ByteArray.toList_eq,Bool.eq_iff_iff];simp
def Na(a b:List UInt8):((bs a).toList==(bs b).toList)=decide (a=b):=by rw [A5o];rfl
def Wc(l:List UInt8)(i:Nat):(bs l)[i]? = l[i]? :=by
 by_cases h:i<l.length
 ·have a:i<(bs l).size:=h
  rw [getElem?_pos (bs l) i a,getElem?_pos l i h]
  rfl
 ·rw [getElem?_neg (bs l) i h,getElem?_neg l i h]
def T5(l:List UInt8)(i j:Nat):(bs l).extract i j=bs ((l.drop i).take (j-i)):=by
 apply ByteArray.ext
 apply Array.toList_inj.1
 simp [bs,List.extract_eq_take_drop]
def yv(l:List UInt8):List Value:=l.map fun c=>.int .u8 c.toNat
def Aj(a b:List UInt8):yv (a++b)=yv a++yv b:=by simp [yv]
def Gj(l:List UInt8):(yv l).length=l.length:=by simp [yv]
def A3x{P:Program}{f:Value->ByteArray->Sem (ForInStep ByteArray)}(hf:∀ n r,f (.int .u8 n) r=pure (ForInStep.yield (r.push (UInt8.ofNat n.toNat))))(l:List UInt8):∀ (s:ByteArray) (K:ByteArray->Heap->Prop) (h:Heap),K (s++bs l) h->
 wpH P (forIn (m:=Sem) (yv l) s f) K h:=by
 induction l with
 | nil=>
  intro s K h x
  have e:s++bs []=s:=ByteArray.append_empty (b:=s)
  rw [e] at x
  exact x
 | cons c l ih=>
  intro s K h x
  show wpH P (forIn (m:=Sem) (Value.int .u8 c.toNat::yv l) s f) K h
  rw [List.forIn_cons,C1,hf]
  show wpH P (forIn (m:=Sem) (yv l) (s.push (UInt8.ofNat ((c.toNat:Int)).toNat)) f) K h
  refine ih _ K h ?_
  have e:UInt8.ofNat ((c.toNat:Int)).toNat=c:=by simp
  have a:s.push c++bs l=s++bs (c::l):=by
   apply ByteArray.ext
   simp [bs,ByteArray.push]
  grind
def Ld{P:Program}{t d e:TypeId}(ht:P.underlying t=some (.slice e))(he:P.underlying e=some (.int .u8))(hd:P.underlying d=some .string){h:Heap}{A:Option Addr}{n c:Nat}{l:List UInt8}(s:SlV h A (yv l))(hn:n=l.length){K:VP}(x:K (.string (bs l)) h):wpH P (convert t d (.slice A n c)) K h:=by
 subst hn
 unfold convert
 simp only [C1,E4 ht,E4 hd,E4 he]
 unfold Conv.bytesToString
 cases A with
 | none=>
  rcases s with b|⟨a,e,_⟩
  ·have:l=[]:=by cases l with
    | nil=>rfl
    | cons _ _=>cases b
   subst this
   exact x
  ·cases e
 | some a=>
  simp only [C1]
  have g:∀ j v,(yv l)[j]? = some v->h.cell? (a.add j)=some v:=by
   rcases s with b|⟨i,e,g⟩
   ·grind
   grind
  refine X3 (cs:=yv l) (Gj l).symm g ?_
  simp only [List.forIn_toArray]
  refine A3x (fun n r=>rfl) l ByteArray.empty _ h ?_
  exact x
