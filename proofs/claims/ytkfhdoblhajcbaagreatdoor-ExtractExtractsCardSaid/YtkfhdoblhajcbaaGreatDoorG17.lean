/- A part. -/
import Derived.Test.YtkfhdoblhajcbaaGreatDoorG15
set_option linter.all false
namespace Go.Proofs.YtkfhdoblhajcbaaGreatDoor
open Go
def FCall.frame{P:Program}{f:FuncId}{args:Array Value}{g:Heap}{b:Nat}{o:Obj}(hb:g b=none){K K':VP}(x:FCall P f args g K)(hk:∀r h0,h0 b=none->K r h0->K' r (h0.put b o)):FCall P f args (g.put b o) K':=by
 intro W s;have m:W.heap[b]? = some o:=s b o (C3 g b o)
 have l:b<W.heap.size:=by
  grind
 have n:Sim g W:=fun k i e=>s k i (Heap.le_put o hb k i e);refine(x W n).mono ?_;rintro e W' ⟨r,h0,t,u,d⟩
 have p:h0 b=none:=by
  cases hx:h0 b with
  |none=>rfl
  |some i=>have:=d.new b i hb hx;omega
 refine⟨r,h0.put b o,t,hk r h0 p u,⟨fun k i e=>?_,d.os,d.tape,d.output,d.size,fun k j e=>?_,fun k i e q=>?_⟩⟩
 ·by_cases c:k=b
  ·subst c;rw[C3]at e;cases e;rw[d.keep k l hb];exact m
  ·rw[B9 _ _ c]at e;exact d.sim k i e
 ·have c:k≠b:=by rintro rfl;rw[C3]at e;cases e
  rw[B9 _ _ c]at e;exact d.keep k j e
 ·have c:k≠b:=by rintro rfl;rw[C3]at e;cases e
  rw[B9 _ _ c]at e q;exact d.new k i e q
def Priv.call{P:Program}{f:FuncId}{args:Array Value}{h g:Heap}{e:TypeId}{s:Nat}{A:Option Addr}{n c:Nat}{xs:List Value}(p:Priv h g e s A n c xs){K:VP}(x:FCall P f args g (fun r h0=>∀h',Priv h' h0 e s A n c xs->K r h')):FCall P f args h K:=by rcases p with⟨t,d,⟨k,rfl⟩|⟨b,l,u,i,rfl,q⟩⟩;{exact x.mono fun r h0 j=>j h0 ⟨t,d,.inl ⟨k,rfl⟩⟩};·exact FCall.frame i x fun r h0 m j=>j _ ⟨t,d,.inr ⟨b,l,u,m,rfl,q⟩⟩
def Ef{P:Program}{t e:TypeId}{z:Value}{bytes:Nat}(st:SliceT P t e z 1 bytes){h g:Heap}{A:Option Addr}{n c:Nat}{xs:List Value}(p:Priv h g e 1 A n c xs){v:Value}(hv:v.cells=#[v])(h1:Pe v=true)(hb:(2*(n+1)+192)*bytes<=281474976710656)(hm:n+1<=9223372036854775807) {K:Option Addr->Nat->Nat->Heap->Prop} (x:∀A' c' h' g',g.le g'->Priv h' g' e 1 A' (n+1) c' (xs++[v])->K A' (n+1) c' h'): wpH P (Instr.buildSlice t 1 #[(0,v)]) (fun v1 hp1=>∃(A1:Option Addr) (n1 c1:Nat),v1= .slice A1 n1 c1/\wpH P (Builtin.append_ #[t,t] t #[.slice A n c,.slice A1 n1 c1]) (fun v2 hp2=>∃(A2:Option Addr) (n2 c2:Nat),v2= .slice A2 n2 c2/\K A2 n2 c2 hp2) hp1) h:=by refine V6 st hv ?_;intro b d;refine⟨_,_,_,rfl,?_⟩;have q:=p.put d (.cells #[v] e);refine Bp st q (ys:=[v]) (by simp) (.inr ⟨⟨b,0,none⟩,rfl,fun j u s=>?_⟩) (fun u w=>gz0) hb hm ?_;{rw[D6,D8];grind};·intro A' c' h' g' r m;have i:g.le (g.put b (.cells #[v] e)):=by{intro k o l;have f:k≠b:=by{rintro rfl;rw[p.le k o l]at d;cases d};rw[B9 _ _ f];exact l};exact⟨_,_,_,rfl,x A' c' h' g' (B0 i r) m⟩
def bs(l:List UInt8):ByteArray:=⟨l.toArray⟩
def N3(l:List UInt8):(bs l).size=l.length:=rfl
def A81(a b:ByteArray):(a.toList==b.toList)=decide (a.data.toList=b.data.toList):=by rw[ByteArray.toList_eq,ByteArray.toList_eq,Bool.eq_iff_iff];simp
def Rl(a b:List UInt8):((bs a).toList==(bs b).toList)=decide (a=b):=by rw[A81];rfl
def A7r(l:List UInt8)(i:Nat):(bs l)[i]? = l[i]? :=by by_cases h:i<l.length;{have c:i<(bs l).size:=h;rw[getElem?_pos (bs l) i c,getElem?_pos l i h];rfl};·rw[getElem?_neg (bs l) i h,getElem?_neg l i h]
def Ov(a b:List UInt8):bs a++bs b=bs (a++b):=by rfl
def U8(l:List UInt8)(i j:Nat):(bs l).extract i j=bs ((l.drop i).take (j-i)):=by apply ByteArray.ext;apply Array.toList_inj.1;simp[bs,List.extract_eq_take_drop]
def yv(l:List UInt8):List Value:=l.map fun c=>.int .u8 c.toNat
def Z8(a b:List UInt8):yv (a++b)=yv a++yv b:=by simp[yv]
def Ie(l:List UInt8):(yv l).length=l.length:=by simp[yv]
def A5u{P:Program}{f:Value->ByteArray->Sem (ForInStep ByteArray)}(hf:∀n r,f (.int .u8 n) r=pure (ForInStep.yield (r.push (UInt8.ofNat n.toNat))))(l:List UInt8):∀(s:ByteArray) (K:ByteArray->Heap->Prop) (h:Heap),K (s++bs l) h->
 wpH P (forIn (m:=Sem) (yv l) s f) K h:=by
 induction l with
 |nil=>
  intro s K h x;have e:s++bs []=s:=ByteArray.append_empty (b:=s);rw[e]at x;exact x
 |cons c l ih=>
  intro s K h x;show wpH P (forIn (m:=Sem) (Value.int .u8 c.toNat::yv l) s f) K h;rw[List.forIn_cons,C9,hf];show wpH P (forIn (m:=Sem) (yv l) (s.push (UInt8.ofNat ((c.toNat:Int)).toNat)) f) K h;refine ih _ K h ?_;have e:UInt8.ofNat ((c.toNat:Int)).toNat=c:=by simp
  have d:s.push c++bs l=s++bs (c::l):=by
   apply ByteArray.ext;simp[bs,ByteArray.push]
  grind
def Jn{P:Program}{t d e:TypeId}(ht:P.underlying t=some (.slice e))(he:P.underlying e=some (.int .u8))(hd:P.underlying d=some .string){h:Heap}{A:Option Addr}{n c:Nat}{l:List UInt8}(s:SlV h A (yv l))(hn:n=l.length){K:VP}(x:K (.string (bs l)) h):wpH P (convert t d (.slice A n c)) K h:=by
 subst hn;unfold convert;simp only[C9,F4 ht,F4 hd,F4 he];unfold Conv.bytesToString
 cases A with
 |none=>
  rcases s with f|⟨a,e,_⟩
  ·have:l=[]:=by cases l with
    |nil=>rfl
    |cons _ _=>cases f
   subst this;exact x
  ·cases e
 |some a=>
  simp only[C9]
  have g:∀j v,(yv l)[j]? = some v->h.cell? (a.add j)=some v:=by
   rcases s with f|⟨i,e,g⟩;·grind
   grind
  refine Ac (cs:=yv l) (Ie l).symm g ?_;simp only[List.forIn_toArray];refine A5u (fun n r=>rfl) l ByteArray.empty _ h ?_;exact x
