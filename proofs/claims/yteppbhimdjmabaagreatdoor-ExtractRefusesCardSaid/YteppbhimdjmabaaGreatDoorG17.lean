/- A part. -/
import Derived.Test.YteppbhimdjmabaaGreatDoorG15
set_option linter.all false
open _root_ renaming List->J
namespace Go.Proofs.YteppbhimdjmabaaGreatDoor
open Go
def FCall.frame{P:Program}{f:FuncId}{args:Array Value}{g:Heap}{b:Nat}{o:Obj}(hb:g b=none){K K':VP}(x:FCall P f args g K)(hk:∀r h0,h0 b=none->K r h0->K' r (h0.put b o)):FCall P f args (g.put b o) K':=by
 intro W hs;have l:W.heap[b]? = some o:=hs b o (C3 g b o)
 have j:b<W.heap.size:=by
  grind
 have m:Sim g W:=fun k d e=>hs k d (Heap.le_put o hb k d e);refine(x W m).mono ?_;rintro e W' ⟨r,h0,q,s,c⟩
 have n:h0 b=none:=by
  cases hx:h0 b with
  |none=>rfl
  |some d=>have:=c.new b d hb hx;omega
 refine⟨r,h0.put b o,q,hk r h0 n s,⟨fun k d e=>?_,c.os,c.tape,c.output,c.size,fun k i e=>?_,fun k d e p=>?_⟩⟩
 ·by_cases a:k=b
  ·subst a;rw[C3]at e;cases e;rw[c.keep k j hb];exact l
  ·rw[C1 _ _ a]at e;exact c.sim k d e
 ·have a:k≠b:=by rintro rfl;rw[C3]at e;cases e
  rw[C1 _ _ a]at e;exact c.keep k i e
 ·have a:k≠b:=by rintro rfl;rw[C3]at e;cases e
  rw[C1 _ _ a]at e p;exact c.new k d e p
def Priv.call{P:Program}{f:FuncId}{args:Array Value}{h g:Heap}{e:TypeId}{s:Nat}{A:Option Addr}{n c:Nat}{xs:J Value}(p:Priv h g e s A n c xs){K:VP}(x:FCall P f args g (fun r h0=>∀h',Priv h' h0 e s A n c xs->K r h')):FCall P f args h K:=by rcases p with⟨q,a,⟨j,rfl⟩|⟨b,k,t,d,rfl,m⟩⟩;{exact x.mono fun r h0 i=>i h0 ⟨q,a,.inl ⟨j,rfl⟩⟩};·exact FCall.frame d x fun r h0 l i=>i _ ⟨q,a,.inr ⟨b,k,t,l,rfl,m⟩⟩
def Fb{P:Program}{t e:TypeId}{z:Value}{bytes:Nat}(st:SliceT P t e z 1 bytes){h g:Heap}{A:Option Addr}{n c:Nat}{xs:J Value}(p:Priv h g e 1 A n c xs){v:Value}(hv:v.cells=#[v])(h1:Qj v=true)(hb:(2*(n+1)+192)*bytes<=281474976710656)(hm:n+1<=9223372036854775807) {K:Option Addr->Nat->Nat->Heap->Prop} (x:∀A' c' h' g',g.le g'->Priv h' g' e 1 A' (n+1) c' (xs++[v])->K A' (n+1) c' h'): wpH P (Instr.buildSlice t 1 #[(0,v)]) (fun v1 hp1=>∃(A1:Option Addr) (n1 c1:Nat),v1= .slice A1 n1 c1/\wpH P (Builtin.append_ #[t,t] t #[.slice A n c,.slice A1 n1 c1]) (fun v2 hp2=>∃(A2:Option Addr) (n2 c2:Nat),v2= .slice A2 n2 c2/\K A2 n2 c2 hp2) hp1) h:=by refine T6 st hv ?_;intro b a;refine⟨_,_,_,rfl,?_⟩;have m:=p.put a (.cells #[v] e);refine Bz st m (ys:=[v]) (by simp) (.inr ⟨⟨b,0,none⟩,rfl,fun j u r=>?_⟩) (fun u s=>gz0) hb hm ?_;{rw[D9,E6];grind};·intro A' c' h' g' q l;have f:g.le (g.put b (.cells #[v] e)):=by{intro k o i;have d:k≠b:=by{rintro rfl;rw[p.le k o i]at a;cases a};rw[C1 _ _ d];exact i};exact⟨_,_,_,rfl,x A' c' h' g' (B6 f q) l⟩
def bs(l:J UInt8):ByteArray:=⟨l.toArray⟩
def J2(l:J UInt8):(bs l).size=l.length:=rfl
def A9h(a b:ByteArray):(a.toList==b.toList)=decide (a.data.toList=b.data.toList):=by rw[ByteArray.toList_eq,ByteArray.toList_eq,Bool.eq_iff_iff];simp
def Ib(a b:J UInt8):((bs a).toList==(bs b).toList)=decide (a=b):=by rw[A9h];rfl
def Zz(l:J UInt8)(i:Nat):(bs l)[i]? = l[i]? :=by by_cases h:i<l.length;{have a:i<(bs l).size:=h;rw[getElem?_pos (bs l) i a,getElem?_pos l i h];rfl};·rw[getElem?_neg (bs l) i h,getElem?_neg l i h]
def Pz(a b:J UInt8):bs a++bs b=bs (a++b):=by rfl
def R8(l:J UInt8)(i j:Nat):(bs l).extract i j=bs ((l.drop i).take (j-i)):=by apply ByteArray.ext;apply Array.toList_inj.1;simp[bs,List.extract_eq_take_drop]
def yv(l:J UInt8):J Value:=l.map fun c=>.int .u8 c.toNat
def Z9(a b:J UInt8):yv (a++b)=yv a++yv b:=by simp[yv]
def Iq(l:J UInt8):(yv l).length=l.length:=by simp[yv]
def A7g{P:Program}{f:Value->ByteArray->Sem (ForInStep ByteArray)}(hf:∀n r,f (.int .u8 n) r=pure (ForInStep.yield (r.push (UInt8.ofNat n.toNat))))(l:J UInt8):∀(s:ByteArray) (K:ByteArray->Heap->Prop) (h:Heap),K (s++bs l) h->
 wpH P (forIn (m:=Sem) (yv l) s f) K h:=by
 induction l with
 |nil=>
  intro s K h x;have e:s++bs []=s:=ByteArray.append_empty (b:=s);rw[e]at x;exact x
 |cons c l ih=>
  intro s K h x;show wpH P (forIn (m:=Sem) (Value.int .u8 c.toNat::yv l) s f) K h;rw[List.forIn_cons,C8,hf];show wpH P (forIn (m:=Sem) (yv l) (s.push (UInt8.ofNat ((c.toNat:Int)).toNat)) f) K h;refine ih _ K h ?_;have e:UInt8.ofNat ((c.toNat:Int)).toNat=c:=by simp
  have a:s.push c++bs l=s++bs (c::l):=by
   apply ByteArray.ext;simp[bs,ByteArray.push]
  grind
def Ki{P:Program}{t d e:TypeId}(ht:P.underlying t=some (.slice e))(he:P.underlying e=some (.int .u8))(hd:P.underlying d=some .string){h:Heap}{A:Option Addr}{n c:Nat}{l:J UInt8}(s:SlV h A (yv l))(hn:n=l.length){K:VP}(x:K (.string (bs l)) h):wpH P (convert t d (.slice A n c)) K h:=by
 subst hn;unfold convert;simp only[C8,F2 ht,F2 hd,F2 he];unfold Conv.bytesToString
 cases A with
 |none=>
  rcases s with b|⟨a,e,_⟩
  ·have:l=[]:=by cases l with
    |nil=>rfl
    |cons _ _=>cases b
   subst this;exact x
  ·cases e
 |some a=>
  simp only[C8]
  have f:∀j v,(yv l)[j]? = some v->h.cell? (a.add j)=some v:=by
   rcases s with b|⟨g,e,f⟩;·grind
   grind
  refine Aa (cs:=yv l) (Iq l).symm f ?_;simp only[List.forIn_toArray];refine A7g (fun n r=>rfl) l ByteArray.empty _ h ?_;exact x
