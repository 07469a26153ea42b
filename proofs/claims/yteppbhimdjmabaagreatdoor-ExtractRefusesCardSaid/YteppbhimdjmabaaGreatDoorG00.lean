/- A part. -/
import Derived.Orders
import Derived.Below
set_option linter.all false
open _root_.Array renaming getElem?_modify->aE
open Bool renaming false_eq_true->aH
open _root_ renaming List->J
open _root_.Go renaming Value->aC,Program->aF,World->aI,Addr->aJ
namespace Go.Proofs.YteppbhimdjmabaaGreatDoor
open Go
abbrev OA:Type:=Option aJ
def iN.{u}{c:Prop}{h:Decidable c}(k:¬c){α:Sort u}{t e:α}:ite c t e=e:=if_neg k
def iP.{u}{c:Prop}{h:Decidable c}(k:c){α:Sort u}{t e:α}:ite c t e=t:=if_pos k
abbrev LL(n:Nat)(l:Nat->J UInt8):Prop:=∀i,i<n->(l i).length<=100000000
abbrev Lrg(a b:Nat):J Nat:=List.range' a b
def o{p:Prop}(h:p:=by omega):p:=h
def oo{p:Prop}(h:p:=by omega):p:=h
def dc{p:Prop}(h:p:=by decide):p:=h
def gz0{p:Prop}(h:p:=by grind):p:=h
abbrev Heap:=Nat->Option Obj
abbrev VP:=Value->Heap->Prop
abbrev LP:=List Value->Heap->Prop
abbrev LN:=List Value->Heap->Nat
def Heap.cell?(h:Heap)(a:aJ):Option aC:=
 match h a.block with
 |some (.cells c _ _)=>if a.spot.isSome then none else c[a.off]?
 |_=>none
def Heap.frozen?(h:Heap)(a:aJ):Bool:=
 match h a.block with
 |some (.cells _ _ (lo,hi))=>lo<=a.off&&a.off<hi
 |_=>false
def Heap.put(h:Heap)(b:Nat)(o:Obj):Heap:=fun k=>if k=b then some o else h k
def Heap.setCell(h:Heap)(a:aJ)(v:aC):Heap:=fun k=>
 if k=a.block then(h k).map (fun
  |.cells c elem frozen=>.cells (if a.spot.isSome then c else c.setIfInBounds a.off v) elem frozen
  |o=>o)
 else h k
def Obj.frz(a:aJ)(n:Nat):Obj->Obj
 |.cells c elem (lo,hi)=>.cells c elem (if lo==hi then(a.off,a.off+n)else(min lo a.off,max hi (a.off+n)))
 |o=>o
def Heap.freeze(h:Heap)(a:aJ)(n:Nat):Heap:=if n=0 then h else fun k=>if k=a.block then(h k).map (Obj.frz a n)else h k
def Heap.le(h h':Heap):Prop:=∀b o,h b=some o->h' b=some o
def B8(h:Heap):h.le h:=fun _ _ x=>x
def B6{a b c:Heap}(x:a.le b)(y:b.le c):a.le c:=fun k o e=>y k o (x k o e)
def Heap.le_put{h:Heap}{b:Nat}(o:Obj)(hb:h b=none):h.le (h.put b o):=fun k a e=>by unfold Heap.put;grind
def C3(h:Heap)(b:Nat)(o:Obj):h.put b o b=some o:=by simp[Heap.put]
def C1(h:Heap){b k:Nat}(o:Obj)(hk:k≠b):h.put b o k=h k:=by simp[Heap.put,hk]
def C2{h h':Heap}(hl:h.le h'){a:aJ}{v:aC}(e:h.cell? a=some v):h'.cell? a=some v:=by
 unfold Heap.cell? at *
 cases hb:h a.block with
 |none=>grind
 |some o=>rw[hl _ _ hb];grind
def Sim(h:Heap)(W:aI):Prop:=∀b o,h b=some o->W.heap[b]? = some o
def Sim.cell{h:Heap}{W:aI}(s:Sim h W){a:aJ}{v:aC}(e:h.cell? a=some v):W.cell? a=some v:=by
 unfold Heap.cell? at e;unfold World.cell?
 cases hb:h a.block with
 |none=>grind
 |some o=>rw[s _ _ hb];grind
def Sim.frozen{h:Heap}{W:aI}(s:Sim h W){a:aJ}{v:aC}(e:h.cell? a=some v):W.frozen? a=h.frozen? a:=by
 unfold Heap.cell? at e;unfold World.frozen? Heap.frozen?
 cases hb:h a.block with
 |none=>grind
 |some o=>rw[s _ _ hb];rfl
structure Fr (h:Heap) (W:aI) (h':Heap) (W':aI):Prop where
 sim:Sim h' W'
 os:W'.os=W.os
 tape:W'.tape=W.tape
 output:W'.output=W.output
 size:W.heap.size<=W'.heap.size
 keep:∀ b,b<W.heap.size->h b=none->W'.heap[b]? = W.heap[b]?
 new:∀ b o,h b=none->h' b=some o->W.heap.size<=b
def Fr.refl{h:Heap}{W:aI}(s:Sim h W):Fr h W h W:=⟨s,rfl,rfl,rfl,Nat.le_refl _,fun _ _ _=>rfl,fun b o e a=>gz0⟩
def Fr.trans{h1 h2 h3:Heap}{W1 W2 W3:aI}(a:Fr h1 W1 h2 W2)(b:Fr h2 W2 h3 W3):Fr h1 W1 h3 W3:=by
 refine⟨b.sim,b.os.trans a.os,b.tape.trans a.tape,b.output.trans a.output,Nat.le_trans a.size b.size,fun k c e=>?_,fun k o e f=>?_⟩
 ·have d:h2 k=none:=by
   cases x:h2 k with
   |none=>rfl
   |some o=>have:=a.new k o e x;omega
  exact(b.keep k (Nat.lt_of_lt_of_le c a.size) d).trans (a.keep k c e)
 ·cases x:h2 k with
  |none=>exact Nat.le_trans a.size (b.new k o x f)
  |some o'=>exact a.new k o' e x
def Fr.le{h h1 h':Heap}{W W':aI}(f:Fr h W h' W')(hl:h1.le h')(hn:∀b,h b=none->h1 b≠none->W.heap.size<=b):Fr h W h1 W':=⟨fun b o e=>f.sim b o (hl b o e),f.os,f.tape,f.output,f.size,f.keep,fun b o e a=>hn b e gz0⟩
def Qj:aC->Bool
 |.agg _ |.tuple _=>false
 |_=>true
def wpH{α:Type}(P:aF):Sem α->(α->Heap->Prop)->Heap->Prop
 |.pure a,K,h=>K a h
 |.load _ a k,K,h=>∃v,h.cell? a=some v/\wpH P (k v) K h
 |.store _ a v k,K,h=>Qj v=true/\(∃u,h.cell? a=some u)/\h.frozen? a=false/\wpH P k K (h.setCell a v)
 |.new o k,K,h=>∀b,h b=none->wpH P (k b) K (h.put b o)
 |.shape r k,K,h=>∃c e f,h r=some (.cells c e f)/\wpH P (k (some (e,c.size))) K h
 |.freeze a n k,K,h=>(∃o,h a.block=some o)/\wpH P k K (h.freeze a n)
 |.frozen a k,K,h=>∃v,h.cell? a=some v/\wpH P (k (h.frozen? a)) K h
 |.choose q k,K,h=>if q.forced then wpH P (k 0) K h else ∀t,wpH P (k (q.cut t)) K h
 |.program k,K,h=>wpH P (k P) K h
 |.mark _ k,K,h=>wpH P k K h
 |_,_,_=>False
def Iy(W:aI)(a:aJ)(v:aC)(b:Nat)(hb:b≠a.block):(W.setCell a v).heap[b]? = W.heap[b]? :=by simp[World.setCell,aE,Ne.symm hb]
def A5w{α:Type}{P:aF}(s:Sem α):∀(K:α->Heap->Prop) (h:Heap) (W:aI),wpH P s K h->Sim h W->
 ∃v W' h',s.run P W= .ok v W'/\K v h'/\Fr h W h' W':=by
 induction s with
 |pure a=>exact fun K h W g hs=>⟨a,W,h,rfl,g,Fr.refl hs⟩
 |load m a k ih=>
  intro K h W ⟨v,hv,g⟩ hs;simp only[Sem.run,hs.cell hv];grind
 |store m a v k ih=>
  intro K h W ⟨h1,⟨u,hu⟩,hf,g⟩ hs
  have d:Sim (h.setCell a v) (W.setCell a v):=by
   intro b o e;unfold Heap.setCell at e;by_cases i:b=a.block
   ·subst i
    cases x:h a.block with
    |none=>grind
    |some t=>
     rw[x]at e;simp only[World.setCell,aE,if_true,hs _ _ x,Option.map_some]at e ⊢;exact e
   ·rw[iN i]at e;rw[Iy W a v b i];exact hs b o e
  obtain⟨r,W',h',l,w,f⟩:=ih K (h.setCell a v) (W.setCell a v) g d
  have p:Fr h W (h.setCell a v) (W.setCell a v):=by
   refine⟨d,rfl,rfl,rfl,by simp_all,fun b i e=>Iy W a v b ?_,fun b o e z=>?_⟩
   ·rintro rfl;unfold Heap.cell? at hu;grind
   ·unfold Heap.setCell at z;grind
  refine⟨r,W',h',?_,w,p.trans f⟩;rw[<- l];cases v<;>first|(simp[Qj]at h1;done)|simp[Sem.run,hs.cell hu,hs.frozen hu,hf]
 |new o k ih=>
  intro K h W g hs;by_cases y:h W.heap.size=none
  ·have d:Sim (h.put W.heap.size o) { W with heap:=W.heap.push o }:=by
    intro b t e;unfold Heap.put at e;split at e;·grind
    ·have:=hs b t e;grind
   obtain⟨r,W',h',l,w,f⟩:=ih W.heap.size K _ { W with heap:=W.heap.push o } (g _ y) d;refine⟨r,W',h',l,w,Fr.trans (h2:=h.put W.heap.size o) (W2:={ W with heap:=W.heap.push o }) ⟨d,rfl,rfl,rfl,by simp,fun b i _=>?_,fun b t e z=>?_⟩ f⟩;·grind
   ·unfold Heap.put at z;grind
  ·exfalso
   cases x:h W.heap.size with
   |none=>grind
   |some t=>have:=hs _ _ x;grind
 |shape r k ih=>
  intro K h W ⟨c,e,f,l,g⟩ hs;have:W.shape? r=some (e,c.size):=by simp[World.shape?,hs _ _ l]
  simp only[Sem.run,this];grind
 |freeze a n k ih=>
  intro K h W ⟨⟨o,ho⟩,g⟩ hs
  have d:Sim (h.freeze a n) (W.freeze a n):=by
   unfold Heap.freeze World.freeze;by_cases B:n=0;·grind
   ·simp only[B,if_false];intro b t e;by_cases i:b=a.block
    ·subst i;simp only[if_true]at e;rw[ho]at e;rw[aE,iP rfl,hs _ _ ho];assumption
    ·simp only[iN i]at e;rw[aE,iN (Ne.symm i)];exact hs b t e
  obtain⟨r,W',h',l,w,f⟩:=ih K (h.freeze a n) (W.freeze a n) g d
  have j:(W.freeze a n).os=W.os/\(W.freeze a n).tape=W.tape/\(W.freeze a n).output=W.output/\(W.freeze a n).heap.size=W.heap.size:=by
   unfold World.freeze;grind
  have p:Fr h W (h.freeze a n) (W.freeze a n):=by
   refine⟨d,j.1,j.2.1,j.2.2.1,Nat.le_of_eq j.2.2.2.symm,fun b i e=>?_,fun b t e z=>?_⟩
   ·unfold World.freeze;grind
   ·unfold Heap.freeze at z;split at z;·grind
    grind
  exact⟨r,W',h',l,w,p.trans f⟩
 |frozen a k ih=>
  intro K h W ⟨v,hv,g⟩ hs;simp only[Sem.run,hs.frozen hv];grind
 |getObj r k ih=>exact fun K h W g _=>g.elim
 |setObj r o k ih=>exact fun K h W g _=>g.elim
 |choose q k ih=>
  intro K h W g hs;unfold wpH at g;by_cases A:q.forced=true
  ·simp only[Sem.run,A,if_true];grind
  ·simp only[A,if_false,aH]at g;simp only[Sem.run,A,if_false,aH];obtain⟨r,W',h',l,w,f⟩:=ih _ K h { W with drawn:=W.drawn+1 } (g _) hs;exact⟨r,W',h',l,w,f.sim,f.os,f.tape,f.output,f.size,f.keep,f.new⟩
 |sys c k ih=>exact fun K h W g _=>g.elim
 |program k ih=>exact fun K h W g hs=>ih P K h W g hs
 |mark m k ih=>assumption
 |halt x=>exact fun K h W g _=>g.elim
def Ke{α:Type}{P:aF}(s:Sem α):∀{K K':α->Heap->Prop} {h:Heap},wpH P s K h->(∀v h',K v h'->K' v h')->wpH P s K' h:=by
 induction s with
 |pure a=>exact fun x d=>d _ _ x
 |load m a k ih=>exact fun⟨v,g,x⟩ d=>⟨v,g,ih v x d⟩
 |store m a v k ih=>exact fun⟨p,j,t,x⟩ d=>⟨p,j,t,ih x d⟩
 |new o k ih=>exact fun x d b u=>ih b (x b u) d
 |shape r k ih=>exact fun⟨c,e,f,l,x⟩ d=>⟨c,e,f,l,ih _ x d⟩
 |freeze a n k ih=>exact fun⟨i,x⟩ d=>⟨i,ih x d⟩
 |frozen a k ih=>exact fun⟨v,g,x⟩ d=>⟨v,g,ih _ x d⟩
 |choose q k ih=>
  intro K K' h x d;unfold wpH at x ⊢;grind
 |program k ih=>exact fun x d=>ih P x d
 |mark m k ih=>assumption
 |_=>intros;contradiction
def FCall(P:aF)(f:FuncId)(args:Array aC)(h:Heap)(K:VP):Prop:=∀W,Sim h W->Calls P f args W fun e W'=>∃r h',e= .returned r/\K r h'/\Fr h W h' W'
def FCall.mono{P:aF}{f:FuncId}{args:Array aC}{h:Heap}{K K':VP}(x:FCall P f args h K)(hk:∀r h',K r h'->K' r h'):FCall P f args h K':=fun W hs=>(x W hs).mono fun _ _ ⟨r,h',b,a,c⟩=>⟨r,h',b,hk r h' a,c⟩
def ECall(P:aF)(f:FuncId)(args:Array aC)(h:Heap)(K:VP):Prop:=∀W,Sim h W->∃r W' h',(callFunc f args).run P W= .ok (.value r) W'/\K r h'/\Fr h W h' W'
def ECall.mono{P:aF}{f:FuncId}{args:Array aC}{h:Heap}{K K':VP}(x:ECall P f args h K)(hk:∀r h',K r h'->K' r h'):ECall P f args h K':=fun W hs=>by obtain⟨r,W',h',a,b,c⟩:=x W hs;grind
def Rb{α:Type}(P:aF):Sem α->Option α
 |.pure a=>some a
 |.program k=>Rb P (k P)
 |_=>none
def Vp{α:Type}{P:aF}(s:Sem α):∀{v:α},Rb P s=some v->∀W,s.run P W= .ok v W:=by
 induction s with
 |pure a=>intro v h W;simp only[Rb,Option.some.injEq]at h;simp_all
 |program k ih=>intro v h W;exact ih P h W
 |_=>intro v h;cases h
def Br(b:Bool)(A B:Prop):Prop:=match b with|true=>A|false=>B
def Br.of{b:Bool}{A B:Prop}(t:b=true->A)(f:b=false->B):Br b A B:=by cases b;{exact f rfl};·exact t rfl
def B9{p:Prop}[Decidable p]{A B:Prop}(t:p->A)(f:¬p->B):Br (decide p) A B:=Br.of (fun h=>t (of_decide_eq_true h)) (fun h=>f (of_decide_eq_false h))
def Br.mono{b:Bool}{A B A' B':Prop}(x:Br b A B)(ha:A->A')(hb:B->B'):Br b A' B':=by cases b;{exact hb x};·exact ha x
def exV:aC->(aC->Prop)->Prop
 |.int k _,K=>∃n:Int,K (.int k n)
 |.bool _,K=>∃b:Bool,K (.bool b)
 |.string _,K=>∃s:ByteArray,K (.string s)
 |.slice _ _ _,K=>∃(A:Option aJ) (n c:Nat),K (.slice A n c)
 |.pointer _,K=>∃p:Option aJ,K (.pointer p)
 |_,K=>∃v:aC,K v
def exL:J aC->(J aC->Prop)->Prop
 | [],K=>K []
 |z::zs,K=>exV z fun v=>exL zs fun vs=>K (v::vs)
def exT(z:aC)(K:aC->Prop):Prop:=
 match z with
 |.agg cs=>exL cs.toList fun a=>K (.agg a.toArray)
 |z=>exV z K
def exTs:J aC->(J aC->Prop)->Prop
 | [],K=>K []
 |z::zs,K=>exT z fun v=>exTs zs fun vs=>K (v::vs)
def exR(zs:J aC)(K:aC->Prop):Prop:=
 match zs with
 | [z]=>exT z K
 |zs=>exTs zs fun a=>K (.tuple a.toArray)
def allV:aC->(aC->Prop)->Prop
 |.int k _,K=>∀n:Int,K (.int k n)
 |.bool _,K=>∀b:Bool,K (.bool b)
 |.string _,K=>∀s:ByteArray,K (.string s)
 |.slice _ _ _,K=>∀(A:Option aJ) (n c:Nat),K (.slice A n c)
 |.pointer _,K=>∀p:Option aJ,K (.pointer p)
 |_,K=>∀v:aC,K v
def allL:J aC->(J aC->Prop)->Prop
 | [],K=>K []
 |z::zs,K=>allV z fun v=>allL zs fun vs=>K (v::vs)
def A4i:aC->aC->Bool
 |.int k _,.int k' _=>k==k'
 |.int _ _,_=>false
 |.bool _,.bool _=>true
 |.bool _,_=>false
 |.string _,.string _=>true
 |.string _,_=>false
 |.slice _ _ _,.slice _ _ _=>true
 |.slice _ _ _,_=>false
 |.pointer _,.pointer _=>true
 |.pointer _,_=>false
 |_,_=>true
def exV.out{z:aC}{K:aC->Prop}(h:exV z K):∃v,K v:=by cases z<;>(unfold exV at h)<;>first|grind|grind
def exL.out{zs:J aC}:∀{K:J aC->Prop},exL zs K->∃vs,vs.length=zs.length/\K vs:=by
 induction zs with
 |nil=>exact fun h=>⟨[],rfl,h⟩
 |cons z zs ih=>
  intro K h;obtain⟨v,a⟩:=exV.out h;grind
def exT.out{z:aC}{K:aC->Prop}(h:exT z K):∃v,K v:=by
 cases z with
 |agg cs=>obtain⟨b,_,a⟩:=exL.out h;grind
 |_=>unfold exT at h;exact exV.out h
def exTs.out{zs:J aC}:∀{K:J aC->Prop},exTs zs K->∃vs,K vs:=by
 induction zs with
 |nil=>exact fun h=>⟨[],h⟩
 |cons z zs ih=>
  intro K h;obtain⟨v,a⟩:=exT.out h;grind
def exR.out{zs:J aC}{K:aC->Prop}(h:exR zs K):∃v,K v:=by unfold exR at h;split at h;{exact exT.out h};·obtain⟨b,a⟩:=exTs.out h;grind
def allV.at{z v:aC}{K:aC->Prop}(h:allV z K)(hk:A4i z v=true):K v:=by cases z<;>simp only[allV]at h<;>first |exact h v | (cases v<;>simp only[A4i,aH]at hk<;>first |exact h _ |grind |grind)
def allL.at{zs:J aC}:∀{vs:J aC} {K:J aC->Prop},allL zs K->vs.length=zs.length->(∀p∈zs.zip vs,A4i p.1 p.2=true)->K vs:=by
 induction zs with
 |nil=>intro vs K h hl _;cases vs with
  |nil=>exact h
  |cons _ _=>grind
 |cons z zs ih=>
  intro vs K h hl a
  cases vs with
  |nil=>grind
  |cons v vs=>
   exact ih (vs:=vs) (K:=fun vs=>K (v::vs)) (allV.at (K:=fun v=>allL zs fun vs=>K (v::vs)) h (a (z,v) (by simp))) gz0 (fun p b=>a p (by simp[b]))
