/- A part. -/
import Derived.Orders
import Derived.Below
set_option linter.all false
open _root_.Array renaming getElem?_modify->aD
open Bool renaming false_eq_true->aF
open _root_.Go renaming Value->aC,Program->aE,World->aG,Addr->aH
namespace Go.Proofs.YtmbfcbbkbefgfaaGreatDoor
open Go
abbrev OA:Type:=Option aH
def iN.{u}{c:Prop}{h:Decidable c}(k:¬c){α:Sort u}{t e:α}:ite c t e=e:=if_neg k
def iP.{u}{c:Prop}{h:Decidable c}(k:c){α:Sort u}{t e:α}:ite c t e=t:=if_pos k
abbrev LL(n:Nat)(l:Nat->List UInt8):Prop:=∀ i,i<n->(l i).length<=100000000
abbrev Lrg(a b:Nat):List Nat:=List.range' a b
abbrev Heap:=Nat->Option Obj
abbrev VP:=Value->Heap->Prop
abbrev LP:=List Value->Heap->Prop
abbrev LN:=List Value->Heap->Nat
def Heap.cell?(h:Heap)(a:aH):Option aC:=
 match h a.block with
 | some (.cells c _ _)=>if a.spot.isSome then none else c[a.off]?
 | _=>none
def Heap.frozen?(h:Heap)(a:aH):Bool:=
 match h a.block with
 | some (.cells _ _ (lo,hi))=>lo<=a.off&&a.off<hi
 | _=>false
def Heap.put(h:Heap)(b:Nat)(o:Obj):Heap:=fun k=>if k=b then some o else h k
def Heap.setCell(h:Heap)(a:aH)(v:aC):Heap:=fun k=>
 if k=a.block then (h k).map (fun
  | .cells c elem frozen=>.cells (if a.spot.isSome then c else c.setIfInBounds a.off v) elem frozen
  | o=>o)
 else h k
def Obj.frz(a:aH)(n:Nat):Obj->Obj
 | .cells c elem (lo,hi)=>.cells c elem (if lo==hi then (a.off,a.off+n) else (min lo a.off,max hi (a.off+n)))
 | o=>o
def Heap.freeze(h:Heap)(a:aH)(n:Nat):Heap:=if n=0 then h else fun k=>if k=a.block then (h k).map (Obj.frz a n) else h k
def Heap.le(h h':Heap):Prop:=∀ b o,h b=some o->h' b=some o
def B0(h:Heap):h.le h:=fun _ _ x=>x
def Heap.le_trans{a b c:Heap}(x:a.le b)(y:b.le c):a.le c:=fun k o e=>y k o (x k o e)
def Heap.le_put{h:Heap}{b:Nat}(o:Obj)(hb:h b=none):h.le (h.put b o):=fun k c e=>by
 unfold Heap.put;split
 ·rename_i a;subst a;rw [hb] at e;cases e
 ·exact e
def B8(h:Heap)(b:Nat)(o:Obj):h.put b o b=some o:=by simp [Heap.put]
def B6(h:Heap){b k:Nat}(o:Obj)(hk:k≠b):h.put b o k=h k:=by simp [Heap.put,hk]
def C4{h h':Heap}(hl:h.le h'){a:aH}{v:aC}(e:h.cell? a=some v):h'.cell? a=some v:=by
 unfold Heap.cell? at *
 cases hb:h a.block with
 | none=>simp [hb] at e
 | some o=>rw [hl _ _ hb];rw [hb] at e;exact e
def Sim(h:Heap)(W:aG):Prop:=∀ b o,h b=some o->W.heap[b]? = some o
def Sim.cell{h:Heap}{W:aG}(s:Sim h W){a:aH}{v:aC}(e:h.cell? a=some v):W.cell? a=some v:=by
 unfold Heap.cell? at e
 unfold World.cell?
 cases hb:h a.block with
 | none=>simp [hb] at e
 | some o=>rw [s _ _ hb];rw [hb] at e;exact e
def Sim.frozen{h:Heap}{W:aG}(s:Sim h W){a:aH}{v:aC}(e:h.cell? a=some v):W.frozen? a=h.frozen? a:=by
 unfold Heap.cell? at e
 unfold World.frozen? Heap.frozen?
 cases hb:h a.block with
 | none=>simp [hb] at e
 | some o=>rw [s _ _ hb];rfl
structure Fr (h:Heap) (W:aG) (h':Heap) (W':aG):Prop where
 sim:Sim h' W'
 os:W'.os=W.os
 tape:W'.tape=W.tape
 output:W'.output=W.output
 size:W.heap.size<=W'.heap.size
 keep:∀ b,b<W.heap.size->h b=none->W'.heap[b]? = W.heap[b]?
 new:∀ b o,h b=none->h' b=some o->W.heap.size<=b
def Fr.refl{h:Heap}{W:aG}(s:Sim h W):Fr h W h W:=
 ⟨s,rfl,rfl,rfl,Nat.le_refl _,fun _ _ _=>rfl,fun b o e a=>by rw [e] at a;cases a⟩
def Fr.trans{h1 h2 h3:Heap}{W1 W2 W3:aG}(a:Fr h1 W1 h2 W2)(b:Fr h2 W2 h3 W3):Fr h1 W1 h3 W3:=by
 refine ⟨b.sim,b.os.trans a.os,b.tape.trans a.tape,b.output.trans a.output,Nat.le_trans a.size b.size,fun k c e=>?_,fun k o e d=>?_⟩
 ·have g:h2 k=none:=by
   cases x:h2 k with
   | none=>rfl
   | some o=>have:=a.new k o e x;omega
  exact (b.keep k (Nat.lt_of_lt_of_le c a.size) g).trans (a.keep k c e)
 ·cases x:h2 k with
  | none=>exact Nat.le_trans a.size (b.new k o x d)
  | some o'=>exact a.new k o' e x
def Fr.le{h h1 h':Heap}{W W':aG}(f:Fr h W h' W')(hl:h1.le h')(hn:∀ b,h b=none->h1 b≠none->W.heap.size<=b):Fr h W h1 W':=
 ⟨fun b o e=>f.sim b o (hl b o e),f.os,f.tape,f.output,f.size,f.keep,fun b o e a=>hn b e (by rw [a];simp)⟩
def St:aC->Bool
 | .agg _ | .tuple _=>false
 | _=>true
def wpH{α:Type}(P:aE):Sem α->(α->Heap->Prop)->Heap->Prop
 | .pure a,K,h=>K a h
 | .load _ a k,K,h=>∃ v,h.cell? a=some v/\wpH P (k v) K h
 | .store _ a v k,K,h=>St v=true/\(∃ u,h.cell? a=some u)/\h.frozen? a=false/\wpH P k K (h.setCell a v)
 | .new o k,K,h=>∀ b,h b=none->wpH P (k b) K (h.put b o)
 | .shape r k,K,h=>∃ c e f,h r=some (.cells c e f)/\wpH P (k (some (e,c.size))) K h
 | .freeze a n k,K,h=>(∃ o,h a.block=some o)/\wpH P k K (h.freeze a n)
 | .frozen a k,K,h=>∃ v,h.cell? a=some v/\wpH P (k (h.frozen? a)) K h
 | .choose q k,K,h=>if q.forced then wpH P (k 0) K h else ∀ t,wpH P (k (q.cut t)) K h
 | .program k,K,h=>wpH P (k P) K h
 | .mark _ k,K,h=>wpH P k K h
 | _,_,_=>False
def Ff(W:aG)(a:aH)(v:aC)(b:Nat)(hb:b≠a.block):(W.setCell a v).heap[b]? = W.heap[b]? :=by
 simp [World.setCell,aD,Ne.symm hb]
def A1a{α:Type}{P:aE}(s:Sem α):∀ (K:α->Heap->Prop) (h:Heap) (W:aG),wpH P s K h->Sim h W->
 ∃ v W' h',s.run P W= .ok v W'/\K v h'/\Fr h W h' W':=by
 induction s with
 | pure a=>exact fun K h W d g=>⟨a,W,h,rfl,d,Fr.refl g⟩
 | load m a k ih=>
  intro K h W ⟨v,hv,d⟩ g
  simp only [Sem.run,g.cell hv]
  exact ih v K h W d g
 | store m a v k ih=>
  intro K h W ⟨h1,⟨u,hu⟩,hf,d⟩ g
  have i:Sim (h.setCell a v) (W.setCell a v):=by
   intro b o e
   unfold Heap.setCell at e
   by_cases l:b=a.block
   ·subst l
    simp only [if_true] at e
    cases x:h a.block with
    | none=>rw [x] at e;cases e
    | some B=>
     rw [x] at e
     simp only [World.setCell,aD,if_true,g _ _ x,Option.map_some] at e ⊢
     exact e
   ·rw [iN l] at e
    rw [Ff W a v b l];exact g b o e
  obtain ⟨r,W',h',w,A,f⟩:=ih K (h.setCell a v) (W.setCell a v) d i
  have z:Fr h W (h.setCell a v) (W.setCell a v):=by
   refine ⟨i,rfl,rfl,rfl,by simp [World.setCell],fun b l e=>Ff W a v b ?_,fun b o e j=>?_⟩
   ·rintro rfl
    unfold Heap.cell? at hu
    rw [e] at hu;cases hu
   ·unfold Heap.setCell at j
    split at j
    ·rw [e] at j;cases j
    ·rw [e] at j;cases j
  refine ⟨r,W',h',?_,A,z.trans f⟩
  rw [<- w]
  cases v<;>first|(simp [St] at h1;done)|simp [Sem.run,g.cell hu,g.frozen hu,hf]
 | new o k ih=>
  intro K h W d g
  by_cases p:h W.heap.size=none
  ·have i:Sim (h.put W.heap.size o) { W with heap:=W.heap.push o }:=by
    intro b B e
    unfold Heap.put at e
    split at e
    ·rename_i l;subst l;simpa using e
    ·have:=g b B e
     have F:b<W.heap.size:=by
      rcases Nat.lt_or_ge b W.heap.size with h'|h'
      ·exact h'
      ·rw [Array.getElem?_eq_none h'] at this;cases this
     simp only [Array.getElem?_push,this]
     rw [iN (by omega)]
   obtain ⟨r,W',h',w,A,f⟩:=ih W.heap.size K _ { W with heap:=W.heap.push o } (d _ p) i
   refine ⟨r,W',h',w,A,Fr.trans (h2:=h.put W.heap.size o) (W2:={ W with heap:=W.heap.push o }) ⟨i,rfl,rfl,rfl,by simp,fun b l _=>?_,fun b B e j=>?_⟩ f⟩
   ·simp only [Array.getElem?_push];rw [iN (by omega)]
   ·unfold Heap.put at j;split at j
    ·omega
    ·rw [e] at j;cases j
  ·exfalso
   cases x:h W.heap.size with
   | none=>exact p x
   | some B=>have:=g _ _ x;simp at this
 | shape r k ih=>
  intro K h W ⟨c,e,f,w,d⟩ g
  have:W.shape? r=some (e,c.size):=by simp [World.shape?,g _ _ w]
  simp only [Sem.run,this]
  exact ih _ K h W d g
 | freeze a n k ih=>
  intro K h W ⟨⟨o,D⟩,d⟩ g
  have i:Sim (h.freeze a n) (W.freeze a n):=by
   unfold Heap.freeze World.freeze
   by_cases E:n=0
   ·simp only [E,if_true];exact g
   ·simp only [E,if_false]
    intro b B e
    by_cases l:b=a.block
    ·subst l
     simp only [if_true] at e
     rw [D] at e
     simp only [Option.map_some] at e
     rw [aD,iP rfl,g _ _ D]
     rw [<- e]
     rfl
    ·simp only [iN l] at e
     rw [aD,iN (Ne.symm l)]
     exact g b B e
  obtain ⟨r,W',h',w,A,f⟩:=ih K (h.freeze a n) (W.freeze a n) d i
  have y:(W.freeze a n).os=W.os/\(W.freeze a n).tape=W.tape/\(W.freeze a n).output=W.output/\(W.freeze a n).heap.size=W.heap.size:=by
   unfold World.freeze;split<;>simp
  have z:Fr h W (h.freeze a n) (W.freeze a n):=by
   refine ⟨i,y.1,y.2.1,y.2.2.1,Nat.le_of_eq y.2.2.2.symm,fun b l e=>?_,fun b B e j=>?_⟩
   ·unfold World.freeze
    split
    ·rfl
    ·rw [aD,iN]
     rintro rfl;rw [D] at e;cases e
   ·unfold Heap.freeze at j
    split at j
    ·rw [e] at j;cases j
    ·simp only [e,Option.map_none,ite_self] at j
     cases j
  exact ⟨r,W',h',w,A,z.trans f⟩
 | frozen a k ih=>
  intro K h W ⟨v,hv,d⟩ g
  simp only [Sem.run,g.frozen hv]
  exact ih _ K h W d g
 | getObj r k ih=>exact fun K h W d _=>d.elim
 | setObj r o k ih=>exact fun K h W d _=>d.elim
 | choose q k ih=>
  intro K h W d g
  unfold wpH at d
  by_cases C:q.forced=true
  ·simp only [C,if_true] at d
   simp only [Sem.run,C,if_true]
   exact ih 0 K h W d g
  ·simp only [C,if_false,aF] at d
   simp only [Sem.run,C,if_false,aF]
   obtain ⟨r,W',h',w,A,f⟩:=ih _ K h { W with drawn:=W.drawn+1 } (d _) g
   exact ⟨r,W',h',w,A,f.sim,f.os,f.tape,f.output,f.size,f.keep,f.new⟩
 | sys c k ih=>exact fun K h W d _=>d.elim
 | program k ih=>exact fun K h W d g=>ih P K h W d g
 | mark m k ih=>exact fun K h W d g=>ih K h W d g
 | halt x=>exact fun K h W d _=>d.elim
def Gn{α:Type}{P:aE}(s:Sem α):∀ {K K':α->Heap->Prop} {h:Heap},wpH P s K h->(∀ v h',K v h'->K' v h')->wpH P s K' h:=by
 induction s with
 | pure a=>exact fun x d=>d _ _ x
 | load m a k ih=>exact fun ⟨v,i,x⟩ d=>⟨v,i,ih v x d⟩
 | store m a v k ih=>exact fun ⟨y,l,w,x⟩ d=>⟨y,l,w,ih x d⟩
 | new o k ih=>exact fun x d b u=>ih b (x b u) d
 | shape r k ih=>exact fun ⟨c,e,f,p,x⟩ d=>⟨c,e,f,p,ih _ x d⟩
 | freeze a n k ih=>exact fun ⟨j,x⟩ d=>⟨j,ih x d⟩
 | frozen a k ih=>exact fun ⟨v,i,x⟩ d=>⟨v,i,ih _ x d⟩
 | choose q k ih=>
  intro K K' h x d
  unfold wpH at x ⊢
  split
  ·rename_i g;rw [iP g] at x;exact ih _ x d
  ·rename_i g;rw [iN g] at x;exact fun t=>ih _ (x t) d
 | program k ih=>exact fun x d=>ih P x d
 | mark m k ih=>exact fun x d=>ih x d
 | _=>intros;contradiction
def FCall(P:aE)(f:FuncId)(args:Array aC)(h:Heap)(K:VP):Prop:=
 ∀ W,Sim h W->Calls P f args W fun e W'=>∃ r h',e= .returned r/\K r h'/\Fr h W h' W'
def FCall.mono{P:aE}{f:FuncId}{args:Array aC}{h:Heap}{K K':VP}(x:FCall P f args h K)(hk:∀ r h',K r h'->K' r h'):FCall P f args h K':=
 fun W d=>(x W d).mono fun _ _ ⟨r,h',b,a,c⟩=>⟨r,h',b,hk r h' a,c⟩
def ECall(P:aE)(f:FuncId)(args:Array aC)(h:Heap)(K:VP):Prop:=
 ∀ W,Sim h W->∃ r W' h',(callFunc f args).run P W= .ok (.value r) W'/\K r h'/\Fr h W h' W'
def ECall.mono{P:aE}{f:FuncId}{args:Array aC}{h:Heap}{K K':VP}(x:ECall P f args h K)(hk:∀ r h',K r h'->K' r h'):ECall P f args h K':=
 fun W d=>by
  obtain ⟨r,W',h',c,a,b⟩:=x W d
  exact ⟨r,W',h',c,hk r h' a,b⟩
def Lr{α:Type}(P:aE):Sem α->Option α
 | .pure a=>some a
 | .program k=>Lr P (k P)
 | _=>none
def Py{α:Type}{P:aE}(s:Sem α):∀ {v:α},Lr P s=some v->∀ W,s.run P W= .ok v W:=by
 induction s with
 | pure a=>intro v h W;simp only [Lr,Option.some.injEq] at h;subst h;rfl
 | program k ih=>intro v h W;exact ih P h W
 | _=>intro v h;cases h
def Br(b:Bool)(A B:Prop):Prop:=match b with|true=>A|false=>B
def Br.of{b:Bool}{A B:Prop}(t:b=true->A)(f:b=false->B):Br b A B:=by
 cases b
 ·exact f rfl
 ·exact t rfl
def B3{p:Prop}[Decidable p]{A B:Prop}(t:p->A)(f:¬ p->B):Br (decide p) A B:=
 Br.of (fun h=>t (of_decide_eq_true h)) (fun h=>f (of_decide_eq_false h))
def Br.mono{b:Bool}{A B A' B':Prop}(x:Br b A B)(ha:A->A')(hb:B->B'):Br b A' B':=by
 cases b
 ·exact hb x
 ·exact ha x
def exV:aC->(aC->Prop)->Prop
 | .int k _,K=>∃ n:Int,K (.int k n)
 | .bool _,K=>∃ b:Bool,K (.bool b)
 | .string _,K=>∃ s:ByteArray,K (.string s)
 | .slice _ _ _,K=>∃ (A:Option aH) (n c:Nat),K (.slice A n c)
 | .pointer _,K=>∃ p:Option aH,K (.pointer p)
 | _,K=>∃ v:aC,K v
def exL:List aC->(List aC->Prop)->Prop
 | [],K=>K []
 | z::zs,K=>exV z fun v=>exL zs fun vs=>K (v::vs)
def exT(z:aC)(K:aC->Prop):Prop:=
 match z with
 | .agg cs=>exL cs.toList fun a=>K (.agg a.toArray)
 | z=>exV z K
def exTs:List aC->(List aC->Prop)->Prop
 | [],K=>K []
 | z::zs,K=>exT z fun v=>exTs zs fun vs=>K (v::vs)
def exR(zs:List aC)(K:aC->Prop):Prop:=
 match zs with
 | [z]=>exT z K
 | zs=>exTs zs fun a=>K (.tuple a.toArray)
def allV:aC->(aC->Prop)->Prop
 | .int k _,K=>∀ n:Int,K (.int k n)
 | .bool _,K=>∀ b:Bool,K (.bool b)
 | .string _,K=>∀ s:ByteArray,K (.string s)
 | .slice _ _ _,K=>∀ (A:Option aH) (n c:Nat),K (.slice A n c)
 | .pointer _,K=>∀ p:Option aH,K (.pointer p)
 | _,K=>∀ v:aC,K v
def allL:List aC->(List aC->Prop)->Prop
 | [],K=>K []
 | z::zs,K=>allV z fun v=>allL zs fun vs=>K (v::vs)
def Zs:aC->aC->Bool
 | .int k _,.int k' _=>k==k'
 | .int _ _,_=>false
 | .bool _,.bool _=>true
 | .bool _,_=>false
 | .string _,.string _=>true
 | .string _,_=>false
 | .slice _ _ _,.slice _ _ _=>true
 | .slice _ _ _,_=>false
 | .pointer _,.pointer _=>true
 | .pointer _,_=>false
 | _,_=>true
def exV.out{z:aC}{K:aC->Prop}(h:exV z K):∃ v,K v:=by
 cases z<;>(unfold exV at h)<;>first|(obtain ⟨n,b⟩:=h;exact ⟨_,b⟩)|(obtain ⟨a,n,c,b⟩:=h;exact ⟨_,b⟩)
def exL.out{zs:List aC}: ∀ {K:List aC->Prop},exL zs K->∃ vs,vs.length=zs.length/\K vs:=by
 induction zs with
 | nil=>exact fun h=>⟨[],rfl,h⟩
 | cons z zs ih=>
  intro K h
  obtain ⟨v,c⟩:=exV.out h
  obtain ⟨vs,b,a⟩:=ih c
  exact ⟨v::vs,by simp [b],a⟩
def exT.out{z:aC}{K:aC->Prop}(h:exT z K):∃ v,K v:=by
 cases z with
 | agg cs=>obtain ⟨b,_,a⟩:=exL.out h;exact ⟨_,a⟩
 | _=>unfold exT at h;exact exV.out h
def exTs.out{zs:List aC}: ∀ {K:List aC->Prop},exTs zs K->∃ vs,K vs:=by
 induction zs with
 | nil=>exact fun h=>⟨[],h⟩
 | cons z zs ih=>
  intro K h
  obtain ⟨v,b⟩:=exT.out h
  obtain ⟨vs,a⟩:=ih b
  exact ⟨v::vs,a⟩
def exR.out{zs:List aC}{K:aC->Prop}(h:exR zs K):∃ v,K v:=by
 unfold exR at h
 split at h
 ·exact exT.out h
 ·obtain ⟨b,a⟩:=exTs.out h;exact ⟨_,a⟩
def allV.at{z v:aC}{K:aC->Prop}(h:allV z K)(hk:Zs z v=true):K v:=by
 cases z<;>simp only [allV] at h<;>first
  | exact h v
  | (cases v<;>simp only [Zs,aF] at hk<;>first
   | exact h _
   | exact h _ _ _
   | (have e:=eq_of_beq hk;subst e;exact h _))
def allL.at{zs:List aC}: ∀ {vs:List aC} {K:List aC->Prop},allL zs K->vs.length=zs.length->(∀ p∈zs.zip vs,Zs p.1 p.2=true)->K vs:=by
 induction zs with
 | nil=>intro vs K h a _;cases vs with
  | nil=>exact h
  | cons _ _=>simp at a
 | cons z zs ih=>
  intro vs K h a b
  cases vs with
  | nil=>simp at a
  | cons v vs=>
   exact ih (vs:=vs) (K:=fun vs=>K (v::vs)) (allV.at (K:=fun v=>allL zs fun vs=>K (v::vs)) h (b (z,v) (by simp))) (by simpa using a) (fun p c=>b p (by simp [c]))
