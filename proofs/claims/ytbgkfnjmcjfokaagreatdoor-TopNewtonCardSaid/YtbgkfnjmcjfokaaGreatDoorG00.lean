/- A part. -/
import Derived.Orders
import Derived.Below
set_option linter.all false
open _root_.Array renaming getElem?_modify->aE,getElem?_setIfInBounds->aI
open Bool renaming false_eq_true->aH
open _root_.Go renaming Value->aC,Program->aF,World->aJ,Addr->aK
namespace Go.Proofs.YtbgkfnjmcjfokaaGreatDoor
open Go
abbrev OA:Type:=Option aK
def iN.{u}{c:Prop}{h:Decidable c}(k:¬c){α:Sort u}{t e:α}:ite c t e=e:=if_neg k
def iP.{u}{c:Prop}{h:Decidable c}(k:c){α:Sort u}{t e:α}:ite c t e=t:=if_pos k
abbrev LL(n:Nat)(l:Nat->List UInt8):Prop:=∀ i,i<n->(l i).length<=100000000
abbrev Lrg(a b:Nat):List Nat:=List.range' a b
def o{p:Prop}(h:p:=by omega):p:=h
def oo{p:Prop}(h:p:=by omega):p:=h
def dc{p:Prop}(h:p:=by decide):p:=h
def gz0{p:Prop}(h:p:=by grind):p:=h
abbrev Heap:=Nat->Option Obj
abbrev VP:=Value->Heap->Prop
abbrev LP:=List Value->Heap->Prop
abbrev LN:=List Value->Heap->Nat
def Heap.cell?(h:Heap)(a:aK):Option aC:=
 match h a.block with
 | some (.cells c _ _)=>if a.spot.isSome then none else c[a.off]?
 | _=>none
def Heap.frozen?(h:Heap)(a:aK):Bool:=
 match h a.block with
 | some (.cells _ _ (lo,hi))=>lo<=a.off&&a.off<hi
 | _=>false
def Heap.put(h:Heap)(b:Nat)(o:Obj):Heap:=fun k=>if k=b then some o else h k
def Heap.setCell(h:Heap)(a:aK)(v:aC):Heap:=fun k=>
 if k=a.block then (h k).map (fun
  | .cells c elem frozen=>.cells (if a.spot.isSome then c else c.setIfInBounds a.off v) elem frozen
  | o=>o)
 else h k
def Obj.frz(a:aK)(n:Nat):Obj->Obj
 | .cells c elem (lo,hi)=>.cells c elem (if lo==hi then (a.off,a.off+n) else (min lo a.off,max hi (a.off+n)))
 | o=>o
def Heap.freeze(h:Heap)(a:aK)(n:Nat):Heap:=if n=0 then h else fun k=>if k=a.block then (h k).map (Obj.frz a n) else h k
def Heap.le(h h':Heap):Prop:=∀ b o,h b=some o->h' b=some o
def B0(h:Heap):h.le h:=fun _ _ x=>x
def A0{a b c:Heap}(x:a.le b)(y:b.le c):a.le c:=fun k o e=>y k o (x k o e)
def Heap.le_put{h:Heap}{b:Nat}(o:Obj)(hb:h b=none):h.le (h.put b o):=fun k a e=>by
 unfold Heap.put;grind
def B8(h:Heap)(b:Nat)(o:Obj):h.put b o b=some o:=by simp [Heap.put]
def B6(h:Heap){b k:Nat}(o:Obj)(hk:k≠b):h.put b o k=h k:=by simp [Heap.put,hk]
def B7{h h':Heap}(hl:h.le h'){a:aK}{v:aC}(e:h.cell? a=some v):h'.cell? a=some v:=by
 unfold Heap.cell? at *
 cases hb:h a.block with
 | none=>grind
 | some o=>rw [hl _ _ hb];grind
def Sim(h:Heap)(W:aJ):Prop:=∀ b o,h b=some o->W.heap[b]? = some o
def Sim.cell{h:Heap}{W:aJ}(s:Sim h W){a:aK}{v:aC}(e:h.cell? a=some v):W.cell? a=some v:=by
 unfold Heap.cell? at e
 unfold World.cell?
 cases hb:h a.block with
 | none=>grind
 | some o=>rw [s _ _ hb];grind
def Sim.frozen{h:Heap}{W:aJ}(s:Sim h W){a:aK}{v:aC}(e:h.cell? a=some v):W.frozen? a=h.frozen? a:=by
 unfold Heap.cell? at e
 unfold World.frozen? Heap.frozen?
 cases hb:h a.block with
 | none=>grind
 | some o=>rw [s _ _ hb];rfl
structure Fr (h:Heap) (W:aJ) (h':Heap) (W':aJ):Prop where
 sim:Sim h' W'
 os:W'.os=W.os
 tape:W'.tape=W.tape
 output:W'.output=W.output
 size:W.heap.size<=W'.heap.size
 keep:∀ b,b<W.heap.size->h b=none->W'.heap[b]? = W.heap[b]?
 new:∀ b o,h b=none->h' b=some o->W.heap.size<=b
def Fr.refl{h:Heap}{W:aJ}(s:Sim h W):Fr h W h W:=
 ⟨s,rfl,rfl,rfl,Nat.le_refl _,fun _ _ _=>rfl,fun b o e a=>gz0⟩
def Fr.trans{h1 h2 h3:Heap}{W1 W2 W3:aJ}(a:Fr h1 W1 h2 W2)(b:Fr h2 W2 h3 W3):Fr h1 W1 h3 W3:=by
 refine ⟨b.sim,b.os.trans a.os,b.tape.trans a.tape,b.output.trans a.output,Nat.le_trans a.size b.size,fun k c e=>?_,fun k o e g=>?_⟩
 ·have d:h2 k=none:=by
   cases x:h2 k with
   | none=>rfl
   | some o=>have:=a.new k o e x;omega
  exact (b.keep k (Nat.lt_of_lt_of_le c a.size) d).trans (a.keep k c e)
 ·cases x:h2 k with
  | none=>exact Nat.le_trans a.size (b.new k o x g)
  | some o'=>exact a.new k o' e x
def Fr.le{h h1 h':Heap}{W W':aJ}(f:Fr h W h' W')(hl:h1.le h')(hn:∀ b,h b=none->h1 b≠none->W.heap.size<=b):Fr h W h1 W':=
 ⟨fun b o e=>f.sim b o (hl b o e),f.os,f.tape,f.output,f.size,f.keep,fun b o e a=>hn b e gz0⟩
def Jz:aC->Bool
 | .agg _ | .tuple _=>false
 | _=>true
def B89:Obj->Bool
 | .cells .. =>false
 | _=>true
def wpH{α:Type}(P:aF):Sem α->(α->Heap->Prop)->Heap->Prop
 | .pure a,K,h=>K a h
 | .load _ a k,K,h=>∃ v,h.cell? a=some v/\wpH P (k v) K h
 | .store _ a v k,K,h=>Jz v=true/\(∃ u,h.cell? a=some u)/\h.frozen? a=false/\wpH P k K (h.setCell a v)
 | .new o k,K,h=>∀ b,h b=none->wpH P (k b) K (h.put b o)
 | .shape r k,K,h=>∃ c e f,h r=some (.cells c e f)/\wpH P (k (some (e,c.size))) K h
 | .freeze a n k,K,h=>(∃ o,h a.block=some o)/\wpH P k K (h.freeze a n)
 | .frozen a k,K,h=>∃ v,h.cell? a=some v/\wpH P (k (h.frozen? a)) K h
 | .getObj r k,K,h=>∃ o,h r=some o/\B89 o=true/\wpH P (k o) K h
 | .setObj r o k,K,h=>(∃ u,h r=some u/\B89 u=true)/\wpH P k K (h.put r o)
 | .choose q k,K,h=>if q.forced then wpH P (k 0) K h else ∀ t,wpH P (k (q.cut t)) K h
 | .program k,K,h=>wpH P (k P) K h
 | .mark _ k,K,h=>wpH P k K h
 | _,_,_=>False
def Gx(W:aJ)(a:aK)(v:aC)(b:Nat)(hb:b≠a.block):(W.setCell a v).heap[b]? = W.heap[b]? :=by
 simp [World.setCell,aE,Ne.symm hb]
def Wp{α:Type}{P:aF}(s:Sem α):∀ (K:α->Heap->Prop) (h:Heap) (W:aJ),wpH P s K h->Sim h W->
 ∃ v W' h',s.run P W= .ok v W'/\K v h'/\Fr h W h' W':=by
 induction s with
 | pure a=>exact fun K h W i g=>⟨a,W,h,rfl,i,Fr.refl g⟩
 | load m a k ih=>
  intro K h W ⟨v,hv,i⟩ g
  simp only [Sem.run,g.cell hv]
  grind
 | store m a v k ih=>
  intro K h W ⟨h1,⟨u,D⟩,hf,i⟩ g
  have d:Sim (h.setCell a v) (W.setCell a v):=by
   intro b o e
   unfold Heap.setCell at e
   by_cases j:b=a.block
   ·subst j
    cases x:h a.block with
    | none=>grind
    | some z=>
     rw [x] at e
     simp only [World.setCell,aE,if_true,g _ _ x,Option.map_some] at e ⊢
     exact e
   ·rw [iN j] at e
    rw [Gx W a v b j];exact g b o e
  obtain ⟨r,W',h',l,y,f⟩:=ih K (h.setCell a v) (W.setCell a v) i d
  have w:Fr h W (h.setCell a v) (W.setCell a v):=by
   refine ⟨d,rfl,rfl,rfl,by simp_all,fun b j e=>Gx W a v b ?_,fun b o e p=>?_⟩
   ·rintro rfl
    unfold Heap.cell? at D
    grind
   ·unfold Heap.setCell at p
    grind
  refine ⟨r,W',h',?_,y,w.trans f⟩
  rw [<- l]
  cases v<;>first|(simp [Jz] at h1;done)|simp [Sem.run,g.cell D,g.frozen D,hf]
 | new o k ih=>
  intro K h W i g
  by_cases E:h W.heap.size=none
  ·have d:Sim (h.put W.heap.size o) { W with heap:=W.heap.push o }:=by
    intro b z e
    unfold Heap.put at e
    split at e
    ·grind
    ·have:=g b z e
     grind
   obtain ⟨r,W',h',l,y,f⟩:=ih W.heap.size K _ { W with heap:=W.heap.push o } (i _ E) d
   refine ⟨r,W',h',l,y,Fr.trans (h2:=h.put W.heap.size o) (W2:={ W with heap:=W.heap.push o }) ⟨d,rfl,rfl,rfl,by simp,fun b j _=>?_,fun b z e p=>?_⟩ f⟩
   ·grind
   ·unfold Heap.put at p;grind
  ·exfalso
   cases x:h W.heap.size with
   | none=>grind
   | some z=>have:=g _ _ x;grind
 | shape r k ih=>
  intro K h W ⟨c,e,f,l,i⟩ g
  have:W.shape? r=some (e,c.size):=by simp [World.shape?,g _ _ l]
  simp only [Sem.run,this]
  grind
 | freeze a n k ih=>
  intro K h W ⟨⟨o,ho⟩,i⟩ g
  have d:Sim (h.freeze a n) (W.freeze a n):=by
   unfold Heap.freeze World.freeze
   by_cases L:n=0
   ·grind
   ·simp only [L,if_false]
    intro b z e
    by_cases j:b=a.block
    ·subst j
     simp only [if_true] at e
     rw [ho] at e
     rw [aE,iP rfl,g _ _ ho]
     assumption
    ·simp only [iN j] at e
     rw [aE,iN (Ne.symm j)]
     exact g b z e
  obtain ⟨r,W',h',l,y,f⟩:=ih K (h.freeze a n) (W.freeze a n) i d
  have A:(W.freeze a n).os=W.os/\(W.freeze a n).tape=W.tape/\(W.freeze a n).output=W.output/\(W.freeze a n).heap.size=W.heap.size:=by
   unfold World.freeze;grind
  have w:Fr h W (h.freeze a n) (W.freeze a n):=by
   refine ⟨d,A.1,A.2.1,A.2.2.1,Nat.le_of_eq A.2.2.2.symm,fun b j e=>?_,fun b z e p=>?_⟩
   ·unfold World.freeze
    grind
   ·unfold Heap.freeze at p
    split at p
    ·grind
    grind
  exact ⟨r,W',h',l,y,w.trans f⟩
 | frozen a k ih=>
  intro K h W ⟨v,hv,i⟩ g
  simp only [Sem.run,g.frozen hv]
  grind
 | getObj r k ih=>
  intro K h W ⟨o,ho,C,i⟩ g
  have e:W.heap[r]? = some o:=g _ _ ho
  obtain ⟨v,W',h',l,y,f⟩:=ih o K h W i g
  refine ⟨v,W',h',?_,y,f⟩
  simp only [Sem.run,e]
  cases o<;>first|(cases C;done)|exact l
 | setObj r o k ih=>
  intro K h W ⟨⟨u,D,C⟩,i⟩ g
  have e:W.heap[r]? = some u:=g _ _ D
  have G:r<W.heap.size:=by
   by_cases H:r<W.heap.size
   ·exact H
   ·rw [Array.getElem?_eq_none oo] at e;cases e
  have d:Sim (h.put r o) { W with heap:=W.heap.setIfInBounds r o }:=by
   intro b z F
   unfold Heap.put at F
   split at F
   ·rename_i j
    subst j
    simp only [Option.some.injEq] at F
    subst F
    simp [G]
   ·rename_i j
    have:=g b z F
    simp only [aI,iN (Ne.symm j)]
    exact this
  obtain ⟨v,W',h',l,y,f⟩:=ih K _ { W with heap:=W.heap.setIfInBounds r o } i d
  have w:Fr h W (h.put r o) { W with heap:=W.heap.setIfInBounds r o }:=by
   refine ⟨d,rfl,rfl,rfl,by simp,fun b j p=>?_,fun b z p B=>?_⟩
   ·have:r≠b:=by rintro rfl;rw [D] at p;cases p
    simp [aI,this]
   ·unfold Heap.put at B
    split at B
    ·rename_i j;subst j;rw [D] at p;cases p
    ·rw [p] at B;cases B
  refine ⟨v,W',h',?_,y,w.trans f⟩
  simp only [Sem.run,e]
  cases u<;>first|(cases C;done)|exact l
 | choose q k ih=>
  intro K h W i g
  unfold wpH at i
  by_cases C:q.forced=true
  ·simp only [Sem.run,C,if_true]
   grind
  ·simp only [C,if_false,aH] at i
   simp only [Sem.run,C,if_false,aH]
   obtain ⟨r,W',h',l,y,f⟩:=ih _ K h { W with drawn:=W.drawn+1 } (i _) g
   exact ⟨r,W',h',l,y,f.sim,f.os,f.tape,f.output,f.size,f.keep,f.new⟩
 | sys c k ih=>exact fun K h W i _=>i.elim
 | program k ih=>exact fun K h W i g=>ih P K h W i g
 | mark m k ih=>assumption
 | halt x=>exact fun K h W i _=>i.elim
def B22{α β:Type}{P:aF}(s:Sem α)(f:α->Sem β):∀ (K:β->Heap->Prop) (h:Heap),wpH P s (fun a h'=>wpH P (f a) K h') h->wpH P (s.bind f) K h:=by
 induction s with
 | pure a=>exact fun K h x=>x
 | load m a k ih=>exact fun K h ⟨v,g,x⟩=>⟨v,g,ih v K h x⟩
 | store m a v k ih=>exact fun K h ⟨p,j,w,x⟩=>⟨p,j,w,ih K _ x⟩
 | new o k ih=>exact fun K h x b y=>ih b K _ (x b y)
 | shape r k ih=>exact fun K h ⟨c,e,f,l,x⟩=>⟨c,e,f,l,ih _ K h x⟩
 | freeze a n k ih=>exact fun K h ⟨d,x⟩=>⟨d,ih K _ x⟩
 | frozen a k ih=>exact fun K h ⟨v,g,x⟩=>⟨v,g,ih _ K h x⟩
 | getObj r k ih=>exact fun K h ⟨o,d,i,x⟩=>⟨o,d,i,ih o K h x⟩
 | setObj r o k ih=>exact fun K h ⟨u,x⟩=>⟨u,ih K _ x⟩
 | choose q k ih=>
  intro K h x
  unfold wpH at x ⊢
  simp only [Sem.bind]
  grind
 | program k ih=>exact fun K h x=>ih P K h x
 | mark m k ih=>assumption
 | _=>intros;contradiction
def S8{α:Type}{P:aF}(s:Sem α):∀ {K K':α->Heap->Prop} {h:Heap},wpH P s K h->(∀ v h',K v h'->K' v h')->wpH P s K' h:=by
 induction s with
 | pure a=>exact fun x d=>d _ _ x
 | load m a k ih=>exact fun ⟨v,i,x⟩ d=>⟨v,i,ih v x d⟩
 | store m a v k ih=>exact fun ⟨u,l,y,x⟩ d=>⟨u,l,y,ih x d⟩
 | new o k ih=>exact fun x d b z=>ih b (x b z) d
 | shape r k ih=>exact fun ⟨c,e,f,p,x⟩ d=>⟨c,e,f,p,ih _ x d⟩
 | freeze a n k ih=>exact fun ⟨g,x⟩ d=>⟨g,ih x d⟩
 | frozen a k ih=>exact fun ⟨v,i,x⟩ d=>⟨v,i,ih _ x d⟩
 | getObj r k ih=>exact fun ⟨o,g,j,x⟩ d=>⟨o,g,j,ih o x d⟩
 | setObj r o k ih=>exact fun ⟨w,x⟩ d=>⟨w,ih x d⟩
 | choose q k ih=>
  intro K K' h x d
  unfold wpH at x ⊢
  grind
 | program k ih=>exact fun x d=>ih P x d
 | mark m k ih=>assumption
 | _=>intros;contradiction
def FCall(P:aF)(f:FuncId)(args:Array aC)(h:Heap)(K:VP):Prop:=
 ∀ W,Sim h W->Calls P f args W fun e W'=>∃ r h',e= .returned r/\K r h'/\Fr h W h' W'
def FCall.mono{P:aF}{f:FuncId}{args:Array aC}{h:Heap}{K K':VP}(x:FCall P f args h K)(hk:∀ r h',K r h'->K' r h'):FCall P f args h K':=
 fun W d=>(x W d).mono fun _ _ ⟨r,h',b,a,c⟩=>⟨r,h',b,hk r h' a,c⟩
def ECall(P:aF)(f:FuncId)(args:Array aC)(h:Heap)(K:VP):Prop:=
 ∀ W,Sim h W->∃ r W' h',(callFunc f args).run P W= .ok (.value r) W'/\K r h'/\Fr h W h' W'
def ECall.mono{P:aF}{f:FuncId}{args:Array aC}{h:Heap}{K K':VP}(x:ECall P f args h K)(hk:∀ r h',K r h'->K' r h'):ECall P f args h K':=
 fun W a=>by
  obtain ⟨r,W',h',b,c,d⟩:=x W a
  grind
def H2{α:Type}(P:aF):Sem α->Option α
 | .pure a=>some a
 | .program k=>H2 P (k P)
 | _=>none
def Jx{α:Type}{P:aF}(s:Sem α):∀ {v:α},H2 P s=some v->∀ W,s.run P W= .ok v W:=by
 induction s with
 | pure a=>intro v h W;simp only [H2,Option.some.injEq] at h;simp_all
 | program k ih=>intro v h W;exact ih P h W
 | _=>intro v h;cases h
def Br(b:Bool)(A B:Prop):Prop:=match b with|true=>A|false=>B
def Br.of{b:Bool}{A B:Prop}(t:b=true->A)(f:b=false->B):Br b A B:=by
 cases b
 ·exact f rfl
 ·exact t rfl
def B4{p:Prop}[Decidable p]{A B:Prop}(t:p->A)(f:¬ p->B):Br (decide p) A B:=
 Br.of (fun h=>t (of_decide_eq_true h)) (fun h=>f (of_decide_eq_false h))
def Br.mono{b:Bool}{A B A' B':Prop}(x:Br b A B)(ha:A->A')(hb:B->B'):Br b A' B':=by
 cases b
 ·exact hb x
 ·exact ha x
def exV:aC->(aC->Prop)->Prop
 | .int k _,K=>∃ n:Int,K (.int k n)
 | .bool _,K=>∃ b:Bool,K (.bool b)
 | .string _,K=>∃ s:ByteArray,K (.string s)
 | .slice _ _ _,K=>∃ (A:Option aK) (n c:Nat),K (.slice A n c)
 | .pointer _,K=>∃ p:Option aK,K (.pointer p)
 | _,K=>∃ v:aC,K v
def exL:List aC->(List aC->Prop)->Prop
 | [],K=>K []
 | z::zs,K=>exV z fun v=>exL zs fun vs=>K (v::vs)
def exT(z:aC)(K:aC->Prop):Prop:=
 match z with
 | .agg cs=>exL cs.toList fun a=>K (.agg a.toArray)
 | z=>exV z K
def exTs:List aC->(List aC->Prop)->Prop
 | [],K=>K []
 | z::zs,K=>exT z fun v=>exTs zs fun vs=>K (v::vs)
def exR(zs:List aC)(K:aC->Prop):Prop:=
 match zs with
 | [z]=>exT z K
 | zs=>exTs zs fun a=>K (.tuple a.toArray)
def allV:aC->(aC->Prop)->Prop
 | .int k _,K=>∀ n:Int,K (.int k n)
 | .bool _,K=>∀ b:Bool,K (.bool b)
 | .string _,K=>∀ s:ByteArray,K (.string s)
 | .slice _ _ _,K=>∀ (A:Option aK) (n c:Nat),K (.slice A n c)
 | .pointer _,K=>∀ p:Option aK,K (.pointer p)
 | _,K=>∀ v:aC,K v
def allL:List aC->(List aC->Prop)->Prop
 | [],K=>K []
 | z::zs,K=>allV z fun v=>allL zs fun vs=>K (v::vs)
def A17:aC->aC->Bool
 | .int k _,.int k' _=>k==k'
 | .int _ _,_=>false
 | .bool _,.bool _=>true
 | .bool _,_=>false
 | .string _,.string _=>true
 | .string _,_=>false
 | .slice _ _ _,.slice _ _ _=>true
 | .slice _ _ _,_=>false
 | .pointer _,.pointer _=>true
 | .pointer _,_=>false
 | _,_=>true
def exV.out{z:aC}{K:aC->Prop}(h:exV z K):∃ v,K v:=by
 cases z<;>(unfold exV at h)<;>first|grind|grind
def exL.out{zs:List aC}: ∀ {K:List aC->Prop},exL zs K->∃ vs,vs.length=zs.length/\K vs:=by
 induction zs with
 | nil=>exact fun h=>⟨[],rfl,h⟩
 | cons z zs ih=>
  intro K h
  obtain ⟨v,a⟩:=exV.out h
  grind
def exT.out{z:aC}{K:aC->Prop}(h:exT z K):∃ v,K v:=by
 cases z with
 | agg cs=>obtain ⟨b,_,a⟩:=exL.out h;grind
 | _=>unfold exT at h;exact exV.out h
def exTs.out{zs:List aC}: ∀ {K:List aC->Prop},exTs zs K->∃ vs,K vs:=by
 induction zs with
 | nil=>exact fun h=>⟨[],h⟩
 | cons z zs ih=>
  intro K h
  obtain ⟨v,a⟩:=exT.out h
  grind
def exR.out{zs:List aC}{K:aC->Prop}(h:exR zs K):∃ v,K v:=by
 unfold exR at h
 split at h
 ·exact exT.out h
 ·obtain ⟨b,a⟩:=exTs.out h;grind
def allV.at{z v:aC}{K:aC->Prop}(h:allV z K)(hk:A17 z v=true):K v:=by
 cases z<;>simp only [allV] at h<;>first
  | exact h v
  | (cases v<;>simp only [A17,aH] at hk<;>first
   | exact h _
   | grind
   | grind)
def allL.at{zs:List aC}: ∀ {vs:List aC} {K:List aC->Prop},allL zs K->vs.length=zs.length->(∀ p∈zs.zip vs,A17 p.1 p.2=true)->K vs:=by
 induction zs with
 | nil=>intro vs K h c _;cases vs with
  | nil=>exact h
  | cons _ _=>grind
 | cons z zs ih=>
  intro vs K h c a
  cases vs with
  | nil=>grind
  | cons v vs=>
   exact ih (vs:=vs) (K:=fun vs=>K (v::vs)) (allV.at (K:=fun v=>allL zs fun vs=>K (v::vs)) h (a (z,v) (by simp))) gz0 (fun p b=>a p (by simp [b]))
