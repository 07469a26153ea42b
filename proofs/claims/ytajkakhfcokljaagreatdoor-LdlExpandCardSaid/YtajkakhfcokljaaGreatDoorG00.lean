/-
  Texts of this proof, merged by a program of ours.
-/
import Derived.Orders
import Derived.Below
import Derived.KernelRfl
set_option linter.all false
open _root_.Array renaming getElem?_modify->C34
open Bool renaming false_eq_true->C35
namespace Go.Proofs.YtajkakhfcokljaaGreatDoor
open Go
abbrev OA:Type:=Option Addr
abbrev Lrg(a b:Nat):List Nat:=List.range' a b
abbrev Heap:=Nat->Option Obj
abbrev VP:=Value->Heap->Prop
abbrev LP:=List Value->Heap->Prop
abbrev LN:=List Value->Heap->Nat
def Heap.cell?(h:Heap)(a:Addr):Option Value:=
 match h a.block with
 | some (.cells c _ _)=>if a.spot.isSome then none else c[a.off]?
 | _=>none
def Heap.frozen?(h:Heap)(a:Addr):Bool:=
 match h a.block with
 | some (.cells _ _ (lo,hi))=>lo<=a.off&&a.off<hi
 | _=>false
def Heap.put(h:Heap)(b:Nat)(o:Obj):Heap:=fun k=>if k=b then some o else h k
def Heap.setCell(h:Heap)(a:Addr)(v:Value):Heap:=fun k=>
 if k=a.block then (h k).map (fun
  | .cells c elem frozen=>.cells (if a.spot.isSome then c else c.setIfInBounds a.off v) elem frozen
  | o=>o)
 else h k
def Obj.frz(a:Addr)(n:Nat):Obj->Obj
 | .cells c elem (lo,hi)=>.cells c elem (if lo==hi then (a.off,a.off+n) else (min lo a.off,max hi (a.off+n)))
 | o=>o
def Heap.freeze(h:Heap)(a:Addr)(n:Nat):Heap:=if n=0 then h else fun k=>if k=a.block then (h k).map (Obj.frz a n) else h k
def Heap.le(h h':Heap):Prop:=∀ b o,h b=some o->h' b=some o
theorem B4(h:Heap):h.le h:=fun _ _ x=>x
theorem B0{a b c:Heap}(x:a.le b)(y:b.le c):a.le c:=fun k o e=>y k o (x k o e)
theorem Heap.le_put{h:Heap}{b:Nat}(o:Obj)(hb:h b=none):h.le (h.put b o):=fun k o' e=>by
 unfold Heap.put;split
 ·rename_i e';subst e';rw [hb] at e;cases e
 ·exact e
theorem C3(h:Heap)(b:Nat)(o:Obj):h.put b o b=some o:=by simp [Heap.put]
theorem B8(h:Heap){b k:Nat}(o:Obj)(hk:k≠b):h.put b o k=h k:=by simp [Heap.put,hk]
theorem B9{h h':Heap}(hl:h.le h'){a:Addr}{v:Value}(e:h.cell? a=some v):h'.cell? a=some v:=by
 unfold Heap.cell? at *
 cases hb:h a.block with
 | none=>simp [hb] at e
 | some o=>rw [hl _ _ hb];rw [hb] at e;exact e
def Sim(h:Heap)(W:World):Prop:=∀ b o,h b=some o->W.heap[b]? = some o
theorem Sim.cell{h:Heap}{W:World}(s:Sim h W){a:Addr}{v:Value}(e:h.cell? a=some v):W.cell? a=some v:=by
 unfold Heap.cell? at e
 unfold World.cell?
 cases hb:h a.block with
 | none=>simp [hb] at e
 | some o=>rw [s _ _ hb];rw [hb] at e;exact e
theorem Sim.frozen{h:Heap}{W:World}(s:Sim h W){a:Addr}{v:Value}(e:h.cell? a=some v):W.frozen? a=h.frozen? a:=by
 unfold Heap.cell? at e
 unfold World.frozen? Heap.frozen?
 cases hb:h a.block with
 | none=>simp [hb] at e
 | some o=>rw [s _ _ hb];rfl
structure Fr (h:Heap) (W:World) (h':Heap) (W':World):Prop where
 sim:Sim h' W'
 os:W'.os=W.os
 tape:W'.tape=W.tape
 output:W'.output=W.output
 size:W.heap.size<=W'.heap.size
 keep:∀ b,b<W.heap.size->h b=none->W'.heap[b]? = W.heap[b]?
 new:∀ b o,h b=none->h' b=some o->W.heap.size<=b
theorem Fr.refl{h:Heap}{W:World}(s:Sim h W):Fr h W h W:=
 ⟨s,rfl,rfl,rfl,Nat.le_refl _,fun _ _ _=>rfl,fun b o e e'=>by rw [e] at e';cases e'⟩
theorem Fr.trans{h1 h2 h3:Heap}{W1 W2 W3:World}(a:Fr h1 W1 h2 W2)(b:Fr h2 W2 h3 W3):Fr h1 W1 h3 W3:=by
 refine ⟨b.sim,b.os.trans a.os,b.tape.trans a.tape,b.output.trans a.output,Nat.le_trans a.size b.size,fun k hk e=>?_,fun k o e e'=>?_⟩
 ·have e2:h2 k=none:=by
   cases x:h2 k with
   | none=>rfl
   | some o=>have:=a.new k o e x;omega
  exact (b.keep k (Nat.lt_of_lt_of_le hk a.size) e2).trans (a.keep k hk e)
 ·cases x:h2 k with
  | none=>exact Nat.le_trans a.size (b.new k o x e')
  | some o'=>exact a.new k o' e x
theorem Fr.le{h h1 h':Heap}{W W':World}(f:Fr h W h' W')(hl:h1.le h')(hn:∀ b,h b=none->h1 b≠none->W.heap.size<=b):Fr h W h1 W':=
 ⟨fun b o e=>f.sim b o (hl b o e),f.os,f.tape,f.output,f.size,f.keep,fun b o e e'=>hn b e (by rw [e'];simp)⟩
def A1v:Value->Bool
 | .agg _ | .tuple _=>false
 | _=>true
def wpH{α:Type}(P:Program):Sem α->(α->Heap->Prop)->Heap->Prop
 | .pure a,K,h=>K a h
 | .load _ a k,K,h=>∃ v,h.cell? a=some v/\wpH P (k v) K h
 | .store _ a v k,K,h=>A1v v=true/\(∃ u,h.cell? a=some u)/\h.frozen? a=false/\wpH P k K (h.setCell a v)
 | .new o k,K,h=>∀ b,h b=none->wpH P (k b) K (h.put b o)
 | .shape r k,K,h=>∃ c e f,h r=some (.cells c e f)/\wpH P (k (some (e,c.size))) K h
 | .freeze a n k,K,h=>(∃ o,h a.block=some o)/\wpH P k K (h.freeze a n)
 | .frozen a k,K,h=>∃ v,h.cell? a=some v/\wpH P (k (h.frozen? a)) K h
 | .choose q k,K,h=>if q.forced then wpH P (k 0) K h else ∀ t,wpH P (k (q.cut t)) K h
 | .program k,K,h=>wpH P (k P) K h
 | .mark _ k,K,h=>wpH P k K h
 | _,_,_=>False
theorem Fo(W:World)(a:Addr)(v:Value)(b:Nat)(hb:b≠a.block):(W.setCell a v).heap[b]? = W.heap[b]? :=by
 simp [World.setCell,C34,Ne.symm hb]
theorem A20{α:Type}{P:Program}(s:Sem α):∀ (K:α->Heap->Prop) (h:Heap) (W:World),wpH P s K h->Sim h W->
 ∃ v W' h',s.run P W= .ok v W'/\K v h'/\Fr h W h' W':=by
 induction s with
 | pure a=>exact fun K h W hk hs=>⟨a,W,h,rfl,hk,Fr.refl hs⟩
 | load m a k ih=>
  intro K h W ⟨v,hv,hk⟩ hs
  simp only [Sem.run,hs.cell hv]
  exact ih v K h W hk hs
 | store m a v k ih=>
  intro K h W ⟨h1,⟨u,hu⟩,hf,hk⟩ hs
  have hsim:Sim (h.setCell a v) (W.setCell a v):=by
   intro b o e
   unfold Heap.setCell at e
   by_cases hb:b=a.block
   ·subst hb
    simp only [if_true] at e
    cases x:h a.block with
    | none=>rw [x] at e;cases e
    | some o'=>
     rw [x] at e
     simp only [World.setCell,C34,if_true,hs _ _ x,Option.map_some] at e ⊢
     exact e
   ·rw [if_neg hb] at e
    rw [Fo W a v b hb];exact hs b o e
  obtain ⟨r,W',h',hr,hK,f⟩:=ih K (h.setCell a v) (W.setCell a v) hk hsim
  have hfr:Fr h W (h.setCell a v) (W.setCell a v):=by
   refine ⟨hsim,rfl,rfl,rfl,by simp [World.setCell],fun b hb e=>Fo W a v b ?_,fun b o e e'=>?_⟩
   ·rintro rfl
    unfold Heap.cell? at hu
    rw [e] at hu;cases hu
   ·unfold Heap.setCell at e'
    split at e'
    ·rw [e] at e';cases e'
    ·rw [e] at e';cases e'
  refine ⟨r,W',h',?_,hK,hfr.trans f⟩
  rw [<- hr]
  cases v<;>first|(simp [A1v] at h1;done)|simp [Sem.run,hs.cell hu,hs.frozen hu,hf]
 | new o k ih=>
  intro K h W hk hs
  by_cases hfree:h W.heap.size=none
  ·have hsim:Sim (h.put W.heap.size o) { W with heap:=W.heap.push o }:=by
    intro b o' e
    unfold Heap.put at e
    split at e
    ·rename_i hb;subst hb;simpa using e
    ·have:=hs b o' e
     have hlt:b<W.heap.size:=by
      rcases Nat.lt_or_ge b W.heap.size with h'|h'
      ·exact h'
      ·rw [Array.getElem?_eq_none h'] at this;cases this
     simp only [Array.getElem?_push,this]
     rw [if_neg (by omega)]
   obtain ⟨r,W',h',hr,hK,f⟩:=ih W.heap.size K _ { W with heap:=W.heap.push o } (hk _ hfree) hsim
   refine ⟨r,W',h',hr,hK,Fr.trans (h2:=h.put W.heap.size o) (W2:={ W with heap:=W.heap.push o }) ⟨hsim,rfl,rfl,rfl,by simp,fun b hb _=>?_,fun b o' e e'=>?_⟩ f⟩
   ·simp only [Array.getElem?_push];rw [if_neg (by omega)]
   ·unfold Heap.put at e';split at e'
    ·omega
    ·rw [e] at e';cases e'
  ·exfalso
   cases x:h W.heap.size with
   | none=>exact hfree x
   | some o'=>have:=hs _ _ x;simp at this
 | shape r k ih=>
  intro K h W ⟨c,e,f,hr,hk⟩ hs
  have:W.shape? r=some (e,c.size):=by simp [World.shape?,hs _ _ hr]
  simp only [Sem.run,this]
  exact ih _ K h W hk hs
 | freeze a n k ih=>
  intro K h W ⟨⟨o,ho⟩,hk⟩ hs
  have hsim:Sim (h.freeze a n) (W.freeze a n):=by
   unfold Heap.freeze World.freeze
   by_cases hn:n=0
   ·simp only [hn,if_true];exact hs
   ·simp only [hn,if_false]
    intro b o' e
    by_cases hb:b=a.block
    ·subst hb
     simp only [if_true] at e
     rw [ho] at e
     simp only [Option.map_some] at e
     rw [C34,if_pos rfl,hs _ _ ho]
     rw [<- e]
     rfl
    ·simp only [if_neg hb] at e
     rw [C34,if_neg (Ne.symm hb)]
     exact hs b o' e
  obtain ⟨r,W',h',hr,hK,f⟩:=ih K (h.freeze a n) (W.freeze a n) hk hsim
  have hos:(W.freeze a n).os=W.os/\(W.freeze a n).tape=W.tape/\(W.freeze a n).output=W.output/\(W.freeze a n).heap.size=W.heap.size:=by
   unfold World.freeze;split<;>simp
  have hfr:Fr h W (h.freeze a n) (W.freeze a n):=by
   refine ⟨hsim,hos.1,hos.2.1,hos.2.2.1,Nat.le_of_eq hos.2.2.2.symm,fun b hb e=>?_,fun b o' e e'=>?_⟩
   ·unfold World.freeze
    split
    ·rfl
    ·rw [C34,if_neg]
     rintro rfl;rw [ho] at e;cases e
   ·unfold Heap.freeze at e'
    split at e'
    ·rw [e] at e';cases e'
    ·simp only [e,Option.map_none,ite_self] at e'
     cases e'
  exact ⟨r,W',h',hr,hK,hfr.trans f⟩
 | frozen a k ih=>
  intro K h W ⟨v,hv,hk⟩ hs
  simp only [Sem.run,hs.frozen hv]
  exact ih _ K h W hk hs
 | getObj r k ih=>exact fun K h W hk _=>hk.elim
 | setObj r o k ih=>exact fun K h W hk _=>hk.elim
 | choose q k ih=>
  intro K h W hk hs
  unfold wpH at hk
  by_cases hq:q.forced=true
  ·simp only [hq,if_true] at hk
   simp only [Sem.run,hq,if_true]
   exact ih 0 K h W hk hs
  ·simp only [hq,if_false,C35] at hk
   simp only [Sem.run,hq,if_false,C35]
   obtain ⟨r,W',h',hr,hK,f⟩:=ih _ K h { W with drawn:=W.drawn+1 } (hk _) hs
   exact ⟨r,W',h',hr,hK,f.sim,f.os,f.tape,f.output,f.size,f.keep,f.new⟩
 | sys c k ih=>exact fun K h W hk _=>hk.elim
 | program k ih=>exact fun K h W hk hs=>ih P K h W hk hs
 | mark m k ih=>exact fun K h W hk hs=>ih K h W hk hs
 | halt x=>exact fun K h W hk _=>hk.elim
theorem Hg{α:Type}{P:Program}(s:Sem α):∀ {K K':α->Heap->Prop} {h:Heap},wpH P s K h->(∀ v h',K v h'->K' v h')->wpH P s K' h:=by
 induction s with
 | pure a=>exact fun x hk=>hk _ _ x
 | load m a k ih=>exact fun ⟨v,hv,x⟩ hk=>⟨v,hv,ih v x hk⟩
 | store m a v k ih=>exact fun ⟨h1,h2,h3,x⟩ hk=>⟨h1,h2,h3,ih x hk⟩
 | new o k ih=>exact fun x hk b hb=>ih b (x b hb) hk
 | shape r k ih=>exact fun ⟨c,e,f,hr,x⟩ hk=>⟨c,e,f,hr,ih _ x hk⟩
 | freeze a n k ih=>exact fun ⟨ho,x⟩ hk=>⟨ho,ih x hk⟩
 | frozen a k ih=>exact fun ⟨v,hv,x⟩ hk=>⟨v,hv,ih _ x hk⟩
 | choose q k ih=>
  intro K K' h x hk
  unfold wpH at x ⊢
  split
  ·rename_i hq;rw [if_pos hq] at x;exact ih _ x hk
  ·rename_i hq;rw [if_neg hq] at x;exact fun t=>ih _ (x t) hk
 | program k ih=>exact fun x hk=>ih P x hk
 | mark m k ih=>exact fun x hk=>ih x hk
 | _=>intros;contradiction
def FCall(P:Program)(f:FuncId)(args:Array Value)(h:Heap)(K:VP):Prop:=
 ∀ W,Sim h W->Calls P f args W fun e W'=>∃ r h',e= .returned r/\K r h'/\Fr h W h' W'
theorem FCall.mono{P:Program}{f:FuncId}{args:Array Value}{h:Heap}{K K':VP}(x:FCall P f args h K)(hk:∀ r h',K r h'->K' r h'):FCall P f args h K':=
 fun W hs=>(x W hs).mono fun _ _ ⟨r,h',he,hK,hf⟩=>⟨r,h',he,hk r h' hK,hf⟩
def ECall(P:Program)(f:FuncId)(args:Array Value)(h:Heap)(K:VP):Prop:=
 ∀ W,Sim h W->∃ r W' h',(callFunc f args).run P W= .ok (.value r) W'/\K r h'/\Fr h W h' W'
theorem ECall.mono{P:Program}{f:FuncId}{args:Array Value}{h:Heap}{K K':VP}(x:ECall P f args h K)(hk:∀ r h',K r h'->K' r h'):ECall P f args h K':=
 fun W hs=>by
  obtain ⟨r,W',h',h1,h2,h3⟩:=x W hs
  exact ⟨r,W',h',h1,hk r h' h2,h3⟩
def My{α:Type}(P:Program):Sem α->Option α
 | .pure a=>some a
 | .program k=>My P (k P)
 | _=>none
theorem Qw{α:Type}{P:Program}(s:Sem α):∀ {v:α},My P s=some v->∀ W,s.run P W= .ok v W:=by
 induction s with
 | pure a=>intro v h W;simp only [My,Option.some.injEq] at h;subst h;rfl
 | program k ih=>intro v h W;exact ih P h W
 | _=>intro v h;cases h
def Br(b:Bool)(A B:Prop):Prop:=match b with|true=>A|false=>B
theorem Br.of{b:Bool}{A B:Prop}(t:b=true->A)(f:b=false->B):Br b A B:=by
 cases b
 ·exact f rfl
 ·exact t rfl
theorem B6{p:Prop}[Decidable p]{A B:Prop}(t:p->A)(f:¬ p->B):Br (decide p) A B:=
 Br.of (fun h=>t (of_decide_eq_true h)) (fun h=>f (of_decide_eq_false h))
theorem Br.mono{b:Bool}{A B A' B':Prop}(x:Br b A B)(ha:A->A')(hb:B->B'):Br b A' B':=by
 cases b
 ·exact hb x
 ·exact ha x
def exV:Value->(Value->Prop)->Prop
 | .int k _,K=>∃ n:Int,K (.int k n)
 | .bool _,K=>∃ b:Bool,K (.bool b)
 | .string _,K=>∃ s:ByteArray,K (.string s)
 | .slice _ _ _,K=>∃ (A:Option Addr) (n c:Nat),K (.slice A n c)
 | .pointer _,K=>∃ p:Option Addr,K (.pointer p)
 | _,K=>∃ v:Value,K v
def exL:List Value->(List Value->Prop)->Prop
 | [],K=>K []
 | z::zs,K=>exV z fun v=>exL zs fun vs=>K (v::vs)
def exT(z:Value)(K:Value->Prop):Prop:=
 match z with
 | .agg cs=>exL cs.toList fun vs=>K (.agg vs.toArray)
 | z=>exV z K
def exTs:List Value->(List Value->Prop)->Prop
 | [],K=>K []
 | z::zs,K=>exT z fun v=>exTs zs fun vs=>K (v::vs)
def exR(zs:List Value)(K:Value->Prop):Prop:=
 match zs with
 | [z]=>exT z K
 | zs=>exTs zs fun vs=>K (.tuple vs.toArray)
def allV:Value->(Value->Prop)->Prop
 | .int k _,K=>∀ n:Int,K (.int k n)
 | .bool _,K=>∀ b:Bool,K (.bool b)
 | .string _,K=>∀ s:ByteArray,K (.string s)
 | .slice _ _ _,K=>∀ (A:Option Addr) (n c:Nat),K (.slice A n c)
 | .pointer _,K=>∀ p:Option Addr,K (.pointer p)
 | _,K=>∀ v:Value,K v
def allL:List Value->(List Value->Prop)->Prop
 | [],K=>K []
 | z::zs,K=>allV z fun v=>allL zs fun vs=>K (v::vs)
def A0g:Value->Value->Bool
 | .int k _,.int k' _=>k==k'
 | .int _ _,_=>false
 | .bool _,.bool _=>true
 | .bool _,_=>false
 | .string _,.string _=>true
 | .string _,_=>false
 | .slice _ _ _,.slice _ _ _=>true
 | .slice _ _ _,_=>false
 | .pointer _,.pointer _=>true
 | .pointer _,_=>false
 | _,_=>true
theorem exV.out{z:Value}{K:Value->Prop}(h:exV z K):∃ v,K v:=by
 cases z<;>(unfold exV at h)<;>first|(obtain ⟨n,hn⟩:=h;exact ⟨_,hn⟩)|(obtain ⟨a,n,c,hn⟩:=h;exact ⟨_,hn⟩)
theorem exL.out{zs:List Value}: ∀ {K:List Value->Prop},exL zs K->∃ vs,vs.length=zs.length/\K vs:=by
 induction zs with
 | nil=>exact fun h=>⟨[],rfl,h⟩
 | cons z zs ih=>
  intro K h
  obtain ⟨v,hv⟩:=exV.out h
  obtain ⟨vs,hl,hvs⟩:=ih hv
  exact ⟨v::vs,by simp [hl],hvs⟩
theorem exT.out{z:Value}{K:Value->Prop}(h:exT z K):∃ v,K v:=by
 cases z with
 | agg cs=>obtain ⟨vs,_,h'⟩:=exL.out h;exact ⟨_,h'⟩
 | _=>unfold exT at h;exact exV.out h
theorem exTs.out{zs:List Value}: ∀ {K:List Value->Prop},exTs zs K->∃ vs,K vs:=by
 induction zs with
 | nil=>exact fun h=>⟨[],h⟩
 | cons z zs ih=>
  intro K h
  obtain ⟨v,hv⟩:=exT.out h
  obtain ⟨vs,hvs⟩:=ih hv
  exact ⟨v::vs,hvs⟩
theorem exR.out{zs:List Value}{K:Value->Prop}(h:exR zs K):∃ v,K v:=by
 unfold exR at h
 split at h
 ·exact exT.out h
 ·obtain ⟨vs,hvs⟩:=exTs.out h;exact ⟨_,hvs⟩
theorem allV.at{z v:Value}{K:Value->Prop}(h:allV z K)(hk:A0g z v=true):K v:=by
 cases z<;>simp only [allV] at h<;>first
  | exact h v
  | (cases v<;>simp only [A0g,C35] at hk<;>first
   | exact h _
   | exact h _ _ _
   | (have e:=eq_of_beq hk;subst e;exact h _))
theorem allL.at{zs:List Value}: ∀ {vs:List Value} {K:List Value->Prop},allL zs K->vs.length=zs.length->(∀ p∈zs.zip vs,A0g p.1 p.2=true)->K vs:=by
 induction zs with
 | nil=>intro vs K h hl _;cases vs with
  | nil=>exact h
  | cons _ _=>simp at hl
 | cons z zs ih=>
  intro vs K h hl hk
  cases vs with
  | nil=>simp at hl
  | cons v vs=>
   exact ih (vs:=vs) (K:=fun vs=>K (v::vs)) (allV.at (K:=fun v=>allL zs fun vs=>K (v::vs)) h (hk (z,v) (by simp))) (by simpa using hl) (fun p hp=>hk p (by simp [hp]))
end Go.Proofs.YtajkakhfcokljaaGreatDoor
