/-
  Texts of this proof, merged by a program of ours.
-/
import Derived.Test.YtajkakhfcokljaaGreatDoorG04
import Derived.Laws.Rows
set_option linter.all false
open _root_.Array renaming range->C37
open Bool renaming false_eq_true->C34,false_and->C35
open Int renaming emod_eq_of_lt->C36
namespace Go.Proofs.YtajkakhfcokljaaGreatDoor
open Go
def C1p(P:Program)(f:FuncId)(e:Array Value->Sem Value):Prop:=
 ∃ fn,P.funcs[f]? = some fn/\(fn.name == "runtime.NumGoroutine")=false/\fn.body.isNone=true/\(Extern.findNext fn).isNone=true/\Extern.find fn=some e
theorem B4p{P:Program}{f:FuncId}{e:Array Value->Sem Value}(x:C1p P f e){args:Array Value}{h:Heap}{K:VP}{r:Value}(hr:My P (e args)=some r)(hK:K r h):ECall P f args h K:=by
 obtain ⟨fn,hf,h1,h2,h3,h4⟩:=x
 intro W hs
 refine ⟨r,W,h,?_,hK,Fr.refl hs⟩
 have h3':Extern.findNext fn=none:=Option.isNone_iff_eq_none.1 h3
 have:=Qw (e args) hr W
 unfold callFunc
 have h1':fn.name ≠ "runtime.NumGoroutine" :=by simpa using h1
 have h2':fn.body=none:=by simpa using h2
 simp [program,Sem.run_bind,Sem.run,hf,h1',h2',h3',h4,mark,this]
theorem B7{n:Int}(h0: -9223372036854775808<=n)(h1:n<=9223372036854775807):B5 n=n:=by
 unfold B5 IntKind.wrap
 simp only [IntKind.bits,IntKind.signed]
 by_cases h:0<=n
 ·have e:n%18446744073709551616=n:=C36 h (by omega)
  simp only [show (2^64:Int)=18446744073709551616 from rfl,show (2^(64-1):Int)=9223372036854775808 from rfl,e]
  rw [if_neg (by simp;omega)]
 ·have e:n%18446744073709551616=n+18446744073709551616:=by omega
  simp only [show (2^64:Int)=18446744073709551616 from rfl,show (2^(64-1):Int)=9223372036854775808 from rfl,e]
  rw [if_pos (by simp;omega)];omega
theorem wiS(n:Nat)(h:n<=9223372036854775806):B5 ((n:Int)+1)=((n+1:Nat):Int):=by rw [B7]<;>omega
theorem C2{n:Int}(h0:0<=n)(h1:n<18446744073709551616):C0 n=n:=by
 unfold C0 IntKind.wrap
 simp only [IntKind.bits,IntKind.signed,C35,C34,if_false]
 exact C36 h0 h1
theorem E8(n:Int):C0 n=n%18446744073709551616:=by
 unfold C0 IntKind.wrap
 simp only [IntKind.bits,IntKind.signed,C35,C34,if_false]
 rfl
theorem N5{n:Int}(h0:0<=n)(h1:n<4294967296):F4 n=n:=by
 unfold F4 IntKind.wrap
 simp only [IntKind.bits,IntKind.signed,C35,C34,if_false]
 exact C36 h0 h1
theorem V1(n:Int):F4 n=n%4294967296:=by
 unfold F4 IntKind.wrap
 simp only [IntKind.bits,IntKind.signed,C35,C34,if_false]
 rfl
theorem Ur{n:Int}(h0:0<=n)(h1:n<256):wu8 n=n:=by
 unfold wu8 IntKind.wrap
 simp only [IntKind.bits,IntKind.signed,C35,C34,if_false]
 exact C36 h0 h1
theorem D9{a b:Int}{A B:Prop}(t:a=b->A)(f:a≠b->B):Br (a==b) A B:=
 Br.of (fun h=>t (by simpa using h)) (fun h=>f (by simpa using h))
theorem H1{a b:Int}{A B:Prop}(t:a≠b->A)(f:a=b->B):Br (a != b) A B:=
 Br.of (fun h=>t (by simpa using h)) (fun h=>f (by simpa using h))
theorem O5{b:Bool}{A B:Prop}(x:Br b B A):Br (!b) A B:=by
 cases b<;>exact x
def iAt(l:List Value)(j:Nat):Int:=
 match l[j]? with
 | some (.int _ n)=>n
 | _=>0
theorem E6(h:Heap)(b i:Nat)(c:Array Value)(t:TypeId)(f:Nat × Nat):(h.put b (.cells c t f)).cell? ⟨b,i,none⟩=c[i]? :=by
 simp [Heap.cell?,Heap.put]
theorem Fb(h:Heap)(b i:Nat)(c:Array Value)(t:TypeId)(f:Nat × Nat)(v:Value):(h.put b (.cells c t f)).setCell ⟨b,i,none⟩ v=h.put b (.cells (c.setIfInBounds i v) t f):=by
 funext k
 unfold Heap.setCell Heap.put
 by_cases hk:k=b
 ·subst hk;simp
 ·simp [hk]
theorem Hd(h:Heap)(b:Nat)(o o':Obj):(h.put b o).put b o'=h.put b o':=by
 funext k;unfold Heap.put;split<;>rfl
theorem Zc{h:Heap}{b:Nat}{o:Obj}(e:h b=some o):h.put b o=h:=by
 funext k;unfold Heap.put;split
 ·rename_i hk;rw [hk,e]
 ·rfl
theorem Heap.put_comm(h:Heap){b b':Nat}(o o':Obj)(hb:b≠b'):(h.put b o).put b' o'=(h.put b' o').put b o:=by
 funext k;unfold Heap.put
 by_cases h1:k=b<;>by_cases h2:k=b'
 ·omega
 ·subst h1;simp [hb]
 ·subst h2;simp [Ne.symm hb]
 ·simp [h1,h2]
theorem Sp(a:Addr):a.add 0=a:=by simp [Addr.add]
theorem D8(b o i:Nat):(Addr.add ⟨b,o,none⟩ i)=⟨b,o+i,none⟩:=Ep b o i
theorem Yk(a:Addr)(i j:Nat):(a.add i).add j=a.add (i+j):=by
 unfold Addr.add
 by_cases hi:i=0<;>by_cases hj:j=0<;>simp [hi,hj,Nat.add_assoc]
theorem G9(A:Option Addr)(m s:Nat):K0 A m 0 s=A:=by
 unfold K0
 split
 ·rfl
 ·cases A<;>simp [Sp]
def SlV(h:Heap)(A:Option Addr)(xs:List Value):Prop:=
 xs=[]\/∃ a,A=some a/\∀ i v,xs[i]? = some v->h.cell? (a.add i)=some v
theorem SlV.nil{h:Heap}{A:Option Addr}:SlV h A []:=.inl rfl
theorem SlV.mono{h h':Heap}(hl:h.le h'){A:Option Addr}{xs:List Value}(s:SlV h A xs):SlV h' A xs:=by
 rcases s with rfl|⟨a,e,hc⟩
 ·exact .inl rfl
 ·exact .inr ⟨a,e,fun i v hv=>B9 hl (hc i v hv)⟩
theorem SlV.at{h:Heap}{A:Option Addr}{xs:List Value}(s:SlV h A xs){i:Nat}(hi:i<xs.length):∃ a,A=some a/\h.cell? (a.add i)=some xs[i]:=by
 rcases s with rfl|⟨a,e,hc⟩
 ·simp at hi
 ·exact ⟨a,e,hc i _ (List.getElem?_eq_getElem hi)⟩
theorem SlV.cut{h:Heap}{A:Option Addr}{xs:List Value}(s:SlV h A xs){c l m:Nat}(hl:l<=m)(hm:m<=xs.length)(hc:xs.length<=c):SlV h (K0 A c l 1) ((xs.drop l).take (m-l)):=by
 by_cases he:m-l=0
 ·left;simp [he]
 ·rcases s with rfl|⟨a,e,hcell⟩
  ·left;simp
  ·right
   refine ⟨a.add l,?_,fun i v hv=>?_⟩
   ·unfold K0;rw [if_neg (by omega),e];simp
   ·rw [Yk]
    refine hcell _ v ?_
    rw [List.getElem?_take] at hv
    split at hv
    ·rwa [List.getElem?_drop] at hv
    ·cases hv
theorem SlV.new(h:Heap)(b:Nat)(xs:List Value)(c:Array Value)(t:TypeId)(f:Nat × Nat)(hx:∀ (i:Nat) (v:Value),xs[i]? = some v->c[i]? = some v):SlV (h.put b (.cells c t f)) (some ⟨b,0,none⟩) xs:=
 .inr ⟨_,rfl,fun i v hv=>by rw [D8,E6];simpa using hx i v hv⟩
def SlI(k:IntKind)(h:Heap)(A:Option Addr)(xs:List Int):Prop:=SlV h A (xs.map (Value.int k))
theorem SlI.mono{k:IntKind}{h h':Heap}(hl:h.le h'){A:Option Addr}{xs:List Int}(s:SlI k h A xs):SlI k h' A xs:=SlV.mono hl s
theorem SlI.nil{k:IntKind}{h:Heap}{A:Option Addr}:SlI k h A []:=.inl rfl
theorem SlI.cut{k:IntKind}{h:Heap}{A:Option Addr}{xs:List Int}(s:SlI k h A xs){c l m:Nat}(hl:l<=m)(hm:m<=xs.length)(hc:xs.length<=c):SlI k h (K0 A c l 1) ((xs.drop l).take (m-l)):=by
 have:=SlV.cut (c:=c) s hl (by simpa using hm) (by simpa using hc)
 unfold SlI
 rwa [<- List.map_drop,<- List.map_take] at this
theorem SlI.load{k:IntKind}{h:Heap}{A:Option Addr}{xs:List Int}(s:SlI k h A xs){i:Int}{n:Nat}(hn:n=xs.length)(h0:0<=i)(h1:i<(n:Int)){C:Int->Prop}(hc:C (xs.getD i.toNat 0)):
 ∃ a,A=some a/\0<=i/\i<(n:Int)/\∃ e:Int,h.cell? (a.add (i.toNat*1))=some (.int k e)/\C e:=by
 have hi:i.toNat<xs.length:=by omega
 obtain ⟨a,e,hcell⟩:=SlV.at s (i:=i.toNat) (by simpa using hi)
 refine ⟨a,e,h0,h1,xs.getD i.toNat 0,?_,hc⟩
 rw [Nat.mul_one,hcell];simp [List.getD,hi]
theorem SlI.new{k:IntKind}(h:Heap)(b:Nat)(xs:List Int)(t:TypeId)(f:Nat × Nat):SlI k (h.put b (.cells (xs.map (Value.int k)).toArray t f)) (some ⟨b,0,none⟩) xs:=
 SlV.new h b _ _ t f (fun i v hv=>by simpa using hv)
structure SliceT (P:Program) (t e:TypeId) (z:Value) (size bytes:Nat):Prop where
 und:P.underlying t=some (.slice e)
 info:(P.info? e).map (fun i=>(i.zero,i.size,i.bytes))=some (some z,size,bytes)
 cells:z.cells.size=size
 pos:0<size
theorem SliceT.parts{P:Program}{t e:TypeId}{z:Value}{size bytes:Nat}(s:SliceT P t e z size bytes):∃ i,P.info? e=some i/\i.zero=some z/\i.size=size/\i.bytes=bytes:=by
 have:=s.info
 cases x:P.info? e with
 | none=>rw [x] at this;cases this
 | some i=>
  rw [x] at this
  simp only [Option.map_some,Option.some.injEq,Prod.mk.injEq] at this
  exact ⟨i,rfl,this.1,this.2.1,this.2.2⟩
def F0(cs:Array Value)(n:Nat):Array Value:=(C37 (n*cs.size)).map (cs[· % cs.size]!)
theorem C6{α β:Type}{P:Program}(s:Sem α)(f:α->Sem β):∀ (K:β->Heap->Prop) (h:Heap),wpH P (s >>= f) K h=wpH P s (fun a h'=>wpH P (f a) K h') h:=by
 show ∀ (K:β->Heap->Prop) (h:Heap),wpH P (s.bind f) K h=_
 induction s with
 | pure a=>exact fun K h=>rfl
 | load m a k ih=>intro K h;simp only [Sem.bind,wpH,ih]
 | store m a v k ih=>intro K h;simp only [Sem.bind,wpH,ih]
 | new o k ih=>intro K h;simp only [Sem.bind,wpH,ih]
 | shape r k ih=>intro K h;simp only [Sem.bind,wpH,ih]
 | freeze a n k ih=>intro K h;simp only [Sem.bind,wpH,ih]
 | frozen a k ih=>intro K h;simp only [Sem.bind,wpH,ih]
 | choose q k ih=>intro K h;simp only [Sem.bind,wpH,ih]
 | program k ih=>intro K h;simp only [Sem.bind,wpH,ih]
 | mark m k ih=>intro K h;simp only [Sem.bind,wpH,ih]
 | _=>intros;rfl
theorem F7{α:Type}{P:Program}(a:α)(K:α->Heap->Prop)(h:Heap):wpH P (pure a) K h=K a h:=rfl
theorem Qk{P:Program}(K:Program->Heap->Prop)(h:Heap):wpH P program K h=K P h:=rfl
theorem E7{P:Program}{t:TypeId}{d:TypeDesc}(hu:P.underlying t=some d)(K:TypeDesc->Heap->Prop)(h:Heap):wpH P (Go.underlying t) K h=K d h:=by
 unfold Go.underlying;rw [C6,Qk,hu];rfl
theorem H2{P:Program}{t:TypeId}{i:TypeInfo}(hi:P.info? t=some i)(K:TypeInfo->Heap->Prop)(h:Heap):wpH P (Go.typeInfo t) K h=K i h:=by
 unfold Go.typeInfo;rw [C6,Qk];simp only [hi];rfl
theorem K4{P:Program}{t:TypeId}{i:TypeInfo}(hi:P.info? t=some i)(K:Nat->Heap->Prop)(h:Heap):wpH P (Go.sizeOf t) K h=K i.size h:=by
 unfold Go.sizeOf;rw [C6,H2 hi];rfl
theorem Q0{P:Program}{t:TypeId}{i:TypeInfo}(hi:P.info? t=some i){z:Value}(hz:i.zero=some z)(K:VP)(h:Heap):wpH P (Go.zeroValue t) K h=K z h:=by
 unfold Go.zeroValue;rw [C6,H2 hi,hz];rfl
theorem Dl{P:Program}(n:Nat)(K:Unit->Heap->Prop)(h:Heap):wpH P (askRoom n) K h=K () h:=by
 unfold askRoom;split<;>rfl
theorem Q1{P:Program}(e:TypeId)(cs:Array Value)(K:Addr->Heap->Prop)(h:Heap):wpH P (newRow e cs) K h=∀ b,h b=none->K ⟨b,0,none⟩ (h.put b (.cells cs e)):=rfl
theorem A8j{P:Program}{t e:TypeId}{z:Value}{size bytes:Nat}(s:SliceT P t e z size bytes){n c:Int}(h0:0<=n)(h1:n<=c)(h2:c*bytes<=281474976710656)(h3:c<=9223372036854775807){K:VP}{h:Heap}
 (x:∀ b,h b=none->K (.slice (some ⟨b,0,none⟩) n.toNat c.toNat) (h.put b (.cells (F0 z.cells c.toNat) e))):wpH P (Instr.makeSlice t (I n) (I c)) K h:=by
 obtain ⟨i,hi,hz,hsz,hby⟩:=s.parts
 have hn:IntKind.i64.wrap n=n:=B7 (by omega) (by omega)
 have hc:IntKind.i64.wrap c=c:=B7 (by omega) (by omega)
 have hlarge:((decide (c<0)||decide ((bytes:Int)*c>2^48))||decide (n<0)||decide (n>c))=false:=by
  have:(bytes:Int)*c=c*bytes:=Int.mul_comm _ _
  simp only [this,show (2^48:Int)=281474976710656 from rfl]
  simp;omega
 unfold Instr.makeSlice
 simp only [C6,E7 s.und,asInt,asIntOf,F7,H2 hi,hn,hc,hby,hlarge,C34,if_false,Dl,K4 hi]
 have hrep:F0 z.cells c.toNat=(C37 (c.toNat*i.size)).map (z.cells[· % z.cells.size]!):=by unfold F0;rw [s.cells,hsz]
 by_cases hz0:c.toNat*i.size=0
 ·simp only [hz0,if_true]
  intro b hb
  have:=x b hb
  rw [hrep,hz0] at this
  have e0:∀ f g:Nat->Value,(C37 0).map f=(C37 0).map g:=fun f g=>by
   apply Array.ext
   ·simp
   ·intro i h1 h2;simp at h1
  rw [e0 _ (fun x=>(#[]:Array Value)[x%(#[]:Array Value).size]!)] at this
  exact this
 ·simp only [hz0,if_false,C6,Q0 hi hz,F7,Q1]
  intro b hb
  have:=x b hb
  rwa [hrep] at this
theorem Cn{P:Program}{t:TypeId}(ht:P.cellsOf t=1)(hinfo:(P.info? t).isSome=true){v:Value}(hv:A1v v=true)(hc:v.cells=#[v]){h:Heap}{b i:Nat}{c:Array Value}{e:TypeId}(hi:i<c.size){K:Unit->Heap->Prop}
 (x:K () (h.put b (.cells (c.setIfInBounds i v) e))):wpH P (Instr.storeAt t (.pointer (some ⟨b,i,none⟩)) v) K (h.put b (.cells c e)):=by
 obtain ⟨ti,hti⟩:=Option.isSome_iff_exists.1 hinfo
 have hs:ti.size=1:=by simpa [Program.cellsOf,hti] using ht
 unfold Instr.storeAt
 simp only [C6,Instr.sureAddr,F7,storeVar,K4 hti,hs,hc]
 simp only [List.size_toArray,List.length_cons,List.length_nil,ne_eq,not_true_eq_false,if_false,F7,storeCells,C6]
 refine ⟨hv,⟨c[i],?_⟩,?_,?_⟩
 ·rw [D8,E6];simp [hi]
 ·rw [D8];simp [Heap.frozen?,Heap.put]
 ·show K () _
  rw [D8,Fb];simpa using x
end Go.Proofs.YtajkakhfcokljaaGreatDoor
