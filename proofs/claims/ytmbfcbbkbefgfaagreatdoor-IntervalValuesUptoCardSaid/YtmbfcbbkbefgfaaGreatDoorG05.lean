/- A part. -/
import Derived.Test.YtmbfcbbkbefgfaaGreatDoorG04
set_option linter.all false
open _root_.Array renaming range->aM
open Bool renaming false_eq_true->aF,false_and->aI
open Int renaming emod_eq_of_lt->aH
open _root_.Go.Value renaming int->aK
open _root_.Go renaming Value->aC,Program->aE,TypeId->aG,Addr->aJ,IntKind->aL
open _root_.Go.Proofs.YtmbfcbbkbefgfaaGreatDoor renaming Heap->aD
namespace Go.Proofs.YtmbfcbbkbefgfaaGreatDoor
open Go
def C1k(P:aE)(f:FuncId)(e:Array aC->Sem aC):Prop:=
 ∃ fn,P.funcs[f]? = some fn/\(fn.name == "runtime.NumGoroutine")=false/\fn.body.isNone=true/\(Extern.findNext fn).isNone=true/\Extern.find fn=some e
def B3j{P:aE}{f:FuncId}{e:Array aC->Sem aC}(x:C1k P f e){args:Array aC}{h:aD}{K:VP}{r:aC}(hr:Lr P (e args)=some r)(hK:K r h):ECall P f args h K:=by
 obtain ⟨fn,g,l,d,j,k⟩:=x
 intro W i
 refine ⟨r,W,h,?_,hK,Fr.refl i⟩
 have c:Extern.findNext fn=none:=Option.isNone_iff_eq_none.1 j
 have:=Py (e args) hr W
 unfold callFunc
 have b:fn.name ≠ "runtime.NumGoroutine" :=by simpa using l
 have a:fn.body=none:=by simpa using d
 simp [program,Sem.run_bind,Sem.run,g,b,a,c,k,mark,this]
def B5{n:Int}(h0: -9223372036854775808<=n)(h1:n<=9223372036854775807):B4 n=n:=by
 unfold B4 IntKind.wrap
 simp only [IntKind.bits,IntKind.signed]
 by_cases h:0<=n
 ·have e:n%18446744073709551616=n:=aH h (by omega)
  simp only [show (2^64:Int)=18446744073709551616 from rfl,show (2^(64-1):Int)=9223372036854775808 from rfl,e]
  rw [iN (by simp;omega)]
 ·have e:n%18446744073709551616=n+18446744073709551616:=by omega
  simp only [show (2^64:Int)=18446744073709551616 from rfl,show (2^(64-1):Int)=9223372036854775808 from rfl,e]
  rw [iP (by simp;omega)];omega
def wiS(n:Nat)(h:n<=9223372036854775806):B4 ((n:Int)+1)=((n+1:Nat):Int):=by rw [B5]<;>omega
def C2{n:Int}(h0:0<=n)(h1:n<18446744073709551616):C0 n=n:=by
 unfold C0 IntKind.wrap
 simp only [IntKind.bits,IntKind.signed,aI,aF,if_false]
 exact aH h0 h1
def F3(n:Int):C0 n=n%18446744073709551616:=by
 unfold C0 IntKind.wrap
 simp only [IntKind.bits,IntKind.signed,aI,aF,if_false]
 rfl
def A68{n:Int}(h0:0<=n)(h1:n<4294967296):H4 n=n:=by
 unfold H4 IntKind.wrap
 simp only [IntKind.bits,IntKind.signed,aI,aF,if_false]
 exact aH h0 h1
def A37{n:Int}(h0:0<=n)(h1:n<256):wu8 n=n:=by
 unfold wu8 IntKind.wrap
 simp only [IntKind.bits,IntKind.signed,aI,aF,if_false]
 exact aH h0 h1
def E7{a b:Int}{A B:Prop}(t:a=b->A)(f:a≠b->B):Br (a==b) A B:=
 Br.of (fun h=>t (by simpa using h)) (fun h=>f (by simpa using h))
def J9{a b:Int}{A B:Prop}(t:a≠b->A)(f:a=b->B):Br (a != b) A B:=
 Br.of (fun h=>t (by simpa using h)) (fun h=>f (by simpa using h))
def T6{b:Bool}{A B:Prop}(x:Br b B A):Br (!b) A B:=by
 cases b<;>exact x
def iAt(l:List aC)(j:Nat):Int:=
 match l[j]? with
 | some (.int _ n)=>n
 | _=>0
def D7(h:aD)(b i:Nat)(c:Array aC)(t:aG)(f:Nat × Nat):(h.put b (.cells c t f)).cell? ⟨b,i,none⟩=c[i]? :=by
 simp [Heap.cell?,Heap.put]
def Eo(h:aD)(b i:Nat)(c:Array aC)(t:aG)(f:Nat × Nat)(v:aC):(h.put b (.cells c t f)).setCell ⟨b,i,none⟩ v=h.put b (.cells (c.setIfInBounds i v) t f):=by
 funext k
 unfold Heap.setCell Heap.put
 by_cases a:k=b
 ·subst a;simp
 ·simp [a]
def A0y(h:aD)(b:Nat)(o o':Obj):(h.put b o).put b o'=h.put b o':=by
 funext k;unfold Heap.put;split<;>rfl
def B2v{h:aD}{b:Nat}{o:Obj}(e:h b=some o):h.put b o=h:=by
 funext k;unfold Heap.put;split
 ·rename_i a;rw [a,e]
 ·rfl
def Heap.put_comm(h:aD){b b':Nat}(o o':Obj)(hb:b≠b'):(h.put b o).put b' o'=(h.put b' o').put b o:=by
 funext k;unfold Heap.put
 by_cases c:k=b<;>by_cases a:k=b'
 ·omega
 ·subst c;simp [hb]
 ·subst a;simp [Ne.symm hb]
 ·simp [c,a]
def Rr(a:aJ):a.add 0=a:=by simp [Addr.add]
def H7(b o i:Nat):(Addr.add ⟨b,o,none⟩ i)=⟨b,o+i,none⟩:=T4 b o i
def Ah(a:aJ)(i j:Nat):(a.add i).add j=a.add (i+j):=by
 unfold Addr.add
 by_cases b:i=0<;>by_cases c:j=0<;>simp [b,c,Nat.add_assoc]
def L3(A:Option aJ)(m s:Nat):J6 A m 0 s=A:=by
 unfold J6
 split
 ·rfl
 ·cases A<;>simp [Rr]
def SlV(h:aD)(A:Option aJ)(xs:List aC):Prop:=
 xs=[]\/∃ a,A=some a/\∀ i v,xs[i]? = some v->h.cell? (a.add i)=some v
def SlV.nil{h:aD}{A:Option aJ}:SlV h A []:=.inl rfl
def SlV.mono{h h':aD}(hl:h.le h'){A:Option aJ}{xs:List aC}(s:SlV h A xs):SlV h' A xs:=by
 rcases s with rfl|⟨a,e,c⟩
 ·exact .inl rfl
 ·exact .inr ⟨a,e,fun i v b=>C4 hl (c i v b)⟩
def SlV.at{h:aD}{A:Option aJ}{xs:List aC}(s:SlV h A xs){i:Nat}(hi:i<xs.length):∃ a,A=some a/\h.cell? (a.add i)=some xs[i]:=by
 rcases s with rfl|⟨a,e,b⟩
 ·simp at hi
 ·exact ⟨a,e,b i _ (List.getElem?_eq_getElem hi)⟩
def SlV.cut{h:aD}{A:Option aJ}{xs:List aC}(s:SlV h A xs){c l m:Nat}(hl:l<=m)(hm:m<=xs.length)(hc:xs.length<=c):SlV h (J6 A c l 1) ((xs.drop l).take (m-l)):=by
 by_cases g:m-l=0
 ·left;simp [g]
 ·rcases s with rfl|⟨a,e,b⟩
  ·left;simp
  ·right
   refine ⟨a.add l,?_,fun i v d=>?_⟩
   ·unfold J6;rw [iN (by omega),e];simp
   ·rw [Ah]
    refine b _ v ?_
    rw [List.getElem?_take] at d
    split at d
    ·rwa [List.getElem?_drop] at d
    ·cases d
def SlV.new(h:aD)(b:Nat)(xs:List aC)(c:Array aC)(t:aG)(f:Nat × Nat)(hx:∀ (i:Nat) (v:aC),xs[i]? = some v->c[i]? = some v):SlV (h.put b (.cells c t f)) (some ⟨b,0,none⟩) xs:=
 .inr ⟨_,rfl,fun i v a=>by rw [H7,D7];simpa using hx i v a⟩
def SlI(k:aL)(h:aD)(A:Option aJ)(xs:List Int):Prop:=SlV h A (xs.map (aK k))
def SlI.mono{k:aL}{h h':aD}(hl:h.le h'){A:Option aJ}{xs:List Int}(s:SlI k h A xs):SlI k h' A xs:=SlV.mono hl s
def SlI.nil{k:aL}{h:aD}{A:Option aJ}:SlI k h A []:=.inl rfl
def SlI.cut{k:aL}{h:aD}{A:Option aJ}{xs:List Int}(s:SlI k h A xs){c l m:Nat}(hl:l<=m)(hm:m<=xs.length)(hc:xs.length<=c):SlI k h (J6 A c l 1) ((xs.drop l).take (m-l)):=by
 have:=SlV.cut (c:=c) s hl (by simpa using hm) (by simpa using hc)
 unfold SlI
 rwa [<- List.map_drop,<- List.map_take] at this
def SlI.load{k:aL}{h:aD}{A:Option aJ}{xs:List Int}(s:SlI k h A xs){i:Int}{n:Nat}(hn:n=xs.length)(h0:0<=i)(h1:i<(n:Int)){C:Int->Prop}(hc:C (xs.getD i.toNat 0)):
 ∃ a,A=some a/\0<=i/\i<(n:Int)/\∃ e:Int,h.cell? (a.add (i.toNat*1))=some (.int k e)/\C e:=by
 have c:i.toNat<xs.length:=by omega
 obtain ⟨a,e,b⟩:=SlV.at s (i:=i.toNat) (by simpa using c)
 refine ⟨a,e,h0,h1,xs.getD i.toNat 0,?_,hc⟩
 rw [Nat.mul_one,b];simp [List.getD,c]
def SlI.new{k:aL}(h:aD)(b:Nat)(xs:List Int)(t:aG)(f:Nat × Nat):SlI k (h.put b (.cells (xs.map (aK k)).toArray t f)) (some ⟨b,0,none⟩) xs:=
 SlV.new h b _ _ t f (fun i v a=>by simpa using a)
structure SliceT (P:aE) (t e:aG) (z:aC) (size bytes:Nat):Prop where
 und:P.underlying t=some (.slice e)
 info:(P.info? e).map (fun i=>(i.zero,i.size,i.bytes))=some (some z,size,bytes)
 cells:z.cells.size=size
 pos:0<size
def SliceT.parts{P:aE}{t e:aG}{z:aC}{size bytes:Nat}(s:SliceT P t e z size bytes):∃ i,P.info? e=some i/\i.zero=some z/\i.size=size/\i.bytes=bytes:=by
 have:=s.info
 cases x:P.info? e with
 | none=>rw [x] at this;cases this
 | some i=>
  rw [x] at this
  simp only [Option.map_some,Option.some.injEq,Prod.mk.injEq] at this
  exact ⟨i,rfl,this.1,this.2.1,this.2.2⟩
def F5(cs:Array aC)(n:Nat):Array aC:=(aM (n*cs.size)).map (cs[· % cs.size]!)
def B9{α β:Type}{P:aE}(s:Sem α)(f:α->Sem β):∀ (K:β->aD->Prop) (h:aD),wpH P (s >>= f) K h=wpH P s (fun a h'=>wpH P (f a) K h') h:=by
 show ∀ (K:β->aD->Prop) (h:aD),wpH P (s.bind f) K h=_
 induction s with
 | pure a=>exact fun K h=>rfl
 | load m a k ih=>intro K h;simp only [Sem.bind,wpH,ih]
 | store m a v k ih=>intro K h;simp only [Sem.bind,wpH,ih]
 | new o k ih=>intro K h;simp only [Sem.bind,wpH,ih]
 | shape r k ih=>intro K h;simp only [Sem.bind,wpH,ih]
 | freeze a n k ih=>intro K h;simp only [Sem.bind,wpH,ih]
 | frozen a k ih=>intro K h;simp only [Sem.bind,wpH,ih]
 | choose q k ih=>intro K h;simp only [Sem.bind,wpH,ih]
 | program k ih=>intro K h;simp only [Sem.bind,wpH,ih]
 | mark m k ih=>intro K h;simp only [Sem.bind,wpH,ih]
 | _=>intros;rfl
def E9{α:Type}{P:aE}(a:α)(K:α->aD->Prop)(h:aD):wpH P (pure a) K h=K a h:=rfl
def Pm{P:aE}(K:aE->aD->Prop)(h:aD):wpH P program K h=K P h:=rfl
def D6{P:aE}{t:aG}{d:TypeDesc}(hu:P.underlying t=some d)(K:TypeDesc->aD->Prop)(h:aD):wpH P (Go.underlying t) K h=K d h:=by
 unfold Go.underlying;rw [B9,Pm,hu];rfl
def F6{P:aE}{t:aG}{i:TypeInfo}(hi:P.info? t=some i)(K:TypeInfo->aD->Prop)(h:aD):wpH P (Go.typeInfo t) K h=K i h:=by
 unfold Go.typeInfo;rw [B9,Pm];simp only [hi];rfl
def J2{P:aE}{t:aG}{i:TypeInfo}(hi:P.info? t=some i)(K:Nat->aD->Prop)(h:aD):wpH P (Go.sizeOf t) K h=K i.size h:=by
 unfold Go.sizeOf;rw [B9,F6 hi];rfl
def K3{P:aE}{t:aG}{i:TypeInfo}(hi:P.info? t=some i){z:aC}(hz:i.zero=some z)(K:VP)(h:aD):wpH P (Go.zeroValue t) K h=K z h:=by
 unfold Go.zeroValue;rw [B9,F6 hi,hz];rfl
def Di{P:aE}(n:Nat)(K:Unit->aD->Prop)(h:aD):wpH P (askRoom n) K h=K () h:=by
 unfold askRoom;split<;>rfl
def O2{P:aE}(e:aG)(cs:Array aC)(K:aJ->aD->Prop)(h:aD):wpH P (newRow e cs) K h=∀ b,h b=none->K ⟨b,0,none⟩ (h.put b (.cells cs e)):=rfl
def A7n{P:aE}{t e:aG}{z:aC}{size bytes:Nat}(s:SliceT P t e z size bytes){n c:Int}(h0:0<=n)(h1:n<=c)(h2:c*bytes<=281474976710656)(h3:c<=9223372036854775807){K:VP}{h:aD}
 (x:∀ b,h b=none->K (.slice (some ⟨b,0,none⟩) n.toNat c.toNat) (h.put b (.cells (F5 z.cells c.toNat) e))):wpH P (Instr.makeSlice t (I n) (I c)) K h:=by
 obtain ⟨i,k,p,o,m⟩:=s.parts
 have u:IntKind.i64.wrap n=n:=B5 (by omega) (by omega)
 have r:IntKind.i64.wrap c=c:=B5 (by omega) (by omega)
 have a:((decide (c<0)||decide ((bytes:Int)*c>2^48))||decide (n<0)||decide (n>c))=false:=by
  have:(bytes:Int)*c=c*bytes:=Int.mul_comm _ _
  simp only [this,show (2^48:Int)=281474976710656 from rfl]
  simp;omega
 unfold Instr.makeSlice
 simp only [B9,D6 s.und,asInt,asIntOf,E9,F6 k,u,r,m,a,aF,if_false,Di,J2 k]
 have d:F5 z.cells c.toNat=(aM (c.toNat*i.size)).map (z.cells[· % z.cells.size]!):=by unfold F5;rw [s.cells,o]
 by_cases j:c.toNat*i.size=0
 ·simp only [j,if_true]
  intro b l
  have:=x b l
  rw [d,j] at this
  have q:∀ f g:Nat->aC,(aM 0).map f=(aM 0).map g:=fun f g=>by
   apply Array.ext
   ·simp
   ·intro i h1 h2;simp at h1
  rw [q _ (fun x=>(#[]:Array aC)[x%(#[]:Array aC).size]!)] at this
  exact this
 ·simp only [j,if_false,B9,K3 k p,E9,O2]
  intro b l
  have:=x b l
  rwa [d] at this
def Jm{P:aE}{t:aG}(ht:P.cellsOf t=1)(hinfo:(P.info? t).isSome=true){v:aC}(hv:St v=true)(hc:v.cells=#[v]){h:aD}{b i:Nat}{c:Array aC}{e:aG}(hi:i<c.size){K:Unit->aD->Prop}
 (x:K () (h.put b (.cells (c.setIfInBounds i v) e))):wpH P (Instr.storeAt t (.pointer (some ⟨b,i,none⟩)) v) K (h.put b (.cells c e)):=by
 obtain ⟨d,a⟩:=Option.isSome_iff_exists.1 hinfo
 have g:d.size=1:=by simpa [Program.cellsOf,a] using ht
 unfold Instr.storeAt
 simp only [B9,Instr.sureAddr,E9,storeVar,J2 a,g,hc]
 simp only [List.size_toArray,List.length_cons,List.length_nil,ne_eq,not_true_eq_false,if_false,E9,storeCells,B9]
 refine ⟨hv,⟨c[i],?_⟩,?_,?_⟩
 ·rw [H7,D7];simp [hi]
 ·rw [H7];simp [Heap.frozen?,Heap.put]
 ·show K () _
  rw [H7,Eo];simpa using x
def sI1{k:aL}{a b:Int}(h:[aK k a]=[aK k b]):a=b:=by simpa using h
def sI2{k:aL}{A B:Option aJ}{n c n' c':Nat}{a b:Int}(h:[Value.slice A n c,aK k a]=[Value.slice B n' c',aK k b]):(A=B/\n=n'/\c=c')/\a=b:=by simpa only [List.cons.injEq,Value.int.injEq,Value.slice.injEq,true_and,and_true] using h
abbrev Bd(p:Prop)[Decidable p](A B:Prop):Prop:=Br (decide p) A B
abbrev Qv(a:Bool)(b:OA)(c d:Nat)(e:Bool)(f:OA)(g i:Nat):aC:=.agg #[.bool a,.slice b c d,.bool e,.slice f g i]
abbrev Zv(a:Bool)(b:OA)(c d:Nat):aC:=.agg #[.bool a,.slice b c d]
abbrev T0:aC:=.tuple #[]
abbrev Pt(x:aJ):aC:=.pointer (some x)
abbrev N0:aC:=.slice none 0 0
abbrev Mv(a b:Int)(c:OA)(d e:Nat):aC:=.agg #[I a,I b,.slice c d e]
abbrev Sl(a:OA)(b c:Nat):aC:=.slice a b c
abbrev Lq(h:aD)(x:aJ)(a:Bool)(b:OA)(c d:Nat)(e:Bool)(f:OA)(g i:Nat)(R:Prop):Prop:=h.cell? (x.add 0)=some (.bool a)/\h.cell? (x.add 1)=some (.slice b c d)/\h.cell? (x.add 2)=some (.bool e)/\h.cell? (x.add 3)=some (.slice f g i)/\R
abbrev Lz(h:aD)(x:aJ)(a:Bool)(b:OA)(c d:Nat)(R:Prop):Prop:=h.cell? (x.add 0)=some (.bool a)/\h.cell? (x.add 1)=some (.slice b c d)/\R
abbrev Hd(h:aD)(x:aJ)(b:OA)(c d:Nat)(R:Prop):Prop:=h.cell? x=some (.slice b c d)/\R
abbrev Ax(A:OA)(x:aJ)(i:Int)(n:Nat)(R:Prop):Prop:=A=some x/\0<=i/\i<(n:Int)/\R
