/- A part. -/
import Derived.Test.YtdphgbjaijlckaaGreatDoorG04
set_option linter.all false
open _root_.Array renaming range->aK
open Bool renaming false_eq_true->aG,false_and->aL
open _root_.Go.Value renaming int->aI
open _root_.Go renaming Value->aC,Program->aE,TypeId->aF,Addr->aH,IntKind->aJ
open _root_.Go.Proofs.YtdphgbjaijlckaaGreatDoor renaming Heap->aD
namespace Go.Proofs.YtdphgbjaijlckaaGreatDoor
open Go
def A8x(P:aE)(f:FuncId)(e:Array aC->Sem aC):Prop:=
 ∃ fn,P.funcs[f]? = some fn/\(fn.name == "runtime.NumGoroutine")=false/\fn.body.isNone=true/\(Extern.findNext fn).isNone=true/\Extern.find fn=some e
def A2m{P:aE}{f:FuncId}{e:Array aC->Sem aC}(x:A8x P f e){args:Array aC}{h:aD}{K:VP}{r:aC}(hr:Fq P (e args)=some r)(hK:K r h):ECall P f args h K:=by
 obtain ⟨fn,d,l,k,i,g⟩:=x
 intro W j
 refine ⟨r,W,h,?_,hK,Fr.refl j⟩
 have c:Extern.findNext fn=none:=Option.isNone_iff_eq_none.1 i
 have:=Ib (e args) hr W
 unfold callFunc
 have b:fn.name ≠ "runtime.NumGoroutine" :=gz0
 have a:fn.body=none:=by simp_all
 simp [program,Sem.run_bind,Sem.run,d,b,a,c,g,mark,this]
def B6{n:Int}(h0: -9223372036854775808<=n)(h1:n<=9223372036854775807):B7 n=n:=by
 unfold B7 IntKind.wrap
 simp only [IntKind.bits,IntKind.signed]
 grind
def wiS(n:Nat)(h:n<=9223372036854775806):B7 ((n:Int)+1)=((n+1:Nat):Int):=by rw [B6]<;>omega
def B9{n:Int}(h0:0<=n)(h1:n<18446744073709551616):C1 n=n:=by
 unfold C1 IntKind.wrap
 simp only [IntKind.bits,IntKind.signed,aL,aG,if_false]
 omega
def E9(n:Int):C1 n=n%18446744073709551616:=by
 rfl
def J8{n:Int}(h0:0<=n)(h1:n<4294967296):F6 n=n:=by
 unfold F6 IntKind.wrap
 simp only [IntKind.bits,IntKind.signed,aL,aG,if_false]
 omega
def T7(n:Int):F6 n=n%4294967296:=by
 rfl
def Js{n:Int}(h0:0<=n)(h1:n<256):wu8 n=n:=by
 unfold wu8 IntKind.wrap
 simp only [IntKind.bits,IntKind.signed,aL,aG,if_false]
 omega
def D5{a b:Int}{A B:Prop}(t:a=b->A)(f:a≠b->B):Br (a==b) A B:=
 Br.of (fun h=>t gz0) (fun h=>f gz0)
def K8{a b:Int}{A B:Prop}(t:a≠b->A)(f:a=b->B):Br (a != b) A B:=
 Br.of (fun h=>t gz0) (fun h=>f gz0)
def Br.not{b:Bool}{A B:Prop}(x:Br b B A):Br (!b) A B:=by
 cases b<;>exact x
def iAt(l:List aC)(j:Nat):Int:=
 match l[j]? with
 | some (.int _ n)=>n
 | _=>0
def D6(h:aD)(b i:Nat)(c:Array aC)(t:aF)(f:Nat × Nat):(h.put b (.cells c t f)).cell? ⟨b,i,none⟩=c[i]? :=by
 simp [Heap.cell?,Heap.put]
def Bb(h:aD)(b i:Nat)(c:Array aC)(t:aF)(f:Nat × Nat)(v:aC):(h.put b (.cells c t f)).setCell ⟨b,i,none⟩ v=h.put b (.cells (c.setIfInBounds i v) t f):=by
 funext k
 unfold Heap.setCell Heap.put
 grind
def Gw(h:aD)(b:Nat)(o o':Obj):(h.put b o).put b o'=h.put b o':=by
 funext k;unfold Heap.put;grind
def Fh{h:aD}{b:Nat}{o:Obj}(e:h b=some o):h.put b o=h:=by
 funext k;unfold Heap.put;grind
def Heap.put_comm(h:aD){b b':Nat}(o o':Obj)(hb:b≠b'):(h.put b o).put b' o'=(h.put b' o').put b o:=by
 funext k;unfold Heap.put
 grind
def Jc(a:aH):a.add 0=a:=by rfl
def D4(b o i:Nat):(Addr.add ⟨b,o,none⟩ i)=⟨b,o+i,none⟩:=Ae b o i
def Md(a:aH)(i j:Nat):(a.add i).add j=a.add (i+j):=by
 unfold Addr.add
 grind
def Pj(a:aH)(i:Nat):(a.add i).block=a.block:=by unfold Addr.add;grind
def F2(A:Option aH)(m s:Nat):N3 A m 0 s=A:=by
 unfold N3
 split
 ·rfl
 ·cases A<;>simp [Jc]
def SlV(h:aD)(A:Option aH)(xs:List aC):Prop:=
 xs=[]\/∃ a,A=some a/\∀ i v,xs[i]? = some v->h.cell? (a.add i)=some v
def SlV.nil{h:aD}{A:Option aH}:SlV h A []:=.inl rfl
def SlV.mono{h h':aD}(hl:h.le h'){A:Option aH}{xs:List aC}(s:SlV h A xs):SlV h' A xs:=by
 rcases s with rfl|⟨a,e,c⟩
 ·exact .inl rfl
 ·exact .inr ⟨a,e,fun i v b=>C4 hl (c i v b)⟩
def SlV.at{h:aD}{A:Option aH}{xs:List aC}(s:SlV h A xs){i:Nat}(hi:i<xs.length):∃ a,A=some a/\h.cell? (a.add i)=some xs[i]:=by
 rcases s with rfl|⟨a,e,b⟩
 ·grind
 grind
def SlV.cut{h:aD}{A:Option aH}{xs:List aC}(s:SlV h A xs){c l m:Nat}(hl:l<=m)(hm:m<=xs.length)(hc:xs.length<=c):SlV h (N3 A c l 1) ((xs.drop l).take (m-l)):=by
 by_cases d:m-l=0
 ·left;simp [d]
 ·rcases s with rfl|⟨a,e,b⟩
  ·grind
  ·right
   refine ⟨a.add l,?_,fun i v f=>?_⟩
   ·unfold N3;grind
   ·rw [Md]
    grind
def SlV.new(h:aD)(b:Nat)(xs:List aC)(c:Array aC)(t:aF)(f:Nat × Nat)(hx:∀ (i:Nat) (v:aC),xs[i]? = some v->c[i]? = some v):SlV (h.put b (.cells c t f)) (some ⟨b,0,none⟩) xs:=
 .inr ⟨_,rfl,fun i v a=>by rw [D4,D6];grind⟩
def SlI(k:aJ)(h:aD)(A:Option aH)(xs:List Int):Prop:=SlV h A (xs.map (aI k))
def SlI.mono{k:aJ}{h h':aD}(hl:h.le h'){A:Option aH}{xs:List Int}(s:SlI k h A xs):SlI k h' A xs:=SlV.mono hl s
def SlI.nil{k:aJ}{h:aD}{A:Option aH}:SlI k h A []:=.inl rfl
def SlI.cut{k:aJ}{h:aD}{A:Option aH}{xs:List Int}(s:SlI k h A xs){c l m:Nat}(hl:l<=m)(hm:m<=xs.length)(hc:xs.length<=c):SlI k h (N3 A c l 1) ((xs.drop l).take (m-l)):=by
 have:=SlV.cut (c:=c) s hl gz0 gz0
 unfold SlI
 simp_all
def SlI.load{k:aJ}{h:aD}{A:Option aH}{xs:List Int}(s:SlI k h A xs){i:Int}{n:Nat}(hn:n=xs.length)(h0:0<=i)(h1:i<(n:Int)){C:Int->Prop}(hc:C (xs.getD i.toNat 0)):
 ∃ a,A=some a/\0<=i/\i<(n:Int)/\∃ e:Int,h.cell? (a.add (i.toNat*1))=some (.int k e)/\C e:=by
 obtain ⟨a,e,b⟩:=SlV.at s (i:=i.toNat) gz0
 grind
def SlI.new{k:aJ}(h:aD)(b:Nat)(xs:List Int)(t:aF)(f:Nat × Nat):SlI k (h.put b (.cells (xs.map (aI k)).toArray t f)) (some ⟨b,0,none⟩) xs:=
 SlV.new h b _ _ t f (fun i v a=>gz0)
structure SliceT (P:aE) (t e:aF) (z:aC) (size bytes:Nat):Prop where
 und:P.underlying t=some (.slice e)
 info:(P.info? e).map (fun i=>(i.zero,i.size,i.bytes))=some (some z,size,bytes)
 cells:z.cells.size=size
 pos:0<size
def SliceT.parts{P:aE}{t e:aF}{z:aC}{size bytes:Nat}(s:SliceT P t e z size bytes):∃ i,P.info? e=some i/\i.zero=some z/\i.size=size/\i.bytes=bytes:=by
 have:=s.info
 simp_all
def E8(cs:Array aC)(n:Nat):Array aC:=(aK (n*cs.size)).map (cs[· % cs.size]!)
def C0{α β:Type}{P:aE}(s:Sem α)(f:α->Sem β):∀ (K:β->aD->Prop) (h:aD),wpH P (s >>= f) K h=wpH P s (fun a h'=>wpH P (f a) K h') h:=by
 show ∀ (K:β->aD->Prop) (h:aD),wpH P (s.bind f) K h=_
 induction s with
 | pure a=>exact fun K h=>rfl
 | load m a k ih=>intro K h;simp only [Sem.bind,wpH,ih]
 | store m a v k ih=>intro K h;simp only [Sem.bind,wpH,ih]
 | new o k ih=>intro K h;simp only [Sem.bind,wpH,ih]
 | shape r k ih=>intro K h;simp only [Sem.bind,wpH,ih]
 | freeze a n k ih=>intro K h;simp only [Sem.bind,wpH,ih]
 | frozen a k ih=>intro K h;simp only [Sem.bind,wpH,ih]
 | choose q k ih=>intro K h;simp only [Sem.bind,wpH,ih]
 | program k ih=>intro K h;simp only [Sem.bind,wpH,ih]
 | mark m k ih=>assumption
 | _=>intros;rfl
def F3{α:Type}{P:aE}(a:α)(K:α->aD->Prop)(h:aD):wpH P (pure a) K h=K a h:=rfl
def Hq{P:aE}(K:aE->aD->Prop)(h:aD):wpH P program K h=K P h:=rfl
def D3{P:aE}{t:aF}{d:TypeDesc}(hu:P.underlying t=some d)(K:TypeDesc->aD->Prop)(h:aD):wpH P (Go.underlying t) K h=K d h:=by
 unfold Go.underlying;rw [C0,Hq,hu];rfl
def E4{P:aE}{t:aF}{i:TypeInfo}(hi:P.info? t=some i)(K:TypeInfo->aD->Prop)(h:aD):wpH P (Go.typeInfo t) K h=K i h:=by
 unfold Go.typeInfo;rw [C0,Hq];simp only [hi];rfl
def H1{P:aE}{t:aF}{i:TypeInfo}(hi:P.info? t=some i)(K:Nat->aD->Prop)(h:aD):wpH P (Go.sizeOf t) K h=K i.size h:=by
 unfold Go.sizeOf;rw [C0,E4 hi];rfl
def I8{P:aE}{t:aF}{i:TypeInfo}(hi:P.info? t=some i){z:aC}(hz:i.zero=some z)(K:VP)(h:aD):wpH P (Go.zeroValue t) K h=K z h:=by
 unfold Go.zeroValue;rw [C0,E4 hi,hz];rfl
def S8{P:aE}(n:Nat)(K:Unit->aD->Prop)(h:aD):wpH P (askRoom n) K h=K () h:=by
 unfold askRoom;split<;>rfl
def O4{P:aE}(e:aF)(cs:Array aC)(K:aH->aD->Prop)(h:aD):wpH P (newRow e cs) K h=∀ b,h b=none->K ⟨b,0,none⟩ (h.put b (.cells cs e)):=rfl
def Yb{P:aE}{t e:aF}{z:aC}{size bytes:Nat}(s:SliceT P t e z size bytes){n c:Int}(h0:0<=n)(h1:n<=c)(h2:c*bytes<=281474976710656)(h3:c<=9223372036854775807){K:VP}{h:aD}
 (x:∀ b,h b=none->K (.slice (some ⟨b,0,none⟩) n.toNat c.toNat) (h.put b (.cells (E8 z.cells c.toNat) e))):wpH P (Instr.makeSlice t (I n) (I c)) K h:=by
 obtain ⟨i,l,q,m,k⟩:=s.parts
 have w:IntKind.i64.wrap n=n:=B6 o o
 have u:IntKind.i64.wrap c=c:=B6 o o
 have a:((decide (c<0)||decide ((bytes:Int)*c>2^48))||decide (n<0)||decide (n>c))=false:=by
  grind
 unfold Instr.makeSlice
 simp only [C0,D3 s.und,asInt,asIntOf,F3,E4 l,w,u,k,a,aG,if_false,S8,H1 l]
 have j:E8 z.cells c.toNat=(aK (c.toNat*i.size)).map (z.cells[· % z.cells.size]!):=by unfold E8;rw [s.cells,m]
 by_cases d:c.toNat*i.size=0
 ·simp only [d,if_true]
  intro b r
  have:=x b r
  rw [j,d] at this
  have p:∀ f g:Nat->aC,(aK 0).map f=(aK 0).map g:=fun f g=>by
   grind
  rw [p _ (fun x=>(#[]:Array aC)[x%(#[]:Array aC).size]!)] at this
  exact this
 ·simp only [d,if_false,C0,I8 l q,F3,O4]
  grind
def V7{P:aE}{t:aF}(ht:P.cellsOf t=1)(hinfo:(P.info? t).isSome=true){v:aC}(hv:Qx v=true)(hc:v.cells=#[v]){h:aD}{b i:Nat}{c:Array aC}{e:aF}(hi:i<c.size){K:Unit->aD->Prop}
 (x:K () (h.put b (.cells (c.setIfInBounds i v) e))):wpH P (Instr.storeAt t (.pointer (some ⟨b,i,none⟩)) v) K (h.put b (.cells c e)):=by
 obtain ⟨f,a⟩:=Option.isSome_iff_exists.1 hinfo
 have d:f.size=1:=by simpa [Program.cellsOf,a] using ht
 unfold Instr.storeAt
 simp only [C0,Instr.sureAddr,F3,storeVar,H1 a,d,hc]
 refine ⟨hv,⟨c[i],?_⟩,?_,?_⟩
 ·rw [D4,D6];simp [hi]
 ·rw [D4];simp [Heap.frozen?,Heap.put]
 ·show K () _
  rw [D4,Bb];omega
def sI1{k:aJ}{a b:Int}(h:[aI k a]=[aI k b]):a=b:=by simpa using h
def sI2{k:aJ}{A B:Option aH}{n c n' c':Nat}{a b:Int}(h:[Value.slice A n c,aI k a]=[Value.slice B n' c',aI k b]):(A=B/\n=n'/\c=c')/\a=b:=by simpa only [List.cons.injEq,Value.int.injEq,Value.slice.injEq,true_and,and_true] using h
abbrev Bd(p:Prop)[Decidable p](A B:Prop):Prop:=Br (decide p) A B
abbrev Qv(a:Bool)(b:OA)(c d:Nat)(e:Bool)(f:OA)(g i:Nat):aC:=.agg #[.bool a,.slice b c d,.bool e,.slice f g i]
abbrev Zv(a:Bool)(b:OA)(c d:Nat):aC:=.agg #[.bool a,.slice b c d]
abbrev T0:aC:=.tuple #[]
abbrev Pt(x:aH):aC:=.pointer (some x)
abbrev N0:aC:=.slice none 0 0
abbrev Mv(a b:Int)(c:OA)(d e:Nat):aC:=.agg #[I a,I b,.slice c d e]
abbrev Sl(a:OA)(b c:Nat):aC:=.slice a b c
abbrev Lq(h:aD)(x:aH)(a:Bool)(b:OA)(c d:Nat)(e:Bool)(f:OA)(g i:Nat)(R:Prop):Prop:=h.cell? (x.add 0)=some (.bool a)/\h.cell? (x.add 1)=some (.slice b c d)/\h.cell? (x.add 2)=some (.bool e)/\h.cell? (x.add 3)=some (.slice f g i)/\R
abbrev Lz(h:aD)(x:aH)(a:Bool)(b:OA)(c d:Nat)(R:Prop):Prop:=h.cell? (x.add 0)=some (.bool a)/\h.cell? (x.add 1)=some (.slice b c d)/\R
abbrev Hd(h:aD)(x:aH)(b:OA)(c d:Nat)(R:Prop):Prop:=h.cell? x=some (.slice b c d)/\R
abbrev Ax(A:OA)(x:aH)(i:Int)(n:Nat)(R:Prop):Prop:=A=some x/\0<=i/\i<(n:Int)/\R
