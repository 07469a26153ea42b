/- A part. -/
import Derived.Test.YteppbhimdjmabaaGreatDoorG04
set_option linter.all false
open _root_.Array renaming range->aM
open Bool renaming false_eq_true->aI,false_and->aN
open _root_.Go.Value renaming int->aK
open _root_ renaming Nat->J,Int->Z
open _root_.Go renaming Value->aC,Program->aF,TypeId->aH,Addr->aJ,IntKind->aL
open _root_.Go.Proofs.YteppbhimdjmabaaGreatDoor renaming Heap->aE
namespace Go.Proofs.YteppbhimdjmabaaGreatDoor
open Go
def C86(P:aF)(f:FuncId)(e:Array aC->Sem aC):Prop:=∃fn,P.funcs[f]? = some fn/\(fn.name == "runtime.NumGoroutine")=false/\fn.body.isNone=true/\(Extern.findNext fn).isNone=true/\Extern.find fn=some e
def B90{P:aF}{f:FuncId}{e:Array aC->Sem aC}(x:C86 P f e){args:Array aC}{h:aE}{K:VP}{r:aC}(hr:Rb P (e args)=some r)(hK:K r h):ECall P f args h K:=by obtain⟨fn,d,k,j,i,g⟩:=x;intro W hs;refine⟨r,W,h,?_,hK,Fr.refl hs⟩;have c:Extern.findNext fn=none:=Option.isNone_iff_eq_none.1 i;have:=Vp (e args) hr W;unfold callFunc;have b:fn.name ≠ "runtime.NumGoroutine" :=gz0;have a:fn.body=none:=by{simp_all};simp[program,Sem.run_bind,Sem.run,d,b,a,c,g,mark,this]
def C0{n:Z}(h0: -9223372036854775808<=n)(h1:n<=9223372036854775807):C4 n=n:=by unfold C4 IntKind.wrap;simp only[IntKind.bits,IntKind.signed];grind
def wiS(n:J)(h:n<=9223372036854775806):C4 ((n:Z)+1)=((n+1:J):Z):=by rw[C0]<;>omega
def C5{n:Z}(h0:0<=n)(h1:n<18446744073709551616):C7 n=n:=by unfold C7 IntKind.wrap;simp only[IntKind.bits,IntKind.signed,aN,aI,if_false];omega
def F8(n:Z):C7 n=n%18446744073709551616:=by rfl
def T5{n:Z}(h0:0<=n)(h1:n<4294967296):J5 n=n:=by unfold J5 IntKind.wrap;simp only[IntKind.bits,IntKind.signed,aN,aI,if_false];omega
def Cl(n:Z):J5 n=n%4294967296:=by rfl
def Ys{n:Z}(h0:0<=n)(h1:n<256):wu8 n=n:=by unfold wu8 IntKind.wrap;simp only[IntKind.bits,IntKind.signed,aN,aI,if_false];omega
def D4{a b:Z}{A B:Prop}(t:a=b->A)(f:a≠b->B):Br (a==b) A B:=Br.of (fun h=>t gz0) (fun h=>f gz0)
def D8{a b:Z}{A B:Prop}(t:a≠b->A)(f:a=b->B):Br (a != b) A B:=Br.of (fun h=>t gz0) (fun h=>f gz0)
def Br.not{b:Bool}{A B:Prop}(x:Br b B A):Br (!b) A B:=by cases b<;>exact x
def iAt(l:List aC)(j:J):Z:=
 match l[j]? with
 |some (.int _ n)=>n
 |_=>0
def E6(h:aE)(b i:J)(c:Array aC)(t:aH)(f:J×J):(h.put b (.cells c t f)).cell? ⟨b,i,none⟩=c[i]? :=by simp[Heap.cell?,Heap.put]
def Ik(h:aE)(b i:J)(c:Array aC)(t:aH)(f:J×J)(v:aC):(h.put b (.cells c t f)).setCell ⟨b,i,none⟩ v=h.put b (.cells (c.setIfInBounds i v) t f):=by funext k;unfold Heap.setCell Heap.put;grind
def Kd(h:aE)(b:J)(o o':Obj):(h.put b o).put b o'=h.put b o':=by funext k;unfold Heap.put;grind
def Qi{h:aE}{b:J}{o:Obj}(e:h b=some o):h.put b o=h:=by funext k;unfold Heap.put;grind
def Heap.put_comm(h:aE){b b':J}(o o':Obj)(hb:b≠b'):(h.put b o).put b' o'=(h.put b' o').put b o:=by funext k;unfold Heap.put;grind
def Ju(a:aJ):a.add 0=a:=by rfl
def D9(b o i:J):(Addr.add ⟨b,o,none⟩ i)=⟨b,o+i,none⟩:=Cf b o i
def Qb(a:aJ)(i j:J):(a.add i).add j=a.add (i+j):=by unfold Addr.add;grind
def Xl(a:aJ)(i:J):(a.add i).block=a.block:=by unfold Addr.add;grind
def I7(A:Option aJ)(m s:J):X9 A m 0 s=A:=by unfold X9;split;{rfl};·cases A<;>simp[Ju]
def SlV(h:aE)(A:Option aJ)(xs:List aC):Prop:=xs=[]\/∃a,A=some a/\∀i v,xs[i]? = some v->h.cell? (a.add i)=some v
def SlV.nil{h:aE}{A:Option aJ}:SlV h A []:=.inl rfl
def SlV.mono{h h':aE}(hl:h.le h'){A:Option aJ}{xs:List aC}(s:SlV h A xs):SlV h' A xs:=by rcases s with rfl|⟨a,e,c⟩;{exact .inl rfl};·exact .inr ⟨a,e,fun i v b=>C2 hl (c i v b)⟩
def SlV.at{h:aE}{A:Option aJ}{xs:List aC}(s:SlV h A xs){i:J}(hi:i<xs.length):∃a,A=some a/\h.cell? (a.add i)=some xs[i]:=by rcases s with rfl|⟨a,e,b⟩;{grind};grind
def SlV.cut{h:aE}{A:Option aJ}{xs:List aC}(s:SlV h A xs){c l m:J}(hl:l<=m)(hm:m<=xs.length)(hc:xs.length<=c):SlV h (X9 A c l 1) ((xs.drop l).take (m-l)):=by by_cases d:m-l=0;{left;simp[d]};·rcases s with rfl|⟨a,e,b⟩;{grind};·right;refine⟨a.add l,?_,fun i v f=>?_⟩;{unfold X9;grind};·rw[Qb];grind
def SlV.new(h:aE)(b:J)(xs:List aC)(c:Array aC)(t:aH)(f:J×J)(hx:∀(i:J) (v:aC),xs[i]? = some v->c[i]? = some v):SlV (h.put b (.cells c t f)) (some ⟨b,0,none⟩) xs:=.inr ⟨_,rfl,fun i v a=>by rw[D9,E6];grind⟩
def SlI(k:aL)(h:aE)(A:Option aJ)(xs:List Z):Prop:=SlV h A (xs.map (aK k))
def SlI.mono{k:aL}{h h':aE}(hl:h.le h'){A:Option aJ}{xs:List Z}(s:SlI k h A xs):SlI k h' A xs:=SlV.mono hl s
def SlI.nil{k:aL}{h:aE}{A:Option aJ}:SlI k h A []:=.inl rfl
def SlI.cut{k:aL}{h:aE}{A:Option aJ}{xs:List Z}(s:SlI k h A xs){c l m:J}(hl:l<=m)(hm:m<=xs.length)(hc:xs.length<=c):SlI k h (X9 A c l 1) ((xs.drop l).take (m-l)):=by have:=SlV.cut (c:=c) s hl gz0 gz0;unfold SlI;simp_all
def SlI.load{k:aL}{h:aE}{A:Option aJ}{xs:List Z}(s:SlI k h A xs){i:Z}{n:J}(hn:n=xs.length)(h0:0<=i)(h1:i<(n:Z)){C:Z->Prop}(hc:C (xs.getD i.toNat 0)):∃a,A=some a/\0<=i/\i<(n:Z)/\∃e:Z,h.cell? (a.add (i.toNat*1))=some (.int k e)/\C e:=by obtain⟨a,e,b⟩:=SlV.at s (i:=i.toNat) gz0;grind
def SlI.new{k:aL}(h:aE)(b:J)(xs:List Z)(t:aH)(f:J×J):SlI k (h.put b (.cells (xs.map (aK k)).toArray t f)) (some ⟨b,0,none⟩) xs:=SlV.new h b _ _ t f (fun i v a=>gz0)
structure SliceT (P:aF) (t e:aH) (z:aC) (size bytes:J):Prop where
 und:P.underlying t=some (.slice e)
 info:(P.info? e).map (fun i=>(i.zero,i.size,i.bytes))=some (some z,size,bytes)
 cells:z.cells.size=size
 pos:0<size
def SliceT.parts{P:aF}{t e:aH}{z:aC}{size bytes:J}(s:SliceT P t e z size bytes):∃i,P.info? e=some i/\i.zero=some z/\i.size=size/\i.bytes=bytes:=by have:=s.info;simp_all
def H9(cs:Array aC)(n:J):Array aC:=(aM (n*cs.size)).map (cs[· % cs.size]!)
def C8{α β:Type}{P:aF}(s:Sem α)(f:α->Sem β):∀(K:β->aE->Prop) (h:aE),wpH P (s >>= f) K h=wpH P s (fun a h'=>wpH P (f a) K h') h:=by
 show ∀(K:β->aE->Prop) (h:aE),wpH P (s.bind f) K h=_
 induction s with
 |pure a=>exact fun K h=>rfl
 |load m a k ih=>intro K h;simp only[Sem.bind,wpH,ih]
 |store m a v k ih=>intro K h;simp only[Sem.bind,wpH,ih]
 |new o k ih=>intro K h;simp only[Sem.bind,wpH,ih]
 |shape r k ih=>intro K h;simp only[Sem.bind,wpH,ih]
 |freeze a n k ih=>intro K h;simp only[Sem.bind,wpH,ih]
 |frozen a k ih=>intro K h;simp only[Sem.bind,wpH,ih]
 |choose q k ih=>intro K h;simp only[Sem.bind,wpH,ih]
 |program k ih=>intro K h;simp only[Sem.bind,wpH,ih]
 |mark m k ih=>assumption
 |_=>intros;first|rfl|simp only[*,Sem.bind,wpH]
def I5{α:Type}{P:aF}(a:α)(K:α->aE->Prop)(h:aE):wpH P (pure a) K h=K a h:=rfl
def Uf{P:aF}(K:aF->aE->Prop)(h:aE):wpH P program K h=K P h:=rfl
def F2{P:aF}{t:aH}{d:TypeDesc}(hu:P.underlying t=some d)(K:TypeDesc->aE->Prop)(h:aE):wpH P (Go.underlying t) K h=K d h:=by unfold Go.underlying;rw[C8,Uf,hu];rfl
def J6{P:aF}{t:aH}{i:TypeInfo}(hi:P.info? t=some i)(K:TypeInfo->aE->Prop)(h:aE):wpH P (Go.typeInfo t) K h=K i h:=by unfold Go.typeInfo;rw[C8,Uf];simp only[hi];rfl
def K4{P:aF}{t:aH}{i:TypeInfo}(hi:P.info? t=some i)(K:J->aE->Prop)(h:aE):wpH P (Go.sizeOf t) K h=K i.size h:=by unfold Go.sizeOf;rw[C8,J6 hi];rfl
def S4{P:aF}{t:aH}{i:TypeInfo}(hi:P.info? t=some i){z:aC}(hz:i.zero=some z)(K:VP)(h:aE):wpH P (Go.zeroValue t) K h=K z h:=by unfold Go.zeroValue;rw[C8,J6 hi,hz];rfl
def Gt{P:aF}(n:J)(K:Unit->aE->Prop)(h:aE):wpH P (askRoom n) K h=K () h:=by unfold askRoom;split<;>rfl
def As{P:aF}(e:aH)(cs:Array aC)(K:aJ->aE->Prop)(h:aE):wpH P (newRow e cs) K h=∀b,h b=none->K ⟨b,0,none⟩ (h.put b (.cells cs e)):=rfl
def Wi{P:aF}{t e:aH}{z:aC}{size bytes:J}(s:SliceT P t e z size bytes){n c:Z}(h0:0<=n)(h1:n<=c)(h2:c*bytes<=281474976710656)(h3:c<=9223372036854775807){K:VP}{h:aE} (x:∀b,h b=none->K (.slice (some ⟨b,0,none⟩) n.toNat c.toNat) (h.put b (.cells (H9 z.cells c.toNat) e))):wpH P (Instr.makeSlice t (I n) (I c)) K h:=by obtain⟨i,l,q,m,k⟩:=s.parts;have w:IntKind.i64.wrap n=n:=C0 o o;have u:IntKind.i64.wrap c=c:=C0 o o;have a:((decide (c<0)||decide ((bytes:Z)*c>2^48))||decide (n<0)||decide (n>c))=false:=by{grind};unfold Instr.makeSlice;simp only[C8,F2 s.und,asInt,asIntOf,I5,J6 l,w,u,k,a,aI,if_false,Gt,K4 l];have j:H9 z.cells c.toNat=(aM (c.toNat*i.size)).map (z.cells[· % z.cells.size]!):=by{unfold H9;rw[s.cells,m]};by_cases d:c.toNat*i.size=0;{simp only[d,if_true];intro b r;have:=x b r;rw[j,d]at this;have p:∀f g:J->aC,(aM 0).map f=(aM 0).map g:=fun f g=>by{grind};rw[p _ (fun x=>(#[]:Array aC)[x%(#[]:Array aC).size]!)]at this;exact this};·simp only[d,if_false,C8,S4 l q,I5,As];grind
def Bu{P:aF}{t:aH}(ht:P.cellsOf t=1)(hinfo:(P.info? t).isSome=true){v:aC}(hv:Qj v=true)(hc:v.cells=#[v]){h:aE}{b i:J}{c:Array aC}{e:aH}(hi:i<c.size){K:Unit->aE->Prop} (x:K () (h.put b (.cells (c.setIfInBounds i v) e))):wpH P (Instr.storeAt t (.pointer (some ⟨b,i,none⟩)) v) K (h.put b (.cells c e)):=by obtain⟨d,a⟩:=Option.isSome_iff_exists.1 hinfo;have hs:d.size=1:=by{simpa[Program.cellsOf,a]using ht};unfold Instr.storeAt;simp only[C8,Instr.sureAddr,I5,storeVar,K4 a,hs,hc];refine⟨hv,⟨c[i],?_⟩,?_,?_⟩;{rw[D9,E6];simp[hi]};{rw[D9];simp[Heap.frozen?,Heap.put]};·show K () _;rw[D9,Ik];omega
def sI1{k:aL}{a b:Z}(h:[aK k a]=[aK k b]):a=b:=by simpa using h
def sI2{k:aL}{A B:Option aJ}{n c n' c':J}{a b:Z}(h:[Value.slice A n c,aK k a]=[Value.slice B n' c',aK k b]):(A=B/\n=n'/\c=c')/\a=b:=by simpa only[List.cons.injEq,Value.int.injEq,Value.slice.injEq,true_and,and_true]using h
abbrev Bd(p:Prop)[Decidable p](A B:Prop):Prop:=Br (decide p) A B
abbrev Qv(a:Bool)(b:OA)(c d:J)(e:Bool)(f:OA)(g i:J):aC:=.agg #[.bool a,.slice b c d,.bool e,.slice f g i]
abbrev Zv(a:Bool)(b:OA)(c d:J):aC:=.agg #[.bool a,.slice b c d]
abbrev T0:aC:=.tuple #[]
abbrev Pt(x:aJ):aC:=.pointer (some x)
abbrev N0:aC:=.slice none 0 0
abbrev Mv(a b:Z)(c:OA)(d e:J):aC:=.agg #[I a,I b,.slice c d e]
abbrev Sl(a:OA)(b c:J):aC:=.slice a b c
abbrev Lq(h:aE)(x:aJ)(a:Bool)(b:OA)(c d:J)(e:Bool)(f:OA)(g i:J)(R:Prop):Prop:=h.cell? (x.add 0)=some (.bool a)/\h.cell? (x.add 1)=some (.slice b c d)/\h.cell? (x.add 2)=some (.bool e)/\h.cell? (x.add 3)=some (.slice f g i)/\R
abbrev Lz(h:aE)(x:aJ)(a:Bool)(b:OA)(c d:J)(R:Prop):Prop:=h.cell? (x.add 0)=some (.bool a)/\h.cell? (x.add 1)=some (.slice b c d)/\R
abbrev Hd(h:aE)(x:aJ)(b:OA)(c d:J)(R:Prop):Prop:=h.cell? x=some (.slice b c d)/\R
abbrev Ax(A:OA)(x:aJ)(i:Z)(n:J)(R:Prop):Prop:=A=some x/\0<=i/\i<(n:Z)/\R
