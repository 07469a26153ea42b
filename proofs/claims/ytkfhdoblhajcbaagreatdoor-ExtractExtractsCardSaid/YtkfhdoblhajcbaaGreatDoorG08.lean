/- A part. -/
import Derived.Test.YtkfhdoblhajcbaaGreatDoorG06
import Derived.Test.YtkfhdoblhajcbaaGreatDoorG07
open Go.Proofs.Tryz
set_option linter.all false
open List renaming toArray->aD
open _root_.Go renaming Value->aC,TypeId->aE,Oper->aF,Code->aG,Operand->aH
namespace Go.Proofs.YtkfhdoblhajcbaaGreatDoor
open Go
inductive SV where
 | v (v:aC)
 | b (b:Bool)
 | n (k:IntKind) (n:Int)
 | own (k off:Nat)
abbrev En:=List (Nat×SV)
abbrev Ow:=List (Nat×List aC)
structure GX where
 fa:FnAnn
 rs:List ResultVar
 own:List Nat
 wr:List Nat
 K:VP
inductive It where
 | c (c:aG)
 | o (ops l:List aF) (gr:Bool)
 | a (ops:List aF) (anc:List (List Nat)) (al:List (Nat × List Nat)) (l:List Nat)
 | an (ops:List aF) (anc:List (List Nat)) (al:List (Nat × List Nat)) (j:Nat) (L r:List Nat)
 | ar (ops:List aF) (anc:List (List Nat)) (al:List (Nat × List Nat)) (j:Nat) (L:List Nat) (i:Nat) (r:List Nat)
 | gd (t:Bool) (gs:Nat) (want:Bool) (o:aF) (gr:Bool)
 | blk (id:Nat)
 | put (d:Option Nat) (x:SV)
 | br (t:Bool) (A B:List It)
 | ff
 | nc (p:Option Addr) (d:Option Nat)
 | ix (A:Option Addr) (n:Nat) (i:Int) (c:Nat) (d:Option Nat)
 | iy (s:ByteArray) (i:Int) (d:Option Nat)
 | cd (p:Prop)
 | al (d:Option Nat) (cs:List aC)
 | st (k:Nat) (cs:List aC)
 | ex (zs acc:List aC)
 | fa (zs acc:List aC)
 | ld (a:Addr) (ag:Bool) (d:Option Nat)
 | efV (s:Sem aC) (t:aE) (gr:Bool) (d:Option Nat)
 | efP (s:Sem aC) (gr:Bool) (d:Option Nat)
 | efU (s:Sem Unit)
 | call (e:Bool) (f:Nat) (args:List aC) (t:aE) (gr:Bool) (d:Option Nat)
 | yc (l:Nat) (args:List aC) (t:aE) (d:Option Nat)
 | rs (r:aC) (h:Heap) (gr:Bool) (t:aE) (d:Option Nat)
 | rs1 (r:aC) (h:Heap) (gr:Bool) (v:aC) (d:Option Nat)
 | lp (ann:Ann) (b:aG)
 | lh (ann:Ann) (Inv:LP) (mu:LN) (b:aG)
 | le (ann:Ann) (Inv:LP) (mu:LN) (vs:List aC) (h:Heap)
 | cu (ann:Ann) (a b:aG)
 | ct (ann:Ann) (J:LP)
 | ch (ann:Ann) (J:LP) (b:aG)
 | rf (lv:Bool) (g:aC) (zs:List aC) (ps:List Nat) (asg body:aG)
 | rd (args:List aC) (ps:List Nat) (asg body:aG) (J:Heap->Prop) (JR:Option (Heap->Prop))
 | rn (J:Heap->Prop) (JR:Option (Heap->Prop))
 | rt (JR:Option (Heap->Prop))
 | re (r:List ResultVar) (vs:List aC)
 | rc (r:List ResultVar) (vs:List aC) (a:Addr) (ag:Bool)
def C5j{α:Type}:List (Nat×α)->Nat->Bool->α->α
 |_,_,true,v=>v
 | [],_,false,v=>v
 | (k,v)::r,d,false,_=>C5j r d (k==d) v
def B4e{α:Type}(z:α):List (Nat×α)->Nat->Bool->α->α
 |_,_,true,v=>v
 | [],_,false,_=>z
 | (k,v)::r,d,false,_=>B4e z r d (k==d) v
def B0t:List Nat->Nat->Bool->Bool
 |_,_,true=>true
 | [],_,false=>false
 |k::r,d,false=>B0t r d (k==d)
def C00{α:Type}:List (Nat×α)->Nat->Bool->Option α->Option α
 |_,_,true,v=>v
 | [],_,false,_=>none
 | (k,v)::r,d,false,_=>C00 r d (k==d) (some v)
def C1p{α:Type}(l:List (Nat×α)):Option Nat->Option α
 |some i=>C00 l i false none
 |none=>none
def C1t(x:Nat):Bool->List Nat->List Nat->List Nat
 |true,r,_=>r
 |false,_,s=>x::s
def C3c(i:Nat):List Nat->List Nat
 | []=>[]
 |x::L=>C1t x (x==i) L (C3c i L)
def C0s(x:Nat):Bool->List Nat->List Nat
 |true,_=>[]
 |false,s=>x::s
def C3w(i:Nat):List Nat->List Nat
 | []=>[]
 |x::L=>C0s x (x==i) (C3w i L)
def B82(a:List Nat):List Nat->Bool
 | []=>true
 |x::r=>!B0t a x false&&B82 a r
def C1d(i:Nat):Bool->List Nat->List Nat
 |true,s=>i::s
 |false,s=>s
def B8h(j:Nat)(anc:List (List Nat))(L:List Nat):List Nat->List Nat
 | []=>[]
 |i::r=>C1d i (B0t L i false && !B0t (anc.getD i []) j false&&B82 (anc.getD i []) (C3w i L)) (B8h j anc L r)
def C5h:Option (List Nat)->List Nat
 |none=>[]
 |some l=>l
def C1a(x:Nat):Bool->List Nat->List Nat
 |true,l=>l
 |false,l=>x::l
def B85(l:List Nat):List Nat->List Nat
 | []=>l
 |x::r=>B85 (C1a x (B0t l x false) l) r
def C1m:Ground->Bool
 |.textOnly _=>false
 |.gcOnly _=>false
 |_=>true
def C1s(acc:List (List Nat))(l:List Nat)(j:Nat):Bool->List Nat
 |true=>B85 l (j::acc.getD j [])
 |false=>l
def B8d(acc:List (List Nat))(l:List Nat):List Edge->List Nat
 | []=>l
 |⟨j,g⟩::r=>B8d acc (C1s acc l j (C1m g)) r
def B8e(acc:List (List Nat)):List aF->List (List Nat)
 | []=>acc
 |o::r=>B8e (acc++[B8d acc [] o.after.toList]) r
def C45:Option Nat->Option Nat->Option Nat
 |some i,_=>some i
 |none,x=>x
def A9q:aG->Option Nat
 |.region id _ _=>some id
 |.seq a b=>C45 (A9q a) (A9q b)
 |.block _ b=>A9q b
 |.loop b=>A9q b
 |.scope b=>A9q b
 |.cond _ a b=>C45 (A9q a) (A9q b)
 |_=>none
abbrev La:=Nat×List Nat×List (Nat×Nat)×List aC
def C02:List La->List (Nat×Ann)
 | []=>[]
 | (i,s,o,z)::r=>(i,⟨s,o,z,⟨[],[]⟩⟩)::C02 r
def C3b:List (Nat×List Nat)->List (Nat×List Nat×List (List Nat))
 | []=>[]
 | (i,l)::r=>(i,l,[])::C3b r
def wrt:aG->List aF
 |.region _ ops _=>ops.toList
 |.seq a b |.cond _ a b |.rangeFunc _ _ a b=>wrt a++wrt b
 |.block _ b |.loop b |.scope b=>wrt b
 |_=>[]
def C60(own:List Nat)(o:aF):Option Nat:=match o.op,o.dst with
 |.alloc _,some d |.box _ _,some d=>bif has own d then some d else none
 |_,_=>none
def C2e(own:List Nat)(a:Ann)(ops:List aF):Ann:={a with lim:=⟨ops.filterMap (·.dst),a.owns.map (·.1)++ops.filterMap (C60 own)⟩ }
def A3f(i:Nat):aG->List aF
 |.loop b=>bif J8 b==some i then wrt b else A3f i b
 |.seq a b |.cond _ a b |.rangeFunc _ _ a b=>A3f i a++A3f i b
 |.block _ b |.scope b=>A3f i b
 |_=>[]
def Xy(i:Nat):aG->List aF
 |.seq a b=>bif J8 b==some i then wrt a else Xy i a++Xy i b
 |.cond _ a b |.rangeFunc _ _ a b=>Xy i a++Xy i b
 |.block _ b |.loop b |.scope b=>Xy i b
 |_=>[]
def B7e(own:List Nat)(c:aG)(fa:FnAnn):FnAnn:={ fa with loops:=fa.loops.map fun x=>(x.1,C2e own x.2 (A3f x.1 c)),cuts:=fa.cuts.map fun x=>(x.1,C2e own x.2 (Xy x.1 c)) }
def C5g(n:Nat):Option Nat->Option Nat
 |some i=>some (i+n)
 |none=>none
def C1u:aC->SV
 |.bool b=>.b b
 |.int k n=>.n k n
 |v=>.v v
def A8e(e:En)(t:Nat):SV:=B4e (.v undef) e t false (.v undef)
def B0s(w:Ow)(k:Nat):List aC:=B4e [] w k false []
def A23(e:En):aH->SV
 |.tmp t=>A8e e t
 |.const v=>C1u v
 |.global g=>.v (.pointer (some ⟨g,0,none⟩))
 |.func f=>.v (.func (.func f) #[] #[])
def A20:SV->aC
 |.v v=>v
 |.b b=>.bool b
 |.n k n=>.int k n
 |.own _ _=>undef
def A22(e:En)(x:aH):aC:=A20 (A23 e x)
def Tu(e:En):List aH->List aC
 | []=>[]
 |x::r=>A22 e x::Tu e r
def B4j(e:En):List (Nat×aH)->List (Nat×aC)
 | []=>[]
 | (i,x)::r=>(i,A22 e x)::B4j e r
def C3d:aC->Bool
 |.bool b=>b
 |_=>false
def C1h:aC->Int
 |.int _ n=>n
 |_=>0
def B4f(e:En):Option aH->Option Int
 |none=>none
 |some x=>some (C1h (A22 e x))
def B0u:aC->List aC
 |.agg ⟨l⟩=>l
 |v=>[v]
def A21:List aC->aC
 |v::_=>v
 | []=>undef
def B6c(n:Nat):Bool->List aC->SV
 |true,cs=>.v (.agg (aD (cs.take n)))
 |false,cs=>.v (A21 cs)
def B0o(ag:Bool)(off n:Nat)(cs:List aC):SV:=B6c n ag (cs.drop off)
def B7x(cs:List aC)(off:Nat)(vs:List aC):List aC:=cs.take off++vs++cs.drop (off+vs.length)
def B3d:IntKind->Int->Int
 |.i64,n=>C4 n
 |.i32,n=>C5w n
 |.u64,n=>C8 n
 |.u32,n=>J7 n
 |.u8,n=>wu8 n
 |k,n=>k.wrap n
def B8f:IntKind->Nat
 |.i8 |.u8=>8
 |.i16 |.u16=>16
 |.i32 |.u32=>32
 |.i64 |.u64=>64
def A0w(d:Option Nat)(k:IntKind)(n:Int):List It:=[.put d (.v (.int k n))]
def A3x(d:Option Nat)(b:Bool):List It:=[.put d (.v (.bool b))]
def C1r:List aC->List aC->Bool->Bool
 |.string a::_,.string b::_,r=>(a.toList==b.toList)&&r
 |_,_,_=>false
def B4k:List (Nat×aE)->List aC->List aC->Bool
 | [],_,_=>true
 | (o,_)::r,xs,ys=>C1r (xs.drop o) (ys.drop o) (B4k r xs ys)
def A6t:TD->List (Nat×aE)
 |.t fs=>fs
 |_=>[]
def C46(b:Int)(lit:Bool)(A:List It):List It:=match lit with
 |true=>A
 |false=>[.br (decide (b=0)) [.ff] A]
def C49(b:Int)(lit:Bool)(A:List It):List It:=match lit with
 |true=>A
 |false=>[.br (decide (b<0)) [.ff] A]
def B7w(l:Bool)(t:TD)(d:Option Nat):BinOp->aC->aC->List It
 |.add,.int k a,.int _ b=>A0w d k (B3d k (a+b))
 |.sub,.int k a,.int _ b=>A0w d k (B3d k (a-b))
 |.mul,.int k a,.int _ b=>A0w d k (B3d k (a*b))
 |.quo,.int k a,.int _ b=>C46 b l (A0w d k (B3d k (a.tdiv b)))
 |.rem,.int k a,.int _ b=>C46 b l (A0w d k (a.tmod b))
 |.shl,.int k a,.int _ b=>C49 b l (A0w d k (B3d k (a*2^(min b.toNat (B8f k)))))
 |.shr,.int k a,.int _ b=>C49 b l (A0w d k (a.fdiv (2^(min b.toNat (B8f k)))))
 |.and,.int k a,.int _ b=>A0w d k (A0y k a b)
 |.or,.int k a,.int _ b=>A0w d k (bor k a b)
 |.xor,.int k a,.int _ b=>A0w d k (C64 k a b)
 |.andNot,.int k a,.int _ b=>A0w d k (B9m k a b)
 |.eql,.int _ a,.int _ b=>A3x d (a==b)
 |.neq,.int _ a,.int _ b=>A3x d (a != b)
 |.lss,.int _ a,.int _ b=>A3x d (decide (a<b))
 |.leq,.int _ a,.int _ b=>A3x d (decide (a<=b))
 |.gtr,.int _ a,.int _ b=>A3x d (decide (a>b))
 |.geq,.int _ a,.int _ b=>A3x d (decide (a>=b))
 |.add,.string a,.string b=>[.cd (((a.size+b.size:Nat):Int)<=9223372036854775807),.put d (.v (.string (a++b)))]
 |.eql,.string a,.string b=>A3x d (a.toList==b.toList)
 |.neq,.string a,.string b=>A3x d (!(a.toList==b.toList))
 |.eql,.slice a _ _,.slice _ _ _=>A3x d a.isNone
 |.neq,.slice a _ _,.slice _ _ _=>A3x d (!a.isNone)
 |.eql,.bool a,.bool b=>A3x d (a==b)
 |.neq,.bool a,.bool b=>A3x d (!(a==b))
 |.eql,.agg ⟨a⟩,.agg ⟨b⟩=>A3x d (B4k (A6t t) a b)
 |.neq,.agg ⟨a⟩,.agg ⟨b⟩=>A3x d (!B4k (A6t t) a b)
 |_,_,_=>[.ff]
def C0u(t:TD)(d:Option Nat):BinOp->SV->SV->List It
 |.eql,.n _ a,.n _ b=>[.put d (.b (a.natAbs==b.natAbs))]
 |.neq,.n _ a,.n _ b=>[.put d (.b (!(a.natAbs==b.natAbs)))]
 |op,x,.n k b=>B7w true t d op (A20 x) (.int k b)
 |op,x,y=>B7w false t d op (A20 x) (A20 y)
def Kx(t:aE):Nat:=(No t).n
def A4y(y:Nat):Option Int->List It
 |none=>[]
 |some i=>[.cd (0<=i/\i<=(y:Int))]
def Np(y:Nat):Option Int->Nat
 |none=>y
 |some i=>i.toNat
def C0x(d:Option Nat):TD->aC->Option Int->Option Int->Option Int->List It
 |.l e,.slice A _ c,some l,some h,some m=>[.cd (0<=m/\m<=(c:Int)),.cd (0<=h/\h<=(m.toNat:Int)),.cd (0<=l/\l<=(h.toNat:Int)),.put d (.v (.slice (V3 A m.toNat l.toNat (Kx e)) (h.toNat-l.toNat) (m.toNat-l.toNat)))]
 |.s,.string s,l,h,_=>A4y s.size h++(A4y (Np s.size h) l++[.put d (.v (.string (s.extract (Np 0 l) (Np s.size h))))])
 |.l e,.slice A n c,l,h,_=>A4y c h++(A4y (Np n h) l++[.put d (.v (.slice (V3 A c (Np 0 l) (Kx e)) (Np n h-Np 0 l) (c-Np 0 l)))])
 |.r n e,.pointer A,l,h,_=>A4y n h++(A4y (Np n h) l++[.put d (.v (.slice (V3 A n (Np 0 l) (Kx e)) (Np n h-Np 0 l) (n-Np 0 l)))])
 |_,_,_,_,_=>[.ff]
def C1f(n c:Nat)(d:Option Nat)(i:Int):SV->List It
 |.own k off=>[.put d (.own k (off+i.natAbs*c))]
 |.v (.pointer (some a))=>[.cd (0<=i/\i<((n:Nat):Int)),.put d (.v (.pointer (some (a.add (i.toNat*c)))))]
 |_=>[.ff]
def C1g(d:Option Nat)(i:Int):TD->SV->List It
 |.l e,.v (.slice A n _)=>[.ix A n i (Kx e) d]
 |.r n e,x=>C1f n (Kx e) d i x
 |_,_=>[.ff]
def C1j(i:Int)(d:Option Nat):TD->aC->List It
 |.s,.string s=>[.iy s i d]
 |.r _ e,.agg ⟨cs⟩=>[.put d (B0o (No e).ag (i.natAbs*Kx e) (Kx e) cs)]
 |_,_=>[.ff]
def A8f(t:TD)(f:Nat):Nat×aE:=(A6t t).getD f (0,0)
def A6s:Nat×aE->Nat
 | (a,_)=>a
def B0p:Nat×aE->aE
 | (_,b)=>b
def C1o(o:Nat)(d:Option Nat):SV->List It
 |.own k off=>[.put d (.own k (off+o))]
 |.v (.pointer (some a))=>[.put d (.v (.pointer (some (a.add o))))]
 |_=>[.ff]
def C1y(i:Nat):TD->Nat
 |.r _ e=>i*Kx e
 |t=>A6s (A8f t i)
def B8g(t:TD):List aC->List (Nat×aC)->List aC
 |cs,[]=>cs
 |cs,(i,v)::r=>B8g t (B7x cs (C1y i t) (B0u v)) r
def B89:TD->Bool
 |.l _=>true
 |_=>false
def B6f(d:Option Nat)(x:SV):TD->aC->List It
 |.i k,.int _ n=>A0w d k (B3d k n)
 |_,_=>[.put d x]
def C1v(t s:aE)(tt:TD)(x:SV)(gr:Bool)(d:Option Nat):Bool->List It
 |true=>[.efV (convert s t (A20 x)) t gr d]
 |false=>B6f d x tt (A20 x)
def B6d(d:Option Nat):TD->aC->List It
 |_,.slice _ n _=>A0w d .i64 ((n:Nat):Int)
 |_,.string s=>A0w d .i64 ((s.size:Nat):Int)
 |.r n _,_=>A0w d .i64 ((n:Nat):Int)
 |_,_=>[.ff]
def B6g(d:Option Nat):aC->List It
 |.slice _ _ c=>A0w d .i64 ((c:Nat):Int)
 |_=>[.ff]
def C19:Bool->aC->aC->aC
 |true,.int k r,.int _ y=>.int k (if y>r then y else r)
 |false,.int k r,.int _ y=>.int k (if y<r then y else r)
 |_,r,_=>r
def B83(m:Bool)(r:aC):List aC->aC
 | []=>r
 |y::l=>B83 m (C19 m r y) l
def B88:aC->IntKind
 |.int k _=>k
 |_=>.i64
def B84(m:Bool)(d:Option Nat):List aC->List It
 |v::l=>[.put d (.v (B83 m v l))]
 |_=>[.ff]
def C5f(f:Nat):Bool->Bool
 |true=>false
 |false=>B0t B6e f false
def B6h(B3d:List Nat)(sl:Bool)(vs:List aC)(t:aE)(gr:Bool)(d:Option Nat):aC->List It
 |.func (.func f) ⟨a⟩ ⟨b⟩=>[.call (C5f f sl) f (a++(vs++b)) t (gr && !sl && !B0t B3d f false) d]
 |.func (.yield l) _ _=>[.yc l vs t d]
 |_=>[.ff]
def C1i:aH->Bool
 |.tmp _=>true
 |_=>false
def C1x(x:GX)(e:En)(t:aE)(gr:Bool)(d:Option Nat):Callee->List aH->Array aE->List It
 |.value f,us,_=>B6h x.wr (C1i f) (Tu e us) t gr d (A22 e f)
 |.builtin .append,us,ts=>[.efV (Builtin.append_ ts t (aD (Tu e us))) t (gr && !B0t x.wr 1000000000 false) d]
 |.builtin .copy,us,ts=>[.efV (Builtin.copy_ ts t (aD (Tu e us))) t false d]
 |.builtin .len,us,ts=>B6d d (No (ts.toList.headD 0)).d (A21 (Tu e us))
 |.builtin .cap,us,_=>B6g d (A21 (Tu e us))
 |.builtin .max,us,_=>B84 true d (Tu e us)
 |.builtin .min,us,_=>B84 false d (Tu e us)
 |_,_,_=>[.ff]
def C01:Option Nat->Nat
 |some d=>d
 |none=>0
def B0r(d:Option Nat)(cs:List aC)(s:Sem aC)(gr:Bool):Bool->List It
 |true=>[.al d cs]
 |false=>[.efP s gr d]
def C14(d:Option Nat)(a b:SV):SV->List It
 |.b true=>[.put d a]
 |.b false=>[.put d b]
 |c=>[.br (C3d (A20 c)) [.put d a] [.put d b]]
def C1c(w:Ow)(d:Option Nat)(zs:List aC)(ag:Bool)(n:Nat):SV->List It
 |.own k off=>[.put d (B0o ag off n (B0s w k))]
 |.v (.pointer (some a))=>[.ex zs [],.ld a ag d]
 |_=>[.ff]
def C18(d:Option Nat):SV->List It
 |.v (.pointer p)=>[.nc p d]
 |y=>[.put d y]
def C0r(d:Option Nat):UnOp->SV->List It
 |.not,.b b=>[.put d (.b (!b))]
 |.not,y=>A3x d (!C3d (A20 y))
 |.neg,y=>A0w d (B88 (A20 y)) (B3d (B88 (A20 y)) (0-C1h (A20 y)))
 |_,_=>[.ff]
def C1q(d:Option Nat)(i:Nat):aC->List It
 |.tuple ⟨vs⟩=>[.put d (.v (vs.getD i undef))]
 |_=>[.ff]
def C0v(w:Ow)(t:aE)(z:aC):SV->List It
 |.own k off=>[.st k (B7x (B0s w k) off (B0u z))]
 |y=>[.efU (Instr.storeAt t (A20 y) z)]
def C5i(x:GX)(e:En)(w:Ow)(gr:Bool)(t:aE)(d:Option Nat):Op->List It
 |.move y=>[.put d (A23 e y)]
 |.assign y=>[.put d (A23 e y)]
 |.pick c a b=>C14 d (A23 e a) (A23 e b) (A23 e c)
 |.load t y=>C1c w d (No t).zs (No t).ag (Kx t) (A23 e y)
 |.fieldAddr s y f=>C1o (A6s (A8f (No s).d f)) d (A23 e y)
 |.nilCheck y=>C18 d (A23 e y)
 |.panic _=>[.ff]
 |.makeInterface _ _=>[.put d (.v undef)]
 |.indexAddr t y i=>C1g d (C1h (A22 e i)) (No t).d (A23 e y)
 |.index t y i=>C1j (C1h (A22 e i)) d (No t).d (A22 e y)
 |.slice t y l h m=>C0x d (No t).d (A22 e y) (B4f e l) (B4f e h) (B4f e m)
 |.binOp op t y z _=>C0u (No t).d d op (A23 e y) (A23 e z)
 |.unOp op _ y=>C0r d op (A23 e y)
 |.convert s t y=>C1v t s (No t).d (A23 e y) gr d (B89 (No s).d||B89 (No t).d)
 |.extract y i=>C1q d i (A22 e y)
 |.field s y f=>[.put d (B0o (No (B0p (A8f (No s).d f))).ag (A6s (A8f (No s).d f)) (Kx (B0p (A8f (No s).d f))) (B0u (A22 e y)))]
 |.build t ps=>[.put d (.v (.agg (aD (B8g (No t).d (No t).zs (B4j e ps.toList)))))]
 |.makeFunc f a b=>[.put d (.v (.func f (aD (Tu e a.toList)) (aD (Tu e b.toList))))]
 |.call c=>C1x x e t gr d c.callee c.args.toList c.argTypes
 |.alloc t=>B0r d (No t).zs (Instr.alloc t true (.tuple #[])) gr (B0t x.own (C01 d) false)
 |.box t y=>B0r d (B0u (A22 e y)) (Instr.box t (A22 e y)) gr (B0t x.own (C01 d) false)
 |.store t y z=>C0v w t (A22 e z) (A23 e y)
 |.makeSlice t l c=>[.efV (Instr.makeSlice t (A22 e l) (A22 e c)) t gr d]
 |.buildSlice t n ps=>[.efV (Instr.buildSlice t n (aD (B4j e ps.toList))) t gr d]
 |_=>[.ff]
def B8b(n:Nat):Bool->List aC->aC
 |true,vs=>.agg (aD (vs.take n))
 |false,vs=>A21 vs
def B8c:List aE->List aC->List aC
 | [],_=>[]
 |t::r,vs=>B8b (Kx t) (No t).ag vs::B8c r (vs.drop (Kx t))
def B7v:List aE->List aC
 | []=>[]
 |t::r=>(No t).zs++B7v r
def C0y(zs:List aC):TD->List aC
 |.u ts=>B7v ts
 |_=>zs
def B0q(t:aE):List aC:=C0y (No t).zs (No t).d
def C0z(t:aE)(vs:List aC):TD->aC
 |.u ts=>.tuple (aD (B8c ts vs))
 |_=>B8b (Kx t) (No t).ag vs
def Ke(x:SV)(e:En):Option Nat->En
 |some d=>(d,x)::e
 |none=>e
def B4h:List Nat->List aC->En->En
 |s::r,v::vs,e=>(s,.v v)::B4h r vs e
 |_,_,e=>e
def B4g:List (Nat×Nat)->List aC->Ow->Ow
 | [],_,w=>w
 | (k,n)::r,vs,w=>(k,vs.take n)::B4g r (vs.drop n) w
def B87(e:En):List Nat->List aC
 | []=>[]
 |s::r=>A20 (A8e e s)::B87 e r
def B86(w:Ow):List (Nat×Nat)->List aC
 | []=>[]
 | (k,_)::r=>B0s w k++B86 w r
def C1e(ann:Ann)(e:En)(w:Ow):List aC:=B87 e ann.slots++B86 w ann.owns
def C3a(id:Nat):List It->Bool->List It
 |l,true=>l
 | [],false=>[]
 |.blk j::r,false=>C3a id r (j==id)
 |_::r,false=>C3a id r false
def C42(rs:List ResultVar):List It->List It
 | []=>[.re rs []]
 |.rn _ JR::_=>[.rt JR]
 |_::r=>C42 rs r
def C17(k:Nat)(e:En):SV->En
 |.own _ _=>e
 |x=>(k,x)::e
def B4d:En->En
 | []=>[]
 | (k,x)::r=>C17 k (B4d r) x
def C1k:List aF->List aF
 |o::_=>[o]
 | []=>[]
def A4x(l:List aF):List Nat->List aF
 | []=>[]
 |i::r=>C1k (l.drop i)++A4x l r
def B4i(o:aF)(gr:Bool):Bool->Bool->List It
 |true,true=>[.o [] [o] gr]
 |false,false=>[.o [] [o] gr]
 |_,_=>[.put o.dst (.v undef)]
def B7z:List aF->Nat
 |o::_=>C01 o.dst
 | []=>0
def B81:List Nat->List aC->En->En
 |s::r,v::vs,e=>B81 r vs ((s,.v v)::e)
 |_,_,e=>e
def B80(n:Nat):List aF->List Nat
 | []=>[]
 |_::r=>n::B80 (n+1) r
def C16(ops:List aF):Option (List Nat×List (List Nat))->List Nat
 |some (l,_)=>l
 |none=>B80 0 ops
def C1l:Op->Bool
 |.store _ _ _=>false
 |_=>true
def C1n(gs:Nat)(want:Bool)(o:aF)(gr:Bool):SV->List It
 |.b b=>B4i o gr b want
 |.v (.bool t)=>[.gd t gs want o gr]
 |_=>[.put o.dst (.v undef)]
def C15(x:GX)(e:En)(w:Ow)(ops:List aF)(gr:Bool):aF->List It
 |⟨d,op,t,_,_,none⟩=>C5i x e w (gr&&C1l op) t d op
 |⟨d,op,t,p,a,some (j,want)⟩=>C1n (B7z (ops.drop j)) want ⟨d,op,t,p,a,none⟩ gr (A8e e (B7z (ops.drop j)))
def C11(ops:List aF)(o:Option (List Nat×List (List Nat))):Option (List (Nat×List Nat))->List It
 |none=>match o with
  |none=>[.o ops ops true]
  |some (l,_)=>[.o ops (A4x ops l) true]
 |some al=>[.a ops (B8e [] ops) al (C16 ops o)]
def C10(fa:FnAnn)(id:Nat)(ops:List aF):Bool->List It
 |false=>[.o ops ops false]
 |true=>C11 ops (C00 fa.orders id false none) (C00 fa.alts id false none)
def C0w(a b:aG):Option Ann->List It
 |none=>[.c a,.c b]
 |some ann=>[.cu ann a b]
def C1w(a b:aG):SV->List It
 |.b true=>[.c a]
 |.b false=>[.c b]
 |c=>[.br (C3d (A20 c)) [.c a] [.c b]]
def C1b(b:aG):Option Ann->List It
 |none=>[.ff]
 |some ann=>[.lp ann b]
def C12(g:aC)(ps:List Nat)(asg body:aG):Option (List aC)->Option (List aC)->List It
 |some zs,none=>[.rf false g zs ps asg body]
 |some zs,some _=>[.rf true g zs ps asg body]
 |_,_=>[.ff]
def C5k(x:GX)(e:En):aG->List It
 |.skip=>[]
 |.region id ops dr=>C10 x.fa id ops.toList dr
 |.seq a b=>C0w a b (C1p x.fa.cuts (A9q b))
 |.cond c a b=>C1w a b (A23 e c)
 |.block id b=>[.c b,.blk id]
 |.loop b=>C1b b (C1p x.fa.loops (A9q b))
 |.rangeFunc g ps asg body=>C12 (A22 e g) ps.toList asg body (C1p x.fa.rounds (A9q body)) (C1p x.fa.rounds (C5g 1000000 (A9q body)))
 |.scope b=>[.c b]
 |.label _=>[]
 |_=>[.ff]
def C13(rs:List ResultVar)(w:Ow)(vs:List aC)(ag:Bool)(n:Nat)(zs:List aC):SV->List It
 |.own k off=>[.re rs (vs++[A20 (B0o ag off n (B0s w k))])]
 |.v (.pointer (some p))=>[.ex zs [],.rc rs vs p ag]
 |_=>[.ff]
def W4:Nat->GX->List It->En->Ow->Heap->Prop
 |0,_,_,_,_,_=>True
 |n+1,x,[],e,w,h=>W4 n x [.re x.rs []] e w h
 |n+1,x,.c (.exit id)::it,e,w,h=>W4 n x (C3a id it false) e w h
 |n+1,x,.c .ret::it,e,w,h=>W4 n x (C42 x.rs it) e w h
 |n+1,x,.c c::it,e,w,h=>W4 n x (C5k x e c++it) e w h
 |n+1,x,.cu ann a b::it,e,w,h=>∃J:LP,W4 n x (.c a :: .ct ann J::it) e w h/\W4 n x (.fa ann.zs [] :: .ch ann J b::it) e w h
 |n+1,x,.lp ann b::it,e,w,h=>∃(Inv:LP) (mu:LN),Inv (C1e ann e w) h/\W4 n x (.fa ann.zs [] :: .lh ann Inv mu b::it) e w h
 |n+1,x,.rf false g zs ps asg body::it,e,w,h=>A7z prog g h (fun args h1 J=>W4 n x [.ex zs [],.rd args ps asg body J none] (B4d e) [] h1) (fun h2=>W4 n x it e w h2)
 |n+1,x,.rf true g zs ps asg body::it,e,w,h=>A7y prog g h (fun args h1 J JR=>W4 n x [.ex zs [],.rd args ps asg body J (some JR)] (B4d e) [] h1) (fun h2=>W4 n x it e w h2) (fun h2=>W4 n x (.c .ret::it) e w h2)
 |n+1,x,.o _ [] _::it,e,w,h=>W4 n x it e w h
 |n+1,x,.o ops (o::l) gr::it,e,w,h=>W4 n x (C15 x e w ops gr o ++ .o ops l gr::it) e w h
 |n+1,x,.a _ _ _ []::it,e,w,h=>W4 n x it e w h
 |n+1,x,.a ops anc al (j::L)::it,e,w,h=>W4 n x (.an ops anc al j L (B8h j anc L (C5h (C00 al j false none)))::it) e w h
 |n+1,x,.an ops anc al j L []::it,e,w,h=>W4 n x (.o ops (A4x ops [j]) true :: .a ops anc al L::it) e w h
 |n+1,x,.an ops anc al j L (i::r)::it,e,w,h=>W4 n x (.o ops (A4x ops [j]) true :: .a ops anc al L::it) e w h/\W4 n x (.ar ops anc al j L i r::it) e w h
 |n+1,x,.ar ops anc al j L i []::it,e,w,h=>W4 n x (.o ops (A4x ops [i]) true :: .a ops anc al (j::C3c i L)::it) e w h
 |n+1,x,.ar ops anc al j L i (k::r)::it,e,w,h=>W4 n x (.o ops (A4x ops [i]) true :: .a ops anc al (j::C3c i L)::it) e w h/\W4 n x (.ar ops anc al j L k r::it) e w h
 |n+1,x,.gd t gs want o gr::it,e,w,h=>Br t (W4 n x (B4i o gr true want++it) ((gs,.b true)::e) w h) (W4 n x (B4i o gr false want++it) ((gs,.b false)::e) w h)
 |n+1,x,.blk _::it,e,w,h=>W4 n x it e w h
 |n+1,x,.put d y::it,e,w,h=>W4 n x it (Ke y e d) w h
 |n+1,x,.br t A B::it,e,w,h=>Br t (W4 n x (A++it) e w h) (W4 n x (B++it) e w h)
 |_+1,_,.ff::_,_,_,_=>False
 |n+1,x,.nc p d::it,e,w,h=>∃a,p=some a/\W4 n x it (Ke (.v (.pointer (some a))) e d) w h
 |n+1,x,.ix A m i c d::it,e,w,h=>∃a,A=some a/\0<=i/\i<(m:Int)/\W4 n x it (Ke (.v (.pointer (some (a.add (i.toNat*c))))) e d) w h
 |n+1,x,.iy s i d::it,e,w,h=>∃c:UInt8,(0<=i/\s[i.toNat]? = some c)/\W4 n x it (Ke (.v (.int .u8 c.toNat)) e d) w h
 |n+1,x,.cd p::it,e,w,h=>p/\W4 n x it e w h
 |n+1,x,.al d cs::it,e,w,h=>W4 n x it (Ke (.own (C01 d) 0) e d) ((C01 d,cs)::w) h
 |n+1,x,.st k cs::it,e,w,h=>W4 n x it e ((k,cs)::w) h
 |n+1,x,.ex (.int k _::zs) acc::it,e,w,h=>∃i:Int,W4 n x (.ex zs (acc++[.int k i])::it) e w h
 |n+1,x,.ex (.bool _::zs) acc::it,e,w,h=>∃b:Bool,W4 n x (.ex zs (acc++[.bool b])::it) e w h
 |n+1,x,.ex (.string _::zs) acc::it,e,w,h=>∃s:ByteArray,W4 n x (.ex zs (acc++[.string s])::it) e w h
 |n+1,x,.ex (.slice _ _ _::zs) acc::it,e,w,h=>∃(A:Option Addr) (m c:Nat),W4 n x (.ex zs (acc++[.slice A m c])::it) e w h
 |n+1,x,.ex (.pointer _::zs) acc::it,e,w,h=>∃p:Option Addr,W4 n x (.ex zs (acc++[.pointer p])::it) e w h
 |n+1,x,.ex (_::zs) acc::it,e,w,h=>∃v:aC,W4 n x (.ex zs (acc++[v])::it) e w h
 |n+1,x,.fa (.int k _::zs) acc::it,e,w,h=>∀i:Int,W4 n x (.fa zs (acc++[.int k i])::it) e w h
 |n+1,x,.fa (.bool _::zs) acc::it,e,w,h=>∀b:Bool,W4 n x (.fa zs (acc++[.bool b])::it) e w h
 |n+1,x,.fa (.string _::zs) acc::it,e,w,h=>∀s:ByteArray,W4 n x (.fa zs (acc++[.string s])::it) e w h
 |n+1,x,.fa (.slice _ _ _::zs) acc::it,e,w,h=>∀(A:Option Addr) (m c:Nat),W4 n x (.fa zs (acc++[.slice A m c])::it) e w h
 |n+1,x,.fa (.pointer _::zs) acc::it,e,w,h=>∀p:Option Addr,W4 n x (.fa zs (acc++[.pointer p])::it) e w h
 |n+1,x,.fa (_::zs) acc::it,e,w,h=>∀v:aC,W4 n x (.fa zs (acc++[v])::it) e w h
 |n+1,x,.fa [] vs :: .lh ann Inv mu b::it,e,w,_=>∀h,Inv vs h->W4 n x (.c b :: .le ann Inv mu vs h::it) (B4h ann.slots vs e) (B4g ann.owns (vs.drop ann.slots.length) w) h
 |n+1,x,.fa [] vs :: .ch ann J b::it,e,w,_=>∀h,J vs h->W4 n x (.c b::it) (B4h ann.slots vs e) (B4g ann.owns (vs.drop ann.slots.length) w) h
 |_+1,_,.le ann Inv mu vs h0::_,e,w,h=>Inv (C1e ann e w) h/\mu (C1e ann e w) h<mu vs h0
 |_+1,_,.ct ann J::_,e,w,h=>J (C1e ann e w) h
 |n+1,x,.ex [] vs :: .ld a true d::it,e,w,h=>cellsAt h a 0 vs (W4 n x it (Ke (.v (.agg (aD vs))) e d) w h)
 |n+1,x,.ex [] vs :: .ld a false d::it,e,w,h=>h.cell? a=some (A21 vs)/\W4 n x it (Ke (.v (A21 vs)) e d) w h
 |n+1,x,.ex [] vs :: .rs r h0 gr t d::it,e,w,h=>W4 n x (.rs1 r h0 gr (C0z t vs (No t).d) d::it) e w h
 |n+1,x,.rs1 r h0 gr v d::it,e,w,h=>r=v/\Grow gr h0 h (W4 n x it (Ke (.v v) e d) w h)
 |n+1,x,.ex [] vs :: .rd args ps asg body J JR::_,e,w,h=>args=vs/\W4 n x [.c asg,.c body,.rn J JR] (B81 ps vs e) w h
 |n+1,x,.ex [] vs :: .rc rs us a true::it,e,w,h=>cellsAt h a 0 vs (W4 n x (.re rs (us++[.agg (aD vs)])::it) e w h)
 |n+1,x,.ex [] vs :: .rc rs us a false::it,e,w,h=>h.cell? a=some (A21 vs)/\W4 n x (.re rs (us++vs)::it) e w h
 |_+1,_,.rn J _::_,_,_,h=>J h
 |_+1,_,.rt (some J)::_,_,_,h=>J h
 |_+1,_,.rt none::_,_,_,_=>False
 |n+1,x,.efV s t gr d::it,e,w,h=>wpH prog s (fun v h'=>W4 n x (.ex (B0q t) [] :: .rs v h gr t d::it) e w h') h
 |n+1,x,.efP s gr d::it,e,w,h=>wpH prog s (fun v h'=>∃a:Addr,v= .pointer (some a)/\Grow gr h h' (W4 n x it (Ke (.v (.pointer (some a))) e d) w h')) h
 |n+1,x,.efU s::it,e,w,h=>wpH prog s (fun _ h'=>W4 n x it e w h') h
 |n+1,x,.call false f us t gr d::it,e,w,h=>FCall prog f (aD us) h fun r h'=>W4 n x (.ex (B0q t) [] :: .rs r h gr t d::it) e w h'
 |n+1,x,.call true f us t gr d::it,e,w,h=>ECall prog f (aD us) h fun r h'=>W4 n x (.ex (B0q t) [] :: .rs r h gr t d::it) e w h'
 |n+1,x,.yc l us t d::it,e,w,h=>YCall prog l (aD us) h fun r h'=>W4 n x (.ex (B0q t) [] :: .rs r h false t d::it) e w h'
 |_+1,x,.re [] vs::_,_,_,h=>x.K (Pk vs) h
 |n+1,x,.re (.tmp t::rs) vs::it,e,w,h=>W4 n x (.re rs (vs++[A20 (A8e e t)])::it) e w h
 |n+1,x,.re (.cell a t::rs) vs::it,e,w,h=>W4 n x (C13 rs w vs (No t).ag (Kx t) (No t).zs (A8e e a)++it) e w h
 |_+1,_,_,_,_,_=>False
def Gen(_ _:Prop):Prop:=True
def C61{a:Prop}:Gen a a:=trivial
