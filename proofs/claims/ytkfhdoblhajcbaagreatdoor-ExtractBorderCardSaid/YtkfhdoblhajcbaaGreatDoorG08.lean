/- A part. -/
import Derived.Test.YtkfhdoblhajcbaaGreatDoorG06
import Derived.Test.YtkfhdoblhajcbaaGreatDoorG07
open Go.Proofs.Tryz
set_option linter.all false
open List renaming toArray->aD
open _root_.Go renaming Value->aC,TypeId->aE,Oper->aF,Code->aG,Operand->aH
namespace Go.Proofs.YtkfhdoblhajcbaaGreatDoor
open Go
inductive SV where
 | v (v:aC)
 | b (b:Bool)
 | n (k:IntKind) (n:Int)
 | own (k off:Nat)
abbrev En:=List (Nat × SV)
abbrev Ow:=List (Nat × List aC)
structure GX where
 fa:FnAnn
 rs:List ResultVar
 own:List Nat
 wr:List Nat
 K:VP
inductive It where
 | c (c:aG)
 | o (ops l:List aF) (gr:Bool)
 | a (ops:List aF) (anc:List (List Nat)) (al:List (Nat × List Nat)) (l:List Nat)
 | an (ops:List aF) (anc:List (List Nat)) (al:List (Nat × List Nat)) (j:Nat) (L r:List Nat)
 | ar (ops:List aF) (anc:List (List Nat)) (al:List (Nat × List Nat)) (j:Nat) (L:List Nat) (i:Nat) (r:List Nat)
 | gd (t:Bool) (gs:Nat) (want:Bool) (o:aF) (gr:Bool)
 | blk (id:Nat)
 | put (d:Option Nat) (x:SV)
 | br (t:Bool) (A B:List It)
 | ff
 | nc (p:Option Addr) (d:Option Nat)
 | ix (A:Option Addr) (n:Nat) (i:Int) (c:Nat) (d:Option Nat)
 | iy (s:ByteArray) (i:Int) (d:Option Nat)
 | cd (p:Prop)
 | al (d:Option Nat) (cs:List aC)
 | st (k:Nat) (cs:List aC)
 | ex (zs acc:List aC)
 | fa (zs acc:List aC)
 | ld (a:Addr) (ag:Bool) (d:Option Nat)
 | efV (s:Sem aC) (t:aE) (gr:Bool) (d:Option Nat)
 | efP (s:Sem aC) (gr:Bool) (d:Option Nat)
 | efU (s:Sem Unit)
 | call (e:Bool) (f:Nat) (args:List aC) (t:aE) (gr:Bool) (d:Option Nat)
 | yc (l:Nat) (args:List aC) (t:aE) (d:Option Nat)
 | rs (r:aC) (h:Heap) (gr:Bool) (t:aE) (d:Option Nat)
 | rs1 (r:aC) (h:Heap) (gr:Bool) (v:aC) (d:Option Nat)
 | lp (ann:Ann) (b:aG)
 | lh (ann:Ann) (Inv:LP) (mu:LN) (b:aG)
 | le (ann:Ann) (Inv:LP) (mu:LN) (vs:List aC) (h:Heap)
 | cu (ann:Ann) (a b:aG)
 | ct (ann:Ann) (J:LP)
 | ch (ann:Ann) (J:LP) (b:aG)
 | rf (lv:Bool) (g:aC) (zs:List aC) (ps:List Nat) (asg body:aG)
 | rd (args:List aC) (ps:List Nat) (asg body:aG) (J:Heap->Prop) (JR:Option (Heap->Prop))
 | rn (J:Heap->Prop) (JR:Option (Heap->Prop))
 | rt (JR:Option (Heap->Prop))
 | re (r:List ResultVar) (vs:List aC)
 | rc (r:List ResultVar) (vs:List aC) (a:Addr) (ag:Bool)
def C2t{α:Type}:List (Nat × α)->Nat->Bool->α->α
 | _,_,true,v=>v
 | [],_,false,v=>v
 | (k,v)::r,d,false,_=>C2t r d (k==d) v
def B2i{α:Type}(z:α):List (Nat × α)->Nat->Bool->α->α
 | _,_,true,v=>v
 | [],_,false,_=>z
 | (k,v)::r,d,false,_=>B2i z r d (k==d) v
def A95:List Nat->Nat->Bool->Bool
 | _,_,true=>true
 | [],_,false=>false
 | k::r,d,false=>A95 r d (k==d)
def B7i{α:Type}:List (Nat × α)->Nat->Bool->Option α->Option α
 | _,_,true,v=>v
 | [],_,false,_=>none
 | (k,v)::r,d,false,_=>B7i r d (k==d) (some v)
def B94{α:Type}(l:List (Nat × α)):Option Nat->Option α
 | some i=>B7i l i false none
 | none=>none
def B98(x:Nat):Bool->List Nat->List Nat->List Nat
 | true,r,_=>r
 | false,_,s=>x::s
def C0r(i:Nat):List Nat->List Nat
 | []=>[]
 | x::L=>B98 x (x==i) L (C0r i L)
def B87(x:Nat):Bool->List Nat->List Nat
 | true,_=>[]
 | false,s=>x::s
def C19(i:Nat):List Nat->List Nat
 | []=>[]
 | x::L=>B87 x (x==i) (C19 i L)
def B5n(a:List Nat):List Nat->Bool
 | []=>true
 | x::r=> !A95 a x false&&B5n a r
def B8s(i:Nat):Bool->List Nat->List Nat
 | true,s=>i::s
 | false,s=>s
def B62(j:Nat)(anc:List (List Nat))(L:List Nat):List Nat->List Nat
 | []=>[]
 | i::r=>B8s i (A95 L i false && !A95 (anc.getD i []) j false&&B5n (anc.getD i []) (C19 i L)) (B62 j anc L r)
def C2r:Option (List Nat)->List Nat
 | none=>[]
 | some l=>l
def B8p(x:Nat):Bool->List Nat->List Nat
 | true,l=>l
 | false,l=>x::l
def B5q(l:List Nat):List Nat->List Nat
 | []=>l
 | x::r=>B5q (B8p x (A95 l x false) l) r
def B91:Ground->Bool
 | .textOnly _=>false
 | .gcOnly _=>false
 | _=>true
def B97(acc:List (List Nat))(l:List Nat)(j:Nat):Bool->List Nat
 | true=>B5q l (j::acc.getD j [])
 | false=>l
def B5y(acc:List (List Nat))(l:List Nat):List Edge->List Nat
 | []=>l
 | ⟨j,g⟩::r=>B5y acc (B97 acc l j (B91 g)) r
def B5z(acc:List (List Nat)):List aF->List (List Nat)
 | []=>acc
 | o::r=>B5z (acc++[B5y acc [] o.after.toList]) r
def C1i:Option Nat->Option Nat->Option Nat
 | some i,_=>some i
 | none,x=>x
def A7y:aG->Option Nat
 | .region id _ _=>some id
 | .seq a b=>C1i (A7y a) (A7y b)
 | .block _ b=>A7y b
 | .loop b=>A7y b
 | .scope b=>A7y b
 | .cond _ a b=>C1i (A7y a) (A7y b)
 | _=>none
abbrev La:=Nat × List Nat × List (Nat × Nat) × List aC
def B7k:List La->List (Nat × Ann)
 | []=>[]
 | (i,s,o,z)::r=>(i,⟨s,o,z,⟨[],[]⟩⟩)::B7k r
def C0q:List (Nat × List Nat)->List (Nat × List Nat × List (List Nat))
 | []=>[]
 | (i,l)::r=>(i,l,[])::C0q r
def wrt:aG->List aF
 | .region _ ops _=>ops.toList
 | .seq a b | .cond _ a b | .rangeFunc _ _ a b=>wrt a++wrt b
 | .block _ b | .loop b | .scope b=>wrt b
 | _=>[]
def C38(own:List Nat)(o:aF):Option Nat:=match o.op,o.dst with
 | .alloc _,some d | .box _ _,some d=>bif has own d then some d else none
 | _,_=>none
def B9u(own:List Nat)(a:Ann)(ops:List aF):Ann:={ a with lim:=⟨ops.filterMap (·.dst),a.owns.map (·.1)++ops.filterMap (C38 own)⟩ }
def A1z(i:Nat):aG->List aF
 | .loop b=>bif I9 b==some i then wrt b else A1z i b
 | .seq a b | .cond _ a b | .rangeFunc _ _ a b=>A1z i a++A1z i b
 | .block _ b | .scope b=>A1z i b
 | _=>[]
def Vx(i:Nat):aG->List aF
 | .seq a b=>bif I9 b==some i then wrt a else Vx i a++Vx i b
 | .cond _ a b | .rangeFunc _ _ a b=>Vx i a++Vx i b
 | .block _ b | .loop b | .scope b=>Vx i b
 | _=>[]
def B53(own:List Nat)(c:aG)(fa:FnAnn):FnAnn:={ fa with loops:=fa.loops.map fun x=>(x.1,B9u own x.2 (A1z x.1 c)),cuts:=fa.cuts.map fun x=>(x.1,B9u own x.2 (Vx x.1 c)) }
def C2q(n:Nat):Option Nat->Option Nat
 | some i=>some (i+n)
 | none=>none
def B99:aC->SV
 | .bool b=>.b b
 | .int k n=>.n k n
 | v=>.v v
def A6n(e:En)(t:Nat):SV:=B2i (.v undef) e t false (.v undef)
def A94(w:Ow)(k:Nat):List aC:=B2i [] w k false []
def A0k(e:En):aH->SV
 | .tmp t=>A6n e t
 | .const v=>B99 v
 | .global g=>.v (.pointer (some ⟨g,0,none⟩))
 | .func f=>.v (.func (.func f) #[] #[])
def A0h:SV->aC
 | .v v=>v
 | .b b=>.bool b
 | .n k n=>.int k n
 | .own _ _=>undef
def A0j(e:En)(x:aH):aC:=A0h (A0k e x)
def Ry(e:En):List aH->List aC
 | []=>[]
 | x::r=>A0j e x::Ry e r
def B2n(e:En):List (Nat × aH)->List (Nat × aC)
 | []=>[]
 | (i,x)::r=>(i,A0j e x)::B2n e r
def C0s:aC->Bool
 | .bool b=>b
 | _=>false
def B8w:aC->Int
 | .int _ n=>n
 | _=>0
def B2j(e:En):Option aH->Option Int
 | none=>none
 | some x=>some (B8w (A0j e x))
def A96:aC->List aC
 | .agg ⟨l⟩=>l
 | v=>[v]
def A0i:List aC->aC
 | v::_=>v
 | []=>undef
def B4a(n:Nat):Bool->List aC->SV
 | true,cs=>.v (.agg (aD (cs.take n)))
 | false,cs=>.v (A0i cs)
def A90(ag:Bool)(off n:Nat)(cs:List aC):SV:=B4a n ag (cs.drop off)
def B5i(cs:List aC)(off:Nat)(vs:List aC):List aC:=cs.take off++vs++cs.drop (off+vs.length)
def B1j:IntKind->Int->Int
 | .i64,n=>C4 n
 | .i32,n=>C33 n
 | .u64,n=>C8 n
 | .u32,n=>I8 n
 | .u8,n=>wu8 n
 | k,n=>k.wrap n
def B60:IntKind->Nat
 | .i8 | .u8=>8
 | .i16 | .u16=>16
 | .i32 | .u32=>32
 | .i64 | .u64=>64
def Zg(d:Option Nat)(k:IntKind)(n:Int):List It:=[.put d (.v (.int k n))]
def A2h(d:Option Nat)(b:Bool):List It:=[.put d (.v (.bool b))]
def B96:List aC->List aC->Bool->Bool
 | .string a::_,.string b::_,r=>(a.toList==b.toList)&&r
 | _,_,_=>false
def B2o:List (Nat × aE)->List aC->List aC->Bool
 | [],_,_=>true
 | (o,_)::r,xs,ys=>B96 (xs.drop o) (ys.drop o) (B2o r xs ys)
def A56:TD->List (Nat × aE)
 | .t fs=>fs
 | _=>[]
def C1j(b:Int)(lit:Bool)(A:List It):List It:=match lit with
 | true=>A
 | false=>[.br (decide (b=0)) [.ff] A]
def C1m(b:Int)(lit:Bool)(A:List It):List It:=match lit with
 | true=>A
 | false=>[.br (decide (b<0)) [.ff] A]
def B5h(l:Bool)(t:TD)(d:Option Nat):BinOp->aC->aC->List It
 | .add,.int k a,.int _ b=>Zg d k (B1j k (a+b))
 | .sub,.int k a,.int _ b=>Zg d k (B1j k (a-b))
 | .mul,.int k a,.int _ b=>Zg d k (B1j k (a*b))
 | .quo,.int k a,.int _ b=>C1j b l (Zg d k (B1j k (a.tdiv b)))
 | .rem,.int k a,.int _ b=>C1j b l (Zg d k (a.tmod b))
 | .shl,.int k a,.int _ b=>C1m b l (Zg d k (B1j k (a*2^(min b.toNat (B60 k)))))
 | .shr,.int k a,.int _ b=>C1m b l (Zg d k (a.fdiv (2^(min b.toNat (B60 k)))))
 | .and,.int k a,.int _ b=>Zg d k (Zh k a b)
 | .or,.int k a,.int _ b=>Zg d k (bor k a b)
 | .xor,.int k a,.int _ b=>Zg d k (C3c k a b)
 | .andNot,.int k a,.int _ b=>Zg d k (B73 k a b)
 | .eql,.int _ a,.int _ b=>A2h d (a==b)
 | .neq,.int _ a,.int _ b=>A2h d (a != b)
 | .lss,.int _ a,.int _ b=>A2h d (decide (a<b))
 | .leq,.int _ a,.int _ b=>A2h d (decide (a<=b))
 | .gtr,.int _ a,.int _ b=>A2h d (decide (a>b))
 | .geq,.int _ a,.int _ b=>A2h d (decide (a>=b))
 | .add,.string a,.string b=>[.cd (((a.size+b.size:Nat):Int)<=9223372036854775807),.put d (.v (.string (a++b)))]
 | .eql,.string a,.string b=>A2h d (a.toList==b.toList)
 | .neq,.string a,.string b=>A2h d (!(a.toList==b.toList))
 | .eql,.slice a _ _,.slice _ _ _=>A2h d a.isNone
 | .neq,.slice a _ _,.slice _ _ _=>A2h d (!a.isNone)
 | .eql,.bool a,.bool b=>A2h d (a==b)
 | .neq,.bool a,.bool b=>A2h d (!(a==b))
 | .eql,.agg ⟨a⟩,.agg ⟨b⟩=>A2h d (B2o (A56 t) a b)
 | .neq,.agg ⟨a⟩,.agg ⟨b⟩=>A2h d (!B2o (A56 t) a b)
 | _,_,_=>[.ff]
def B89(t:TD)(d:Option Nat):BinOp->SV->SV->List It
 | .eql,.n _ a,.n _ b=>[.put d (.b (a.natAbs==b.natAbs))]
 | .neq,.n _ a,.n _ b=>[.put d (.b (!(a.natAbs==b.natAbs)))]
 | op,x,.n k b=>B5h true t d op (A0h x) (.int k b)
 | op,x,y=>B5h false t d op (A0h x) (A0h y)
def Jj(t:aE):Nat:=(Lj t).n
def A3h(y:Nat):Option Int->List It
 | none=>[]
 | some i=>[.cd (0<=i/\i<=(y:Int))]
def Lk(y:Nat):Option Int->Nat
 | none=>y
 | some i=>i.toNat
def B8c(d:Option Nat):TD->aC->Option Int->Option Int->Option Int->List It
 | .l e,.slice A _ c,some l,some h,some m=>[.cd (0<=m/\m<=(c:Int)),.cd (0<=h/\h<=(m.toNat:Int)),.cd (0<=l/\l<=(h.toNat:Int)),.put d (.v (.slice (T7 A m.toNat l.toNat (Jj e)) (h.toNat-l.toNat) (m.toNat-l.toNat)))]
 | .s,.string s,l,h,_=>A3h s.size h++(A3h (Lk s.size h) l++[.put d (.v (.string (s.extract (Lk 0 l) (Lk s.size h))))])
 | .l e,.slice A n c,l,h,_=>A3h c h++(A3h (Lk n h) l++[.put d (.v (.slice (T7 A c (Lk 0 l) (Jj e)) (Lk n h-Lk 0 l) (c-Lk 0 l)))])
 | .r n e,.pointer A,l,h,_=>A3h n h++(A3h (Lk n h) l++[.put d (.v (.slice (T7 A n (Lk 0 l) (Jj e)) (Lk n h-Lk 0 l) (n-Lk 0 l)))])
 | _,_,_,_,_=>[.ff]
def B8u(n c:Nat)(d:Option Nat)(i:Int):SV->List It
 | .own k off=>[.put d (.own k (off+i.natAbs*c))]
 | .v (.pointer (some a))=>[.cd (0<=i/\i<((n:Nat):Int)),.put d (.v (.pointer (some (a.add (i.toNat*c)))))]
 | _=>[.ff]
def B8v(d:Option Nat)(i:Int):TD->SV->List It
 | .l e,.v (.slice A n _)=>[.ix A n i (Jj e) d]
 | .r n e,x=>B8u n (Jj e) d i x
 | _,_=>[.ff]
def B8y(i:Int)(d:Option Nat):TD->aC->List It
 | .s,.string s=>[.iy s i d]
 | .r _ e,.agg ⟨cs⟩=>[.put d (A90 (Lj e).ag (i.natAbs*Jj e) (Jj e) cs)]
 | _,_=>[.ff]
def A6o(t:TD)(f:Nat):Nat × aE:=(A56 t).getD f (0,0)
def A55:Nat × aE->Nat
 | (a,_)=>a
def A91:Nat × aE->aE
 | (_,b)=>b
def B93(o:Nat)(d:Option Nat):SV->List It
 | .own k off=>[.put d (.own k (off+o))]
 | .v (.pointer (some a))=>[.put d (.v (.pointer (some (a.add o))))]
 | _=>[.ff]
def B9d(i:Nat):TD->Nat
 | .r _ e=>i*Jj e
 | t=>A55 (A6o t i)
def B61(t:TD):List aC->List (Nat × aC)->List aC
 | cs,[]=>cs
 | cs,(i,v)::r=>B61 t (B5i cs (B9d i t) (A96 v)) r
def B5u:TD->Bool
 | .l _=>true
 | _=>false
def B4d(d:Option Nat)(x:SV):TD->aC->List It
 | .i k,.int _ n=>Zg d k (B1j k n)
 | _,_=>[.put d x]
def B9a(t s:aE)(tt:TD)(x:SV)(gr:Bool)(d:Option Nat):Bool->List It
 | true=>[.efV (convert s t (A0h x)) t gr d]
 | false=>B4d d x tt (A0h x)
def B4b(d:Option Nat):TD->aC->List It
 | _,.slice _ n _=>Zg d .i64 ((n:Nat):Int)
 | _,.string s=>Zg d .i64 ((s.size:Nat):Int)
 | .r n _,_=>Zg d .i64 ((n:Nat):Int)
 | _,_=>[.ff]
def B4e(d:Option Nat):aC->List It
 | .slice _ _ c=>Zg d .i64 ((c:Nat):Int)
 | _=>[.ff]
def B8o:Bool->aC->aC->aC
 | true,.int k r,.int _ y=>.int k (if y>r then y else r)
 | false,.int k r,.int _ y=>.int k (if y<r then y else r)
 | _,r,_=>r
def B5o(m:Bool)(r:aC):List aC->aC
 | []=>r
 | y::l=>B5o m (B8o m r y) l
def B5t:aC->IntKind
 | .int k _=>k
 | _=>.i64
def B5p(m:Bool)(d:Option Nat):List aC->List It
 | v::l=>[.put d (.v (B5o m v l))]
 | _=>[.ff]
def C2p(f:Nat):Bool->Bool
 | true=>false
 | false=>A95 B4c f false
def B4f(B1j:List Nat)(sl:Bool)(vs:List aC)(t:aE)(gr:Bool)(d:Option Nat):aC->List It
 | .func (.func f) ⟨a⟩ ⟨b⟩=>[.call (C2p f sl) f (a++(vs++b)) t (gr && !sl && !A95 B1j f false) d]
 | .func (.yield l) _ _=>[.yc l vs t d]
 | _=>[.ff]
def B8x:aH->Bool
 | .tmp _=>true
 | _=>false
def B9c(x:GX)(e:En)(t:aE)(gr:Bool)(d:Option Nat):Callee->List aH->Array aE->List It
 | .value f,us,_=>B4f x.wr (B8x f) (Ry e us) t gr d (A0j e f)
 | .builtin .append,us,ts=>[.efV (Builtin.append_ ts t (aD (Ry e us))) t (gr && !A95 x.wr 1000000000 false) d]
 | .builtin .copy,us,ts=>[.efV (Builtin.copy_ ts t (aD (Ry e us))) t false d]
 | .builtin .len,us,ts=>B4b d (Lj (ts.toList.headD 0)).d (A0i (Ry e us))
 | .builtin .cap,us,_=>B4e d (A0i (Ry e us))
 | .builtin .max,us,_=>B5p true d (Ry e us)
 | .builtin .min,us,_=>B5p false d (Ry e us)
 | _,_,_=>[.ff]
def B7j:Option Nat->Nat
 | some d=>d
 | none=>0
def A93(d:Option Nat)(cs:List aC)(s:Sem aC)(gr:Bool):Bool->List It
 | true=>[.al d cs]
 | false=>[.efP s gr d]
def B8j(d:Option Nat)(a b:SV):SV->List It
 | .b true=>[.put d a]
 | .b false=>[.put d b]
 | c=>[.br (C0s (A0h c)) [.put d a] [.put d b]]
def B8r(w:Ow)(d:Option Nat)(zs:List aC)(ag:Bool)(n:Nat):SV->List It
 | .own k off=>[.put d (A90 ag off n (A94 w k))]
 | .v (.pointer (some a))=>[.ex zs [],.ld a ag d]
 | _=>[.ff]
def B8n(d:Option Nat):SV->List It
 | .v (.pointer p)=>[.nc p d]
 | y=>[.put d y]
def B86(d:Option Nat):UnOp->SV->List It
 | .not,.b b=>[.put d (.b (!b))]
 | .not,y=>A2h d (!C0s (A0h y))
 | .neg,y=>Zg d (B5t (A0h y)) (B1j (B5t (A0h y)) (0-B8w (A0h y)))
 | _,_=>[.ff]
def B95(d:Option Nat)(i:Nat):aC->List It
 | .tuple ⟨vs⟩=>[.put d (.v (vs.getD i undef))]
 | _=>[.ff]
def B8a(w:Ow)(t:aE)(z:aC):SV->List It
 | .own k off=>[.st k (B5i (A94 w k) off (A96 z))]
 | y=>[.efU (Instr.storeAt t (A0h y) z)]
def C2s(x:GX)(e:En)(w:Ow)(gr:Bool)(t:aE)(d:Option Nat):Op->List It
 | .move y=>[.put d (A0k e y)]
 | .assign y=>[.put d (A0k e y)]
 | .pick c a b=>B8j d (A0k e a) (A0k e b) (A0k e c)
 | .load t y=>B8r w d (Lj t).zs (Lj t).ag (Jj t) (A0k e y)
 | .fieldAddr s y f=>B93 (A55 (A6o (Lj s).d f)) d (A0k e y)
 | .nilCheck y=>B8n d (A0k e y)
 | .panic _=>[.ff]
 | .makeInterface _ _=>[.put d (.v undef)]
 | .indexAddr t y i=>B8v d (B8w (A0j e i)) (Lj t).d (A0k e y)
 | .index t y i=>B8y (B8w (A0j e i)) d (Lj t).d (A0j e y)
 | .slice t y l h m=>B8c d (Lj t).d (A0j e y) (B2j e l) (B2j e h) (B2j e m)
 | .binOp op t y z _=>B89 (Lj t).d d op (A0k e y) (A0k e z)
 | .unOp op _ y=>B86 d op (A0k e y)
 | .convert s t y=>B9a t s (Lj t).d (A0k e y) gr d (B5u (Lj s).d||B5u (Lj t).d)
 | .extract y i=>B95 d i (A0j e y)
 | .field s y f=>[.put d (A90 (Lj (A91 (A6o (Lj s).d f))).ag (A55 (A6o (Lj s).d f)) (Jj (A91 (A6o (Lj s).d f))) (A96 (A0j e y)))]
 | .build t ps=>[.put d (.v (.agg (aD (B61 (Lj t).d (Lj t).zs (B2n e ps.toList)))))]
 | .makeFunc f a b=>[.put d (.v (.func f (aD (Ry e a.toList)) (aD (Ry e b.toList))))]
 | .call c=>B9c x e t gr d c.callee c.args.toList c.argTypes
 | .alloc t=>A93 d (Lj t).zs (Instr.alloc t true (.tuple #[])) gr (A95 x.own (B7j d) false)
 | .box t y=>A93 d (A96 (A0j e y)) (Instr.box t (A0j e y)) gr (A95 x.own (B7j d) false)
 | .store t y z=>B8a w t (A0j e z) (A0k e y)
 | .makeSlice t l c=>[.efV (Instr.makeSlice t (A0j e l) (A0j e c)) t gr d]
 | .buildSlice t n ps=>[.efV (Instr.buildSlice t n (aD (B2n e ps.toList))) t gr d]
 | _=>[.ff]
def B5w(n:Nat):Bool->List aC->aC
 | true,vs=>.agg (aD (vs.take n))
 | false,vs=>A0i vs
def B5x:List aE->List aC->List aC
 | [],_=>[]
 | t::r,vs=>B5w (Jj t) (Lj t).ag vs::B5x r (vs.drop (Jj t))
def B5g:List aE->List aC
 | []=>[]
 | t::r=>(Lj t).zs++B5g r
def B8d(zs:List aC):TD->List aC
 | .u ts=>B5g ts
 | _=>zs
def A92(t:aE):List aC:=B8d (Lj t).zs (Lj t).d
def B8e(t:aE)(vs:List aC):TD->aC
 | .u ts=>.tuple (aD (B5x ts vs))
 | _=>B5w (Jj t) (Lj t).ag vs
def Iu(x:SV)(e:En):Option Nat->En
 | some d=>(d,x)::e
 | none=>e
def B2l:List Nat->List aC->En->En
 | s::r,v::vs,e=>(s,.v v)::B2l r vs e
 | _,_,e=>e
def B2k:List (Nat × Nat)->List aC->Ow->Ow
 | [],_,w=>w
 | (k,n)::r,vs,w=>(k,vs.take n)::B2k r (vs.drop n) w
def B5s(e:En):List Nat->List aC
 | []=>[]
 | s::r=>A0h (A6n e s)::B5s e r
def B5r(w:Ow):List (Nat × Nat)->List aC
 | []=>[]
 | (k,_)::r=>A94 w k++B5r w r
def B8t(ann:Ann)(e:En)(w:Ow):List aC:=B5s e ann.slots++B5r w ann.owns
def C0p(id:Nat):List It->Bool->List It
 | l,true=>l
 | [],false=>[]
 | .blk j::r,false=>C0p id r (j==id)
 | _::r,false=>C0p id r false
def C1f(rs:List ResultVar):List It->List It
 | []=>[.re rs []]
 | .rn _ JR::_=>[.rt JR]
 | _::r=>C1f rs r
def B8m(k:Nat)(e:En):SV->En
 | .own _ _=>e
 | x=>(k,x)::e
def B2h:En->En
 | []=>[]
 | (k,x)::r=>B8m k (B2h r) x
def B8z:List aF->List aF
 | o::_=>[o]
 | []=>[]
def A3g(l:List aF):List Nat->List aF
 | []=>[]
 | i::r=>B8z (l.drop i)++A3g l r
def B2m(o:aF)(gr:Bool):Bool->Bool->List It
 | true,true=>[.o [] [o] gr]
 | false,false=>[.o [] [o] gr]
 | _,_=>[.put o.dst (.v undef)]
def B5k:List aF->Nat
 | o::_=>B7j o.dst
 | []=>0
def B5m:List Nat->List aC->En->En
 | s::r,v::vs,e=>B5m r vs ((s,.v v)::e)
 | _,_,e=>e
def B5l(n:Nat):List aF->List Nat
 | []=>[]
 | _::r=>n::B5l (n+1) r
def B8l(ops:List aF):Option (List Nat × List (List Nat))->List Nat
 | some (l,_)=>l
 | none=>B5l 0 ops
def B90:Op->Bool
 | .store _ _ _=>false
 | _=>true
def B92(gs:Nat)(want:Bool)(o:aF)(gr:Bool):SV->List It
 | .b b=>B2m o gr b want
 | .v (.bool t)=>[.gd t gs want o gr]
 | _=>[.put o.dst (.v undef)]
def B8k(x:GX)(e:En)(w:Ow)(ops:List aF)(gr:Bool):aF->List It
 | ⟨d,op,t,_,_,none⟩=>C2s x e w (gr&&B90 op) t d op
 | ⟨d,op,t,p,a,some (j,want)⟩=>B92 (B5k (ops.drop j)) want ⟨d,op,t,p,a,none⟩ gr (A6n e (B5k (ops.drop j)))
def B8g(ops:List aF)(o:Option (List Nat × List (List Nat))):Option (List (Nat × List Nat))->List It
 | none=>match o with
  | none=>[.o ops ops true]
  | some (l,_)=>[.o ops (A3g ops l) true]
 | some al=>[.a ops (B5z [] ops) al (B8l ops o)]
def B8f(fa:FnAnn)(id:Nat)(ops:List aF):Bool->List It
 | false=>[.o ops ops false]
 | true=>B8g ops (B7i fa.orders id false none) (B7i fa.alts id false none)
def B8b(a b:aG):Option Ann->List It
 | none=>[.c a,.c b]
 | some ann=>[.cu ann a b]
def B9b(a b:aG):SV->List It
 | .b true=>[.c a]
 | .b false=>[.c b]
 | c=>[.br (C0s (A0h c)) [.c a] [.c b]]
def B8q(b:aG):Option Ann->List It
 | none=>[.ff]
 | some ann=>[.lp ann b]
def B8h(g:aC)(ps:List Nat)(asg body:aG):Option (List aC)->Option (List aC)->List It
 | some zs,none=>[.rf false g zs ps asg body]
 | some zs,some _=>[.rf true g zs ps asg body]
 | _,_=>[.ff]
def C2u(x:GX)(e:En):aG->List It
 | .skip=>[]
 | .region id ops dr=>B8f x.fa id ops.toList dr
 | .seq a b=>B8b a b (B94 x.fa.cuts (A7y b))
 | .cond c a b=>B9b a b (A0k e c)
 | .block id b=>[.c b,.blk id]
 | .loop b=>B8q b (B94 x.fa.loops (A7y b))
 | .rangeFunc g ps asg body=>B8h (A0j e g) ps.toList asg body (B94 x.fa.rounds (A7y body)) (B94 x.fa.rounds (C2q 1000000 (A7y body)))
 | .scope b=>[.c b]
 | .label _=>[]
 | _=>[.ff]
def B8i(rs:List ResultVar)(w:Ow)(vs:List aC)(ag:Bool)(n:Nat)(zs:List aC):SV->List It
 | .own k off=>[.re rs (vs++[A0h (A90 ag off n (A94 w k))])]
 | .v (.pointer (some p))=>[.ex zs [],.rc rs vs p ag]
 | _=>[.ff]
def U1:Nat->GX->List It->En->Ow->Heap->Prop
 | 0,_,_,_,_,_=>True
 | n+1,x,[],e,w,h=>U1 n x [.re x.rs []] e w h
 | n+1,x,.c (.exit id)::it,e,w,h=>U1 n x (C0p id it false) e w h
 | n+1,x,.c .ret::it,e,w,h=>U1 n x (C1f x.rs it) e w h
 | n+1,x,.c c::it,e,w,h=>U1 n x (C2u x e c++it) e w h
 | n+1,x,.cu ann a b::it,e,w,h=>∃ J:LP,U1 n x (.c a :: .ct ann J::it) e w h/\U1 n x (.fa ann.zs [] :: .ch ann J b::it) e w h
 | n+1,x,.lp ann b::it,e,w,h=>∃ (Inv:LP) (mu:LN),Inv (B8t ann e w) h/\U1 n x (.fa ann.zs [] :: .lh ann Inv mu b::it) e w h
 | n+1,x,.rf false g zs ps asg body::it,e,w,h=>A66 prog g h (fun args h1 J=>U1 n x [.ex zs [],.rd args ps asg body J none] (B2h e) [] h1) (fun h2=>U1 n x it e w h2)
 | n+1,x,.rf true g zs ps asg body::it,e,w,h=>A65 prog g h (fun args h1 J JR=>U1 n x [.ex zs [],.rd args ps asg body J (some JR)] (B2h e) [] h1) (fun h2=>U1 n x it e w h2) (fun h2=>U1 n x (.c .ret::it) e w h2)
 | n+1,x,.o _ [] _::it,e,w,h=>U1 n x it e w h
 | n+1,x,.o ops (o::l) gr::it,e,w,h=>U1 n x (B8k x e w ops gr o ++ .o ops l gr::it) e w h
 | n+1,x,.a _ _ _ []::it,e,w,h=>U1 n x it e w h
 | n+1,x,.a ops anc al (j::L)::it,e,w,h=>U1 n x (.an ops anc al j L (B62 j anc L (C2r (B7i al j false none)))::it) e w h
 | n+1,x,.an ops anc al j L []::it,e,w,h=>U1 n x (.o ops (A3g ops [j]) true :: .a ops anc al L::it) e w h
 | n+1,x,.an ops anc al j L (i::r)::it,e,w,h=>U1 n x (.o ops (A3g ops [j]) true :: .a ops anc al L::it) e w h/\U1 n x (.ar ops anc al j L i r::it) e w h
 | n+1,x,.ar ops anc al j L i []::it,e,w,h=>U1 n x (.o ops (A3g ops [i]) true :: .a ops anc al (j::C0r i L)::it) e w h
 | n+1,x,.ar ops anc al j L i (k::r)::it,e,w,h=>U1 n x (.o ops (A3g ops [i]) true :: .a ops anc al (j::C0r i L)::it) e w h/\U1 n x (.ar ops anc al j L k r::it) e w h
 | n+1,x,.gd t gs want o gr::it,e,w,h=>Br t (U1 n x (B2m o gr true want++it) ((gs,.b true)::e) w h) (U1 n x (B2m o gr false want++it) ((gs,.b false)::e) w h)
 | n+1,x,.blk _::it,e,w,h=>U1 n x it e w h
 | n+1,x,.put d y::it,e,w,h=>U1 n x it (Iu y e d) w h
 | n+1,x,.br t A B::it,e,w,h=>Br t (U1 n x (A++it) e w h) (U1 n x (B++it) e w h)
 | _+1,_,.ff::_,_,_,_=>False
 | n+1,x,.nc p d::it,e,w,h=>∃ a,p=some a/\U1 n x it (Iu (.v (.pointer (some a))) e d) w h
 | n+1,x,.ix A m i c d::it,e,w,h=>∃ a,A=some a/\0<=i/\i<(m:Int)/\U1 n x it (Iu (.v (.pointer (some (a.add (i.toNat*c))))) e d) w h
 | n+1,x,.iy s i d::it,e,w,h=>∃ c:UInt8,(0<=i/\s[i.toNat]? = some c)/\U1 n x it (Iu (.v (.int .u8 c.toNat)) e d) w h
 | n+1,x,.cd p::it,e,w,h=>p/\U1 n x it e w h
 | n+1,x,.al d cs::it,e,w,h=>U1 n x it (Iu (.own (B7j d) 0) e d) ((B7j d,cs)::w) h
 | n+1,x,.st k cs::it,e,w,h=>U1 n x it e ((k,cs)::w) h
 | n+1,x,.ex (.int k _::zs) acc::it,e,w,h=>∃ i:Int,U1 n x (.ex zs (acc++[.int k i])::it) e w h
 | n+1,x,.ex (.bool _::zs) acc::it,e,w,h=>∃ b:Bool,U1 n x (.ex zs (acc++[.bool b])::it) e w h
 | n+1,x,.ex (.string _::zs) acc::it,e,w,h=>∃ s:ByteArray,U1 n x (.ex zs (acc++[.string s])::it) e w h
 | n+1,x,.ex (.slice _ _ _::zs) acc::it,e,w,h=>∃ (A:Option Addr) (m c:Nat),U1 n x (.ex zs (acc++[.slice A m c])::it) e w h
 | n+1,x,.ex (.pointer _::zs) acc::it,e,w,h=>∃ p:Option Addr,U1 n x (.ex zs (acc++[.pointer p])::it) e w h
 | n+1,x,.ex (_::zs) acc::it,e,w,h=>∃ v:aC,U1 n x (.ex zs (acc++[v])::it) e w h
 | n+1,x,.fa (.int k _::zs) acc::it,e,w,h=>∀ i:Int,U1 n x (.fa zs (acc++[.int k i])::it) e w h
 | n+1,x,.fa (.bool _::zs) acc::it,e,w,h=>∀ b:Bool,U1 n x (.fa zs (acc++[.bool b])::it) e w h
 | n+1,x,.fa (.string _::zs) acc::it,e,w,h=>∀ s:ByteArray,U1 n x (.fa zs (acc++[.string s])::it) e w h
 | n+1,x,.fa (.slice _ _ _::zs) acc::it,e,w,h=>∀ (A:Option Addr) (m c:Nat),U1 n x (.fa zs (acc++[.slice A m c])::it) e w h
 | n+1,x,.fa (.pointer _::zs) acc::it,e,w,h=>∀ p:Option Addr,U1 n x (.fa zs (acc++[.pointer p])::it) e w h
 | n+1,x,.fa (_::zs) acc::it,e,w,h=>∀ v:aC,U1 n x (.fa zs (acc++[v])::it) e w h
 | n+1,x,.fa [] vs :: .lh ann Inv mu b::it,e,w,_=>∀ h,Inv vs h->U1 n x (.c b :: .le ann Inv mu vs h::it) (B2l ann.slots vs e) (B2k ann.owns (vs.drop ann.slots.length) w) h
 | n+1,x,.fa [] vs :: .ch ann J b::it,e,w,_=>∀ h,J vs h->U1 n x (.c b::it) (B2l ann.slots vs e) (B2k ann.owns (vs.drop ann.slots.length) w) h
 | _+1,_,.le ann Inv mu vs h0::_,e,w,h=>Inv (B8t ann e w) h/\mu (B8t ann e w) h<mu vs h0
 | _+1,_,.ct ann J::_,e,w,h=>J (B8t ann e w) h
 | n+1,x,.ex [] vs :: .ld a true d::it,e,w,h=>cellsAt h a 0 vs (U1 n x it (Iu (.v (.agg (aD vs))) e d) w h)
 | n+1,x,.ex [] vs :: .ld a false d::it,e,w,h=>h.cell? a=some (A0i vs)/\U1 n x it (Iu (.v (A0i vs)) e d) w h
 | n+1,x,.ex [] vs :: .rs r h0 gr t d::it,e,w,h=>U1 n x (.rs1 r h0 gr (B8e t vs (Lj t).d) d::it) e w h
 | n+1,x,.rs1 r h0 gr v d::it,e,w,h=>r=v/\Grow gr h0 h (U1 n x it (Iu (.v v) e d) w h)
 | n+1,x,.ex [] vs :: .rd args ps asg body J JR::_,e,w,h=>args=vs/\U1 n x [.c asg,.c body,.rn J JR] (B5m ps vs e) w h
 | n+1,x,.ex [] vs :: .rc rs us a true::it,e,w,h=>cellsAt h a 0 vs (U1 n x (.re rs (us++[.agg (aD vs)])::it) e w h)
 | n+1,x,.ex [] vs :: .rc rs us a false::it,e,w,h=>h.cell? a=some (A0i vs)/\U1 n x (.re rs (us++vs)::it) e w h
 | _+1,_,.rn J _::_,_,_,h=>J h
 | _+1,_,.rt (some J)::_,_,_,h=>J h
 | _+1,_,.rt none::_,_,_,_=>False
 | n+1,x,.efV s t gr d::it,e,w,h=>wpH prog s (fun v h'=>U1 n x (.ex (A92 t) [] :: .rs v h gr t d::it) e w h') h
 | n+1,x,.efP s gr d::it,e,w,h=>wpH prog s (fun v h'=>∃ a:Addr,v= .pointer (some a)/\Grow gr h h' (U1 n x it (Iu (.v (.pointer (some a))) e d) w h')) h
 | n+1,x,.efU s::it,e,w,h=>wpH prog s (fun _ h'=>U1 n x it e w h') h
 | n+1,x,.call false f us t gr d::it,e,w,h=>FCall prog f (aD us) h fun r h'=>U1 n x (.ex (A92 t) [] :: .rs r h gr t d::it) e w h'
 | n+1,x,.call true f us t gr d::it,e,w,h=>ECall prog f (aD us) h fun r h'=>U1 n x (.ex (A92 t) [] :: .rs r h gr t d::it) e w h'
 | n+1,x,.yc l us t d::it,e,w,h=>YCall prog l (aD us) h fun r h'=>U1 n x (.ex (A92 t) [] :: .rs r h false t d::it) e w h'
 | _+1,x,.re [] vs::_,_,_,h=>x.K (Nt vs) h
 | n+1,x,.re (.tmp t::rs) vs::it,e,w,h=>U1 n x (.re rs (vs++[A0h (A6n e t)])::it) e w h
 | n+1,x,.re (.cell a t::rs) vs::it,e,w,h=>U1 n x (B8i rs w vs (Lj t).ag (Jj t) (Lj t).zs (A6n e a)++it) e w h
 | _+1,_,_,_,_,_=>False
def Gen(_ _:Prop):Prop:=True
def C39{a:Prop}:Gen a a:=trivial
