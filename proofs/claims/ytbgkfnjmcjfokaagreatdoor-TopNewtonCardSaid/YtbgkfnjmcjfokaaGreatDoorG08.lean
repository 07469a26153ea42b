/- A part. -/
import Derived.Test.YtbgkfnjmcjfokaaGreatDoorG06
import Derived.Test.YtbgkfnjmcjfokaaGreatDoorG07
open Go.Proofs.Tryz
set_option linter.all false
open List renaming toArray->aE
open _root_.Go renaming Value->aC,TypeId->aF,Oper->aH,Code->aI,Operand->aJ
namespace Go.Proofs.YtbgkfnjmcjfokaaGreatDoor
open Go
inductive SV where
 | v (v:aC)
 | b (b:Bool)
 | n (k:IntKind) (n:Int)
 | own (k off:Nat)
abbrev En:=List (Nat × SV)
abbrev Ow:=List (Nat × List aC)
structure GX where
 fa:FnAnn
 rs:List ResultVar
 own:List Nat
 wr:List Nat
 K:VP
inductive It where
 | c (c:aI)
 | o (ops l:List aH) (gr:Bool)
 | a (ops:List aH) (anc:List (List Nat)) (al:List (Nat × List Nat)) (l:List Nat)
 | an (ops:List aH) (anc:List (List Nat)) (al:List (Nat × List Nat)) (j:Nat) (L r:List Nat)
 | ar (ops:List aH) (anc:List (List Nat)) (al:List (Nat × List Nat)) (j:Nat) (L:List Nat) (i:Nat) (r:List Nat)
 | gd (t:Bool) (gs:Nat) (want:Bool) (o:aH) (gr:Bool)
 | blk (id:Nat)
 | put (d:Option Nat) (x:SV)
 | br (t:Bool) (A B:List It)
 | ff
 | nc (p:Option Addr) (d:Option Nat)
 | ix (A:Option Addr) (n:Nat) (i:Int) (c:Nat) (d:Option Nat)
 | iy (s:ByteArray) (i:Int) (d:Option Nat)
 | cd (p:Prop)
 | al (d:Option Nat) (cs:List aC)
 | st (k:Nat) (cs:List aC)
 | ex (zs acc:List aC)
 | fa (zs acc:List aC)
 | ld (a:Addr) (ag:Bool) (d:Option Nat)
 | efV (s:Sem aC) (t:aF) (gr:Bool) (d:Option Nat)
 | efP (s:Sem aC) (gr:Bool) (d:Option Nat)
 | efU (s:Sem Unit)
 | call (e:Bool) (f:Nat) (args:List aC) (t:aF) (gr:Bool) (d:Option Nat)
 | yc (l:Nat) (args:List aC) (t:aF) (d:Option Nat)
 | rs (r:aC) (h:Heap) (gr:Bool) (t:aF) (d:Option Nat)
 | rs1 (r:aC) (h:Heap) (gr:Bool) (v:aC) (d:Option Nat)
 | lp (ann:Ann) (b:aI)
 | lh (ann:Ann) (Inv:LP) (mu:LN) (b:aI)
 | le (ann:Ann) (Inv:LP) (mu:LN) (vs:List aC) (h:Heap)
 | cu (ann:Ann) (a b:aI)
 | ct (ann:Ann) (J:LP)
 | ch (ann:Ann) (J:LP) (b:aI)
 | rf (lv:Bool) (g:aC) (zs:List aC) (ps:List Nat) (asg body:aI)
 | rd (args:List aC) (ps:List Nat) (asg body:aI) (J:Heap->Prop) (JR:Option (Heap->Prop))
 | rn (J:Heap->Prop) (JR:Option (Heap->Prop))
 | rt (JR:Option (Heap->Prop))
 | re (r:List ResultVar) (vs:List aC)
 | rc (r:List ResultVar) (vs:List aC) (a:Addr) (ag:Bool)
def C5l{α:Type}:List (Nat × α)->Nat->Bool->α->α
 | _,_,true,v=>v
 | [],_,false,v=>v
 | (k,v)::r,d,false,_=>C5l r d (k==d) v
def B32{α:Type}(z:α):List (Nat × α)->Nat->Bool->α->α
 | _,_,true,v=>v
 | [],_,false,_=>z
 | (k,v)::r,d,false,_=>B32 z r d (k==d) v
def A8t:List Nat->Nat->Bool->Bool
 | _,_,true=>true
 | [],_,false=>false
 | k::r,d,false=>A8t r d (k==d)
def B9e{α:Type}:List (Nat × α)->Nat->Bool->Option α->Option α
 | _,_,true,v=>v
 | [],_,false,_=>none
 | (k,v)::r,d,false,_=>B9e r d (k==d) (some v)
def B9d{α:Type}(l:List (Nat × α)):Option Nat->Option α
 | some i=>B9e l i false none
 | none=>none
def C19(x:Nat):Bool->List Nat->List Nat->List Nat
 | true,r,_=>r
 | false,_,s=>x::s
def C39(i:Nat):List Nat->List Nat
 | []=>[]
 | x::L=>C19 x (x==i) L (C39 i L)
def C09(x:Nat):Bool->List Nat->List Nat
 | true,_=>[]
 | false,s=>x::s
def C3s(i:Nat):List Nat->List Nat
 | []=>[]
 | x::L=>C09 x (x==i) (C3s i L)
def B76(a:List Nat):List Nat->Bool
 | []=>true
 | x::r=> !A8t a x false&&B76 a r
def C0u(i:Nat):Bool->List Nat->List Nat
 | true,s=>i::s
 | false,s=>s
def B7l(j:Nat)(anc:List (List Nat))(L:List Nat):List Nat->List Nat
 | []=>[]
 | i::r=>C0u i (A8t L i false && !A8t (anc.getD i []) j false&&B76 (anc.getD i []) (C3s i L)) (B7l j anc L r)
def C5j:Option (List Nat)->List Nat
 | none=>[]
 | some l=>l
def C0r(x:Nat):Bool->List Nat->List Nat
 | true,l=>l
 | false,l=>x::l
def B79(l:List Nat):List Nat->List Nat
 | []=>l
 | x::r=>B79 (C0r x (A8t l x false) l) r
def C13:Ground->Bool
 | .textOnly _=>false
 | .gcOnly _=>false
 | _=>true
def C18(acc:List (List Nat))(l:List Nat)(j:Nat):Bool->List Nat
 | true=>B79 l (j::acc.getD j [])
 | false=>l
def B7h(acc:List (List Nat))(l:List Nat):List Edge->List Nat
 | []=>l
 | ⟨j,g⟩::r=>B7h acc (C18 acc l j (C13 g)) r
def B7i(acc:List (List Nat)):List aH->List (List Nat)
 | []=>acc
 | o::r=>B7i (acc++[B7h acc [] o.after.toList]) r
def C42:Option Nat->Option Nat->Option Nat
 | some i,_=>some i
 | none,x=>x
def A7b:aI->Option Nat
 | .region id _ _=>some id
 | .seq a b=>C42 (A7b a) (A7b b)
 | .block _ b=>A7b b
 | .loop b=>A7b b
 | .scope b=>A7b b
 | .cond _ a b=>C42 (A7b a) (A7b b)
 | _=>none
abbrev La:=Nat × List Nat × List (Nat × Nat) × List aC
def B9g:List La->List (Nat × Ann)
 | []=>[]
 | (i,s,o,z)::r=>(i,⟨s,o,z,⟨[],[]⟩⟩)::B9g r
def C38:List (Nat × List Nat)->List (Nat × List Nat × List (List Nat))
 | []=>[]
 | (i,l)::r=>(i,l,[])::C38 r
def wrt:aI->List aH
 | .region _ ops _=>ops.toList
 | .seq a b | .cond _ a b | .rangeFunc _ _ a b=>wrt a++wrt b
 | .block _ b | .loop b | .scope b=>wrt b
 | _=>[]
def C69(own:List Nat)(o:aH):Option Nat:=match o.op,o.dst with
 | .alloc _,some d | .box _ _,some d=>bif has own d then some d else none
 | _,_=>none
def C1x(own:List Nat)(a:Ann)(ops:List aH):Ann:={ a with lim:=⟨ops.filterMap (·.dst),a.owns.map (·.1)++ops.filterMap (C69 own)⟩ }
def A1q(i:Nat):aI->List aH
 | .loop b=>bif J2 b==some i then wrt b else A1q i b
 | .seq a b | .cond _ a b | .rangeFunc _ _ a b=>A1q i a++A1q i b
 | .block _ b | .scope b=>A1q i b
 | _=>[]
def Vw(i:Nat):aI->List aH
 | .seq a b=>bif J2 b==some i then wrt a else Vw i a++Vw i b
 | .cond _ a b | .rangeFunc _ _ a b=>Vw i a++Vw i b
 | .block _ b | .loop b | .scope b=>Vw i b
 | _=>[]
def B6d(own:List Nat)(c:aI)(fa:FnAnn):FnAnn:={ fa with loops:=fa.loops.map fun x=>(x.1,C1x own x.2 (A1q x.1 c)),cuts:=fa.cuts.map fun x=>(x.1,C1x own x.2 (Vw x.1 c)) }
def C3z(n:Nat):Option Nat->Option Nat
 | some i=>some (i+n)
 | none=>none
def C1b:aC->SV
 | .bool b=>.b b
 | .int k n=>.n k n
 | v=>.v v
def A62(e:En)(t:Nat):SV:=B32 (.v undef) e t false (.v undef)
def A8s(w:Ow)(k:Nat):List aC:=B32 [] w k false []
def A0m(e:En):aJ->SV
 | .tmp t=>A62 e t
 | .const v=>C1b v
 | .global g=>.v (.pointer (some ⟨g,0,none⟩))
 | .func f=>.v (.func (.func f) #[] #[])
def A0j:SV->aC
 | .v v=>v
 | .b b=>.bool b
 | .n k n=>.int k n
 | .own _ _=>undef
def A0l(e:En)(x:aJ):aC:=A0j (A0m e x)
def Sb(e:En):List aJ->List aC
 | []=>[]
 | x::r=>A0l e x::Sb e r
def B37(e:En):List (Nat × aJ)->List (Nat × aC)
 | []=>[]
 | (i,x)::r=>(i,A0l e x)::B37 e r
def C3a:aC->Bool
 | .bool b=>b
 | _=>false
def C0y:aC->Int
 | .int _ n=>n
 | _=>0
def B33(e:En):Option aJ->Option Int
 | none=>none
 | some x=>some (C0y (A0l e x))
def A8u:aC->List aC
 | .agg ⟨l⟩=>l
 | v=>[v]
def A0k:List aC->aC
 | v::_=>v
 | []=>undef
def B5d(n:Nat):Bool->List aC->SV
 | true,cs=>.v (.agg (aE (cs.take n)))
 | false,cs=>.v (A0k cs)
def A8o(ag:Bool)(off n:Nat)(cs:List aC):SV:=B5d n ag (cs.drop off)
def B71(cs:List aC)(off:Nat)(vs:List aC):List aC:=cs.take off++vs++cs.drop (off+vs.length)
def B20:IntKind->Int->Int
 | .i64,n=>B9 n
 | .i32,n=>C5t n
 | .u64,n=>C6 n
 | .u32,n=>N4 n
 | .u8,n=>wu8 n
 | k,n=>k.wrap n
def B7j:IntKind->Nat
 | .i8 | .u8=>8
 | .i16 | .u16=>16
 | .i32 | .u32=>32
 | .i64 | .u64=>64
def Zh(d:Option Nat)(k:IntKind)(n:Int):List It:=[.put d (.v (.int k n))]
def A2e(d:Option Nat)(b:Bool):List It:=[.put d (.v (.bool b))]
def C17:List aC->List aC->Bool->Bool
 | .string a::_,.string b::_,r=>(a.toList==b.toList)&&r
 | _,_,_=>false
def B38:List (Nat × aF)->List aC->List aC->Bool
 | [],_,_=>true
 | (o,_)::r,xs,ys=>C17 (xs.drop o) (ys.drop o) (B38 r xs ys)
def A4u:TD->List (Nat × aF)
 | .t fs=>fs
 | _=>[]
def C43(b:Int)(lit:Bool)(A:List It):List It:=match lit with
 | true=>A
 | false=>[.br (decide (b=0)) [.ff] A]
def C46(b:Int)(lit:Bool)(A:List It):List It:=match lit with
 | true=>A
 | false=>[.br (decide (b<0)) [.ff] A]
def B70(l:Bool)(t:TD)(d:Option Nat):BinOp->aC->aC->List It
 | .add,.int k a,.int _ b=>Zh d k (B20 k (a+b))
 | .sub,.int k a,.int _ b=>Zh d k (B20 k (a-b))
 | .mul,.int k a,.int _ b=>Zh d k (B20 k (a*b))
 | .quo,.int k a,.int _ b=>C43 b l (Zh d k (B20 k (a.tdiv b)))
 | .rem,.int k a,.int _ b=>C43 b l (Zh d k (a.tmod b))
 | .shl,.int k a,.int _ b=>C46 b l (Zh d k (B20 k (a*2^(min b.toNat (B7j k)))))
 | .shr,.int k a,.int _ b=>C46 b l (Zh d k (a.fdiv (2^(min b.toNat (B7j k)))))
 | .and,.int k a,.int _ b=>Zh d k (A5f k a b)
 | .or,.int k a,.int _ b=>Zh d k (bor k a b)
 | .xor,.int k a,.int _ b=>Zh d k (C6e k a b)
 | .andNot,.int k a,.int _ b=>Zh d k (B8y k a b)
 | .eql,.int _ a,.int _ b=>A2e d (a==b)
 | .neq,.int _ a,.int _ b=>A2e d (a != b)
 | .lss,.int _ a,.int _ b=>A2e d (decide (a<b))
 | .leq,.int _ a,.int _ b=>A2e d (decide (a<=b))
 | .gtr,.int _ a,.int _ b=>A2e d (decide (a>b))
 | .geq,.int _ a,.int _ b=>A2e d (decide (a>=b))
 | .add,.string a,.string b=>[.cd (((a.size+b.size:Nat):Int)<=9223372036854775807),.put d (.v (.string (a++b)))]
 | .eql,.string a,.string b=>A2e d (a.toList==b.toList)
 | .neq,.string a,.string b=>A2e d (!(a.toList==b.toList))
 | .eql,.slice a _ _,.slice _ _ _=>A2e d a.isNone
 | .neq,.slice a _ _,.slice _ _ _=>A2e d (!a.isNone)
 | .eql,.bool a,.bool b=>A2e d (a==b)
 | .neq,.bool a,.bool b=>A2e d (!(a==b))
 | .eql,.agg ⟨a⟩,.agg ⟨b⟩=>A2e d (B38 (A4u t) a b)
 | .neq,.agg ⟨a⟩,.agg ⟨b⟩=>A2e d (!B38 (A4u t) a b)
 | _,_,_=>[.ff]
def C0b(t:TD)(d:Option Nat):BinOp->SV->SV->List It
 | .eql,.n _ a,.n _ b=>[.put d (.b (a.natAbs==b.natAbs))]
 | .neq,.n _ a,.n _ b=>[.put d (.b (!(a.natAbs==b.natAbs)))]
 | op,x,.n k b=>B70 true t d op (A0j x) (.int k b)
 | op,x,y=>B70 false t d op (A0j x) (A0j y)
def Jw(t:aF):Nat:=(Lu t).n
def A3a(y:Nat):Option Int->List It
 | none=>[]
 | some i=>[.cd (0<=i/\i<=(y:Int))]
def Lw(y:Nat):Option Int->Nat
 | none=>y
 | some i=>i.toNat
def C0e(d:Option Nat):TD->aC->Option Int->Option Int->Option Int->List It
 | .l e,.slice A _ c,some l,some h,some m=>[.cd (0<=m/\m<=(c:Int)),.cd (0<=h/\h<=(m.toNat:Int)),.cd (0<=l/\l<=(h.toNat:Int)),.put d (.v (.slice (U3 A m.toNat l.toNat (Jw e)) (h.toNat-l.toNat) (m.toNat-l.toNat)))]
 | .s,.string s,l,h,_=>A3a s.size h++(A3a (Lw s.size h) l++[.put d (.v (.string (s.extract (Lw 0 l) (Lw s.size h))))])
 | .l e,.slice A n c,l,h,_=>A3a c h++(A3a (Lw n h) l++[.put d (.v (.slice (U3 A c (Lw 0 l) (Jw e)) (Lw n h-Lw 0 l) (c-Lw 0 l)))])
 | .r n e,.pointer A,l,h,_=>A3a n h++(A3a (Lw n h) l++[.put d (.v (.slice (U3 A n (Lw 0 l) (Jw e)) (Lw n h-Lw 0 l) (n-Lw 0 l)))])
 | _,_,_,_,_=>[.ff]
def C0w(n c:Nat)(d:Option Nat)(i:Int):SV->List It
 | .own k off=>[.put d (.own k (off+i.natAbs*c))]
 | .v (.pointer (some a))=>[.cd (0<=i/\i<((n:Nat):Int)),.put d (.v (.pointer (some (a.add (i.toNat*c)))))]
 | _=>[.ff]
def C0x(d:Option Nat)(i:Int):TD->SV->List It
 | .l e,.v (.slice A n _)=>[.ix A n i (Jw e) d]
 | .r n e,x=>C0w n (Jw e) d i x
 | _,_=>[.ff]
def C10(i:Int)(d:Option Nat):TD->aC->List It
 | .s,.string s=>[.iy s i d]
 | .r _ e,.agg ⟨cs⟩=>[.put d (A8o (Lu e).ag (i.natAbs*Jw e) (Jw e) cs)]
 | _,_=>[.ff]
def A63(t:TD)(f:Nat):Nat × aF:=(A4u t).getD f (0,0)
def A4t:Nat × aF->Nat
 | (a,_)=>a
def A8p:Nat × aF->aF
 | (_,b)=>b
def C15(o:Nat)(d:Option Nat):SV->List It
 | .own k off=>[.put d (.own k (off+o))]
 | .v (.pointer (some a))=>[.put d (.v (.pointer (some (a.add o))))]
 | _=>[.ff]
def C1f(i:Nat):TD->Nat
 | .r _ e=>i*Jw e
 | t=>A4t (A63 t i)
def B7k(t:TD):List aC->List (Nat × aC)->List aC
 | cs,[]=>cs
 | cs,(i,v)::r=>B7k t (B71 cs (C1f i t) (A8u v)) r
def B7d:TD->Bool
 | .l _=>true
 | _=>false
def B5g(d:Option Nat)(x:SV):TD->aC->List It
 | .i k,.int _ n=>Zh d k (B20 k n)
 | _,_=>[.put d x]
def C1c(t s:aF)(tt:TD)(x:SV)(gr:Bool)(d:Option Nat):Bool->List It
 | true=>[.efV (convert s t (A0j x)) t gr d]
 | false=>B5g d x tt (A0j x)
def B5e(d:Option Nat):TD->aC->List It
 | _,.slice _ n _=>Zh d .i64 ((n:Nat):Int)
 | _,.string s=>Zh d .i64 ((s.size:Nat):Int)
 | .r n _,_=>Zh d .i64 ((n:Nat):Int)
 | _,_=>[.ff]
def B5h(d:Option Nat):aC->List It
 | .slice _ _ c=>Zh d .i64 ((c:Nat):Int)
 | _=>[.ff]
def C0q:Bool->aC->aC->aC
 | true,.int k r,.int _ y=>.int k (if y>r then y else r)
 | false,.int k r,.int _ y=>.int k (if y<r then y else r)
 | _,r,_=>r
def B77(m:Bool)(r:aC):List aC->aC
 | []=>r
 | y::l=>B77 m (C0q m r y) l
def B7c:aC->IntKind
 | .int k _=>k
 | _=>.i64
def B78(m:Bool)(d:Option Nat):List aC->List It
 | v::l=>[.put d (.v (B77 m v l))]
 | _=>[.ff]
def C5i(f:Nat):Bool->Bool
 | true=>false
 | false=>A8t B5f f false
def B5i(B20:List Nat)(sl:Bool)(vs:List aC)(t:aF)(gr:Bool)(d:Option Nat):aC->List It
 | .func (.func f) ⟨a⟩ ⟨b⟩=>[.call (C5i f sl) f (a++(vs++b)) t (gr && !sl && !A8t B20 f false) d]
 | .func (.yield l) _ _=>[.yc l vs t d]
 | _=>[.ff]
def C0z:aJ->Bool
 | .tmp _=>true
 | _=>false
def C1e(x:GX)(e:En)(t:aF)(gr:Bool)(d:Option Nat):Callee->List aJ->Array aF->List It
 | .value f,us,_=>B5i x.wr (C0z f) (Sb e us) t gr d (A0l e f)
 | .builtin .append,us,ts=>[.efV (Builtin.append_ ts t (aE (Sb e us))) t (gr && !A8t x.wr 1000000000 false) d]
 | .builtin .copy,us,ts=>[.efV (Builtin.copy_ ts t (aE (Sb e us))) t false d]
 | .builtin .len,us,ts=>B5e d (Lu (ts.toList.headD 0)).d (A0k (Sb e us))
 | .builtin .cap,us,_=>B5h d (A0k (Sb e us))
 | .builtin .max,us,_=>B78 true d (Sb e us)
 | .builtin .min,us,_=>B78 false d (Sb e us)
 | _,_,_=>[.ff]
def B9f:Option Nat->Nat
 | some d=>d
 | none=>0
def A8r(d:Option Nat)(cs:List aC)(s:Sem aC)(gr:Bool):Bool->List It
 | true=>[.al d cs]
 | false=>[.efP s gr d]
def C0l(d:Option Nat)(a b:SV):SV->List It
 | .b true=>[.put d a]
 | .b false=>[.put d b]
 | c=>[.br (C3a (A0j c)) [.put d a] [.put d b]]
def C0t(w:Ow)(d:Option Nat)(zs:List aC)(ag:Bool)(n:Nat):SV->List It
 | .own k off=>[.put d (A8o ag off n (A8s w k))]
 | .v (.pointer (some a))=>[.ex zs [],.ld a ag d]
 | _=>[.ff]
def C0p(d:Option Nat):SV->List It
 | .v (.pointer p)=>[.nc p d]
 | y=>[.put d y]
def C08(d:Option Nat):UnOp->SV->List It
 | .not,.b b=>[.put d (.b (!b))]
 | .not,y=>A2e d (!C3a (A0j y))
 | .neg,y=>Zh d (B7c (A0j y)) (B20 (B7c (A0j y)) (0-C0y (A0j y)))
 | _,_=>[.ff]
def C16(d:Option Nat)(i:Nat):aC->List It
 | .tuple ⟨vs⟩=>[.put d (.v (vs.getD i undef))]
 | _=>[.ff]
def C0c(w:Ow)(t:aF)(z:aC):SV->List It
 | .own k off=>[.st k (B71 (A8s w k) off (A8u z))]
 | y=>[.efU (Instr.storeAt t (A0j y) z)]
def C5k(x:GX)(e:En)(w:Ow)(gr:Bool)(t:aF)(d:Option Nat):Op->List It
 | .move y=>[.put d (A0m e y)]
 | .assign y=>[.put d (A0m e y)]
 | .pick c a b=>C0l d (A0m e a) (A0m e b) (A0m e c)
 | .load t y=>C0t w d (Lu t).zs (Lu t).ag (Jw t) (A0m e y)
 | .fieldAddr s y f=>C15 (A4t (A63 (Lu s).d f)) d (A0m e y)
 | .nilCheck y=>C0p d (A0m e y)
 | .panic _=>[.ff]
 | .makeInterface _ _=>[.put d (.v undef)]
 | .indexAddr t y i=>C0x d (C0y (A0l e i)) (Lu t).d (A0m e y)
 | .index t y i=>C10 (C0y (A0l e i)) d (Lu t).d (A0l e y)
 | .slice t y l h m=>C0e d (Lu t).d (A0l e y) (B33 e l) (B33 e h) (B33 e m)
 | .binOp op t y z _=>C0b (Lu t).d d op (A0m e y) (A0m e z)
 | .unOp op _ y=>C08 d op (A0m e y)
 | .convert s t y=>C1c t s (Lu t).d (A0m e y) gr d (B7d (Lu s).d||B7d (Lu t).d)
 | .extract y i=>C16 d i (A0l e y)
 | .field s y f=>[.put d (A8o (Lu (A8p (A63 (Lu s).d f))).ag (A4t (A63 (Lu s).d f)) (Jw (A8p (A63 (Lu s).d f))) (A8u (A0l e y)))]
 | .build t ps=>[.put d (.v (.agg (aE (B7k (Lu t).d (Lu t).zs (B37 e ps.toList)))))]
 | .makeFunc f a b=>[.put d (.v (.func f (aE (Sb e a.toList)) (aE (Sb e b.toList))))]
 | .call c=>C1e x e t gr d c.callee c.args.toList c.argTypes
 | .alloc t=>A8r d (Lu t).zs (Instr.alloc t true (.tuple #[])) gr (A8t x.own (B9f d) false)
 | .box t y=>A8r d (A8u (A0l e y)) (Instr.box t (A0l e y)) gr (A8t x.own (B9f d) false)
 | .store t y z=>C0c w t (A0l e z) (A0m e y)
 | .makeSlice t l c=>[.efV (Instr.makeSlice t (A0l e l) (A0l e c)) t gr d]
 | .buildSlice t n ps=>[.efV (Instr.buildSlice t n (aE (B37 e ps.toList))) t gr d]
 | _=>[.ff]
def B7f(n:Nat):Bool->List aC->aC
 | true,vs=>.agg (aE (vs.take n))
 | false,vs=>A0k vs
def B7g:List aF->List aC->List aC
 | [],_=>[]
 | t::r,vs=>B7f (Jw t) (Lu t).ag vs::B7g r (vs.drop (Jw t))
def B6z:List aF->List aC
 | []=>[]
 | t::r=>(Lu t).zs++B6z r
def C0f(zs:List aC):TD->List aC
 | .u ts=>B6z ts
 | _=>zs
def A8q(t:aF):List aC:=C0f (Lu t).zs (Lu t).d
def C0g(t:aF)(vs:List aC):TD->aC
 | .u ts=>.tuple (aE (B7g ts vs))
 | _=>B7f (Jw t) (Lu t).ag vs
def Je(x:SV)(e:En):Option Nat->En
 | some d=>(d,x)::e
 | none=>e
def B35:List Nat->List aC->En->En
 | s::r,v::vs,e=>(s,.v v)::B35 r vs e
 | _,_,e=>e
def B34:List (Nat × Nat)->List aC->Ow->Ow
 | [],_,w=>w
 | (k,n)::r,vs,w=>(k,vs.take n)::B34 r (vs.drop n) w
def B7b(e:En):List Nat->List aC
 | []=>[]
 | s::r=>A0j (A62 e s)::B7b e r
def B7a(w:Ow):List (Nat × Nat)->List aC
 | []=>[]
 | (k,_)::r=>A8s w k++B7a w r
def C0v(ann:Ann)(e:En)(w:Ow):List aC:=B7b e ann.slots++B7a w ann.owns
def C37(id:Nat):List It->Bool->List It
 | l,true=>l
 | [],false=>[]
 | .blk j::r,false=>C37 id r (j==id)
 | _::r,false=>C37 id r false
def C3y(rs:List ResultVar):List It->List It
 | []=>[.re rs []]
 | .rn _ JR::_=>[.rt JR]
 | _::r=>C3y rs r
def C0o(k:Nat)(e:En):SV->En
 | .own _ _=>e
 | x=>(k,x)::e
def B31:En->En
 | []=>[]
 | (k,x)::r=>C0o k (B31 r) x
def C11:List aH->List aH
 | o::_=>[o]
 | []=>[]
def A39(l:List aH):List Nat->List aH
 | []=>[]
 | i::r=>C11 (l.drop i)++A39 l r
def B36(o:aH)(gr:Bool):Bool->Bool->List It
 | true,true=>[.o [] [o] gr]
 | false,false=>[.o [] [o] gr]
 | _,_=>[.put o.dst (.v undef)]
def B73:List aH->Nat
 | o::_=>B9f o.dst
 | []=>0
def B75:List Nat->List aC->En->En
 | s::r,v::vs,e=>B75 r vs ((s,.v v)::e)
 | _,_,e=>e
def B74(n:Nat):List aH->List Nat
 | []=>[]
 | _::r=>n::B74 (n+1) r
def C0n(ops:List aH):Option (List Nat × List (List Nat))->List Nat
 | some (l,_)=>l
 | none=>B74 0 ops
def C12:Op->Bool
 | .store _ _ _=>false
 | _=>true
def C14(gs:Nat)(want:Bool)(o:aH)(gr:Bool):SV->List It
 | .b b=>B36 o gr b want
 | .v (.bool t)=>[.gd t gs want o gr]
 | _=>[.put o.dst (.v undef)]
def C0m(x:GX)(e:En)(w:Ow)(ops:List aH)(gr:Bool):aH->List It
 | ⟨d,op,t,_,_,none⟩=>C5k x e w (gr&&C12 op) t d op
 | ⟨d,op,t,p,a,some (j,want)⟩=>C14 (B73 (ops.drop j)) want ⟨d,op,t,p,a,none⟩ gr (A62 e (B73 (ops.drop j)))
def C0i(ops:List aH)(o:Option (List Nat × List (List Nat))):Option (List (Nat × List Nat))->List It
 | none=>match o with
  | none=>[.o ops ops true]
  | some (l,_)=>[.o ops (A39 ops l) true]
 | some al=>[.a ops (B7i [] ops) al (C0n ops o)]
def C0h(fa:FnAnn)(id:Nat)(ops:List aH):Bool->List It
 | false=>[.o ops ops false]
 | true=>C0i ops (B9e fa.orders id false none) (B9e fa.alts id false none)
def C1a(fa:FnAnn)(id:Nat)(ops:List aH)(dr:Bool):Option (List aC)->List It
 | none=>C0h fa id ops dr
 | some _=>[.ff]
def C0d(a b:aI):Option Ann->List It
 | none=>[.c a,.c b]
 | some ann=>[.cu ann a b]
def C1d(a b:aI):SV->List It
 | .b true=>[.c a]
 | .b false=>[.c b]
 | c=>[.br (C3a (A0j c)) [.c a] [.c b]]
def C0s(b:aI):Option Ann->List It
 | none=>[.ff]
 | some ann=>[.lp ann b]
def C0j(g:aC)(ps:List Nat)(asg body:aI):Option (List aC)->Option (List aC)->List It
 | some zs,none=>[.rf false g zs ps asg body]
 | some zs,some _=>[.rf true g zs ps asg body]
 | _,_=>[.ff]
def C5m(x:GX)(e:En):aI->List It
 | .skip=>[]
 | .region id ops dr=>C1a x.fa id ops.toList dr (B9d x.fa.rounds (C3z 2000000 (some id)))
 | .seq a b=>C0d a b (B9d x.fa.cuts (A7b b))
 | .cond c a b=>C1d a b (A0m e c)
 | .block id b=>[.c b,.blk id]
 | .loop b=>C0s b (B9d x.fa.loops (A7b b))
 | .rangeFunc g ps asg body=>C0j (A0l e g) ps.toList asg body (B9d x.fa.rounds (A7b body)) (B9d x.fa.rounds (C3z 1000000 (A7b body)))
 | .scope b=>[.c b]
 | .label _=>[]
 | _=>[.ff]
def C0k(rs:List ResultVar)(w:Ow)(vs:List aC)(ag:Bool)(n:Nat)(zs:List aC):SV->List It
 | .own k off=>[.re rs (vs++[A0j (A8o ag off n (A8s w k))])]
 | .v (.pointer (some p))=>[.ex zs [],.rc rs vs p ag]
 | _=>[.ff]
def U7:Nat->GX->List It->En->Ow->Heap->Prop
 | 0,_,_,_,_,_=>True
 | n+1,x,[],e,w,h=>U7 n x [.re x.rs []] e w h
 | n+1,x,.c (.exit id)::it,e,w,h=>U7 n x (C37 id it false) e w h
 | n+1,x,.c .ret::it,e,w,h=>U7 n x (C3y x.rs it) e w h
 | n+1,x,.c c::it,e,w,h=>U7 n x (C5m x e c++it) e w h
 | n+1,x,.cu ann a b::it,e,w,h=>∃ J:LP,U7 n x (.c a :: .ct ann J::it) e w h/\U7 n x (.fa ann.zs [] :: .ch ann J b::it) e w h
 | n+1,x,.lp ann b::it,e,w,h=>∃ (Inv:LP) (mu:LN),Inv (C0v ann e w) h/\U7 n x (.fa ann.zs [] :: .lh ann Inv mu b::it) e w h
 | n+1,x,.rf false g zs ps asg body::it,e,w,h=>Wj prog g h (fun args h1 J=>U7 n x [.ex zs [],.rd args ps asg body J none] (B31 e) [] h1) (fun h2=>U7 n x it e w h2)
 | n+1,x,.rf true g zs ps asg body::it,e,w,h=>B1o prog g h (fun args h1 J JR=>U7 n x [.ex zs [],.rd args ps asg body J (some JR)] (B31 e) [] h1) (fun h2=>U7 n x it e w h2) (fun h2=>U7 n x (.c .ret::it) e w h2)
 | n+1,x,.o _ [] _::it,e,w,h=>U7 n x it e w h
 | n+1,x,.o ops (o::l) gr::it,e,w,h=>U7 n x (C0m x e w ops gr o ++ .o ops l gr::it) e w h
 | n+1,x,.a _ _ _ []::it,e,w,h=>U7 n x it e w h
 | n+1,x,.a ops anc al (j::L)::it,e,w,h=>U7 n x (.an ops anc al j L (B7l j anc L (C5j (B9e al j false none)))::it) e w h
 | n+1,x,.an ops anc al j L []::it,e,w,h=>U7 n x (.o ops (A39 ops [j]) true :: .a ops anc al L::it) e w h
 | n+1,x,.an ops anc al j L (i::r)::it,e,w,h=>U7 n x (.o ops (A39 ops [j]) true :: .a ops anc al L::it) e w h/\U7 n x (.ar ops anc al j L i r::it) e w h
 | n+1,x,.ar ops anc al j L i []::it,e,w,h=>U7 n x (.o ops (A39 ops [i]) true :: .a ops anc al (j::C39 i L)::it) e w h
 | n+1,x,.ar ops anc al j L i (k::r)::it,e,w,h=>U7 n x (.o ops (A39 ops [i]) true :: .a ops anc al (j::C39 i L)::it) e w h/\U7 n x (.ar ops anc al j L k r::it) e w h
 | n+1,x,.gd t gs want o gr::it,e,w,h=>Br t (U7 n x (B36 o gr true want++it) ((gs,.b true)::e) w h) (U7 n x (B36 o gr false want++it) ((gs,.b false)::e) w h)
 | n+1,x,.blk _::it,e,w,h=>U7 n x it e w h
 | n+1,x,.put d y::it,e,w,h=>U7 n x it (Je y e d) w h
 | n+1,x,.br t A B::it,e,w,h=>Br t (U7 n x (A++it) e w h) (U7 n x (B++it) e w h)
 | _+1,_,.ff::_,_,_,_=>False
 | n+1,x,.nc p d::it,e,w,h=>∃ a,p=some a/\U7 n x it (Je (.v (.pointer (some a))) e d) w h
 | n+1,x,.ix A m i c d::it,e,w,h=>∃ a,A=some a/\0<=i/\i<(m:Int)/\U7 n x it (Je (.v (.pointer (some (a.add (i.toNat*c))))) e d) w h
 | n+1,x,.iy s i d::it,e,w,h=>∃ c:UInt8,(0<=i/\s[i.toNat]? = some c)/\U7 n x it (Je (.v (.int .u8 c.toNat)) e d) w h
 | n+1,x,.cd p::it,e,w,h=>p/\U7 n x it e w h
 | n+1,x,.al d cs::it,e,w,h=>U7 n x it (Je (.own (B9f d) 0) e d) ((B9f d,cs)::w) h
 | n+1,x,.st k cs::it,e,w,h=>U7 n x it e ((k,cs)::w) h
 | n+1,x,.ex (.int k _::zs) acc::it,e,w,h=>∃ i:Int,U7 n x (.ex zs (acc++[.int k i])::it) e w h
 | n+1,x,.ex (.bool _::zs) acc::it,e,w,h=>∃ b:Bool,U7 n x (.ex zs (acc++[.bool b])::it) e w h
 | n+1,x,.ex (.string _::zs) acc::it,e,w,h=>∃ s:ByteArray,U7 n x (.ex zs (acc++[.string s])::it) e w h
 | n+1,x,.ex (.slice _ _ _::zs) acc::it,e,w,h=>∃ (A:Option Addr) (m c:Nat),U7 n x (.ex zs (acc++[.slice A m c])::it) e w h
 | n+1,x,.ex (.pointer _::zs) acc::it,e,w,h=>∃ p:Option Addr,U7 n x (.ex zs (acc++[.pointer p])::it) e w h
 | n+1,x,.ex (_::zs) acc::it,e,w,h=>∃ v:aC,U7 n x (.ex zs (acc++[v])::it) e w h
 | n+1,x,.fa (.int k _::zs) acc::it,e,w,h=>∀ i:Int,U7 n x (.fa zs (acc++[.int k i])::it) e w h
 | n+1,x,.fa (.bool _::zs) acc::it,e,w,h=>∀ b:Bool,U7 n x (.fa zs (acc++[.bool b])::it) e w h
 | n+1,x,.fa (.string _::zs) acc::it,e,w,h=>∀ s:ByteArray,U7 n x (.fa zs (acc++[.string s])::it) e w h
 | n+1,x,.fa (.slice _ _ _::zs) acc::it,e,w,h=>∀ (A:Option Addr) (m c:Nat),U7 n x (.fa zs (acc++[.slice A m c])::it) e w h
 | n+1,x,.fa (.pointer _::zs) acc::it,e,w,h=>∀ p:Option Addr,U7 n x (.fa zs (acc++[.pointer p])::it) e w h
 | n+1,x,.fa (_::zs) acc::it,e,w,h=>∀ v:aC,U7 n x (.fa zs (acc++[v])::it) e w h
 | n+1,x,.fa [] vs :: .lh ann Inv mu b::it,e,w,_=>∀ h,Inv vs h->U7 n x (.c b :: .le ann Inv mu vs h::it) (B35 ann.slots vs e) (B34 ann.owns (vs.drop ann.slots.length) w) h
 | n+1,x,.fa [] vs :: .ch ann J b::it,e,w,_=>∀ h,J vs h->U7 n x (.c b::it) (B35 ann.slots vs e) (B34 ann.owns (vs.drop ann.slots.length) w) h
 | _+1,_,.le ann Inv mu vs h0::_,e,w,h=>Inv (C0v ann e w) h/\mu (C0v ann e w) h<mu vs h0
 | _+1,_,.ct ann J::_,e,w,h=>J (C0v ann e w) h
 | n+1,x,.ex [] vs :: .ld a true d::it,e,w,h=>cellsAt h a 0 vs (U7 n x it (Je (.v (.agg (aE vs))) e d) w h)
 | n+1,x,.ex [] vs :: .ld a false d::it,e,w,h=>h.cell? a=some (A0k vs)/\U7 n x it (Je (.v (A0k vs)) e d) w h
 | n+1,x,.ex [] vs :: .rs r h0 gr t d::it,e,w,h=>U7 n x (.rs1 r h0 gr (C0g t vs (Lu t).d) d::it) e w h
 | n+1,x,.rs1 r h0 gr v d::it,e,w,h=>r=v/\Grow gr h0 h (U7 n x it (Je (.v v) e d) w h)
 | n+1,x,.ex [] vs :: .rd args ps asg body J JR::_,e,w,h=>args=vs/\U7 n x [.c asg,.c body,.rn J JR] (B75 ps vs e) w h
 | n+1,x,.ex [] vs :: .rc rs us a true::it,e,w,h=>cellsAt h a 0 vs (U7 n x (.re rs (us++[.agg (aE vs)])::it) e w h)
 | n+1,x,.ex [] vs :: .rc rs us a false::it,e,w,h=>h.cell? a=some (A0k vs)/\U7 n x (.re rs (us++vs)::it) e w h
 | _+1,_,.rn J _::_,_,_,h=>J h
 | _+1,_,.rt (some J)::_,_,_,h=>J h
 | _+1,_,.rt none::_,_,_,_=>False
 | n+1,x,.efV s t gr d::it,e,w,h=>wpH prog s (fun v h'=>U7 n x (.ex (A8q t) [] :: .rs v h gr t d::it) e w h') h
 | n+1,x,.efP s gr d::it,e,w,h=>wpH prog s (fun v h'=>∃ a:Addr,v= .pointer (some a)/\Grow gr h h' (U7 n x it (Je (.v (.pointer (some a))) e d) w h')) h
 | n+1,x,.efU s::it,e,w,h=>wpH prog s (fun _ h'=>U7 n x it e w h') h
 | n+1,x,.call false f us t gr d::it,e,w,h=>FCall prog f (aE us) h fun r h'=>U7 n x (.ex (A8q t) [] :: .rs r h gr t d::it) e w h'
 | n+1,x,.call true f us t gr d::it,e,w,h=>ECall prog f (aE us) h fun r h'=>U7 n x (.ex (A8q t) [] :: .rs r h gr t d::it) e w h'
 | n+1,x,.yc l us t d::it,e,w,h=>YCall prog l (aE us) h fun r h'=>U7 n x (.ex (A8q t) [] :: .rs r h false t d::it) e w h'
 | _+1,x,.re [] vs::_,_,_,h=>x.K (Nq vs) h
 | n+1,x,.re (.tmp t::rs) vs::it,e,w,h=>U7 n x (.re rs (vs++[A0j (A62 e t)])::it) e w h
 | n+1,x,.re (.cell a t::rs) vs::it,e,w,h=>U7 n x (C0k rs w vs (Lu t).ag (Jw t) (Lu t).zs (A62 e a)++it) e w h
 | _+1,_,_,_,_,_=>False
def Gen(_ _:Prop):Prop:=True
def C6a{a:Prop}:Gen a a:=trivial
