/- A part. -/
import Derived.Test.YtkfhdoblhajcbaaGreatDoorG06
import Derived.Test.YtkfhdoblhajcbaaGreatDoorG07
open Go.Proofs.Tryz
set_option linter.all false
open List renaming toArray->aD
open _root_.Go renaming Value->aC,TypeId->aE,Oper->aF,Code->aG,Operand->aH
namespace Go.Proofs.YtkfhdoblhajcbaaGreatDoor
open Go
inductive SV where
 | v (v:aC)
 | b (b:Bool)
 | n (k:IntKind) (n:Int)
 | own (k off:Nat)
abbrev En:=List (Nat × SV)
abbrev Ow:=List (Nat × List aC)
structure GX where
 fa:FnAnn
 rs:List ResultVar
 own:List Nat
 wr:List Nat
 K:VP
inductive It where
 | c (c:aG)
 | o (ops l:List aF) (gr:Bool)
 | a (ops:List aF) (anc:List (List Nat)) (al:List (Nat × List Nat)) (l:List Nat)
 | an (ops:List aF) (anc:List (List Nat)) (al:List (Nat × List Nat)) (j:Nat) (L r:List Nat)
 | ar (ops:List aF) (anc:List (List Nat)) (al:List (Nat × List Nat)) (j:Nat) (L:List Nat) (i:Nat) (r:List Nat)
 | gd (t:Bool) (gs:Nat) (want:Bool) (o:aF) (gr:Bool)
 | blk (id:Nat)
 | put (d:Option Nat) (x:SV)
 | br (t:Bool) (A B:List It)
 | ff
 | nc (p:Option Addr) (d:Option Nat)
 | ix (A:Option Addr) (n:Nat) (i:Int) (c:Nat) (d:Option Nat)
 | iy (s:ByteArray) (i:Int) (d:Option Nat)
 | cd (p:Prop)
 | al (d:Option Nat) (cs:List aC)
 | st (k:Nat) (cs:List aC)
 | ex (zs acc:List aC)
 | fa (zs acc:List aC)
 | ld (a:Addr) (ag:Bool) (d:Option Nat)
 | efV (s:Sem aC) (t:aE) (gr:Bool) (d:Option Nat)
 | efP (s:Sem aC) (gr:Bool) (d:Option Nat)
 | efU (s:Sem Unit)
 | call (e:Bool) (f:Nat) (args:List aC) (t:aE) (gr:Bool) (d:Option Nat)
 | yc (l:Nat) (args:List aC) (t:aE) (d:Option Nat)
 | rs (r:aC) (h:Heap) (gr:Bool) (t:aE) (d:Option Nat)
 | rs1 (r:aC) (h:Heap) (gr:Bool) (v:aC) (d:Option Nat)
 | lp (ann:Ann) (b:aG)
 | lh (ann:Ann) (Inv:LP) (mu:LN) (b:aG)
 | le (ann:Ann) (Inv:LP) (mu:LN) (vs:List aC) (h:Heap)
 | cu (ann:Ann) (a b:aG)
 | ct (ann:Ann) (J:LP)
 | ch (ann:Ann) (J:LP) (b:aG)
 | rf (lv:Bool) (g:aC) (zs:List aC) (ps:List Nat) (asg body:aG)
 | rd (args:List aC) (ps:List Nat) (asg body:aG) (J:Heap->Prop) (JR:Option (Heap->Prop))
 | rn (J:Heap->Prop) (JR:Option (Heap->Prop))
 | rt (JR:Option (Heap->Prop))
 | re (r:List ResultVar) (vs:List aC)
 | rc (r:List ResultVar) (vs:List aC) (a:Addr) (ag:Bool)
def C3b{α:Type}:List (Nat × α)->Nat->Bool->α->α
 | _,_,true,v=>v
 | [],_,false,v=>v
 | (k,v)::r,d,false,_=>C3b r d (k==d) v
def B2z{α:Type}(z:α):List (Nat × α)->Nat->Bool->α->α
 | _,_,true,v=>v
 | [],_,false,_=>z
 | (k,v)::r,d,false,_=>B2z z r d (k==d) v
def A9i:List Nat->Nat->Bool->Bool
 | _,_,true=>true
 | [],_,false=>false
 | k::r,d,false=>A9i r d (k==d)
def B7z{α:Type}:List (Nat × α)->Nat->Bool->Option α->Option α
 | _,_,true,v=>v
 | [],_,false,_=>none
 | (k,v)::r,d,false,_=>B7z r d (k==d) (some v)
def B9p{α:Type}(l:List (Nat × α)):Option Nat->Option α
 | some i=>B7z l i false none
 | none=>none
def B9t(x:Nat):Bool->List Nat->List Nat->List Nat
 | true,r,_=>r
 | false,_,s=>x::s
def C1a(i:Nat):List Nat->List Nat
 | []=>[]
 | x::L=>B9t x (x==i) L (C1a i L)
def B8s(x:Nat):Bool->List Nat->List Nat
 | true,_=>[]
 | false,s=>x::s
def C1o(i:Nat):List Nat->List Nat
 | []=>[]
 | x::L=>B8s x (x==i) (C1o i L)
def B63(a:List Nat):List Nat->Bool
 | []=>true
 | x::r=> !A9i a x false&&B63 a r
def B9d(i:Nat):Bool->List Nat->List Nat
 | true,s=>i::s
 | false,s=>s
def B6i(j:Nat)(anc:List (List Nat))(L:List Nat):List Nat->List Nat
 | []=>[]
 | i::r=>B9d i (A9i L i false && !A9i (anc.getD i []) j false&&B63 (anc.getD i []) (C1o i L)) (B6i j anc L r)
def C39:Option (List Nat)->List Nat
 | none=>[]
 | some l=>l
def B9a(x:Nat):Bool->List Nat->List Nat
 | true,l=>l
 | false,l=>x::l
def B66(l:List Nat):List Nat->List Nat
 | []=>l
 | x::r=>B66 (B9a x (A9i l x false) l) r
def B9m:Ground->Bool
 | .textOnly _=>false
 | .gcOnly _=>false
 | _=>true
def B9s(acc:List (List Nat))(l:List Nat)(j:Nat):Bool->List Nat
 | true=>B66 l (j::acc.getD j [])
 | false=>l
def B6e(acc:List (List Nat))(l:List Nat):List Edge->List Nat
 | []=>l
 | ⟨j,g⟩::r=>B6e acc (B9s acc l j (B9m g)) r
def B6f(acc:List (List Nat)):List aF->List (List Nat)
 | []=>acc
 | o::r=>B6f (acc++[B6e acc [] o.after.toList]) r
def C1x:Option Nat->Option Nat->Option Nat
 | some i,_=>some i
 | none,x=>x
def A89:aG->Option Nat
 | .region id _ _=>some id
 | .seq a b=>C1x (A89 a) (A89 b)
 | .block _ b=>A89 b
 | .loop b=>A89 b
 | .scope b=>A89 b
 | .cond _ a b=>C1x (A89 a) (A89 b)
 | _=>none
abbrev La:=Nat × List Nat × List (Nat × Nat) × List aC
def B81:List La->List (Nat × Ann)
 | []=>[]
 | (i,s,o,z)::r=>(i,⟨s,o,z,⟨[],[]⟩⟩)::B81 r
def C19:List (Nat × List Nat)->List (Nat × List Nat × List (List Nat))
 | []=>[]
 | (i,l)::r=>(i,l,[])::C19 r
def wrt:aG->List aF
 | .region _ ops _=>ops.toList
 | .seq a b | .cond _ a b | .rangeFunc _ _ a b=>wrt a++wrt b
 | .block _ b | .loop b | .scope b=>wrt b
 | _=>[]
def C3r(own:List Nat)(o:aF):Option Nat:=match o.op,o.dst with
 | .alloc _,some d | .box _ _,some d=>bif has own d then some d else none
 | _,_=>none
def C0f(own:List Nat)(a:Ann)(ops:List aF):Ann:={ a with lim:=⟨ops.filterMap (·.dst),a.owns.map (·.1)++ops.filterMap (C3r own)⟩ }
def A29(i:Nat):aG->List aF
 | .loop b=>bif J0 b==some i then wrt b else A29 i b
 | .seq a b | .cond _ a b | .rangeFunc _ _ a b=>A29 i a++A29 i b
 | .block _ b | .scope b=>A29 i b
 | _=>[]
def Wc(i:Nat):aG->List aF
 | .seq a b=>bif J0 b==some i then wrt a else Wc i a++Wc i b
 | .cond _ a b | .rangeFunc _ _ a b=>Wc i a++Wc i b
 | .block _ b | .loop b | .scope b=>Wc i b
 | _=>[]
def B5j(own:List Nat)(c:aG)(fa:FnAnn):FnAnn:={ fa with loops:=fa.loops.map fun x=>(x.1,C0f own x.2 (A29 x.1 c)),cuts:=fa.cuts.map fun x=>(x.1,C0f own x.2 (Wc x.1 c)) }
def C38(n:Nat):Option Nat->Option Nat
 | some i=>some (i+n)
 | none=>none
def B9u:aC->SV
 | .bool b=>.b b
 | .int k n=>.n k n
 | v=>.v v
def A6u(e:En)(t:Nat):SV:=B2z (.v undef) e t false (.v undef)
def A9h(w:Ow)(k:Nat):List aC:=B2z [] w k false []
def A0w(e:En):aH->SV
 | .tmp t=>A6u e t
 | .const v=>B9u v
 | .global g=>.v (.pointer (some ⟨g,0,none⟩))
 | .func f=>.v (.func (.func f) #[] #[])
def A0t:SV->aC
 | .v v=>v
 | .b b=>.bool b
 | .n k n=>.int k n
 | .own _ _=>undef
def A0v(e:En)(x:aH):aC:=A0t (A0w e x)
def Rz(e:En):List aH->List aC
 | []=>[]
 | x::r=>A0v e x::Rz e r
def B34(e:En):List (Nat × aH)->List (Nat × aC)
 | []=>[]
 | (i,x)::r=>(i,A0v e x)::B34 e r
def C1b:aC->Bool
 | .bool b=>b
 | _=>false
def B9h:aC->Int
 | .int _ n=>n
 | _=>0
def B30(e:En):Option aH->Option Int
 | none=>none
 | some x=>some (B9h (A0v e x))
def A9j:aC->List aC
 | .agg ⟨l⟩=>l
 | v=>[v]
def A0u:List aC->aC
 | v::_=>v
 | []=>undef
def B4q(n:Nat):Bool->List aC->SV
 | true,cs=>.v (.agg (aD (cs.take n)))
 | false,cs=>.v (A0u cs)
def A9d(ag:Bool)(off n:Nat)(cs:List aC):SV:=B4q n ag (cs.drop off)
def B5y(cs:List aC)(off:Nat)(vs:List aC):List aC:=cs.take off++vs++cs.drop (off+vs.length)
def B22:IntKind->Int->Int
 | .i64,n=>C4 n
 | .i32,n=>C3m n
 | .u64,n=>C8 n
 | .u32,n=>I6 n
 | .u8,n=>wu8 n
 | k,n=>k.wrap n
def B6g:IntKind->Nat
 | .i8 | .u8=>8
 | .i16 | .u16=>16
 | .i32 | .u32=>32
 | .i64 | .u64=>64
def Zr(d:Option Nat)(k:IntKind)(n:Int):List It:=[.put d (.v (.int k n))]
def A2r(d:Option Nat)(b:Bool):List It:=[.put d (.v (.bool b))]
def B9r:List aC->List aC->Bool->Bool
 | .string a::_,.string b::_,r=>(a.toList==b.toList)&&r
 | _,_,_=>false
def B35:List (Nat × aE)->List aC->List aC->Bool
 | [],_,_=>true
 | (o,_)::r,xs,ys=>B9r (xs.drop o) (ys.drop o) (B35 r xs ys)
def A5b:TD->List (Nat × aE)
 | .t fs=>fs
 | _=>[]
def C1y(b:Int)(lit:Bool)(A:List It):List It:=match lit with
 | true=>A
 | false=>[.br (decide (b=0)) [.ff] A]
def C21(b:Int)(lit:Bool)(A:List It):List It:=match lit with
 | true=>A
 | false=>[.br (decide (b<0)) [.ff] A]
def B5x(l:Bool)(t:TD)(d:Option Nat):BinOp->aC->aC->List It
 | .add,.int k a,.int _ b=>Zr d k (B22 k (a+b))
 | .sub,.int k a,.int _ b=>Zr d k (B22 k (a-b))
 | .mul,.int k a,.int _ b=>Zr d k (B22 k (a*b))
 | .quo,.int k a,.int _ b=>C1y b l (Zr d k (B22 k (a.tdiv b)))
 | .rem,.int k a,.int _ b=>C1y b l (Zr d k (a.tmod b))
 | .shl,.int k a,.int _ b=>C21 b l (Zr d k (B22 k (a*2^(min b.toNat (B6g k)))))
 | .shr,.int k a,.int _ b=>C21 b l (Zr d k (a.fdiv (2^(min b.toNat (B6g k)))))
 | .and,.int k a,.int _ b=>Zr d k (Zs k a b)
 | .or,.int k a,.int _ b=>Zr d k (bor k a b)
 | .xor,.int k a,.int _ b=>Zr d k (C3v k a b)
 | .andNot,.int k a,.int _ b=>Zr d k (B7l k a b)
 | .eql,.int _ a,.int _ b=>A2r d (a==b)
 | .neq,.int _ a,.int _ b=>A2r d (a != b)
 | .lss,.int _ a,.int _ b=>A2r d (decide (a<b))
 | .leq,.int _ a,.int _ b=>A2r d (decide (a<=b))
 | .gtr,.int _ a,.int _ b=>A2r d (decide (a>b))
 | .geq,.int _ a,.int _ b=>A2r d (decide (a>=b))
 | .add,.string a,.string b=>[.cd (((a.size+b.size:Nat):Int)<=9223372036854775807),.put d (.v (.string (a++b)))]
 | .eql,.string a,.string b=>A2r d (a.toList==b.toList)
 | .neq,.string a,.string b=>A2r d (!(a.toList==b.toList))
 | .eql,.slice a _ _,.slice _ _ _=>A2r d a.isNone
 | .neq,.slice a _ _,.slice _ _ _=>A2r d (!a.isNone)
 | .eql,.bool a,.bool b=>A2r d (a==b)
 | .neq,.bool a,.bool b=>A2r d (!(a==b))
 | .eql,.agg ⟨a⟩,.agg ⟨b⟩=>A2r d (B35 (A5b t) a b)
 | .neq,.agg ⟨a⟩,.agg ⟨b⟩=>A2r d (!B35 (A5b t) a b)
 | _,_,_=>[.ff]
def B8u(t:TD)(d:Option Nat):BinOp->SV->SV->List It
 | .eql,.n _ a,.n _ b=>[.put d (.b (a.natAbs==b.natAbs))]
 | .neq,.n _ a,.n _ b=>[.put d (.b (!(a.natAbs==b.natAbs)))]
 | op,x,.n k b=>B5x true t d op (A0t x) (.int k b)
 | op,x,y=>B5x false t d op (A0t x) (A0t y)
def Ju(t:aE):Nat:=(Lp t).n
def A3o(y:Nat):Option Int->List It
 | none=>[]
 | some i=>[.cd (0<=i/\i<=(y:Int))]
def Lr(y:Nat):Option Int->Nat
 | none=>y
 | some i=>i.toNat
def B8x(d:Option Nat):TD->aC->Option Int->Option Int->Option Int->List It
 | .l e,.slice A _ c,some l,some h,some m=>[.cd (0<=m/\m<=(c:Int)),.cd (0<=h/\h<=(m.toNat:Int)),.cd (0<=l/\l<=(h.toNat:Int)),.put d (.v (.slice (T9 A m.toNat l.toNat (Ju e)) (h.toNat-l.toNat) (m.toNat-l.toNat)))]
 | .s,.string s,l,h,_=>A3o s.size h++(A3o (Lr s.size h) l++[.put d (.v (.string (s.extract (Lr 0 l) (Lr s.size h))))])
 | .l e,.slice A n c,l,h,_=>A3o c h++(A3o (Lr n h) l++[.put d (.v (.slice (T9 A c (Lr 0 l) (Ju e)) (Lr n h-Lr 0 l) (c-Lr 0 l)))])
 | .r n e,.pointer A,l,h,_=>A3o n h++(A3o (Lr n h) l++[.put d (.v (.slice (T9 A n (Lr 0 l) (Ju e)) (Lr n h-Lr 0 l) (n-Lr 0 l)))])
 | _,_,_,_,_=>[.ff]
def B9f(n c:Nat)(d:Option Nat)(i:Int):SV->List It
 | .own k off=>[.put d (.own k (off+i.natAbs*c))]
 | .v (.pointer (some a))=>[.cd (0<=i/\i<((n:Nat):Int)),.put d (.v (.pointer (some (a.add (i.toNat*c)))))]
 | _=>[.ff]
def B9g(d:Option Nat)(i:Int):TD->SV->List It
 | .l e,.v (.slice A n _)=>[.ix A n i (Ju e) d]
 | .r n e,x=>B9f n (Ju e) d i x
 | _,_=>[.ff]
def B9j(i:Int)(d:Option Nat):TD->aC->List It
 | .s,.string s=>[.iy s i d]
 | .r _ e,.agg ⟨cs⟩=>[.put d (A9d (Lp e).ag (i.natAbs*Ju e) (Ju e) cs)]
 | _,_=>[.ff]
def A6v(t:TD)(f:Nat):Nat × aE:=(A5b t).getD f (0,0)
def A5a:Nat × aE->Nat
 | (a,_)=>a
def A9e:Nat × aE->aE
 | (_,b)=>b
def B9o(o:Nat)(d:Option Nat):SV->List It
 | .own k off=>[.put d (.own k (off+o))]
 | .v (.pointer (some a))=>[.put d (.v (.pointer (some (a.add o))))]
 | _=>[.ff]
def B9y(i:Nat):TD->Nat
 | .r _ e=>i*Ju e
 | t=>A5a (A6v t i)
def B6h(t:TD):List aC->List (Nat × aC)->List aC
 | cs,[]=>cs
 | cs,(i,v)::r=>B6h t (B5y cs (B9y i t) (A9j v)) r
def B6a:TD->Bool
 | .l _=>true
 | _=>false
def B4t(d:Option Nat)(x:SV):TD->aC->List It
 | .i k,.int _ n=>Zr d k (B22 k n)
 | _,_=>[.put d x]
def B9v(t s:aE)(tt:TD)(x:SV)(gr:Bool)(d:Option Nat):Bool->List It
 | true=>[.efV (convert s t (A0t x)) t gr d]
 | false=>B4t d x tt (A0t x)
def B4r(d:Option Nat):TD->aC->List It
 | _,.slice _ n _=>Zr d .i64 ((n:Nat):Int)
 | _,.string s=>Zr d .i64 ((s.size:Nat):Int)
 | .r n _,_=>Zr d .i64 ((n:Nat):Int)
 | _,_=>[.ff]
def B4u(d:Option Nat):aC->List It
 | .slice _ _ c=>Zr d .i64 ((c:Nat):Int)
 | _=>[.ff]
def B99:Bool->aC->aC->aC
 | true,.int k r,.int _ y=>.int k (if y>r then y else r)
 | false,.int k r,.int _ y=>.int k (if y<r then y else r)
 | _,r,_=>r
def B64(m:Bool)(r:aC):List aC->aC
 | []=>r
 | y::l=>B64 m (B99 m r y) l
def B69:aC->IntKind
 | .int k _=>k
 | _=>.i64
def B65(m:Bool)(d:Option Nat):List aC->List It
 | v::l=>[.put d (.v (B64 m v l))]
 | _=>[.ff]
def C37(f:Nat):Bool->Bool
 | true=>false
 | false=>A9i B4s f false
def B4v(B22:List Nat)(sl:Bool)(vs:List aC)(t:aE)(gr:Bool)(d:Option Nat):aC->List It
 | .func (.func f) ⟨a⟩ ⟨b⟩=>[.call (C37 f sl) f (a++(vs++b)) t (gr && !sl && !A9i B22 f false) d]
 | .func (.yield l) _ _=>[.yc l vs t d]
 | _=>[.ff]
def B9i:aH->Bool
 | .tmp _=>true
 | _=>false
def B9x(x:GX)(e:En)(t:aE)(gr:Bool)(d:Option Nat):Callee->List aH->Array aE->List It
 | .value f,us,_=>B4v x.wr (B9i f) (Rz e us) t gr d (A0v e f)
 | .builtin .append,us,ts=>[.efV (Builtin.append_ ts t (aD (Rz e us))) t (gr && !A9i x.wr 1000000000 false) d]
 | .builtin .copy,us,ts=>[.efV (Builtin.copy_ ts t (aD (Rz e us))) t false d]
 | .builtin .len,us,ts=>B4r d (Lp (ts.toList.headD 0)).d (A0u (Rz e us))
 | .builtin .cap,us,_=>B4u d (A0u (Rz e us))
 | .builtin .max,us,_=>B65 true d (Rz e us)
 | .builtin .min,us,_=>B65 false d (Rz e us)
 | _,_,_=>[.ff]
def B80:Option Nat->Nat
 | some d=>d
 | none=>0
def A9g(d:Option Nat)(cs:List aC)(s:Sem aC)(gr:Bool):Bool->List It
 | true=>[.al d cs]
 | false=>[.efP s gr d]
def B94(d:Option Nat)(a b:SV):SV->List It
 | .b true=>[.put d a]
 | .b false=>[.put d b]
 | c=>[.br (C1b (A0t c)) [.put d a] [.put d b]]
def B9c(w:Ow)(d:Option Nat)(zs:List aC)(ag:Bool)(n:Nat):SV->List It
 | .own k off=>[.put d (A9d ag off n (A9h w k))]
 | .v (.pointer (some a))=>[.ex zs [],.ld a ag d]
 | _=>[.ff]
def B98(d:Option Nat):SV->List It
 | .v (.pointer p)=>[.nc p d]
 | y=>[.put d y]
def B8r(d:Option Nat):UnOp->SV->List It
 | .not,.b b=>[.put d (.b (!b))]
 | .not,y=>A2r d (!C1b (A0t y))
 | .neg,y=>Zr d (B69 (A0t y)) (B22 (B69 (A0t y)) (0-B9h (A0t y)))
 | _,_=>[.ff]
def B9q(d:Option Nat)(i:Nat):aC->List It
 | .tuple ⟨vs⟩=>[.put d (.v (vs.getD i undef))]
 | _=>[.ff]
def B8v(w:Ow)(t:aE)(z:aC):SV->List It
 | .own k off=>[.st k (B5y (A9h w k) off (A9j z))]
 | y=>[.efU (Instr.storeAt t (A0t y) z)]
def C3a(x:GX)(e:En)(w:Ow)(gr:Bool)(t:aE)(d:Option Nat):Op->List It
 | .move y=>[.put d (A0w e y)]
 | .assign y=>[.put d (A0w e y)]
 | .pick c a b=>B94 d (A0w e a) (A0w e b) (A0w e c)
 | .load t y=>B9c w d (Lp t).zs (Lp t).ag (Ju t) (A0w e y)
 | .fieldAddr s y f=>B9o (A5a (A6v (Lp s).d f)) d (A0w e y)
 | .nilCheck y=>B98 d (A0w e y)
 | .panic _=>[.ff]
 | .makeInterface _ _=>[.put d (.v undef)]
 | .indexAddr t y i=>B9g d (B9h (A0v e i)) (Lp t).d (A0w e y)
 | .index t y i=>B9j (B9h (A0v e i)) d (Lp t).d (A0v e y)
 | .slice t y l h m=>B8x d (Lp t).d (A0v e y) (B30 e l) (B30 e h) (B30 e m)
 | .binOp op t y z _=>B8u (Lp t).d d op (A0w e y) (A0w e z)
 | .unOp op _ y=>B8r d op (A0w e y)
 | .convert s t y=>B9v t s (Lp t).d (A0w e y) gr d (B6a (Lp s).d||B6a (Lp t).d)
 | .extract y i=>B9q d i (A0v e y)
 | .field s y f=>[.put d (A9d (Lp (A9e (A6v (Lp s).d f))).ag (A5a (A6v (Lp s).d f)) (Ju (A9e (A6v (Lp s).d f))) (A9j (A0v e y)))]
 | .build t ps=>[.put d (.v (.agg (aD (B6h (Lp t).d (Lp t).zs (B34 e ps.toList)))))]
 | .makeFunc f a b=>[.put d (.v (.func f (aD (Rz e a.toList)) (aD (Rz e b.toList))))]
 | .call c=>B9x x e t gr d c.callee c.args.toList c.argTypes
 | .alloc t=>A9g d (Lp t).zs (Instr.alloc t true (.tuple #[])) gr (A9i x.own (B80 d) false)
 | .box t y=>A9g d (A9j (A0v e y)) (Instr.box t (A0v e y)) gr (A9i x.own (B80 d) false)
 | .store t y z=>B8v w t (A0v e z) (A0w e y)
 | .makeSlice t l c=>[.efV (Instr.makeSlice t (A0v e l) (A0v e c)) t gr d]
 | .buildSlice t n ps=>[.efV (Instr.buildSlice t n (aD (B34 e ps.toList))) t gr d]
 | _=>[.ff]
def B6c(n:Nat):Bool->List aC->aC
 | true,vs=>.agg (aD (vs.take n))
 | false,vs=>A0u vs
def B6d:List aE->List aC->List aC
 | [],_=>[]
 | t::r,vs=>B6c (Ju t) (Lp t).ag vs::B6d r (vs.drop (Ju t))
def B5w:List aE->List aC
 | []=>[]
 | t::r=>(Lp t).zs++B5w r
def B8y(zs:List aC):TD->List aC
 | .u ts=>B5w ts
 | _=>zs
def A9f(t:aE):List aC:=B8y (Lp t).zs (Lp t).d
def B8z(t:aE)(vs:List aC):TD->aC
 | .u ts=>.tuple (aD (B6d ts vs))
 | _=>B6c (Ju t) (Lp t).ag vs
def Jf(x:SV)(e:En):Option Nat->En
 | some d=>(d,x)::e
 | none=>e
def B32:List Nat->List aC->En->En
 | s::r,v::vs,e=>(s,.v v)::B32 r vs e
 | _,_,e=>e
def B31:List (Nat × Nat)->List aC->Ow->Ow
 | [],_,w=>w
 | (k,n)::r,vs,w=>(k,vs.take n)::B31 r (vs.drop n) w
def B68(e:En):List Nat->List aC
 | []=>[]
 | s::r=>A0t (A6u e s)::B68 e r
def B67(w:Ow):List (Nat × Nat)->List aC
 | []=>[]
 | (k,_)::r=>A9h w k++B67 w r
def B9e(ann:Ann)(e:En)(w:Ow):List aC:=B68 e ann.slots++B67 w ann.owns
def C18(id:Nat):List It->Bool->List It
 | l,true=>l
 | [],false=>[]
 | .blk j::r,false=>C18 id r (j==id)
 | _::r,false=>C18 id r false
def C1u(rs:List ResultVar):List It->List It
 | []=>[.re rs []]
 | .rn _ JR::_=>[.rt JR]
 | _::r=>C1u rs r
def B97(k:Nat)(e:En):SV->En
 | .own _ _=>e
 | x=>(k,x)::e
def B2y:En->En
 | []=>[]
 | (k,x)::r=>B97 k (B2y r) x
def B9k:List aF->List aF
 | o::_=>[o]
 | []=>[]
def A3n(l:List aF):List Nat->List aF
 | []=>[]
 | i::r=>B9k (l.drop i)++A3n l r
def B33(o:aF)(gr:Bool):Bool->Bool->List It
 | true,true=>[.o [] [o] gr]
 | false,false=>[.o [] [o] gr]
 | _,_=>[.put o.dst (.v undef)]
def B60:List aF->Nat
 | o::_=>B80 o.dst
 | []=>0
def B62:List Nat->List aC->En->En
 | s::r,v::vs,e=>B62 r vs ((s,.v v)::e)
 | _,_,e=>e
def B61(n:Nat):List aF->List Nat
 | []=>[]
 | _::r=>n::B61 (n+1) r
def B96(ops:List aF):Option (List Nat × List (List Nat))->List Nat
 | some (l,_)=>l
 | none=>B61 0 ops
def B9l:Op->Bool
 | .store _ _ _=>false
 | _=>true
def B9n(gs:Nat)(want:Bool)(o:aF)(gr:Bool):SV->List It
 | .b b=>B33 o gr b want
 | .v (.bool t)=>[.gd t gs want o gr]
 | _=>[.put o.dst (.v undef)]
def B95(x:GX)(e:En)(w:Ow)(ops:List aF)(gr:Bool):aF->List It
 | ⟨d,op,t,_,_,none⟩=>C3a x e w (gr&&B9l op) t d op
 | ⟨d,op,t,p,a,some (j,want)⟩=>B9n (B60 (ops.drop j)) want ⟨d,op,t,p,a,none⟩ gr (A6u e (B60 (ops.drop j)))
def B91(ops:List aF)(o:Option (List Nat × List (List Nat))):Option (List (Nat × List Nat))->List It
 | none=>match o with
  | none=>[.o ops ops true]
  | some (l,_)=>[.o ops (A3n ops l) true]
 | some al=>[.a ops (B6f [] ops) al (B96 ops o)]
def B90(fa:FnAnn)(id:Nat)(ops:List aF):Bool->List It
 | false=>[.o ops ops false]
 | true=>B91 ops (B7z fa.orders id false none) (B7z fa.alts id false none)
def B8w(a b:aG):Option Ann->List It
 | none=>[.c a,.c b]
 | some ann=>[.cu ann a b]
def B9w(a b:aG):SV->List It
 | .b true=>[.c a]
 | .b false=>[.c b]
 | c=>[.br (C1b (A0t c)) [.c a] [.c b]]
def B9b(b:aG):Option Ann->List It
 | none=>[.ff]
 | some ann=>[.lp ann b]
def B92(g:aC)(ps:List Nat)(asg body:aG):Option (List aC)->Option (List aC)->List It
 | some zs,none=>[.rf false g zs ps asg body]
 | some zs,some _=>[.rf true g zs ps asg body]
 | _,_=>[.ff]
def C3c(x:GX)(e:En):aG->List It
 | .skip=>[]
 | .region id ops dr=>B90 x.fa id ops.toList dr
 | .seq a b=>B8w a b (B9p x.fa.cuts (A89 b))
 | .cond c a b=>B9w a b (A0w e c)
 | .block id b=>[.c b,.blk id]
 | .loop b=>B9b b (B9p x.fa.loops (A89 b))
 | .rangeFunc g ps asg body=>B92 (A0v e g) ps.toList asg body (B9p x.fa.rounds (A89 body)) (B9p x.fa.rounds (C38 1000000 (A89 body)))
 | .scope b=>[.c b]
 | .label _=>[]
 | _=>[.ff]
def B93(rs:List ResultVar)(w:Ow)(vs:List aC)(ag:Bool)(n:Nat)(zs:List aC):SV->List It
 | .own k off=>[.re rs (vs++[A0t (A9d ag off n (A9h w k))])]
 | .v (.pointer (some p))=>[.ex zs [],.rc rs vs p ag]
 | _=>[.ff]
def U2:Nat->GX->List It->En->Ow->Heap->Prop
 | 0,_,_,_,_,_=>True
 | n+1,x,[],e,w,h=>U2 n x [.re x.rs []] e w h
 | n+1,x,.c (.exit id)::it,e,w,h=>U2 n x (C18 id it false) e w h
 | n+1,x,.c .ret::it,e,w,h=>U2 n x (C1u x.rs it) e w h
 | n+1,x,.c c::it,e,w,h=>U2 n x (C3c x e c++it) e w h
 | n+1,x,.cu ann a b::it,e,w,h=>∃ J:LP,U2 n x (.c a :: .ct ann J::it) e w h/\U2 n x (.fa ann.zs [] :: .ch ann J b::it) e w h
 | n+1,x,.lp ann b::it,e,w,h=>∃ (Inv:LP) (mu:LN),Inv (B9e ann e w) h/\U2 n x (.fa ann.zs [] :: .lh ann Inv mu b::it) e w h
 | n+1,x,.rf false g zs ps asg body::it,e,w,h=>A6a prog g h (fun args h1 J=>U2 n x [.ex zs [],.rd args ps asg body J none] (B2y e) [] h1) (fun h2=>U2 n x it e w h2)
 | n+1,x,.rf true g zs ps asg body::it,e,w,h=>A69 prog g h (fun args h1 J JR=>U2 n x [.ex zs [],.rd args ps asg body J (some JR)] (B2y e) [] h1) (fun h2=>U2 n x it e w h2) (fun h2=>U2 n x (.c .ret::it) e w h2)
 | n+1,x,.o _ [] _::it,e,w,h=>U2 n x it e w h
 | n+1,x,.o ops (o::l) gr::it,e,w,h=>U2 n x (B95 x e w ops gr o ++ .o ops l gr::it) e w h
 | n+1,x,.a _ _ _ []::it,e,w,h=>U2 n x it e w h
 | n+1,x,.a ops anc al (j::L)::it,e,w,h=>U2 n x (.an ops anc al j L (B6i j anc L (C39 (B7z al j false none)))::it) e w h
 | n+1,x,.an ops anc al j L []::it,e,w,h=>U2 n x (.o ops (A3n ops [j]) true :: .a ops anc al L::it) e w h
 | n+1,x,.an ops anc al j L (i::r)::it,e,w,h=>U2 n x (.o ops (A3n ops [j]) true :: .a ops anc al L::it) e w h/\U2 n x (.ar ops anc al j L i r::it) e w h
 | n+1,x,.ar ops anc al j L i []::it,e,w,h=>U2 n x (.o ops (A3n ops [i]) true :: .a ops anc al (j::C1a i L)::it) e w h
 | n+1,x,.ar ops anc al j L i (k::r)::it,e,w,h=>U2 n x (.o ops (A3n ops [i]) true :: .a ops anc al (j::C1a i L)::it) e w h/\U2 n x (.ar ops anc al j L k r::it) e w h
 | n+1,x,.gd t gs want o gr::it,e,w,h=>Br t (U2 n x (B33 o gr true want++it) ((gs,.b true)::e) w h) (U2 n x (B33 o gr false want++it) ((gs,.b false)::e) w h)
 | n+1,x,.blk _::it,e,w,h=>U2 n x it e w h
 | n+1,x,.put d y::it,e,w,h=>U2 n x it (Jf y e d) w h
 | n+1,x,.br t A B::it,e,w,h=>Br t (U2 n x (A++it) e w h) (U2 n x (B++it) e w h)
 | _+1,_,.ff::_,_,_,_=>False
 | n+1,x,.nc p d::it,e,w,h=>∃ a,p=some a/\U2 n x it (Jf (.v (.pointer (some a))) e d) w h
 | n+1,x,.ix A m i c d::it,e,w,h=>∃ a,A=some a/\0<=i/\i<(m:Int)/\U2 n x it (Jf (.v (.pointer (some (a.add (i.toNat*c))))) e d) w h
 | n+1,x,.iy s i d::it,e,w,h=>∃ c:UInt8,(0<=i/\s[i.toNat]? = some c)/\U2 n x it (Jf (.v (.int .u8 c.toNat)) e d) w h
 | n+1,x,.cd p::it,e,w,h=>p/\U2 n x it e w h
 | n+1,x,.al d cs::it,e,w,h=>U2 n x it (Jf (.own (B80 d) 0) e d) ((B80 d,cs)::w) h
 | n+1,x,.st k cs::it,e,w,h=>U2 n x it e ((k,cs)::w) h
 | n+1,x,.ex (.int k _::zs) acc::it,e,w,h=>∃ i:Int,U2 n x (.ex zs (acc++[.int k i])::it) e w h
 | n+1,x,.ex (.bool _::zs) acc::it,e,w,h=>∃ b:Bool,U2 n x (.ex zs (acc++[.bool b])::it) e w h
 | n+1,x,.ex (.string _::zs) acc::it,e,w,h=>∃ s:ByteArray,U2 n x (.ex zs (acc++[.string s])::it) e w h
 | n+1,x,.ex (.slice _ _ _::zs) acc::it,e,w,h=>∃ (A:Option Addr) (m c:Nat),U2 n x (.ex zs (acc++[.slice A m c])::it) e w h
 | n+1,x,.ex (.pointer _::zs) acc::it,e,w,h=>∃ p:Option Addr,U2 n x (.ex zs (acc++[.pointer p])::it) e w h
 | n+1,x,.ex (_::zs) acc::it,e,w,h=>∃ v:aC,U2 n x (.ex zs (acc++[v])::it) e w h
 | n+1,x,.fa (.int k _::zs) acc::it,e,w,h=>∀ i:Int,U2 n x (.fa zs (acc++[.int k i])::it) e w h
 | n+1,x,.fa (.bool _::zs) acc::it,e,w,h=>∀ b:Bool,U2 n x (.fa zs (acc++[.bool b])::it) e w h
 | n+1,x,.fa (.string _::zs) acc::it,e,w,h=>∀ s:ByteArray,U2 n x (.fa zs (acc++[.string s])::it) e w h
 | n+1,x,.fa (.slice _ _ _::zs) acc::it,e,w,h=>∀ (A:Option Addr) (m c:Nat),U2 n x (.fa zs (acc++[.slice A m c])::it) e w h
 | n+1,x,.fa (.pointer _::zs) acc::it,e,w,h=>∀ p:Option Addr,U2 n x (.fa zs (acc++[.pointer p])::it) e w h
 | n+1,x,.fa (_::zs) acc::it,e,w,h=>∀ v:aC,U2 n x (.fa zs (acc++[v])::it) e w h
 | n+1,x,.fa [] vs :: .lh ann Inv mu b::it,e,w,_=>∀ h,Inv vs h->U2 n x (.c b :: .le ann Inv mu vs h::it) (B32 ann.slots vs e) (B31 ann.owns (vs.drop ann.slots.length) w) h
 | n+1,x,.fa [] vs :: .ch ann J b::it,e,w,_=>∀ h,J vs h->U2 n x (.c b::it) (B32 ann.slots vs e) (B31 ann.owns (vs.drop ann.slots.length) w) h
 | _+1,_,.le ann Inv mu vs h0::_,e,w,h=>Inv (B9e ann e w) h/\mu (B9e ann e w) h<mu vs h0
 | _+1,_,.ct ann J::_,e,w,h=>J (B9e ann e w) h
 | n+1,x,.ex [] vs :: .ld a true d::it,e,w,h=>cellsAt h a 0 vs (U2 n x it (Jf (.v (.agg (aD vs))) e d) w h)
 | n+1,x,.ex [] vs :: .ld a false d::it,e,w,h=>h.cell? a=some (A0u vs)/\U2 n x it (Jf (.v (A0u vs)) e d) w h
 | n+1,x,.ex [] vs :: .rs r h0 gr t d::it,e,w,h=>U2 n x (.rs1 r h0 gr (B8z t vs (Lp t).d) d::it) e w h
 | n+1,x,.rs1 r h0 gr v d::it,e,w,h=>r=v/\Grow gr h0 h (U2 n x it (Jf (.v v) e d) w h)
 | n+1,x,.ex [] vs :: .rd args ps asg body J JR::_,e,w,h=>args=vs/\U2 n x [.c asg,.c body,.rn J JR] (B62 ps vs e) w h
 | n+1,x,.ex [] vs :: .rc rs us a true::it,e,w,h=>cellsAt h a 0 vs (U2 n x (.re rs (us++[.agg (aD vs)])::it) e w h)
 | n+1,x,.ex [] vs :: .rc rs us a false::it,e,w,h=>h.cell? a=some (A0u vs)/\U2 n x (.re rs (us++vs)::it) e w h
 | _+1,_,.rn J _::_,_,_,h=>J h
 | _+1,_,.rt (some J)::_,_,_,h=>J h
 | _+1,_,.rt none::_,_,_,_=>False
 | n+1,x,.efV s t gr d::it,e,w,h=>wpH prog s (fun v h'=>U2 n x (.ex (A9f t) [] :: .rs v h gr t d::it) e w h') h
 | n+1,x,.efP s gr d::it,e,w,h=>wpH prog s (fun v h'=>∃ a:Addr,v= .pointer (some a)/\Grow gr h h' (U2 n x it (Jf (.v (.pointer (some a))) e d) w h')) h
 | n+1,x,.efU s::it,e,w,h=>wpH prog s (fun _ h'=>U2 n x it e w h') h
 | n+1,x,.call false f us t gr d::it,e,w,h=>FCall prog f (aD us) h fun r h'=>U2 n x (.ex (A9f t) [] :: .rs r h gr t d::it) e w h'
 | n+1,x,.call true f us t gr d::it,e,w,h=>ECall prog f (aD us) h fun r h'=>U2 n x (.ex (A9f t) [] :: .rs r h gr t d::it) e w h'
 | n+1,x,.yc l us t d::it,e,w,h=>YCall prog l (aD us) h fun r h'=>U2 n x (.ex (A9f t) [] :: .rs r h false t d::it) e w h'
 | _+1,x,.re [] vs::_,_,_,h=>x.K (Nz vs) h
 | n+1,x,.re (.tmp t::rs) vs::it,e,w,h=>U2 n x (.re rs (vs++[A0t (A6u e t)])::it) e w h
 | n+1,x,.re (.cell a t::rs) vs::it,e,w,h=>U2 n x (B93 rs w vs (Lp t).ag (Ju t) (Lp t).zs (A6u e a)++it) e w h
 | _+1,_,_,_,_,_=>False
def Gen(_ _:Prop):Prop:=True
def C3s{a:Prop}:Gen a a:=trivial
