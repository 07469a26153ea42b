/- A part. -/
import Derived.Test.YtkfhdoblhajcbaaGreatDoorG06
import Derived.Test.YtkfhdoblhajcbaaGreatDoorG07
open Go.Proofs.Tryz
set_option linter.all false
open List renaming toArray->aD
open _root_.Go renaming Value->aC,TypeId->aE,Oper->aF,Code->aG,Operand->aH
namespace Go.Proofs.YtkfhdoblhajcbaaGreatDoor
open Go
inductive SV where
 | v (v:aC)
 | b (b:Bool)
 | n (k:IntKind) (n:Int)
 | own (k off:Nat)
abbrev En:=List (Nat × SV)
abbrev Ow:=List (Nat × List aC)
structure GX where
 fa:FnAnn
 rs:List ResultVar
 own:List Nat
 wr:List Nat
 K:VP
inductive It where
 | c (c:aG)
 | o (ops l:List aF) (gr:Bool)
 | a (ops:List aF) (anc:List (List Nat)) (al:List (Nat × List Nat)) (l:List Nat)
 | an (ops:List aF) (anc:List (List Nat)) (al:List (Nat × List Nat)) (j:Nat) (L r:List Nat)
 | ar (ops:List aF) (anc:List (List Nat)) (al:List (Nat × List Nat)) (j:Nat) (L:List Nat) (i:Nat) (r:List Nat)
 | gd (t:Bool) (gs:Nat) (want:Bool) (o:aF) (gr:Bool)
 | blk (id:Nat)
 | put (d:Option Nat) (x:SV)
 | br (t:Bool) (A B:List It)
 | ff
 | nc (p:Option Addr) (d:Option Nat)
 | ix (A:Option Addr) (n:Nat) (i:Int) (c:Nat) (d:Option Nat)
 | iy (s:ByteArray) (i:Int) (d:Option Nat)
 | cd (p:Prop)
 | al (d:Option Nat) (cs:List aC)
 | st (k:Nat) (cs:List aC)
 | ex (zs acc:List aC)
 | fa (zs acc:List aC)
 | ld (a:Addr) (ag:Bool) (d:Option Nat)
 | efV (s:Sem aC) (t:aE) (gr:Bool) (d:Option Nat)
 | efP (s:Sem aC) (gr:Bool) (d:Option Nat)
 | efU (s:Sem Unit)
 | call (e:Bool) (f:Nat) (args:List aC) (t:aE) (gr:Bool) (d:Option Nat)
 | yc (l:Nat) (args:List aC) (t:aE) (d:Option Nat)
 | rs (r:aC) (h:Heap) (gr:Bool) (t:aE) (d:Option Nat)
 | rs1 (r:aC) (h:Heap) (gr:Bool) (v:aC) (d:Option Nat)
 | lp (ann:Ann) (b:aG)
 | lh (ann:Ann) (Inv:LP) (mu:LN) (b:aG)
 | le (ann:Ann) (Inv:LP) (mu:LN) (vs:List aC) (h:Heap)
 | cu (ann:Ann) (a b:aG)
 | ct (ann:Ann) (J:LP)
 | ch (ann:Ann) (J:LP) (b:aG)
 | rf (lv:Bool) (g:aC) (zs:List aC) (ps:List Nat) (asg body:aG)
 | rd (args:List aC) (ps:List Nat) (asg body:aG) (J:Heap->Prop) (JR:Option (Heap->Prop))
 | rn (J:Heap->Prop) (JR:Option (Heap->Prop))
 | rt (JR:Option (Heap->Prop))
 | re (r:List ResultVar) (vs:List aC)
 | rc (r:List ResultVar) (vs:List aC) (a:Addr) (ag:Bool)
def C0y{α:Type}:List (Nat × α)->Nat->Bool->α->α
 | _,_,true,v=>v
 | [],_,false,v=>v
 | (k,v)::r,d,false,_=>C0y r d (k==d) v
def B0w{α:Type}(z:α):List (Nat × α)->Nat->Bool->α->α
 | _,_,true,v=>v
 | [],_,false,_=>z
 | (k,v)::r,d,false,_=>B0w z r d (k==d) v
def A7j:List Nat->Nat->Bool->Bool
 | _,_,true=>true
 | [],_,false=>false
 | k::r,d,false=>A7j r d (k==d)
def B5w{α:Type}:List (Nat × α)->Nat->Bool->Option α->Option α
 | _,_,true,v=>v
 | [],_,false,_=>none
 | (k,v)::r,d,false,_=>B5w r d (k==d) (some v)
def B7j{α:Type}(l:List (Nat × α)):Option Nat->Option α
 | some i=>B5w l i false none
 | none=>none
def B7n(x:Nat):Bool->List Nat->List Nat->List Nat
 | true,r,_=>r
 | false,_,s=>x::s
def B93(i:Nat):List Nat->List Nat
 | []=>[]
 | x::L=>B7n x (x==i) L (B93 i L)
def B6m(x:Nat):Bool->List Nat->List Nat
 | true,_=>[]
 | false,s=>x::s
def B9i(i:Nat):List Nat->List Nat
 | []=>[]
 | x::L=>B6m x (x==i) (B9i i L)
def B45(a:List Nat):List Nat->Bool
 | []=>true
 | x::r=> !A7j a x false&&B45 a r
def B77(i:Nat):Bool->List Nat->List Nat
 | true,s=>i::s
 | false,s=>s
def B4k(j:Nat)(anc:List (List Nat))(L:List Nat):List Nat->List Nat
 | []=>[]
 | i::r=>B77 i (A7j L i false && !A7j (anc.getD i []) j false&&B45 (anc.getD i []) (B9i i L)) (B4k j anc L r)
def C0w:Option (List Nat)->List Nat
 | none=>[]
 | some l=>l
def B74(x:Nat):Bool->List Nat->List Nat
 | true,l=>l
 | false,l=>x::l
def B48(l:List Nat):List Nat->List Nat
 | []=>l
 | x::r=>B48 (B74 x (A7j l x false) l) r
def B7g:Ground->Bool
 | .textOnly _=>false
 | .gcOnly _=>false
 | _=>true
def B7m(acc:List (List Nat))(l:List Nat)(j:Nat):Bool->List Nat
 | true=>B48 l (j::acc.getD j [])
 | false=>l
def B4g(acc:List (List Nat))(l:List Nat):List Edge->List Nat
 | []=>l
 | ⟨j,g⟩::r=>B4g acc (B7m acc l j (B7g g)) r
def B4h(acc:List (List Nat)):List aF->List (List Nat)
 | []=>acc
 | o::r=>B4h (acc++[B4g acc [] o.after.toList]) r
def B9r:Option Nat->Option Nat->Option Nat
 | some i,_=>some i
 | none,x=>x
def A6d:aG->Option Nat
 | .region id _ _=>some id
 | .seq a b=>B9r (A6d a) (A6d b)
 | .block _ b=>A6d b
 | .loop b=>A6d b
 | .scope b=>A6d b
 | .cond _ a b=>B9r (A6d a) (A6d b)
 | _=>none
abbrev La:=Nat × List Nat × List (Nat × Nat) × List aC
def B5y:List La->List (Nat × Ann)
 | []=>[]
 | (i,s,o,z)::r=>(i,⟨s,o,z,⟨[],[]⟩⟩)::B5y r
def B92:List (Nat × List Nat)->List (Nat × List Nat × List (List Nat))
 | []=>[]
 | (i,l)::r=>(i,l,[])::B92 r
def wrt:aG->List aF
 | .region _ ops _=>ops.toList
 | .seq a b | .cond _ a b | .rangeFunc _ _ a b=>wrt a++wrt b
 | .block _ b | .loop b | .scope b=>wrt b
 | _=>[]
def C1e(own:List Nat)(o:aF):Option Nat:=match o.op,o.dst with
 | .alloc _,some d | .box _ _,some d=>bif has own d then some d else none
 | _,_=>none
def B87(own:List Nat)(a:Ann)(ops:List aF):Ann:={ a with lim:=⟨ops.filterMap (·.dst),a.owns.map (·.1)++ops.filterMap (C1e own)⟩ }
def A0o(i:Nat):aG->List aF
 | .loop b=>bif I8 b==some i then wrt b else A0o i b
 | .seq a b | .cond _ a b | .rangeFunc _ _ a b=>A0o i a++A0o i b
 | .block _ b | .scope b=>A0o i b
 | _=>[]
def Um(i:Nat):aG->List aF
 | .seq a b=>bif I8 b==some i then wrt a else Um i a++Um i b
 | .cond _ a b | .rangeFunc _ _ a b=>Um i a++Um i b
 | .block _ b | .loop b | .scope b=>Um i b
 | _=>[]
def B3l(own:List Nat)(c:aG)(fa:FnAnn):FnAnn:={ fa with loops:=fa.loops.map fun x=>(x.1,B87 own x.2 (A0o x.1 c)),cuts:=fa.cuts.map fun x=>(x.1,B87 own x.2 (Um x.1 c)) }
def C0v(n:Nat):Option Nat->Option Nat
 | some i=>some (i+n)
 | none=>none
def B7o:aC->SV
 | .bool b=>.b b
 | .int k n=>.n k n
 | v=>.v v
def A56(e:En)(t:Nat):SV:=B0w (.v undef) e t false (.v undef)
def A7i(w:Ow)(k:Nat):List aC:=B0w [] w k false []
def Zd(e:En):aH->SV
 | .tmp t=>A56 e t
 | .const v=>B7o v
 | .global g=>.v (.pointer (some ⟨g,0,none⟩))
 | .func f=>.v (.func (.func f) #[] #[])
def Za:SV->aC
 | .v v=>v
 | .b b=>.bool b
 | .n k n=>.int k n
 | .own _ _=>undef
def Zc(e:En)(x:aH):aC:=Za (Zd e x)
def Qy(e:En):List aH->List aC
 | []=>[]
 | x::r=>Zc e x::Qy e r
def B11(e:En):List (Nat × aH)->List (Nat × aC)
 | []=>[]
 | (i,x)::r=>(i,Zc e x)::B11 e r
def B94:aC->Bool
 | .bool b=>b
 | _=>false
def B7b:aC->Int
 | .int _ n=>n
 | _=>0
def B0x(e:En):Option aH->Option Int
 | none=>none
 | some x=>some (B7b (Zc e x))
def A7k:aC->List aC
 | .agg ⟨l⟩=>l
 | v=>[v]
def Zb:List aC->aC
 | v::_=>v
 | []=>undef
def B2n(n:Nat):Bool->List aC->SV
 | true,cs=>.v (.agg (aD (cs.take n)))
 | false,cs=>.v (Zb cs)
def A7e(ag:Bool)(off n:Nat)(cs:List aC):SV:=B2n n ag (cs.drop off)
def B40(cs:List aC)(off:Nat)(vs:List aC):List aC:=cs.take off++vs++cs.drop (off+vs.length)
def A9w:IntKind->Int->Int
 | .i64,n=>C3 n
 | .i32,n=>C19 n
 | .u64,n=>C7 n
 | .u32,n=>I4 n
 | .u8,n=>wu8 n
 | k,n=>k.wrap n
def B4i:IntKind->Nat
 | .i8 | .u8=>8
 | .i16 | .u16=>16
 | .i32 | .u32=>32
 | .i64 | .u64=>64
def Xr(d:Option Nat)(k:IntKind)(n:Int):List It:=[.put d (.v (.int k n))]
def A1a(d:Option Nat)(b:Bool):List It:=[.put d (.v (.bool b))]
def B7l:List aC->List aC->Bool->Bool
 | .string a::_,.string b::_,r=>(a.toList==b.toList)&&r
 | _,_,_=>false
def B12:List (Nat × aE)->List aC->List aC->Bool
 | [],_,_=>true
 | (o,_)::r,xs,ys=>B7l (xs.drop o) (ys.drop o) (B12 r xs ys)
def A3q:TD->List (Nat × aE)
 | .t fs=>fs
 | _=>[]
def B9s(b:Int)(lit:Bool)(A:List It):List It:=match lit with
 | true=>A
 | false=>[.br (decide (b=0)) [.ff] A]
def B9v(b:Int)(lit:Bool)(A:List It):List It:=match lit with
 | true=>A
 | false=>[.br (decide (b<0)) [.ff] A]
def B3z(l:Bool)(t:TD)(d:Option Nat):BinOp->aC->aC->List It
 | .add,.int k a,.int _ b=>Xr d k (A9w k (a+b))
 | .sub,.int k a,.int _ b=>Xr d k (A9w k (a-b))
 | .mul,.int k a,.int _ b=>Xr d k (A9w k (a*b))
 | .quo,.int k a,.int _ b=>B9s b l (Xr d k (A9w k (a.tdiv b)))
 | .rem,.int k a,.int _ b=>B9s b l (Xr d k (a.tmod b))
 | .shl,.int k a,.int _ b=>B9v b l (Xr d k (A9w k (a*2^(min b.toNat (B4i k)))))
 | .shr,.int k a,.int _ b=>B9v b l (Xr d k (a.fdiv (2^(min b.toNat (B4i k)))))
 | .and,.int k a,.int _ b=>Xr d k (Xs k a b)
 | .or,.int k a,.int _ b=>Xr d k (bor k a b)
 | .xor,.int k a,.int _ b=>Xr d k (C1i k a b)
 | .andNot,.int k a,.int _ b=>Xr d k (B5i k a b)
 | .eql,.int _ a,.int _ b=>A1a d (a==b)
 | .neq,.int _ a,.int _ b=>A1a d (a != b)
 | .lss,.int _ a,.int _ b=>A1a d (decide (a<b))
 | .leq,.int _ a,.int _ b=>A1a d (decide (a<=b))
 | .gtr,.int _ a,.int _ b=>A1a d (decide (a>b))
 | .geq,.int _ a,.int _ b=>A1a d (decide (a>=b))
 | .add,.string a,.string b=>[.cd (((a.size+b.size:Nat):Int)<=9223372036854775807),.put d (.v (.string (a++b)))]
 | .eql,.string a,.string b=>A1a d (a.toList==b.toList)
 | .neq,.string a,.string b=>A1a d (!(a.toList==b.toList))
 | .eql,.slice a _ _,.slice _ _ _=>A1a d a.isNone
 | .neq,.slice a _ _,.slice _ _ _=>A1a d (!a.isNone)
 | .eql,.bool a,.bool b=>A1a d (a==b)
 | .neq,.bool a,.bool b=>A1a d (!(a==b))
 | .eql,.agg ⟨a⟩,.agg ⟨b⟩=>A1a d (B12 (A3q t) a b)
 | .neq,.agg ⟨a⟩,.agg ⟨b⟩=>A1a d (!B12 (A3q t) a b)
 | _,_,_=>[.ff]
def B6o(t:TD)(d:Option Nat):BinOp->SV->SV->List It
 | .eql,.n _ a,.n _ b=>[.put d (.b (a.natAbs==b.natAbs))]
 | .neq,.n _ a,.n _ b=>[.put d (.b (!(a.natAbs==b.natAbs)))]
 | op,x,.n k b=>B3z true t d op (Za x) (.int k b)
 | op,x,y=>B3z false t d op (Za x) (Za y)
def Iv(t:aE):Nat:=(Km t).n
def A24(y:Nat):Option Int->List It
 | none=>[]
 | some i=>[.cd (0<=i/\i<=(y:Int))]
def Kn(y:Nat):Option Int->Nat
 | none=>y
 | some i=>i.toNat
def B6r(d:Option Nat):TD->aC->Option Int->Option Int->Option Int->List It
 | .l e,.slice A _ c,some l,some h,some m=>[.cd (0<=m/\m<=(c:Int)),.cd (0<=h/\h<=(m.toNat:Int)),.cd (0<=l/\l<=(h.toNat:Int)),.put d (.v (.slice (T9 A m.toNat l.toNat (Iv e)) (h.toNat-l.toNat) (m.toNat-l.toNat)))]
 | .s,.string s,l,h,_=>A24 s.size h++(A24 (Kn s.size h) l++[.put d (.v (.string (s.extract (Kn 0 l) (Kn s.size h))))])
 | .l e,.slice A n c,l,h,_=>A24 c h++(A24 (Kn n h) l++[.put d (.v (.slice (T9 A c (Kn 0 l) (Iv e)) (Kn n h-Kn 0 l) (c-Kn 0 l)))])
 | .r n e,.pointer A,l,h,_=>A24 n h++(A24 (Kn n h) l++[.put d (.v (.slice (T9 A n (Kn 0 l) (Iv e)) (Kn n h-Kn 0 l) (n-Kn 0 l)))])
 | _,_,_,_,_=>[.ff]
def B79(n c:Nat)(d:Option Nat)(i:Int):SV->List It
 | .own k off=>[.put d (.own k (off+i.natAbs*c))]
 | .v (.pointer (some a))=>[.cd (0<=i/\i<((n:Nat):Int)),.put d (.v (.pointer (some (a.add (i.toNat*c)))))]
 | _=>[.ff]
def B7a(d:Option Nat)(i:Int):TD->SV->List It
 | .l e,.v (.slice A n _)=>[.ix A n i (Iv e) d]
 | .r n e,x=>B79 n (Iv e) d i x
 | _,_=>[.ff]
def B7d(i:Int)(d:Option Nat):TD->aC->List It
 | .s,.string s=>[.iy s i d]
 | .r _ e,.agg ⟨cs⟩=>[.put d (A7e (Km e).ag (i.natAbs*Iv e) (Iv e) cs)]
 | _,_=>[.ff]
def A57(t:TD)(f:Nat):Nat × aE:=(A3q t).getD f (0,0)
def A3p:Nat × aE->Nat
 | (a,_)=>a
def A7f:Nat × aE->aE
 | (_,b)=>b
def B7i(o:Nat)(d:Option Nat):SV->List It
 | .own k off=>[.put d (.own k (off+o))]
 | .v (.pointer (some a))=>[.put d (.v (.pointer (some (a.add o))))]
 | _=>[.ff]
def B7s(i:Nat):TD->Nat
 | .r _ e=>i*Iv e
 | t=>A3p (A57 t i)
def B4j(t:TD):List aC->List (Nat × aC)->List aC
 | cs,[]=>cs
 | cs,(i,v)::r=>B4j t (B40 cs (B7s i t) (A7k v)) r
def B4c:TD->Bool
 | .l _=>true
 | _=>false
def B2q(d:Option Nat)(x:SV):TD->aC->List It
 | .i k,.int _ n=>Xr d k (A9w k n)
 | _,_=>[.put d x]
def B7p(t s:aE)(tt:TD)(x:SV)(gr:Bool)(d:Option Nat):Bool->List It
 | true=>[.efV (convert s t (Za x)) t gr d]
 | false=>B2q d x tt (Za x)
def B2o(d:Option Nat):TD->aC->List It
 | _,.slice _ n _=>Xr d .i64 ((n:Nat):Int)
 | _,.string s=>Xr d .i64 ((s.size:Nat):Int)
 | .r n _,_=>Xr d .i64 ((n:Nat):Int)
 | _,_=>[.ff]
def B2r(d:Option Nat):aC->List It
 | .slice _ _ c=>Xr d .i64 ((c:Nat):Int)
 | _=>[.ff]
def B73:Bool->aC->aC->aC
 | true,.int k r,.int _ y=>.int k (if y>r then y else r)
 | false,.int k r,.int _ y=>.int k (if y<r then y else r)
 | _,r,_=>r
def B46(m:Bool)(r:aC):List aC->aC
 | []=>r
 | y::l=>B46 m (B73 m r y) l
def B4b:aC->IntKind
 | .int k _=>k
 | _=>.i64
def B47(m:Bool)(d:Option Nat):List aC->List It
 | v::l=>[.put d (.v (B46 m v l))]
 | _=>[.ff]
def C0u(f:Nat):Bool->Bool
 | true=>false
 | false=>A7j B2p f false
def B2s(A9w:List Nat)(sl:Bool)(vs:List aC)(t:aE)(gr:Bool)(d:Option Nat):aC->List It
 | .func (.func f) ⟨a⟩ ⟨b⟩=>[.call (C0u f sl) f (a++(vs++b)) t (gr && !sl && !A7j A9w f false) d]
 | .func (.yield l) _ _=>[.yc l vs t d]
 | _=>[.ff]
def B7c:aH->Bool
 | .tmp _=>true
 | _=>false
def B7r(x:GX)(e:En)(t:aE)(gr:Bool)(d:Option Nat):Callee->List aH->Array aE->List It
 | .value f,us,_=>B2s x.wr (B7c f) (Qy e us) t gr d (Zc e f)
 | .builtin .append,us,ts=>[.efV (Builtin.append_ ts t (aD (Qy e us))) t (gr && !A7j x.wr 1000000000 false) d]
 | .builtin .copy,us,ts=>[.efV (Builtin.copy_ ts t (aD (Qy e us))) t false d]
 | .builtin .len,us,ts=>B2o d (Km (ts.toList.headD 0)).d (Zb (Qy e us))
 | .builtin .cap,us,_=>B2r d (Zb (Qy e us))
 | .builtin .max,us,_=>B47 true d (Qy e us)
 | .builtin .min,us,_=>B47 false d (Qy e us)
 | _,_,_=>[.ff]
def B5x:Option Nat->Nat
 | some d=>d
 | none=>0
def A7h(d:Option Nat)(cs:List aC)(s:Sem aC)(gr:Bool):Bool->List It
 | true=>[.al d cs]
 | false=>[.efP s gr d]
def B6y(d:Option Nat)(a b:SV):SV->List It
 | .b true=>[.put d a]
 | .b false=>[.put d b]
 | c=>[.br (B94 (Za c)) [.put d a] [.put d b]]
def B76(w:Ow)(d:Option Nat)(zs:List aC)(ag:Bool)(n:Nat):SV->List It
 | .own k off=>[.put d (A7e ag off n (A7i w k))]
 | .v (.pointer (some a))=>[.ex zs [],.ld a ag d]
 | _=>[.ff]
def B72(d:Option Nat):SV->List It
 | .v (.pointer p)=>[.nc p d]
 | y=>[.put d y]
def B6l(d:Option Nat):UnOp->SV->List It
 | .not,.b b=>[.put d (.b (!b))]
 | .not,y=>A1a d (!B94 (Za y))
 | .neg,y=>Xr d (B4b (Za y)) (A9w (B4b (Za y)) (0-B7b (Za y)))
 | _,_=>[.ff]
def B7k(d:Option Nat)(i:Nat):aC->List It
 | .tuple ⟨vs⟩=>[.put d (.v (vs.getD i undef))]
 | _=>[.ff]
def B6p(w:Ow)(t:aE)(z:aC):SV->List It
 | .own k off=>[.st k (B40 (A7i w k) off (A7k z))]
 | y=>[.efU (Instr.storeAt t (Za y) z)]
def C0x(x:GX)(e:En)(w:Ow)(gr:Bool)(t:aE)(d:Option Nat):Op->List It
 | .move y=>[.put d (Zd e y)]
 | .assign y=>[.put d (Zd e y)]
 | .pick c a b=>B6y d (Zd e a) (Zd e b) (Zd e c)
 | .load t y=>B76 w d (Km t).zs (Km t).ag (Iv t) (Zd e y)
 | .fieldAddr s y f=>B7i (A3p (A57 (Km s).d f)) d (Zd e y)
 | .nilCheck y=>B72 d (Zd e y)
 | .panic _=>[.ff]
 | .makeInterface _ _=>[.put d (.v undef)]
 | .indexAddr t y i=>B7a d (B7b (Zc e i)) (Km t).d (Zd e y)
 | .index t y i=>B7d (B7b (Zc e i)) d (Km t).d (Zc e y)
 | .slice t y l h m=>B6r d (Km t).d (Zc e y) (B0x e l) (B0x e h) (B0x e m)
 | .binOp op t y z _=>B6o (Km t).d d op (Zd e y) (Zd e z)
 | .unOp op _ y=>B6l d op (Zd e y)
 | .convert s t y=>B7p t s (Km t).d (Zd e y) gr d (B4c (Km s).d||B4c (Km t).d)
 | .extract y i=>B7k d i (Zc e y)
 | .field s y f=>[.put d (A7e (Km (A7f (A57 (Km s).d f))).ag (A3p (A57 (Km s).d f)) (Iv (A7f (A57 (Km s).d f))) (A7k (Zc e y)))]
 | .build t ps=>[.put d (.v (.agg (aD (B4j (Km t).d (Km t).zs (B11 e ps.toList)))))]
 | .makeFunc f a b=>[.put d (.v (.func f (aD (Qy e a.toList)) (aD (Qy e b.toList))))]
 | .call c=>B7r x e t gr d c.callee c.args.toList c.argTypes
 | .alloc t=>A7h d (Km t).zs (Instr.alloc t true (.tuple #[])) gr (A7j x.own (B5x d) false)
 | .box t y=>A7h d (A7k (Zc e y)) (Instr.box t (Zc e y)) gr (A7j x.own (B5x d) false)
 | .store t y z=>B6p w t (Zc e z) (Zd e y)
 | .makeSlice t l c=>[.efV (Instr.makeSlice t (Zc e l) (Zc e c)) t gr d]
 | .buildSlice t n ps=>[.efV (Instr.buildSlice t n (aD (B11 e ps.toList))) t gr d]
 | _=>[.ff]
def B4e(n:Nat):Bool->List aC->aC
 | true,vs=>.agg (aD (vs.take n))
 | false,vs=>Zb vs
def B4f:List aE->List aC->List aC
 | [],_=>[]
 | t::r,vs=>B4e (Iv t) (Km t).ag vs::B4f r (vs.drop (Iv t))
def B3y:List aE->List aC
 | []=>[]
 | t::r=>(Km t).zs++B3y r
def B6s(zs:List aC):TD->List aC
 | .u ts=>B3y ts
 | _=>zs
def A7g(t:aE):List aC:=B6s (Km t).zs (Km t).d
def B6t(t:aE)(vs:List aC):TD->aC
 | .u ts=>.tuple (aD (B4f ts vs))
 | _=>B4e (Iv t) (Km t).ag vs
def Ib(x:SV)(e:En):Option Nat->En
 | some d=>(d,x)::e
 | none=>e
def B0z:List Nat->List aC->En->En
 | s::r,v::vs,e=>(s,.v v)::B0z r vs e
 | _,_,e=>e
def B0y:List (Nat × Nat)->List aC->Ow->Ow
 | [],_,w=>w
 | (k,n)::r,vs,w=>(k,vs.take n)::B0y r (vs.drop n) w
def B4a(e:En):List Nat->List aC
 | []=>[]
 | s::r=>Za (A56 e s)::B4a e r
def B49(w:Ow):List (Nat × Nat)->List aC
 | []=>[]
 | (k,_)::r=>A7i w k++B49 w r
def B78(ann:Ann)(e:En)(w:Ow):List aC:=B4a e ann.slots++B49 w ann.owns
def B91(id:Nat):List It->Bool->List It
 | l,true=>l
 | [],false=>[]
 | .blk j::r,false=>B91 id r (j==id)
 | _::r,false=>B91 id r false
def B9o(rs:List ResultVar):List It->List It
 | []=>[.re rs []]
 | .rn _ JR::_=>[.rt JR]
 | _::r=>B9o rs r
def B71(k:Nat)(e:En):SV->En
 | .own _ _=>e
 | x=>(k,x)::e
def B0v:En->En
 | []=>[]
 | (k,x)::r=>B71 k (B0v r) x
def B7e:List aF->List aF
 | o::_=>[o]
 | []=>[]
def A23(l:List aF):List Nat->List aF
 | []=>[]
 | i::r=>B7e (l.drop i)++A23 l r
def B10(o:aF)(gr:Bool):Bool->Bool->List It
 | true,true=>[.o [] [o] gr]
 | false,false=>[.o [] [o] gr]
 | _,_=>[.put o.dst (.v undef)]
def B42:List aF->Nat
 | o::_=>B5x o.dst
 | []=>0
def B44:List Nat->List aC->En->En
 | s::r,v::vs,e=>B44 r vs ((s,.v v)::e)
 | _,_,e=>e
def B43(n:Nat):List aF->List Nat
 | []=>[]
 | _::r=>n::B43 (n+1) r
def B70(ops:List aF):Option (List Nat × List (List Nat))->List Nat
 | some (l,_)=>l
 | none=>B43 0 ops
def B7f:Op->Bool
 | .store _ _ _=>false
 | _=>true
def B7h(gs:Nat)(want:Bool)(o:aF)(gr:Bool):SV->List It
 | .b b=>B10 o gr b want
 | .v (.bool t)=>[.gd t gs want o gr]
 | _=>[.put o.dst (.v undef)]
def B6z(x:GX)(e:En)(w:Ow)(ops:List aF)(gr:Bool):aF->List It
 | ⟨d,op,t,_,_,none⟩=>C0x x e w (gr&&B7f op) t d op
 | ⟨d,op,t,p,a,some (j,want)⟩=>B7h (B42 (ops.drop j)) want ⟨d,op,t,p,a,none⟩ gr (A56 e (B42 (ops.drop j)))
def B6v(ops:List aF)(o:Option (List Nat × List (List Nat))):Option (List (Nat × List Nat))->List It
 | none=>match o with
  | none=>[.o ops ops true]
  | some (l,_)=>[.o ops (A23 ops l) true]
 | some al=>[.a ops (B4h [] ops) al (B70 ops o)]
def B6u(fa:FnAnn)(id:Nat)(ops:List aF):Bool->List It
 | false=>[.o ops ops false]
 | true=>B6v ops (B5w fa.orders id false none) (B5w fa.alts id false none)
def B6q(a b:aG):Option Ann->List It
 | none=>[.c a,.c b]
 | some ann=>[.cu ann a b]
def B7q(a b:aG):SV->List It
 | .b true=>[.c a]
 | .b false=>[.c b]
 | c=>[.br (B94 (Za c)) [.c a] [.c b]]
def B75(b:aG):Option Ann->List It
 | none=>[.ff]
 | some ann=>[.lp ann b]
def B6w(g:aC)(ps:List Nat)(asg body:aG):Option (List aC)->Option (List aC)->List It
 | some zs,none=>[.rf false g zs ps asg body]
 | some zs,some _=>[.rf true g zs ps asg body]
 | _,_=>[.ff]
def C0z(x:GX)(e:En):aG->List It
 | .skip=>[]
 | .region id ops dr=>B6u x.fa id ops.toList dr
 | .seq a b=>B6q a b (B7j x.fa.cuts (A6d b))
 | .cond c a b=>B7q a b (Zd e c)
 | .block id b=>[.c b,.blk id]
 | .loop b=>B75 b (B7j x.fa.loops (A6d b))
 | .rangeFunc g ps asg body=>B6w (Zc e g) ps.toList asg body (B7j x.fa.rounds (A6d body)) (B7j x.fa.rounds (C0v 1000000 (A6d body)))
 | .scope b=>[.c b]
 | .label _=>[]
 | _=>[.ff]
def B6x(rs:List ResultVar)(w:Ow)(vs:List aC)(ag:Bool)(n:Nat)(zs:List aC):SV->List It
 | .own k off=>[.re rs (vs++[Za (A7e ag off n (A7i w k))])]
 | .v (.pointer (some p))=>[.ex zs [],.rc rs vs p ag]
 | _=>[.ff]
def T2:Nat->GX->List It->En->Ow->Heap->Prop
 | 0,_,_,_,_,_=>True
 | n+1,x,[],e,w,h=>T2 n x [.re x.rs []] e w h
 | n+1,x,.c (.exit id)::it,e,w,h=>T2 n x (B91 id it false) e w h
 | n+1,x,.c .ret::it,e,w,h=>T2 n x (B9o x.rs it) e w h
 | n+1,x,.c c::it,e,w,h=>T2 n x (C0z x e c++it) e w h
 | n+1,x,.cu ann a b::it,e,w,h=>∃ J:LP,T2 n x (.c a :: .ct ann J::it) e w h/\T2 n x (.fa ann.zs [] :: .ch ann J b::it) e w h
 | n+1,x,.lp ann b::it,e,w,h=>∃ (Inv:LP) (mu:LN),Inv (B78 ann e w) h/\T2 n x (.fa ann.zs [] :: .lh ann Inv mu b::it) e w h
 | n+1,x,.rf false g zs ps asg body::it,e,w,h=>A4p prog g h (fun args h1 J=>T2 n x [.ex zs [],.rd args ps asg body J none] (B0v e) [] h1) (fun h2=>T2 n x it e w h2)
 | n+1,x,.rf true g zs ps asg body::it,e,w,h=>A4o prog g h (fun args h1 J JR=>T2 n x [.ex zs [],.rd args ps asg body J (some JR)] (B0v e) [] h1) (fun h2=>T2 n x it e w h2) (fun h2=>T2 n x (.c .ret::it) e w h2)
 | n+1,x,.o _ [] _::it,e,w,h=>T2 n x it e w h
 | n+1,x,.o ops (o::l) gr::it,e,w,h=>T2 n x (B6z x e w ops gr o ++ .o ops l gr::it) e w h
 | n+1,x,.a _ _ _ []::it,e,w,h=>T2 n x it e w h
 | n+1,x,.a ops anc al (j::L)::it,e,w,h=>T2 n x (.an ops anc al j L (B4k j anc L (C0w (B5w al j false none)))::it) e w h
 | n+1,x,.an ops anc al j L []::it,e,w,h=>T2 n x (.o ops (A23 ops [j]) true :: .a ops anc al L::it) e w h
 | n+1,x,.an ops anc al j L (i::r)::it,e,w,h=>T2 n x (.o ops (A23 ops [j]) true :: .a ops anc al L::it) e w h/\T2 n x (.ar ops anc al j L i r::it) e w h
 | n+1,x,.ar ops anc al j L i []::it,e,w,h=>T2 n x (.o ops (A23 ops [i]) true :: .a ops anc al (j::B93 i L)::it) e w h
 | n+1,x,.ar ops anc al j L i (k::r)::it,e,w,h=>T2 n x (.o ops (A23 ops [i]) true :: .a ops anc al (j::B93 i L)::it) e w h/\T2 n x (.ar ops anc al j L k r::it) e w h
 | n+1,x,.gd t gs want o gr::it,e,w,h=>Br t (T2 n x (B10 o gr true want++it) ((gs,.b true)::e) w h) (T2 n x (B10 o gr false want++it) ((gs,.b false)::e) w h)
 | n+1,x,.blk _::it,e,w,h=>T2 n x it e w h
 | n+1,x,.put d y::it,e,w,h=>T2 n x it (Ib y e d) w h
 | n+1,x,.br t A B::it,e,w,h=>Br t (T2 n x (A++it) e w h) (T2 n x (B++it) e w h)
 | _+1,_,.ff::_,_,_,_=>False
 | n+1,x,.nc p d::it,e,w,h=>∃ a,p=some a/\T2 n x it (Ib (.v (.pointer (some a))) e d) w h
 | n+1,x,.ix A m i c d::it,e,w,h=>∃ a,A=some a/\0<=i/\i<(m:Int)/\T2 n x it (Ib (.v (.pointer (some (a.add (i.toNat*c))))) e d) w h
 | n+1,x,.iy s i d::it,e,w,h=>∃ c:UInt8,(0<=i/\s[i.toNat]? = some c)/\T2 n x it (Ib (.v (.int .u8 c.toNat)) e d) w h
 | n+1,x,.cd p::it,e,w,h=>p/\T2 n x it e w h
 | n+1,x,.al d cs::it,e,w,h=>T2 n x it (Ib (.own (B5x d) 0) e d) ((B5x d,cs)::w) h
 | n+1,x,.st k cs::it,e,w,h=>T2 n x it e ((k,cs)::w) h
 | n+1,x,.ex (.int k _::zs) acc::it,e,w,h=>∃ i:Int,T2 n x (.ex zs (acc++[.int k i])::it) e w h
 | n+1,x,.ex (.bool _::zs) acc::it,e,w,h=>∃ b:Bool,T2 n x (.ex zs (acc++[.bool b])::it) e w h
 | n+1,x,.ex (.string _::zs) acc::it,e,w,h=>∃ s:ByteArray,T2 n x (.ex zs (acc++[.string s])::it) e w h
 | n+1,x,.ex (.slice _ _ _::zs) acc::it,e,w,h=>∃ (A:Option Addr) (m c:Nat),T2 n x (.ex zs (acc++[.slice A m c])::it) e w h
 | n+1,x,.ex (.pointer _::zs) acc::it,e,w,h=>∃ p:Option Addr,T2 n x (.ex zs (acc++[.pointer p])::it) e w h
 | n+1,x,.ex (_::zs) acc::it,e,w,h=>∃ v:aC,T2 n x (.ex zs (acc++[v])::it) e w h
 | n+1,x,.fa (.int k _::zs) acc::it,e,w,h=>∀ i:Int,T2 n x (.fa zs (acc++[.int k i])::it) e w h
 | n+1,x,.fa (.bool _::zs) acc::it,e,w,h=>∀ b:Bool,T2 n x (.fa zs (acc++[.bool b])::it) e w h
 | n+1,x,.fa (.string _::zs) acc::it,e,w,h=>∀ s:ByteArray,T2 n x (.fa zs (acc++[.string s])::it) e w h
 | n+1,x,.fa (.slice _ _ _::zs) acc::it,e,w,h=>∀ (A:Option Addr) (m c:Nat),T2 n x (.fa zs (acc++[.slice A m c])::it) e w h
 | n+1,x,.fa (.pointer _::zs) acc::it,e,w,h=>∀ p:Option Addr,T2 n x (.fa zs (acc++[.pointer p])::it) e w h
 | n+1,x,.fa (_::zs) acc::it,e,w,h=>∀ v:aC,T2 n x (.fa zs (acc++[v])::it) e w h
 | n+1,x,.fa [] vs :: .lh ann Inv mu b::it,e,w,_=>∀ h,Inv vs h->T2 n x (.c b :: .le ann Inv mu vs h::it) (B0z ann.slots vs e) (B0y ann.owns (vs.drop ann.slots.length) w) h
 | n+1,x,.fa [] vs :: .ch ann J b::it,e,w,_=>∀ h,J vs h->T2 n x (.c b::it) (B0z ann.slots vs e) (B0y ann.owns (vs.drop ann.slots.length) w) h
 | _+1,_,.le ann Inv mu vs h0::_,e,w,h=>Inv (B78 ann e w) h/\mu (B78 ann e w) h<mu vs h0
 | _+1,_,.ct ann J::_,e,w,h=>J (B78 ann e w) h
 | n+1,x,.ex [] vs :: .ld a true d::it,e,w,h=>cellsAt h a 0 vs (T2 n x it (Ib (.v (.agg (aD vs))) e d) w h)
 | n+1,x,.ex [] vs :: .ld a false d::it,e,w,h=>h.cell? a=some (Zb vs)/\T2 n x it (Ib (.v (Zb vs)) e d) w h
 | n+1,x,.ex [] vs :: .rs r h0 gr t d::it,e,w,h=>T2 n x (.rs1 r h0 gr (B6t t vs (Km t).d) d::it) e w h
 | n+1,x,.rs1 r h0 gr v d::it,e,w,h=>r=v/\Grow gr h0 h (T2 n x it (Ib (.v v) e d) w h)
 | n+1,x,.ex [] vs :: .rd args ps asg body J JR::_,e,w,h=>args=vs/\T2 n x [.c asg,.c body,.rn J JR] (B44 ps vs e) w h
 | n+1,x,.ex [] vs :: .rc rs us a true::it,e,w,h=>cellsAt h a 0 vs (T2 n x (.re rs (us++[.agg (aD vs)])::it) e w h)
 | n+1,x,.ex [] vs :: .rc rs us a false::it,e,w,h=>h.cell? a=some (Zb vs)/\T2 n x (.re rs (us++vs)::it) e w h
 | _+1,_,.rn J _::_,_,_,h=>J h
 | _+1,_,.rt (some J)::_,_,_,h=>J h
 | _+1,_,.rt none::_,_,_,_=>False
 | n+1,x,.efV s t gr d::it,e,w,h=>wpH prog s (fun v h'=>T2 n x (.ex (A7g t) [] :: .rs v h gr t d::it) e w h') h
 | n+1,x,.efP s gr d::it,e,w,h=>wpH prog s (fun v h'=>∃ a:Addr,v= .pointer (some a)/\Grow gr h h' (T2 n x it (Ib (.v (.pointer (some a))) e d) w h')) h
 | n+1,x,.efU s::it,e,w,h=>wpH prog s (fun _ h'=>T2 n x it e w h') h
 | n+1,x,.call false f us t gr d::it,e,w,h=>FCall prog f (aD us) h fun r h'=>T2 n x (.ex (A7g t) [] :: .rs r h gr t d::it) e w h'
 | n+1,x,.call true f us t gr d::it,e,w,h=>ECall prog f (aD us) h fun r h'=>T2 n x (.ex (A7g t) [] :: .rs r h gr t d::it) e w h'
 | n+1,x,.yc l us t d::it,e,w,h=>YCall prog l (aD us) h fun r h'=>T2 n x (.ex (A7g t) [] :: .rs r h false t d::it) e w h'
 | _+1,x,.re [] vs::_,_,_,h=>x.K (Nd vs) h
 | n+1,x,.re (.tmp t::rs) vs::it,e,w,h=>T2 n x (.re rs (vs++[Za (A56 e t)])::it) e w h
 | n+1,x,.re (.cell a t::rs) vs::it,e,w,h=>T2 n x (B6x rs w vs (Km t).ag (Iv t) (Km t).zs (A56 e a)++it) e w h
 | _+1,_,_,_,_,_=>False
def Gen(_ _:Prop):Prop:=True
def C1f{a:Prop}:Gen a a:=trivial
