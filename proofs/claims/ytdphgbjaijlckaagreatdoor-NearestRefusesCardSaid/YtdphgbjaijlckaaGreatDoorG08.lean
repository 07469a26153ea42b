/- A part. -/
import Derived.Test.YtdphgbjaijlckaaGreatDoorG06
import Derived.Test.YtdphgbjaijlckaaGreatDoorG07
open Go.Proofs.Tryz
set_option linter.all false
open List renaming toArray->aD
open _root_.Go renaming Value->aC,TypeId->aE,Oper->aF,Code->aG,Operand->aH
namespace Go.Proofs.YtdphgbjaijlckaaGreatDoor
open Go
inductive SV where
 | v (v:aC)
 | b (b:Bool)
 | n (k:IntKind) (n:Int)
 | own (k off:Nat)
abbrev En:=List (Nat × SV)
abbrev Ow:=List (Nat × List aC)
structure GX where
 fa:FnAnn
 rs:List ResultVar
 own:List Nat
 wr:List Nat
 K:VP
inductive It where
 | c (c:aG)
 | o (ops l:List aF) (gr:Bool)
 | a (ops:List aF) (anc:List (List Nat)) (al:List (Nat × List Nat)) (l:List Nat)
 | an (ops:List aF) (anc:List (List Nat)) (al:List (Nat × List Nat)) (j:Nat) (L r:List Nat)
 | ar (ops:List aF) (anc:List (List Nat)) (al:List (Nat × List Nat)) (j:Nat) (L:List Nat) (i:Nat) (r:List Nat)
 | gd (t:Bool) (gs:Nat) (want:Bool) (o:aF) (gr:Bool)
 | blk (id:Nat)
 | put (d:Option Nat) (x:SV)
 | br (t:Bool) (A B:List It)
 | ff
 | nc (p:Option Addr) (d:Option Nat)
 | ix (A:Option Addr) (n:Nat) (i:Int) (c:Nat) (d:Option Nat)
 | iy (s:ByteArray) (i:Int) (d:Option Nat)
 | cd (p:Prop)
 | al (d:Option Nat) (cs:List aC)
 | st (k:Nat) (cs:List aC)
 | ex (zs acc:List aC)
 | fa (zs acc:List aC)
 | ld (a:Addr) (ag:Bool) (d:Option Nat)
 | efV (s:Sem aC) (t:aE) (gr:Bool) (d:Option Nat)
 | efP (s:Sem aC) (gr:Bool) (d:Option Nat)
 | efU (s:Sem Unit)
 | call (e:Bool) (f:Nat) (args:List aC) (t:aE) (gr:Bool) (d:Option Nat)
 | yc (l:Nat) (args:List aC) (t:aE) (d:Option Nat)
 | rs (r:aC) (h:Heap) (gr:Bool) (t:aE) (d:Option Nat)
 | rs1 (r:aC) (h:Heap) (gr:Bool) (v:aC) (d:Option Nat)
 | lp (ann:Ann) (b:aG)
 | lh (ann:Ann) (Inv:LP) (mu:LN) (b:aG)
 | le (ann:Ann) (Inv:LP) (mu:LN) (vs:List aC) (h:Heap)
 | cu (ann:Ann) (a b:aG)
 | ct (ann:Ann) (J:LP)
 | ch (ann:Ann) (J:LP) (b:aG)
 | rf (lv:Bool) (g:aC) (zs:List aC) (ps:List Nat) (asg body:aG)
 | rd (args:List aC) (ps:List Nat) (asg body:aG) (J:Heap->Prop) (JR:Option (Heap->Prop))
 | rn (J:Heap->Prop) (JR:Option (Heap->Prop))
 | rt (JR:Option (Heap->Prop))
 | re (r:List ResultVar) (vs:List aC)
 | rc (r:List ResultVar) (vs:List aC) (a:Addr) (ag:Bool)
def B3x{α:Type}:List (Nat × α)->Nat->Bool->α->α
 | _,_,true,v=>v
 | [],_,false,v=>v
 | (k,v)::r,d,false,_=>B3x r d (k==d) v
def A56{α:Type}(z:α):List (Nat × α)->Nat->Bool->α->α
 | _,_,true,v=>v
 | [],_,false,_=>z
 | (k,v)::r,d,false,_=>A56 z r d (k==d) v
def A24:List Nat->Nat->Bool->Bool
 | _,_,true=>true
 | [],_,false=>false
 | k::r,d,false=>A24 r d (k==d)
def A9k{α:Type}:List (Nat × α)->Nat->Bool->Option α->Option α
 | _,_,true,v=>v
 | [],_,false,_=>none
 | (k,v)::r,d,false,_=>A9k r d (k==d) (some v)
def B11{α:Type}(l:List (Nat × α)):Option Nat->Option α
 | some i=>A9k l i false none
 | none=>none
def B16(x:Nat):Bool->List Nat->List Nat->List Nat
 | true,r,_=>r
 | false,_,s=>x::s
def B28(i:Nat):List Nat->List Nat
 | []=>[]
 | x::L=>B16 x (x==i) L (B28 i L)
def B04(x:Nat):Bool->List Nat->List Nat
 | true,_=>[]
 | false,s=>x::s
def B2h(i:Nat):List Nat->List Nat
 | []=>[]
 | x::L=>B04 x (x==i) (B2h i L)
def A7y(a:List Nat):List Nat->Bool
 | []=>true
 | x::r=> !A24 a x false&&A7y a r
def B0p(i:Nat):Bool->List Nat->List Nat
 | true,s=>i::s
 | false,s=>s
def A8d(j:Nat)(anc:List (List Nat))(L:List Nat):List Nat->List Nat
 | []=>[]
 | i::r=>B0p i (A24 L i false && !A24 (anc.getD i []) j false&&A7y (anc.getD i []) (B2h i L)) (A8d j anc L r)
def B3v:Option (List Nat)->List Nat
 | none=>[]
 | some l=>l
def B0m(x:Nat):Bool->List Nat->List Nat
 | true,l=>l
 | false,l=>x::l
def A81(l:List Nat):List Nat->List Nat
 | []=>l
 | x::r=>A81 (B0m x (A24 l x false) l) r
def B0y:Ground->Bool
 | .textOnly _=>false
 | .gcOnly _=>false
 | _=>true
def B15(acc:List (List Nat))(l:List Nat)(j:Nat):Bool->List Nat
 | true=>A81 l (j::acc.getD j [])
 | false=>l
def A89(acc:List (List Nat))(l:List Nat):List Edge->List Nat
 | []=>l
 | ⟨j,g⟩::r=>A89 acc (B15 acc l j (B0y g)) r
def A8a(acc:List (List Nat)):List aF->List (List Nat)
 | []=>acc
 | o::r=>A8a (acc++[A89 acc [] o.after.toList]) r
def B2q:Option Nat->Option Nat->Option Nat
 | some i,_=>some i
 | none,x=>x
def A0o:aG->Option Nat
 | .region id _ _=>some id
 | .seq a b=>B2q (A0o a) (A0o b)
 | .block _ b=>A0o b
 | .loop b=>A0o b
 | .scope b=>A0o b
 | .cond _ a b=>B2q (A0o a) (A0o b)
 | _=>none
abbrev La:=Nat × List Nat × List (Nat × Nat) × List aC
def A9m:List La->List (Nat × Ann)
 | []=>[]
 | (i,s,o,z)::r=>(i,⟨s,o,z,⟨[],[]⟩⟩)::A9m r
def B27:List (Nat × List Nat)->List (Nat × List Nat × List (List Nat))
 | []=>[]
 | (i,l)::r=>(i,l,[])::B27 r
def wrt:aG->List aF
 | .region _ ops _=>ops.toList
 | .seq a b | .cond _ a b | .rangeFunc _ _ a b=>wrt a++wrt b
 | .block _ b | .loop b | .scope b=>wrt b
 | _=>[]
def B45(own:List Nat)(o:aF):Option Nat:=match o.op,o.dst with
 | .alloc _,some d | .box _ _,some d=>bif has own d then some d else none
 | _,_=>none
def B1k(own:List Nat)(a:Ann)(ops:List aF):Ann:={ a with lim:=⟨ops.filterMap (·.dst),a.owns.map (·.1)++ops.filterMap (B45 own)⟩ }
def Up(i:Nat):aG->List aF
 | .loop b=>bif H2 b==some i then wrt b else Up i b
 | .seq a b | .cond _ a b | .rangeFunc _ _ a b=>Up i a++Up i b
 | .block _ b | .scope b=>Up i b
 | _=>[]
def Oz(i:Nat):aG->List aF
 | .seq a b=>bif H2 b==some i then wrt a else Oz i a++Oz i b
 | .cond _ a b | .rangeFunc _ _ a b=>Oz i a++Oz i b
 | .block _ b | .loop b | .scope b=>Oz i b
 | _=>[]
def A7a(own:List Nat)(c:aG)(fa:FnAnn):FnAnn:={ fa with loops:=fa.loops.map fun x=>(x.1,B1k own x.2 (Up x.1 c)),cuts:=fa.cuts.map fun x=>(x.1,B1k own x.2 (Oz x.1 c)) }
def B3u(n:Nat):Option Nat->Option Nat
 | some i=>some (i+n)
 | none=>none
def B17:aC->SV
 | .bool b=>.b b
 | .int k n=>.n k n
 | v=>.v v
def Zq(e:En)(t:Nat):SV:=A56 (.v undef) e t false (.v undef)
def A23(w:Ow)(k:Nat):List aC:=A56 [] w k false []
def Ti(e:En):aH->SV
 | .tmp t=>Zq e t
 | .const v=>B17 v
 | .global g=>.v (.pointer (some ⟨g,0,none⟩))
 | .func f=>.v (.func (.func f) #[] #[])
def Tf:SV->aC
 | .v v=>v
 | .b b=>.bool b
 | .n k n=>.int k n
 | .own _ _=>undef
def Th(e:En)(x:aH):aC:=Tf (Ti e x)
def Lh(e:En):List aH->List aC
 | []=>[]
 | x::r=>Th e x::Lh e r
def A5b(e:En):List (Nat × aH)->List (Nat × aC)
 | []=>[]
 | (i,x)::r=>(i,Th e x)::A5b e r
def B29:aC->Bool
 | .bool b=>b
 | _=>false
def B0t:aC->Int
 | .int _ n=>n
 | _=>0
def A57(e:En):Option aH->Option Int
 | none=>none
 | some x=>some (B0t (Th e x))
def A25:aC->List aC
 | .agg ⟨l⟩=>l
 | v=>[v]
def Tg:List aC->aC
 | v::_=>v
 | []=>undef
def A6j(n:Nat):Bool->List aC->SV
 | true,cs=>.v (.agg (aD (cs.take n)))
 | false,cs=>.v (Tg cs)
def A1z(ag:Bool)(off n:Nat)(cs:List aC):SV:=A6j n ag (cs.drop off)
def A7t(cs:List aC)(off:Nat)(vs:List aC):List aC:=cs.take off++vs++cs.drop (off+vs.length)
def A4a:IntKind->Int->Int
 | .i64,n=>B9 n
 | .i32,n=>B42 n
 | .u64,n=>C3 n
 | .u32,n=>G8 n
 | .u8,n=>wu8 n
 | k,n=>k.wrap n
def A8b:IntKind->Nat
 | .i8 | .u8=>8
 | .i16 | .u16=>16
 | .i32 | .u32=>32
 | .i64 | .u64=>64
def Rt(d:Option Nat)(k:IntKind)(n:Int):List It:=[.put d (.v (.int k n))]
def Vd(d:Option Nat)(b:Bool):List It:=[.put d (.v (.bool b))]
def B14:List aC->List aC->Bool->Bool
 | .string a::_,.string b::_,r=>(a.toList==b.toList)&&r
 | _,_,_=>false
def A5c:List (Nat × aE)->List aC->List aC->Bool
 | [],_,_=>true
 | (o,_)::r,xs,ys=>B14 (xs.drop o) (ys.drop o) (A5c r xs ys)
def Yg:TD->List (Nat × aE)
 | .t fs=>fs
 | _=>[]
def B2r(b:Int)(lit:Bool)(A:List It):List It:=match lit with
 | true=>A
 | false=>[.br (decide (b=0)) [.ff] A]
def B2u(b:Int)(lit:Bool)(A:List It):List It:=match lit with
 | true=>A
 | false=>[.br (decide (b<0)) [.ff] A]
def A7s(l:Bool)(t:TD)(d:Option Nat):BinOp->aC->aC->List It
 | .add,.int k a,.int _ b=>Rt d k (A4a k (a+b))
 | .sub,.int k a,.int _ b=>Rt d k (A4a k (a-b))
 | .mul,.int k a,.int _ b=>Rt d k (A4a k (a*b))
 | .quo,.int k a,.int _ b=>B2r b l (Rt d k (A4a k (a.tdiv b)))
 | .rem,.int k a,.int _ b=>B2r b l (Rt d k (a.tmod b))
 | .shl,.int k a,.int _ b=>B2u b l (Rt d k (A4a k (a*2^(min b.toNat (A8b k)))))
 | .shr,.int k a,.int _ b=>B2u b l (Rt d k (a.fdiv (2^(min b.toNat (A8b k)))))
 | .and,.int k a,.int _ b=>Rt d k (Ru k a b)
 | .or,.int k a,.int _ b=>Rt d k (bor k a b)
 | .xor,.int k a,.int _ b=>Rt d k (B47 k a b)
 | .andNot,.int k a,.int _ b=>Rt d k (A98 k a b)
 | .eql,.int _ a,.int _ b=>Vd d (a==b)
 | .neq,.int _ a,.int _ b=>Vd d (a != b)
 | .lss,.int _ a,.int _ b=>Vd d (decide (a<b))
 | .leq,.int _ a,.int _ b=>Vd d (decide (a<=b))
 | .gtr,.int _ a,.int _ b=>Vd d (decide (a>b))
 | .geq,.int _ a,.int _ b=>Vd d (decide (a>=b))
 | .add,.string a,.string b=>[.cd (((a.size+b.size:Nat):Int)<=9223372036854775807),.put d (.v (.string (a++b)))]
 | .eql,.string a,.string b=>Vd d (a.toList==b.toList)
 | .neq,.string a,.string b=>Vd d (!(a.toList==b.toList))
 | .eql,.slice a _ _,.slice _ _ _=>Vd d a.isNone
 | .neq,.slice a _ _,.slice _ _ _=>Vd d (!a.isNone)
 | .eql,.bool a,.bool b=>Vd d (a==b)
 | .neq,.bool a,.bool b=>Vd d (!(a==b))
 | .eql,.agg ⟨a⟩,.agg ⟨b⟩=>Vd d (A5c (Yg t) a b)
 | .neq,.agg ⟨a⟩,.agg ⟨b⟩=>Vd d (!A5c (Yg t) a b)
 | _,_,_=>[.ff]
def B06(t:TD)(d:Option Nat):BinOp->SV->SV->List It
 | .eql,.n _ a,.n _ b=>[.put d (.b (a.natAbs==b.natAbs))]
 | .neq,.n _ a,.n _ b=>[.put d (.b (!(a.natAbs==b.natAbs)))]
 | op,x,.n k b=>A7s true t d op (Tf x) (.int k b)
 | op,x,y=>A7s false t d op (Tf x) (Tf y)
def Fn(t:aE):Nat:=(Gz t).n
def Wg(y:Nat):Option Int->List It
 | none=>[]
 | some i=>[.cd (0<=i/\i<=(y:Int))]
def Ha(y:Nat):Option Int->Nat
 | none=>y
 | some i=>i.toNat
def B09(d:Option Nat):TD->aC->Option Int->Option Int->Option Int->List It
 | .l e,.slice A _ c,some l,some h,some m=>[.cd (0<=m/\m<=(c:Int)),.cd (0<=h/\h<=(m.toNat:Int)),.cd (0<=l/\l<=(h.toNat:Int)),.put d (.v (.slice (P7 A m.toNat l.toNat (Fn e)) (h.toNat-l.toNat) (m.toNat-l.toNat)))]
 | .s,.string s,l,h,_=>Wg s.size h++(Wg (Ha s.size h) l++[.put d (.v (.string (s.extract (Ha 0 l) (Ha s.size h))))])
 | .l e,.slice A n c,l,h,_=>Wg c h++(Wg (Ha n h) l++[.put d (.v (.slice (P7 A c (Ha 0 l) (Fn e)) (Ha n h-Ha 0 l) (c-Ha 0 l)))])
 | .r n e,.pointer A,l,h,_=>Wg n h++(Wg (Ha n h) l++[.put d (.v (.slice (P7 A n (Ha 0 l) (Fn e)) (Ha n h-Ha 0 l) (n-Ha 0 l)))])
 | _,_,_,_,_=>[.ff]
def B0r(n c:Nat)(d:Option Nat)(i:Int):SV->List It
 | .own k off=>[.put d (.own k (off+i.natAbs*c))]
 | .v (.pointer (some a))=>[.cd (0<=i/\i<((n:Nat):Int)),.put d (.v (.pointer (some (a.add (i.toNat*c)))))]
 | _=>[.ff]
def B0s(d:Option Nat)(i:Int):TD->SV->List It
 | .l e,.v (.slice A n _)=>[.ix A n i (Fn e) d]
 | .r n e,x=>B0r n (Fn e) d i x
 | _,_=>[.ff]
def B0v(i:Int)(d:Option Nat):TD->aC->List It
 | .s,.string s=>[.iy s i d]
 | .r _ e,.agg ⟨cs⟩=>[.put d (A1z (Gz e).ag (i.natAbs*Fn e) (Fn e) cs)]
 | _,_=>[.ff]
def Zr(t:TD)(f:Nat):Nat × aE:=(Yg t).getD f (0,0)
def Yf:Nat × aE->Nat
 | (a,_)=>a
def A20:Nat × aE->aE
 | (_,b)=>b
def B10(o:Nat)(d:Option Nat):SV->List It
 | .own k off=>[.put d (.own k (off+o))]
 | .v (.pointer (some a))=>[.put d (.v (.pointer (some (a.add o))))]
 | _=>[.ff]
def B1b(i:Nat):TD->Nat
 | .r _ e=>i*Fn e
 | t=>Yf (Zr t i)
def A8c(t:TD):List aC->List (Nat × aC)->List aC
 | cs,[]=>cs
 | cs,(i,v)::r=>A8c t (A7t cs (B1b i t) (A25 v)) r
def A85:TD->Bool
 | .l _=>true
 | _=>false
def A6m(d:Option Nat)(x:SV):TD->aC->List It
 | .i k,.int _ n=>Rt d k (A4a k n)
 | _,_=>[.put d x]
def B18(t s:aE)(tt:TD)(x:SV)(gr:Bool)(d:Option Nat):Bool->List It
 | true=>[.efV (convert s t (Tf x)) t gr d]
 | false=>A6m d x tt (Tf x)
def A6k(d:Option Nat):TD->aC->List It
 | _,.slice _ n _=>Rt d .i64 ((n:Nat):Int)
 | _,.string s=>Rt d .i64 ((s.size:Nat):Int)
 | .r n _,_=>Rt d .i64 ((n:Nat):Int)
 | _,_=>[.ff]
def A6n(d:Option Nat):aC->List It
 | .slice _ _ c=>Rt d .i64 ((c:Nat):Int)
 | _=>[.ff]
def B0l:Bool->aC->aC->aC
 | true,.int k r,.int _ y=>.int k (if y>r then y else r)
 | false,.int k r,.int _ y=>.int k (if y<r then y else r)
 | _,r,_=>r
def A7z(m:Bool)(r:aC):List aC->aC
 | []=>r
 | y::l=>A7z m (B0l m r y) l
def A84:aC->IntKind
 | .int k _=>k
 | _=>.i64
def A80(m:Bool)(d:Option Nat):List aC->List It
 | v::l=>[.put d (.v (A7z m v l))]
 | _=>[.ff]
def B3t(f:Nat):Bool->Bool
 | true=>false
 | false=>A24 A6l f false
def A6o(A4a:List Nat)(sl:Bool)(vs:List aC)(t:aE)(gr:Bool)(d:Option Nat):aC->List It
 | .func (.func f) ⟨a⟩ ⟨b⟩=>[.call (B3t f sl) f (a++(vs++b)) t (gr && !sl && !A24 A4a f false) d]
 | .func (.yield l) _ _=>[.yc l vs t d]
 | _=>[.ff]
def B0u:aH->Bool
 | .tmp _=>true
 | _=>false
def B1a(x:GX)(e:En)(t:aE)(gr:Bool)(d:Option Nat):Callee->List aH->Array aE->List It
 | .value f,us,_=>A6o x.wr (B0u f) (Lh e us) t gr d (Th e f)
 | .builtin .append,us,ts=>[.efV (Builtin.append_ ts t (aD (Lh e us))) t (gr && !A24 x.wr 1000000000 false) d]
 | .builtin .copy,us,ts=>[.efV (Builtin.copy_ ts t (aD (Lh e us))) t false d]
 | .builtin .len,us,ts=>A6k d (Gz (ts.toList.headD 0)).d (Tg (Lh e us))
 | .builtin .cap,us,_=>A6n d (Tg (Lh e us))
 | .builtin .max,us,_=>A80 true d (Lh e us)
 | .builtin .min,us,_=>A80 false d (Lh e us)
 | _,_,_=>[.ff]
def A9l:Option Nat->Nat
 | some d=>d
 | none=>0
def A22(d:Option Nat)(cs:List aC)(s:Sem aC)(gr:Bool):Bool->List It
 | true=>[.al d cs]
 | false=>[.efP s gr d]
def B0g(d:Option Nat)(a b:SV):SV->List It
 | .b true=>[.put d a]
 | .b false=>[.put d b]
 | c=>[.br (B29 (Tf c)) [.put d a] [.put d b]]
def B0o(w:Ow)(d:Option Nat)(zs:List aC)(ag:Bool)(n:Nat):SV->List It
 | .own k off=>[.put d (A1z ag off n (A23 w k))]
 | .v (.pointer (some a))=>[.ex zs [],.ld a ag d]
 | _=>[.ff]
def B0k(d:Option Nat):SV->List It
 | .v (.pointer p)=>[.nc p d]
 | y=>[.put d y]
def B03(d:Option Nat):UnOp->SV->List It
 | .not,.b b=>[.put d (.b (!b))]
 | .not,y=>Vd d (!B29 (Tf y))
 | .neg,y=>Rt d (A84 (Tf y)) (A4a (A84 (Tf y)) (0-B0t (Tf y)))
 | _,_=>[.ff]
def B13(d:Option Nat)(i:Nat):aC->List It
 | .tuple ⟨vs⟩=>[.put d (.v (vs.getD i undef))]
 | _=>[.ff]
def B07(w:Ow)(t:aE)(z:aC):SV->List It
 | .own k off=>[.st k (A7t (A23 w k) off (A25 z))]
 | y=>[.efU (Instr.storeAt t (Tf y) z)]
def B3w(x:GX)(e:En)(w:Ow)(gr:Bool)(t:aE)(d:Option Nat):Op->List It
 | .move y=>[.put d (Ti e y)]
 | .assign y=>[.put d (Ti e y)]
 | .pick c a b=>B0g d (Ti e a) (Ti e b) (Ti e c)
 | .load t y=>B0o w d (Gz t).zs (Gz t).ag (Fn t) (Ti e y)
 | .fieldAddr s y f=>B10 (Yf (Zr (Gz s).d f)) d (Ti e y)
 | .nilCheck y=>B0k d (Ti e y)
 | .panic _=>[.ff]
 | .makeInterface _ _=>[.put d (.v undef)]
 | .indexAddr t y i=>B0s d (B0t (Th e i)) (Gz t).d (Ti e y)
 | .index t y i=>B0v (B0t (Th e i)) d (Gz t).d (Th e y)
 | .slice t y l h m=>B09 d (Gz t).d (Th e y) (A57 e l) (A57 e h) (A57 e m)
 | .binOp op t y z _=>B06 (Gz t).d d op (Ti e y) (Ti e z)
 | .unOp op _ y=>B03 d op (Ti e y)
 | .convert s t y=>B18 t s (Gz t).d (Ti e y) gr d (A85 (Gz s).d||A85 (Gz t).d)
 | .extract y i=>B13 d i (Th e y)
 | .field s y f=>[.put d (A1z (Gz (A20 (Zr (Gz s).d f))).ag (Yf (Zr (Gz s).d f)) (Fn (A20 (Zr (Gz s).d f))) (A25 (Th e y)))]
 | .build t ps=>[.put d (.v (.agg (aD (A8c (Gz t).d (Gz t).zs (A5b e ps.toList)))))]
 | .makeFunc f a b=>[.put d (.v (.func f (aD (Lh e a.toList)) (aD (Lh e b.toList))))]
 | .call c=>B1a x e t gr d c.callee c.args.toList c.argTypes
 | .alloc t=>A22 d (Gz t).zs (Instr.alloc t true (.tuple #[])) gr (A24 x.own (A9l d) false)
 | .box t y=>A22 d (A25 (Th e y)) (Instr.box t (Th e y)) gr (A24 x.own (A9l d) false)
 | .store t y z=>B07 w t (Th e z) (Ti e y)
 | .makeSlice t l c=>[.efV (Instr.makeSlice t (Th e l) (Th e c)) t gr d]
 | .buildSlice t n ps=>[.efV (Instr.buildSlice t n (aD (A5b e ps.toList))) t gr d]
 | _=>[.ff]
def A87(n:Nat):Bool->List aC->aC
 | true,vs=>.agg (aD (vs.take n))
 | false,vs=>Tg vs
def A88:List aE->List aC->List aC
 | [],_=>[]
 | t::r,vs=>A87 (Fn t) (Gz t).ag vs::A88 r (vs.drop (Fn t))
def A7r:List aE->List aC
 | []=>[]
 | t::r=>(Gz t).zs++A7r r
def B0a(zs:List aC):TD->List aC
 | .u ts=>A7r ts
 | _=>zs
def A21(t:aE):List aC:=B0a (Gz t).zs (Gz t).d
def B0b(t:aE)(vs:List aC):TD->aC
 | .u ts=>.tuple (aD (A88 ts vs))
 | _=>A87 (Fn t) (Gz t).ag vs
def Fb(x:SV)(e:En):Option Nat->En
 | some d=>(d,x)::e
 | none=>e
def A59:List Nat->List aC->En->En
 | s::r,v::vs,e=>(s,.v v)::A59 r vs e
 | _,_,e=>e
def A58:List (Nat × Nat)->List aC->Ow->Ow
 | [],_,w=>w
 | (k,n)::r,vs,w=>(k,vs.take n)::A58 r (vs.drop n) w
def A83(e:En):List Nat->List aC
 | []=>[]
 | s::r=>Tf (Zq e s)::A83 e r
def A82(w:Ow):List (Nat × Nat)->List aC
 | []=>[]
 | (k,_)::r=>A23 w k++A82 w r
def B0q(ann:Ann)(e:En)(w:Ow):List aC:=A83 e ann.slots++A82 w ann.owns
def B26(id:Nat):List It->Bool->List It
 | l,true=>l
 | [],false=>[]
 | .blk j::r,false=>B26 id r (j==id)
 | _::r,false=>B26 id r false
def B2n(rs:List ResultVar):List It->List It
 | []=>[.re rs []]
 | .rn _ JR::_=>[.rt JR]
 | _::r=>B2n rs r
def B0j(k:Nat)(e:En):SV->En
 | .own _ _=>e
 | x=>(k,x)::e
def A55:En->En
 | []=>[]
 | (k,x)::r=>B0j k (A55 r) x
def B0w:List aF->List aF
 | o::_=>[o]
 | []=>[]
def Wf(l:List aF):List Nat->List aF
 | []=>[]
 | i::r=>B0w (l.drop i)++Wf l r
def A5a(o:aF)(gr:Bool):Bool->Bool->List It
 | true,true=>[.o [] [o] gr]
 | false,false=>[.o [] [o] gr]
 | _,_=>[.put o.dst (.v undef)]
def A7v:List aF->Nat
 | o::_=>A9l o.dst
 | []=>0
def A7x:List Nat->List aC->En->En
 | s::r,v::vs,e=>A7x r vs ((s,.v v)::e)
 | _,_,e=>e
def A7w(n:Nat):List aF->List Nat
 | []=>[]
 | _::r=>n::A7w (n+1) r
def B0i(ops:List aF):Option (List Nat × List (List Nat))->List Nat
 | some (l,_)=>l
 | none=>A7w 0 ops
def B0x:Op->Bool
 | .store _ _ _=>false
 | _=>true
def B0z(gs:Nat)(want:Bool)(o:aF)(gr:Bool):SV->List It
 | .b b=>A5a o gr b want
 | .v (.bool t)=>[.gd t gs want o gr]
 | _=>[.put o.dst (.v undef)]
def B0h(x:GX)(e:En)(w:Ow)(ops:List aF)(gr:Bool):aF->List It
 | ⟨d,op,t,_,_,none⟩=>B3w x e w (gr&&B0x op) t d op
 | ⟨d,op,t,p,a,some (j,want)⟩=>B0z (A7v (ops.drop j)) want ⟨d,op,t,p,a,none⟩ gr (Zq e (A7v (ops.drop j)))
def B0d(ops:List aF)(o:Option (List Nat × List (List Nat))):Option (List (Nat × List Nat))->List It
 | none=>match o with
  | none=>[.o ops ops true]
  | some (l,_)=>[.o ops (Wf ops l) true]
 | some al=>[.a ops (A8a [] ops) al (B0i ops o)]
def B0c(fa:FnAnn)(id:Nat)(ops:List aF):Bool->List It
 | false=>[.o ops ops false]
 | true=>B0d ops (A9k fa.orders id false none) (A9k fa.alts id false none)
def B08(a b:aG):Option Ann->List It
 | none=>[.c a,.c b]
 | some ann=>[.cu ann a b]
def B19(a b:aG):SV->List It
 | .b true=>[.c a]
 | .b false=>[.c b]
 | c=>[.br (B29 (Tf c)) [.c a] [.c b]]
def B0n(b:aG):Option Ann->List It
 | none=>[.ff]
 | some ann=>[.lp ann b]
def B0e(g:aC)(ps:List Nat)(asg body:aG):Option (List aC)->Option (List aC)->List It
 | some zs,none=>[.rf false g zs ps asg body]
 | some zs,some _=>[.rf true g zs ps asg body]
 | _,_=>[.ff]
def B3y(x:GX)(e:En):aG->List It
 | .skip=>[]
 | .region id ops dr=>B0c x.fa id ops.toList dr
 | .seq a b=>B08 a b (B11 x.fa.cuts (A0o b))
 | .cond c a b=>B19 a b (Ti e c)
 | .block id b=>[.c b,.blk id]
 | .loop b=>B0n b (B11 x.fa.loops (A0o b))
 | .rangeFunc g ps asg body=>B0e (Th e g) ps.toList asg body (B11 x.fa.rounds (A0o body)) (B11 x.fa.rounds (B3u 1000000 (A0o body)))
 | .scope b=>[.c b]
 | .label _=>[]
 | _=>[.ff]
def B0f(rs:List ResultVar)(w:Ow)(vs:List aC)(ag:Bool)(n:Nat)(zs:List aC):SV->List It
 | .own k off=>[.re rs (vs++[Tf (A1z ag off n (A23 w k))])]
 | .v (.pointer (some p))=>[.ex zs [],.rc rs vs p ag]
 | _=>[.ff]
def O4:Nat->GX->List It->En->Ow->Heap->Prop
 | 0,_,_,_,_,_=>True
 | n+1,x,[],e,w,h=>O4 n x [.re x.rs []] e w h
 | n+1,x,.c (.exit id)::it,e,w,h=>O4 n x (B26 id it false) e w h
 | n+1,x,.c .ret::it,e,w,h=>O4 n x (B2n x.rs it) e w h
 | n+1,x,.c c::it,e,w,h=>O4 n x (B3y x e c++it) e w h
 | n+1,x,.cu ann a b::it,e,w,h=>∃ J:LP,O4 n x (.c a :: .ct ann J::it) e w h/\O4 n x (.fa ann.zs [] :: .ch ann J b::it) e w h
 | n+1,x,.lp ann b::it,e,w,h=>∃ (Inv:LP) (mu:LN),Inv (B0q ann e w) h/\O4 n x (.fa ann.zs [] :: .lh ann Inv mu b::it) e w h
 | n+1,x,.rf false g zs ps asg body::it,e,w,h=>Zc prog g h (fun args h1 J=>O4 n x [.ex zs [],.rd args ps asg body J none] (A55 e) [] h1) (fun h2=>O4 n x it e w h2)
 | n+1,x,.rf true g zs ps asg body::it,e,w,h=>A42 prog g h (fun args h1 J JR=>O4 n x [.ex zs [],.rd args ps asg body J (some JR)] (A55 e) [] h1) (fun h2=>O4 n x it e w h2) (fun h2=>O4 n x (.c .ret::it) e w h2)
 | n+1,x,.o _ [] _::it,e,w,h=>O4 n x it e w h
 | n+1,x,.o ops (o::l) gr::it,e,w,h=>O4 n x (B0h x e w ops gr o ++ .o ops l gr::it) e w h
 | n+1,x,.a _ _ _ []::it,e,w,h=>O4 n x it e w h
 | n+1,x,.a ops anc al (j::L)::it,e,w,h=>O4 n x (.an ops anc al j L (A8d j anc L (B3v (A9k al j false none)))::it) e w h
 | n+1,x,.an ops anc al j L []::it,e,w,h=>O4 n x (.o ops (Wf ops [j]) true :: .a ops anc al L::it) e w h
 | n+1,x,.an ops anc al j L (i::r)::it,e,w,h=>O4 n x (.o ops (Wf ops [j]) true :: .a ops anc al L::it) e w h/\O4 n x (.ar ops anc al j L i r::it) e w h
 | n+1,x,.ar ops anc al j L i []::it,e,w,h=>O4 n x (.o ops (Wf ops [i]) true :: .a ops anc al (j::B28 i L)::it) e w h
 | n+1,x,.ar ops anc al j L i (k::r)::it,e,w,h=>O4 n x (.o ops (Wf ops [i]) true :: .a ops anc al (j::B28 i L)::it) e w h/\O4 n x (.ar ops anc al j L k r::it) e w h
 | n+1,x,.gd t gs want o gr::it,e,w,h=>Br t (O4 n x (A5a o gr true want++it) ((gs,.b true)::e) w h) (O4 n x (A5a o gr false want++it) ((gs,.b false)::e) w h)
 | n+1,x,.blk _::it,e,w,h=>O4 n x it e w h
 | n+1,x,.put d y::it,e,w,h=>O4 n x it (Fb y e d) w h
 | n+1,x,.br t A B::it,e,w,h=>Br t (O4 n x (A++it) e w h) (O4 n x (B++it) e w h)
 | _+1,_,.ff::_,_,_,_=>False
 | n+1,x,.nc p d::it,e,w,h=>∃ a,p=some a/\O4 n x it (Fb (.v (.pointer (some a))) e d) w h
 | n+1,x,.ix A m i c d::it,e,w,h=>∃ a,A=some a/\0<=i/\i<(m:Int)/\O4 n x it (Fb (.v (.pointer (some (a.add (i.toNat*c))))) e d) w h
 | n+1,x,.iy s i d::it,e,w,h=>∃ c:UInt8,(0<=i/\s[i.toNat]? = some c)/\O4 n x it (Fb (.v (.int .u8 c.toNat)) e d) w h
 | n+1,x,.cd p::it,e,w,h=>p/\O4 n x it e w h
 | n+1,x,.al d cs::it,e,w,h=>O4 n x it (Fb (.own (A9l d) 0) e d) ((A9l d,cs)::w) h
 | n+1,x,.st k cs::it,e,w,h=>O4 n x it e ((k,cs)::w) h
 | n+1,x,.ex (.int k _::zs) acc::it,e,w,h=>∃ i:Int,O4 n x (.ex zs (acc++[.int k i])::it) e w h
 | n+1,x,.ex (.bool _::zs) acc::it,e,w,h=>∃ b:Bool,O4 n x (.ex zs (acc++[.bool b])::it) e w h
 | n+1,x,.ex (.string _::zs) acc::it,e,w,h=>∃ s:ByteArray,O4 n x (.ex zs (acc++[.string s])::it) e w h
 | n+1,x,.ex (.slice _ _ _::zs) acc::it,e,w,h=>∃ (A:Option Addr) (m c:Nat),O4 n x (.ex zs (acc++[.slice A m c])::it) e w h
 | n+1,x,.ex (.pointer _::zs) acc::it,e,w,h=>∃ p:Option Addr,O4 n x (.ex zs (acc++[.pointer p])::it) e w h
 | n+1,x,.ex (_::zs) acc::it,e,w,h=>∃ v:aC,O4 n x (.ex zs (acc++[v])::it) e w h
 | n+1,x,.fa (.int k _::zs) acc::it,e,w,h=>∀ i:Int,O4 n x (.fa zs (acc++[.int k i])::it) e w h
 | n+1,x,.fa (.bool _::zs) acc::it,e,w,h=>∀ b:Bool,O4 n x (.fa zs (acc++[.bool b])::it) e w h
 | n+1,x,.fa (.string _::zs) acc::it,e,w,h=>∀ s:ByteArray,O4 n x (.fa zs (acc++[.string s])::it) e w h
 | n+1,x,.fa (.slice _ _ _::zs) acc::it,e,w,h=>∀ (A:Option Addr) (m c:Nat),O4 n x (.fa zs (acc++[.slice A m c])::it) e w h
 | n+1,x,.fa (.pointer _::zs) acc::it,e,w,h=>∀ p:Option Addr,O4 n x (.fa zs (acc++[.pointer p])::it) e w h
 | n+1,x,.fa (_::zs) acc::it,e,w,h=>∀ v:aC,O4 n x (.fa zs (acc++[v])::it) e w h
 | n+1,x,.fa [] vs :: .lh ann Inv mu b::it,e,w,_=>∀ h,Inv vs h->O4 n x (.c b :: .le ann Inv mu vs h::it) (A59 ann.slots vs e) (A58 ann.owns (vs.drop ann.slots.length) w) h
 | n+1,x,.fa [] vs :: .ch ann J b::it,e,w,_=>∀ h,J vs h->O4 n x (.c b::it) (A59 ann.slots vs e) (A58 ann.owns (vs.drop ann.slots.length) w) h
 | _+1,_,.le ann Inv mu vs h0::_,e,w,h=>Inv (B0q ann e w) h/\mu (B0q ann e w) h<mu vs h0
 | _+1,_,.ct ann J::_,e,w,h=>J (B0q ann e w) h
 | n+1,x,.ex [] vs :: .ld a true d::it,e,w,h=>cellsAt h a 0 vs (O4 n x it (Fb (.v (.agg (aD vs))) e d) w h)
 | n+1,x,.ex [] vs :: .ld a false d::it,e,w,h=>h.cell? a=some (Tg vs)/\O4 n x it (Fb (.v (Tg vs)) e d) w h
 | n+1,x,.ex [] vs :: .rs r h0 gr t d::it,e,w,h=>O4 n x (.rs1 r h0 gr (B0b t vs (Gz t).d) d::it) e w h
 | n+1,x,.rs1 r h0 gr v d::it,e,w,h=>r=v/\Grow gr h0 h (O4 n x it (Fb (.v v) e d) w h)
 | n+1,x,.ex [] vs :: .rd args ps asg body J JR::_,e,w,h=>args=vs/\O4 n x [.c asg,.c body,.rn J JR] (A7x ps vs e) w h
 | n+1,x,.ex [] vs :: .rc rs us a true::it,e,w,h=>cellsAt h a 0 vs (O4 n x (.re rs (us++[.agg (aD vs)])::it) e w h)
 | n+1,x,.ex [] vs :: .rc rs us a false::it,e,w,h=>h.cell? a=some (Tg vs)/\O4 n x (.re rs (us++vs)::it) e w h
 | _+1,_,.rn J _::_,_,_,h=>J h
 | _+1,_,.rt (some J)::_,_,_,h=>J h
 | _+1,_,.rt none::_,_,_,_=>False
 | n+1,x,.efV s t gr d::it,e,w,h=>wpH prog s (fun v h'=>O4 n x (.ex (A21 t) [] :: .rs v h gr t d::it) e w h') h
 | n+1,x,.efP s gr d::it,e,w,h=>wpH prog s (fun v h'=>∃ a:Addr,v= .pointer (some a)/\Grow gr h h' (O4 n x it (Fb (.v (.pointer (some a))) e d) w h')) h
 | n+1,x,.efU s::it,e,w,h=>wpH prog s (fun _ h'=>O4 n x it e w h') h
 | n+1,x,.call false f us t gr d::it,e,w,h=>FCall prog f (aD us) h fun r h'=>O4 n x (.ex (A21 t) [] :: .rs r h gr t d::it) e w h'
 | n+1,x,.call true f us t gr d::it,e,w,h=>ECall prog f (aD us) h fun r h'=>O4 n x (.ex (A21 t) [] :: .rs r h gr t d::it) e w h'
 | n+1,x,.yc l us t d::it,e,w,h=>YCall prog l (aD us) h fun r h'=>O4 n x (.ex (A21 t) [] :: .rs r h false t d::it) e w h'
 | _+1,x,.re [] vs::_,_,_,h=>x.K (Ih vs) h
 | n+1,x,.re (.tmp t::rs) vs::it,e,w,h=>O4 n x (.re rs (vs++[Tf (Zq e t)])::it) e w h
 | n+1,x,.re (.cell a t::rs) vs::it,e,w,h=>O4 n x (B0f rs w vs (Gz t).ag (Fn t) (Gz t).zs (Zq e a)++it) e w h
 | _+1,_,_,_,_,_=>False
def Gen(_ _:Prop):Prop:=True
def B46{a:Prop}:Gen a a:=trivial
