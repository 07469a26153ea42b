/- A part. -/
import Derived.Test.YtdphgbjaijlckaaGreatDoorG08
import Derived.Test.YtdphgbjaijlckaaGreatDoorG09
open Go.Proofs.Tryz
set_option linter.all false
open List renaming toArray->aD
open _root_.Go renaming Value->aC,TypeId->aE,Oper->aF,Code->aG,Operand->aH
namespace Go.Proofs.YtdphgbjaijlckaaGreatDoor
open Go
inductive SV where
 | v (v:aC)
 | b (b:Bool)
 | n (k:IntKind) (n:Int)
 | own (k off:Nat)
abbrev En:=List (Nat × SV)
abbrev Ow:=List (Nat × List aC)
structure GX where
 fa:FnAnn
 rs:List ResultVar
 own:List Nat
 wr:List Nat
 K:VP
inductive It where
 | c (c:aG)
 | o (ops l:List aF) (gr:Bool)
 | a (ops:List aF) (anc:List (List Nat)) (al:List (Nat × List Nat)) (l:List Nat)
 | an (ops:List aF) (anc:List (List Nat)) (al:List (Nat × List Nat)) (j:Nat) (L r:List Nat)
 | ar (ops:List aF) (anc:List (List Nat)) (al:List (Nat × List Nat)) (j:Nat) (L:List Nat) (i:Nat) (r:List Nat)
 | gd (t:Bool) (gs:Nat) (want:Bool) (o:aF) (gr:Bool)
 | blk (id:Nat)
 | put (d:Option Nat) (x:SV)
 | br (t:Bool) (A B:List It)
 | ff
 | nc (p:Option Addr) (d:Option Nat)
 | ix (A:Option Addr) (n:Nat) (i:Int) (c:Nat) (d:Option Nat)
 | iy (s:ByteArray) (i:Int) (d:Option Nat)
 | cd (p:Prop)
 | al (d:Option Nat) (cs:List aC)
 | st (k:Nat) (cs:List aC)
 | ex (zs acc:List aC)
 | fa (zs acc:List aC)
 | ld (a:Addr) (ag:Bool) (d:Option Nat)
 | efV (s:Sem aC) (t:aE) (gr:Bool) (d:Option Nat)
 | efP (s:Sem aC) (gr:Bool) (d:Option Nat)
 | efU (s:Sem Unit)
 | call (e:Bool) (f:Nat) (args:List aC) (t:aE) (gr:Bool) (d:Option Nat)
 | yc (l:Nat) (args:List aC) (t:aE) (d:Option Nat)
 | rs (r:aC) (h:Heap) (gr:Bool) (t:aE) (d:Option Nat)
 | rs1 (r:aC) (h:Heap) (gr:Bool) (v:aC) (d:Option Nat)
 | lp (ann:Ann) (b:aG)
 | lh (ann:Ann) (Inv:LP) (mu:LN) (b:aG)
 | le (ann:Ann) (Inv:LP) (mu:LN) (vs:List aC) (h:Heap)
 | cu (ann:Ann) (a b:aG)
 | ct (ann:Ann) (J:LP)
 | ch (ann:Ann) (J:LP) (b:aG)
 | rf (lv:Bool) (g:aC) (zs:List aC) (ps:List Nat) (asg body:aG)
 | rd (args:List aC) (ps:List Nat) (asg body:aG) (J:Heap->Prop) (JR:Option (Heap->Prop))
 | rn (J:Heap->Prop) (JR:Option (Heap->Prop))
 | rt (JR:Option (Heap->Prop))
 | re (r:List ResultVar) (vs:List aC)
 | rc (r:List ResultVar) (vs:List aC) (a:Addr) (ag:Bool)
def A9r{α:Type}:List (Nat × α)->Nat->Bool->α->α
 | _,_,true,v=>v
 | [],_,false,v=>v
 | (k,v)::r,d,false,_=>A9r r d (k==d) v
def A0x{α:Type}(z:α):List (Nat × α)->Nat->Bool->α->α
 | _,_,true,v=>v
 | [],_,false,_=>z
 | (k,v)::r,d,false,_=>A0x z r d (k==d) v
def Xi:List Nat->Nat->Bool->Bool
 | _,_,true=>true
 | [],_,false=>false
 | k::r,d,false=>Xi r d (k==d)
def A4z{α:Type}:List (Nat × α)->Nat->Bool->Option α->Option α
 | _,_,true,v=>v
 | [],_,false,_=>none
 | (k,v)::r,d,false,_=>A4z r d (k==d) (some v)
def A6k{α:Type}(l:List (Nat × α)):Option Nat->Option α
 | some i=>A4z l i false none
 | none=>none
def A6o(x:Nat):Bool->List Nat->List Nat->List Nat
 | true,r,_=>r
 | false,_,s=>x::s
def A7t(i:Nat):List Nat->List Nat
 | []=>[]
 | x::L=>A6o x (x==i) L (A7t i L)
def A5n(x:Nat):Bool->List Nat->List Nat
 | true,_=>[]
 | false,s=>x::s
def A87(i:Nat):List Nat->List Nat
 | []=>[]
 | x::L=>A5n x (x==i) (A87 i L)
def A3m(a:List Nat):List Nat->Bool
 | []=>true
 | x::r=> !Xi a x false&&A3m a r
def A68(i:Nat):Bool->List Nat->List Nat
 | true,s=>i::s
 | false,s=>s
def A41(j:Nat)(anc:List (List Nat))(L:List Nat):List Nat->List Nat
 | []=>[]
 | i::r=>A68 i (Xi L i false && !Xi (anc.getD i []) j false&&A3m (anc.getD i []) (A87 i L)) (A41 j anc L r)
def A9p:Option (List Nat)->List Nat
 | none=>[]
 | some l=>l
def A65(x:Nat):Bool->List Nat->List Nat
 | true,l=>l
 | false,l=>x::l
def A3p(l:List Nat):List Nat->List Nat
 | []=>l
 | x::r=>A3p (A65 x (Xi l x false) l) r
def A6h:Ground->Bool
 | .textOnly _=>false
 | .gcOnly _=>false
 | _=>true
def A6n(acc:List (List Nat))(l:List Nat)(j:Nat):Bool->List Nat
 | true=>A3p l (j::acc.getD j [])
 | false=>l
def A3x(acc:List (List Nat))(l:List Nat):List Edge->List Nat
 | []=>l
 | ⟨j,g⟩::r=>A3x acc (A6n acc l j (A6h g)) r
def A3y(acc:List (List Nat)):List aF->List (List Nat)
 | []=>acc
 | o::r=>A3y (acc++[A3x acc [] o.after.toList]) r
def A8g:Option Nat->Option Nat->Option Nat
 | some i,_=>some i
 | none,x=>x
def Vw:aG->Option Nat
 | .region id _ _=>some id
 | .seq a b=>A8g (Vw a) (Vw b)
 | .block _ b=>Vw b
 | .loop b=>Vw b
 | .scope b=>Vw b
 | .cond _ a b=>A8g (Vw a) (Vw b)
 | _=>none
abbrev La:=Nat × List Nat × List (Nat × Nat) × List aC
def A51:List La->List (Nat × Ann)
 | []=>[]
 | (i,s,o,z)::r=>(i,⟨s,o,z,⟨[],[]⟩⟩)::A51 r
def A7s:List (Nat × List Nat)->List (Nat × List Nat × List (List Nat))
 | []=>[]
 | (i,l)::r=>(i,l,[])::A7s r
def wrt:aG->List aF
 | .region _ ops _=>ops.toList
 | .seq a b | .cond _ a b | .rangeFunc _ _ a b=>wrt a++wrt b
 | .block _ b | .loop b | .scope b=>wrt b
 | _=>[]
def A9y(own:List Nat)(o:aF):Option Nat:=match o.op,o.dst with
 | .alloc _,some d | .box _ _,some d=>bif has own d then some d else none
 | _,_=>none
def A75(own:List Nat)(a:Ann)(ops:List aF):Ann:={ a with lim:=⟨ops.filterMap (·.dst),a.owns.map (·.1)++ops.filterMap (A9y own)⟩ }
def Px(i:Nat):aG->List aF
 | .loop b=>bif F2 b==some i then wrt b else Px i b
 | .seq a b | .cond _ a b | .rangeFunc _ _ a b=>Px i a++Px i b
 | .block _ b | .scope b=>Px i b
 | _=>[]
def Ku(i:Nat):aG->List aF
 | .seq a b=>bif F2 b==some i then wrt a else Ku i a++Ku i b
 | .cond _ a b | .rangeFunc _ _ a b=>Ku i a++Ku i b
 | .block _ b | .loop b | .scope b=>Ku i b
 | _=>[]
def A32(own:List Nat)(c:aG)(fa:FnAnn):FnAnn:={ fa with loops:=fa.loops.map fun x=>(x.1,A75 own x.2 (Px x.1 c)),cuts:=fa.cuts.map fun x=>(x.1,A75 own x.2 (Ku x.1 c)) }
def A9o(n:Nat):Option Nat->Option Nat
 | some i=>some (i+n)
 | none=>none
def A6p:aC->SV
 | .bool b=>.b b
 | .int k n=>.n k n
 | v=>.v v
def Ut(e:En)(t:Nat):SV:=A0x (.v undef) e t false (.v undef)
def Xh(w:Ow)(k:Nat):List aC:=A0x [] w k false []
def Ou(e:En):aH->SV
 | .tmp t=>Ut e t
 | .const v=>A6p v
 | .global g=>.v (.pointer (some ⟨g,0,none⟩))
 | .func f=>.v (.func (.func f) #[] #[])
def Oo:SV->aC
 | .v v=>v
 | .b b=>.bool b
 | .n k n=>.int k n
 | .own _ _=>undef
def Ot(e:En)(x:aH):aC:=Oo (Ou e x)
def Ie(e:En):List aH->List aC
 | []=>[]
 | x::r=>Ot e x::Ie e r
def A13(e:En):List (Nat × aH)->List (Nat × aC)
 | []=>[]
 | (i,x)::r=>(i,Ot e x)::A13 e r
def A7u:aC->Bool
 | .bool b=>b
 | _=>false
def A6c:aC->Int
 | .int _ n=>n
 | _=>0
def A0y(e:En):Option aH->Option Int
 | none=>none
 | some x=>some (A6c (Ot e x))
def Xj:aC->List aC
 | .agg ⟨l⟩=>l
 | v=>[v]
def Oq:List aC->aC
 | v::_=>v
 | []=>undef
def A2c(n:Nat):Bool->List aC->SV
 | true,cs=>.v (.agg (aD (cs.take n)))
 | false,cs=>.v (Oq cs)
def Xd(ag:Bool)(off n:Nat)(cs:List aC):SV:=A2c n ag (cs.drop off)
def A3h(cs:List aC)(off:Nat)(vs:List aC):List aC:=cs.take off++vs++cs.drop (off+vs.length)
def A03:IntKind->Int->Int
 | .i64,n=>B7 n
 | .i32,n=>A9v n
 | .u64,n=>C4 n
 | .u32,n=>G5 n
 | .u8,n=>wu8 n
 | k,n=>k.wrap n
def A3z:IntKind->Nat
 | .i8 | .u8=>8
 | .i16 | .u16=>16
 | .i32 | .u32=>32
 | .i64 | .u64=>64
def Nr(d:Option Nat)(k:IntKind)(n:Int):List It:=[.put d (.v (.int k n))]
def Qp(d:Option Nat)(b:Bool):List It:=[.put d (.v (.bool b))]
def A6m:List aC->List aC->Bool->Bool
 | .string a::_,.string b::_,r=>(a.toList==b.toList)&&r
 | _,_,_=>false
def A14:List (Nat × aE)->List aC->List aC->Bool
 | [],_,_=>true
 | (o,_)::r,xs,ys=>A6m (xs.drop o) (ys.drop o) (A14 r xs ys)
def Tn:TD->List (Nat × aE)
 | .t fs=>fs
 | _=>[]
def A8h(b:Int)(lit:Bool)(A:List It):List It:=match lit with
 | true=>A
 | false=>[.br (decide (b=0)) [.ff] A]
def A8k(b:Int)(lit:Bool)(A:List It):List It:=match lit with
 | true=>A
 | false=>[.br (decide (b<0)) [.ff] A]
def A3g(l:Bool)(t:TD)(d:Option Nat):BinOp->aC->aC->List It
 | .add,.int k a,.int _ b=>Nr d k (A03 k (a+b))
 | .sub,.int k a,.int _ b=>Nr d k (A03 k (a-b))
 | .mul,.int k a,.int _ b=>Nr d k (A03 k (a*b))
 | .quo,.int k a,.int _ b=>A8h b l (Nr d k (A03 k (a.tdiv b)))
 | .rem,.int k a,.int _ b=>A8h b l (Nr d k (a.tmod b))
 | .shl,.int k a,.int _ b=>A8k b l (Nr d k (A03 k (a*2^(min b.toNat (A3z k)))))
 | .shr,.int k a,.int _ b=>A8k b l (Nr d k (a.fdiv (2^(min b.toNat (A3z k)))))
 | .and,.int k a,.int _ b=>Nr d k (Vo k a b)
 | .or,.int k a,.int _ b=>Nr d k (bor k a b)
 | .xor,.int k a,.int _ b=>Nr d k (B01 k a b)
 | .andNot,.int k a,.int _ b=>Nr d k (A4q k a b)
 | .eql,.int _ a,.int _ b=>Qp d (a==b)
 | .neq,.int _ a,.int _ b=>Qp d (a != b)
 | .lss,.int _ a,.int _ b=>Qp d (decide (a<b))
 | .leq,.int _ a,.int _ b=>Qp d (decide (a<=b))
 | .gtr,.int _ a,.int _ b=>Qp d (decide (a>b))
 | .geq,.int _ a,.int _ b=>Qp d (decide (a>=b))
 | .add,.string a,.string b=>[.cd (((a.size+b.size:Nat):Int)<=9223372036854775807),.put d (.v (.string (a++b)))]
 | .eql,.string a,.string b=>Qp d (a.toList==b.toList)
 | .neq,.string a,.string b=>Qp d (!(a.toList==b.toList))
 | .eql,.slice a _ _,.slice _ _ _=>Qp d a.isNone
 | .neq,.slice a _ _,.slice _ _ _=>Qp d (!a.isNone)
 | .eql,.bool a,.bool b=>Qp d (a==b)
 | .neq,.bool a,.bool b=>Qp d (!(a==b))
 | .eql,.agg ⟨a⟩,.agg ⟨b⟩=>Qp d (A14 (Tn t) a b)
 | .neq,.agg ⟨a⟩,.agg ⟨b⟩=>Qp d (!A14 (Tn t) a b)
 | _,_,_=>[.ff]
def A5p(t:TD)(d:Option Nat):BinOp->SV->SV->List It
 | .eql,.n _ a,.n _ b=>[.put d (.b (a.natAbs==b.natAbs))]
 | .neq,.n _ a,.n _ b=>[.put d (.b (!(a.natAbs==b.natAbs)))]
 | op,x,.n k b=>A3g true t d op (Oo x) (.int k b)
 | op,x,y=>A3g false t d op (Oo x) (Oo y)
def De(t:aE):Nat:=(Ej t).n
def Rq(y:Nat):Option Int->List It
 | none=>[]
 | some i=>[.cd (0<=i/\i<=(y:Int))]
def Ek(y:Nat):Option Int->Nat
 | none=>y
 | some i=>i.toNat
def A5s(d:Option Nat):TD->aC->Option Int->Option Int->Option Int->List It
 | .l e,.slice A _ c,some l,some h,some m=>[.cd (0<=m/\m<=(c:Int)),.cd (0<=h/\h<=(m.toNat:Int)),.cd (0<=l/\l<=(h.toNat:Int)),.put d (.v (.slice (Q3 A m.toNat l.toNat (De e)) (h.toNat-l.toNat) (m.toNat-l.toNat)))]
 | .s,.string s,l,h,_=>Rq s.size h++(Rq (Ek s.size h) l++[.put d (.v (.string (s.extract (Ek 0 l) (Ek s.size h))))])
 | .l e,.slice A n c,l,h,_=>Rq c h++(Rq (Ek n h) l++[.put d (.v (.slice (Q3 A c (Ek 0 l) (De e)) (Ek n h-Ek 0 l) (c-Ek 0 l)))])
 | .r n e,.pointer A,l,h,_=>Rq n h++(Rq (Ek n h) l++[.put d (.v (.slice (Q3 A n (Ek 0 l) (De e)) (Ek n h-Ek 0 l) (n-Ek 0 l)))])
 | _,_,_,_,_=>[.ff]
def A6a(n c:Nat)(d:Option Nat)(i:Int):SV->List It
 | .own k off=>[.put d (.own k (off+i.natAbs*c))]
 | .v (.pointer (some a))=>[.cd (0<=i/\i<((n:Nat):Int)),.put d (.v (.pointer (some (a.add (i.toNat*c)))))]
 | _=>[.ff]
def A6b(d:Option Nat)(i:Int):TD->SV->List It
 | .l e,.v (.slice A n _)=>[.ix A n i (De e) d]
 | .r n e,x=>A6a n (De e) d i x
 | _,_=>[.ff]
def A6e(i:Int)(d:Option Nat):TD->aC->List It
 | .s,.string s=>[.iy s i d]
 | .r _ e,.agg ⟨cs⟩=>[.put d (Xd (Ej e).ag (i.natAbs*De e) (De e) cs)]
 | _,_=>[.ff]
def Uu(t:TD)(f:Nat):Nat × aE:=(Tn t).getD f (0,0)
def Tm:Nat × aE->Nat
 | (a,_)=>a
def Xe:Nat × aE->aE
 | (_,b)=>b
def A6j(o:Nat)(d:Option Nat):SV->List It
 | .own k off=>[.put d (.own k (off+o))]
 | .v (.pointer (some a))=>[.put d (.v (.pointer (some (a.add o))))]
 | _=>[.ff]
def A6t(i:Nat):TD->Nat
 | .r _ e=>i*De e
 | t=>Tm (Uu t i)
def A40(t:TD):List aC->List (Nat × aC)->List aC
 | cs,[]=>cs
 | cs,(i,v)::r=>A40 t (A3h cs (A6t i t) (Xj v)) r
def A3t:TD->Bool
 | .l _=>true
 | _=>false
def A2f(d:Option Nat)(x:SV):TD->aC->List It
 | .i k,.int _ n=>Nr d k (A03 k n)
 | _,_=>[.put d x]
def A6q(t s:aE)(tt:TD)(x:SV)(gr:Bool)(d:Option Nat):Bool->List It
 | true=>[.efV (convert s t (Oo x)) t gr d]
 | false=>A2f d x tt (Oo x)
def A2d(d:Option Nat):TD->aC->List It
 | _,.slice _ n _=>Nr d .i64 ((n:Nat):Int)
 | _,.string s=>Nr d .i64 ((s.size:Nat):Int)
 | .r n _,_=>Nr d .i64 ((n:Nat):Int)
 | _,_=>[.ff]
def A2g(d:Option Nat):aC->List It
 | .slice _ _ c=>Nr d .i64 ((c:Nat):Int)
 | _=>[.ff]
def A64:Bool->aC->aC->aC
 | true,.int k r,.int _ y=>.int k (if y>r then y else r)
 | false,.int k r,.int _ y=>.int k (if y<r then y else r)
 | _,r,_=>r
def A3n(m:Bool)(r:aC):List aC->aC
 | []=>r
 | y::l=>A3n m (A64 m r y) l
def A3s:aC->IntKind
 | .int k _=>k
 | _=>.i64
def A3o(m:Bool)(d:Option Nat):List aC->List It
 | v::l=>[.put d (.v (A3n m v l))]
 | _=>[.ff]
def A9n(f:Nat):Bool->Bool
 | true=>false
 | false=>Xi A2e f false
def A2h(A03:List Nat)(sl:Bool)(vs:List aC)(t:aE)(gr:Bool)(d:Option Nat):aC->List It
 | .func (.func f) ⟨a⟩ ⟨b⟩=>[.call (A9n f sl) f (a++(vs++b)) t (gr && !sl && !Xi A03 f false) d]
 | .func (.yield l) _ _=>[.yc l vs t d]
 | _=>[.ff]
def A6d:aH->Bool
 | .tmp _=>true
 | _=>false
def A6s(x:GX)(e:En)(t:aE)(gr:Bool)(d:Option Nat):Callee->List aH->Array aE->List It
 | .value f,us,_=>A2h x.wr (A6d f) (Ie e us) t gr d (Ot e f)
 | .builtin .append,us,ts=>[.efV (Builtin.append_ ts t (aD (Ie e us))) t (gr && !Xi x.wr 1000000000 false) d]
 | .builtin .copy,us,ts=>[.efV (Builtin.copy_ ts t (aD (Ie e us))) t false d]
 | .builtin .len,us,ts=>A2d d (Ej (ts.toList.headD 0)).d (Oq (Ie e us))
 | .builtin .cap,us,_=>A2g d (Oq (Ie e us))
 | .builtin .max,us,_=>A3o true d (Ie e us)
 | .builtin .min,us,_=>A3o false d (Ie e us)
 | _,_,_=>[.ff]
def A50:Option Nat->Nat
 | some d=>d
 | none=>0
def Xg(d:Option Nat)(cs:List aC)(s:Sem aC)(gr:Bool):Bool->List It
 | true=>[.al d cs]
 | false=>[.efP s gr d]
def A5z(d:Option Nat)(a b:SV):SV->List It
 | .b true=>[.put d a]
 | .b false=>[.put d b]
 | c=>[.br (A7u (Oo c)) [.put d a] [.put d b]]
def A67(w:Ow)(d:Option Nat)(zs:List aC)(ag:Bool)(n:Nat):SV->List It
 | .own k off=>[.put d (Xd ag off n (Xh w k))]
 | .v (.pointer (some a))=>[.ex zs [],.ld a ag d]
 | _=>[.ff]
def A63(d:Option Nat):SV->List It
 | .v (.pointer p)=>[.nc p d]
 | y=>[.put d y]
def A5m(d:Option Nat):UnOp->SV->List It
 | .not,.b b=>[.put d (.b (!b))]
 | .not,y=>Qp d (!A7u (Oo y))
 | .neg,y=>Nr d (A3s (Oo y)) (A03 (A3s (Oo y)) (0-A6c (Oo y)))
 | _,_=>[.ff]
def A6l(d:Option Nat)(i:Nat):aC->List It
 | .tuple ⟨vs⟩=>[.put d (.v (vs.getD i undef))]
 | _=>[.ff]
def A5q(w:Ow)(t:aE)(z:aC):SV->List It
 | .own k off=>[.st k (A3h (Xh w k) off (Xj z))]
 | y=>[.efU (Instr.storeAt t (Oo y) z)]
def A9q(x:GX)(e:En)(w:Ow)(gr:Bool)(t:aE)(d:Option Nat):Op->List It
 | .move y=>[.put d (Ou e y)]
 | .assign y=>[.put d (Ou e y)]
 | .pick c a b=>A5z d (Ou e a) (Ou e b) (Ou e c)
 | .load t y=>A67 w d (Ej t).zs (Ej t).ag (De t) (Ou e y)
 | .fieldAddr s y f=>A6j (Tm (Uu (Ej s).d f)) d (Ou e y)
 | .nilCheck y=>A63 d (Ou e y)
 | .panic _=>[.ff]
 | .makeInterface _ _=>[.put d (.v undef)]
 | .indexAddr t y i=>A6b d (A6c (Ot e i)) (Ej t).d (Ou e y)
 | .index t y i=>A6e (A6c (Ot e i)) d (Ej t).d (Ot e y)
 | .slice t y l h m=>A5s d (Ej t).d (Ot e y) (A0y e l) (A0y e h) (A0y e m)
 | .binOp op t y z _=>A5p (Ej t).d d op (Ou e y) (Ou e z)
 | .unOp op _ y=>A5m d op (Ou e y)
 | .convert s t y=>A6q t s (Ej t).d (Ou e y) gr d (A3t (Ej s).d||A3t (Ej t).d)
 | .extract y i=>A6l d i (Ot e y)
 | .field s y f=>[.put d (Xd (Ej (Xe (Uu (Ej s).d f))).ag (Tm (Uu (Ej s).d f)) (De (Xe (Uu (Ej s).d f))) (Xj (Ot e y)))]
 | .build t ps=>[.put d (.v (.agg (aD (A40 (Ej t).d (Ej t).zs (A13 e ps.toList)))))]
 | .makeFunc f a b=>[.put d (.v (.func f (aD (Ie e a.toList)) (aD (Ie e b.toList))))]
 | .call c=>A6s x e t gr d c.callee c.args.toList c.argTypes
 | .alloc t=>Xg d (Ej t).zs (Instr.alloc t true (.tuple #[])) gr (Xi x.own (A50 d) false)
 | .box t y=>Xg d (Xj (Ot e y)) (Instr.box t (Ot e y)) gr (Xi x.own (A50 d) false)
 | .store t y z=>A5q w t (Ot e z) (Ou e y)
 | .makeSlice t l c=>[.efV (Instr.makeSlice t (Ot e l) (Ot e c)) t gr d]
 | .buildSlice t n ps=>[.efV (Instr.buildSlice t n (aD (A13 e ps.toList))) t gr d]
 | _=>[.ff]
def A3v(n:Nat):Bool->List aC->aC
 | true,vs=>.agg (aD (vs.take n))
 | false,vs=>Oq vs
def A3w:List aE->List aC->List aC
 | [],_=>[]
 | t::r,vs=>A3v (De t) (Ej t).ag vs::A3w r (vs.drop (De t))
def A3f:List aE->List aC
 | []=>[]
 | t::r=>(Ej t).zs++A3f r
def A5t(zs:List aC):TD->List aC
 | .u ts=>A3f ts
 | _=>zs
def Xf(t:aE):List aC:=A5t (Ej t).zs (Ej t).d
def A5u(t:aE)(vs:List aC):TD->aC
 | .u ts=>.tuple (aD (A3w ts vs))
 | _=>A3v (De t) (Ej t).ag vs
def Cu(x:SV)(e:En):Option Nat->En
 | some d=>(d,x)::e
 | none=>e
def A11:List Nat->List aC->En->En
 | s::r,v::vs,e=>(s,.v v)::A11 r vs e
 | _,_,e=>e
def A0z:List (Nat × Nat)->List aC->Ow->Ow
 | [],_,w=>w
 | (k,n)::r,vs,w=>(k,vs.take n)::A0z r (vs.drop n) w
def A3r(e:En):List Nat->List aC
 | []=>[]
 | s::r=>Oo (Ut e s)::A3r e r
def A3q(w:Ow):List (Nat × Nat)->List aC
 | []=>[]
 | (k,_)::r=>Xh w k++A3q w r
def A69(ann:Ann)(e:En)(w:Ow):List aC:=A3r e ann.slots++A3q w ann.owns
def A7r(id:Nat):List It->Bool->List It
 | l,true=>l
 | [],false=>[]
 | .blk j::r,false=>A7r id r (j==id)
 | _::r,false=>A7r id r false
def A8d(rs:List ResultVar):List It->List It
 | []=>[.re rs []]
 | .rn _ JR::_=>[.rt JR]
 | _::r=>A8d rs r
def A62(k:Nat)(e:En):SV->En
 | .own _ _=>e
 | x=>(k,x)::e
def A0w:En->En
 | []=>[]
 | (k,x)::r=>A62 k (A0w r) x
def A6f:List aF->List aF
 | o::_=>[o]
 | []=>[]
def Rp(l:List aF):List Nat->List aF
 | []=>[]
 | i::r=>A6f (l.drop i)++Rp l r
def A12(o:aF)(gr:Bool):Bool->Bool->List It
 | true,true=>[.o [] [o] gr]
 | false,false=>[.o [] [o] gr]
 | _,_=>[.put o.dst (.v undef)]
def A3j:List aF->Nat
 | o::_=>A50 o.dst
 | []=>0
def A3l:List Nat->List aC->En->En
 | s::r,v::vs,e=>A3l r vs ((s,.v v)::e)
 | _,_,e=>e
def A3k(n:Nat):List aF->List Nat
 | []=>[]
 | _::r=>n::A3k (n+1) r
def A61(ops:List aF):Option (List Nat × List (List Nat))->List Nat
 | some (l,_)=>l
 | none=>A3k 0 ops
def A6g:Op->Bool
 | .store _ _ _=>false
 | _=>true
def A6i(gs:Nat)(want:Bool)(o:aF)(gr:Bool):SV->List It
 | .b b=>A12 o gr b want
 | .v (.bool t)=>[.gd t gs want o gr]
 | _=>[.put o.dst (.v undef)]
def A60(x:GX)(e:En)(w:Ow)(ops:List aF)(gr:Bool):aF->List It
 | ⟨d,op,t,_,_,none⟩=>A9q x e w (gr&&A6g op) t d op
 | ⟨d,op,t,p,a,some (j,want)⟩=>A6i (A3j (ops.drop j)) want ⟨d,op,t,p,a,none⟩ gr (Ut e (A3j (ops.drop j)))
def A5w(ops:List aF)(o:Option (List Nat × List (List Nat))):Option (List (Nat × List Nat))->List It
 | none=>match o with
  | none=>[.o ops ops true]
  | some (l,_)=>[.o ops (Rp ops l) true]
 | some al=>[.a ops (A3y [] ops) al (A61 ops o)]
def A5v(fa:FnAnn)(id:Nat)(ops:List aF):Bool->List It
 | false=>[.o ops ops false]
 | true=>A5w ops (A4z fa.orders id false none) (A4z fa.alts id false none)
def A5r(a b:aG):Option Ann->List It
 | none=>[.c a,.c b]
 | some ann=>[.cu ann a b]
def A6r(a b:aG):SV->List It
 | .b true=>[.c a]
 | .b false=>[.c b]
 | c=>[.br (A7u (Oo c)) [.c a] [.c b]]
def A66(b:aG):Option Ann->List It
 | none=>[.ff]
 | some ann=>[.lp ann b]
def A5x(g:aC)(ps:List Nat)(asg body:aG):Option (List aC)->Option (List aC)->List It
 | some zs,none=>[.rf false g zs ps asg body]
 | some zs,some _=>[.rf true g zs ps asg body]
 | _,_=>[.ff]
def A9s(x:GX)(e:En):aG->List It
 | .skip=>[]
 | .region id ops dr=>A5v x.fa id ops.toList dr
 | .seq a b=>A5r a b (A6k x.fa.cuts (Vw b))
 | .cond c a b=>A6r a b (Ou e c)
 | .block id b=>[.c b,.blk id]
 | .loop b=>A66 b (A6k x.fa.loops (Vw b))
 | .rangeFunc g ps asg body=>A5x (Ot e g) ps.toList asg body (A6k x.fa.rounds (Vw body)) (A6k x.fa.rounds (A9o 1000000 (Vw body)))
 | .scope b=>[.c b]
 | .label _=>[]
 | _=>[.ff]
def A5y(rs:List ResultVar)(w:Ow)(vs:List aC)(ag:Bool)(n:Nat)(zs:List aC):SV->List It
 | .own k off=>[.re rs (vs++[Oo (Xd ag off n (Xh w k))])]
 | .v (.pointer (some p))=>[.ex zs [],.rc rs vs p ag]
 | _=>[.ff]
def L0:Nat->GX->List It->En->Ow->Heap->Prop
 | 0,_,_,_,_,_=>True
 | n+1,x,[],e,w,h=>L0 n x [.re x.rs []] e w h
 | n+1,x,.c (.exit id)::it,e,w,h=>L0 n x (A7r id it false) e w h
 | n+1,x,.c .ret::it,e,w,h=>L0 n x (A8d x.rs it) e w h
 | n+1,x,.c c::it,e,w,h=>L0 n x (A9s x e c++it) e w h
 | n+1,x,.cu ann a b::it,e,w,h=>∃ J:LP,L0 n x (.c a :: .ct ann J::it) e w h/\L0 n x (.fa ann.zs [] :: .ch ann J b::it) e w h
 | n+1,x,.lp ann b::it,e,w,h=>∃ (Inv:LP) (mu:LN),Inv (A69 ann e w) h/\L0 n x (.fa ann.zs [] :: .lh ann Inv mu b::it) e w h
 | n+1,x,.rf false g zs ps asg body::it,e,w,h=>Zw prog g h (fun args h1 J=>L0 n x [.ex zs [],.rd args ps asg body J none] (A0w e) [] h1) (fun h2=>L0 n x it e w h2)
 | n+1,x,.rf true g zs ps asg body::it,e,w,h=>Zu prog g h (fun args h1 J JR=>L0 n x [.ex zs [],.rd args ps asg body J (some JR)] (A0w e) [] h1) (fun h2=>L0 n x it e w h2) (fun h2=>L0 n x (.c .ret::it) e w h2)
 | n+1,x,.o _ [] _::it,e,w,h=>L0 n x it e w h
 | n+1,x,.o ops (o::l) gr::it,e,w,h=>L0 n x (A60 x e w ops gr o ++ .o ops l gr::it) e w h
 | n+1,x,.a _ _ _ []::it,e,w,h=>L0 n x it e w h
 | n+1,x,.a ops anc al (j::L)::it,e,w,h=>L0 n x (.an ops anc al j L (A41 j anc L (A9p (A4z al j false none)))::it) e w h
 | n+1,x,.an ops anc al j L []::it,e,w,h=>L0 n x (.o ops (Rp ops [j]) true :: .a ops anc al L::it) e w h
 | n+1,x,.an ops anc al j L (i::r)::it,e,w,h=>L0 n x (.o ops (Rp ops [j]) true :: .a ops anc al L::it) e w h/\L0 n x (.ar ops anc al j L i r::it) e w h
 | n+1,x,.ar ops anc al j L i []::it,e,w,h=>L0 n x (.o ops (Rp ops [i]) true :: .a ops anc al (j::A7t i L)::it) e w h
 | n+1,x,.ar ops anc al j L i (k::r)::it,e,w,h=>L0 n x (.o ops (Rp ops [i]) true :: .a ops anc al (j::A7t i L)::it) e w h/\L0 n x (.ar ops anc al j L k r::it) e w h
 | n+1,x,.gd t gs want o gr::it,e,w,h=>Br t (L0 n x (A12 o gr true want++it) ((gs,.b true)::e) w h) (L0 n x (A12 o gr false want++it) ((gs,.b false)::e) w h)
 | n+1,x,.blk _::it,e,w,h=>L0 n x it e w h
 | n+1,x,.put d y::it,e,w,h=>L0 n x it (Cu y e d) w h
 | n+1,x,.br t A B::it,e,w,h=>Br t (L0 n x (A++it) e w h) (L0 n x (B++it) e w h)
 | _+1,_,.ff::_,_,_,_=>False
 | n+1,x,.nc p d::it,e,w,h=>∃ a,p=some a/\L0 n x it (Cu (.v (.pointer (some a))) e d) w h
 | n+1,x,.ix A m i c d::it,e,w,h=>∃ a,A=some a/\0<=i/\i<(m:Int)/\L0 n x it (Cu (.v (.pointer (some (a.add (i.toNat*c))))) e d) w h
 | n+1,x,.iy s i d::it,e,w,h=>∃ c:UInt8,(0<=i/\s[i.toNat]? = some c)/\L0 n x it (Cu (.v (.int .u8 c.toNat)) e d) w h
 | n+1,x,.cd p::it,e,w,h=>p/\L0 n x it e w h
 | n+1,x,.al d cs::it,e,w,h=>L0 n x it (Cu (.own (A50 d) 0) e d) ((A50 d,cs)::w) h
 | n+1,x,.st k cs::it,e,w,h=>L0 n x it e ((k,cs)::w) h
 | n+1,x,.ex (.int k _::zs) acc::it,e,w,h=>∃ i:Int,L0 n x (.ex zs (acc++[.int k i])::it) e w h
 | n+1,x,.ex (.bool _::zs) acc::it,e,w,h=>∃ b:Bool,L0 n x (.ex zs (acc++[.bool b])::it) e w h
 | n+1,x,.ex (.string _::zs) acc::it,e,w,h=>∃ s:ByteArray,L0 n x (.ex zs (acc++[.string s])::it) e w h
 | n+1,x,.ex (.slice _ _ _::zs) acc::it,e,w,h=>∃ (A:Option Addr) (m c:Nat),L0 n x (.ex zs (acc++[.slice A m c])::it) e w h
 | n+1,x,.ex (.pointer _::zs) acc::it,e,w,h=>∃ p:Option Addr,L0 n x (.ex zs (acc++[.pointer p])::it) e w h
 | n+1,x,.ex (_::zs) acc::it,e,w,h=>∃ v:aC,L0 n x (.ex zs (acc++[v])::it) e w h
 | n+1,x,.fa (.int k _::zs) acc::it,e,w,h=>∀ i:Int,L0 n x (.fa zs (acc++[.int k i])::it) e w h
 | n+1,x,.fa (.bool _::zs) acc::it,e,w,h=>∀ b:Bool,L0 n x (.fa zs (acc++[.bool b])::it) e w h
 | n+1,x,.fa (.string _::zs) acc::it,e,w,h=>∀ s:ByteArray,L0 n x (.fa zs (acc++[.string s])::it) e w h
 | n+1,x,.fa (.slice _ _ _::zs) acc::it,e,w,h=>∀ (A:Option Addr) (m c:Nat),L0 n x (.fa zs (acc++[.slice A m c])::it) e w h
 | n+1,x,.fa (.pointer _::zs) acc::it,e,w,h=>∀ p:Option Addr,L0 n x (.fa zs (acc++[.pointer p])::it) e w h
 | n+1,x,.fa (_::zs) acc::it,e,w,h=>∀ v:aC,L0 n x (.fa zs (acc++[v])::it) e w h
 | n+1,x,.fa [] vs :: .lh ann Inv mu b::it,e,w,_=>∀ h,Inv vs h->L0 n x (.c b :: .le ann Inv mu vs h::it) (A11 ann.slots vs e) (A0z ann.owns (vs.drop ann.slots.length) w) h
 | n+1,x,.fa [] vs :: .ch ann J b::it,e,w,_=>∀ h,J vs h->L0 n x (.c b::it) (A11 ann.slots vs e) (A0z ann.owns (vs.drop ann.slots.length) w) h
 | _+1,_,.le ann Inv mu vs h0::_,e,w,h=>Inv (A69 ann e w) h/\mu (A69 ann e w) h<mu vs h0
 | _+1,_,.ct ann J::_,e,w,h=>J (A69 ann e w) h
 | n+1,x,.ex [] vs :: .ld a true d::it,e,w,h=>cellsAt h a 0 vs (L0 n x it (Cu (.v (.agg (aD vs))) e d) w h)
 | n+1,x,.ex [] vs :: .ld a false d::it,e,w,h=>h.cell? a=some (Oq vs)/\L0 n x it (Cu (.v (Oq vs)) e d) w h
 | n+1,x,.ex [] vs :: .rs r h0 gr t d::it,e,w,h=>L0 n x (.rs1 r h0 gr (A5u t vs (Ej t).d) d::it) e w h
 | n+1,x,.rs1 r h0 gr v d::it,e,w,h=>r=v/\Grow gr h0 h (L0 n x it (Cu (.v v) e d) w h)
 | n+1,x,.ex [] vs :: .rd args ps asg body J JR::_,e,w,h=>args=vs/\L0 n x [.c asg,.c body,.rn J JR] (A3l ps vs e) w h
 | n+1,x,.ex [] vs :: .rc rs us a true::it,e,w,h=>cellsAt h a 0 vs (L0 n x (.re rs (us++[.agg (aD vs)])::it) e w h)
 | n+1,x,.ex [] vs :: .rc rs us a false::it,e,w,h=>h.cell? a=some (Oq vs)/\L0 n x (.re rs (us++vs)::it) e w h
 | _+1,_,.rn J _::_,_,_,h=>J h
 | _+1,_,.rt (some J)::_,_,_,h=>J h
 | _+1,_,.rt none::_,_,_,_=>False
 | n+1,x,.efV s t gr d::it,e,w,h=>wpH prog s (fun v h'=>L0 n x (.ex (Xf t) [] :: .rs v h gr t d::it) e w h') h
 | n+1,x,.efP s gr d::it,e,w,h=>wpH prog s (fun v h'=>∃ a:Addr,v= .pointer (some a)/\Grow gr h h' (L0 n x it (Cu (.v (.pointer (some a))) e d) w h')) h
 | n+1,x,.efU s::it,e,w,h=>wpH prog s (fun _ h'=>L0 n x it e w h') h
 | n+1,x,.call false f us t gr d::it,e,w,h=>FCall prog f (aD us) h fun r h'=>L0 n x (.ex (Xf t) [] :: .rs r h gr t d::it) e w h'
 | n+1,x,.call true f us t gr d::it,e,w,h=>ECall prog f (aD us) h fun r h'=>L0 n x (.ex (Xf t) [] :: .rs r h gr t d::it) e w h'
 | n+1,x,.yc l us t d::it,e,w,h=>YCall prog l (aD us) h fun r h'=>L0 n x (.ex (Xf t) [] :: .rs r h false t d::it) e w h'
 | _+1,x,.re [] vs::_,_,_,h=>x.K (Fl vs) h
 | n+1,x,.re (.tmp t::rs) vs::it,e,w,h=>L0 n x (.re rs (vs++[Oo (Ut e t)])::it) e w h
 | n+1,x,.re (.cell a t::rs) vs::it,e,w,h=>L0 n x (A5y rs w vs (Ej t).ag (De t) (Ej t).zs (Ut e a)++it) e w h
 | _+1,_,_,_,_,_=>False
def Gen(_ _:Prop):Prop:=True
def A9z{a:Prop}:Gen a a:=trivial
