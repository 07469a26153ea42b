/- A part. -/
import Derived.Test.YteppbhimdjmabaaGreatDoorG06
import Derived.Test.YteppbhimdjmabaaGreatDoorG07
open Go.Proofs.Tryz
set_option linter.all false
open List renaming toArray->aE
open _root_ renaming Nat->J,Int->Z,List->Y
open _root_.Go renaming Value->aC,TypeId->aF,Oper->aH,Code->aI,Operand->aJ
namespace Go.Proofs.YteppbhimdjmabaaGreatDoor
open Go
inductive SV where
 | v (v:aC)
 | b (b:Bool)
 | n (k:IntKind) (n:Z)
 | own (k off:J)
abbrev En:=Y (J×SV)
abbrev Ow:=Y (J×Y aC)
structure GX where
 fa:FnAnn
 rs:Y ResultVar
 own:Y J
 wr:Y J
 K:VP
inductive It where
 | c (c:aI)
 | o (ops l:Y aH) (gr:Bool)
 | a (ops:Y aH) (anc:Y (Y J)) (al:Y (J × Y J)) (l:Y J)
 | an (ops:Y aH) (anc:Y (Y J)) (al:Y (J × Y J)) (j:J) (L r:Y J)
 | ar (ops:Y aH) (anc:Y (Y J)) (al:Y (J × Y J)) (j:J) (L:Y J) (i:J) (r:Y J)
 | gd (t:Bool) (gs:J) (want:Bool) (o:aH) (gr:Bool)
 | blk (id:J)
 | put (d:Option J) (x:SV)
 | br (t:Bool) (A B:Y It)
 | ff
 | nc (p:Option Addr) (d:Option J)
 | ix (A:Option Addr) (n:J) (i:Z) (c:J) (d:Option J)
 | iy (s:ByteArray) (i:Z) (d:Option J)
 | cd (p:Prop)
 | al (d:Option J) (cs:Y aC)
 | st (k:J) (cs:Y aC)
 | ex (zs acc:Y aC)
 | fa (zs acc:Y aC)
 | ld (a:Addr) (ag:Bool) (d:Option J)
 | efV (s:Sem aC) (t:aF) (gr:Bool) (d:Option J)
 | efP (s:Sem aC) (gr:Bool) (d:Option J)
 | efU (s:Sem Unit)
 | call (e:Bool) (f:J) (args:Y aC) (t:aF) (gr:Bool) (d:Option J)
 | yc (l:J) (args:Y aC) (t:aF) (d:Option J)
 | rs (r:aC) (h:Heap) (gr:Bool) (t:aF) (d:Option J)
 | rs1 (r:aC) (h:Heap) (gr:Bool) (v:aC) (d:Option J)
 | lp (ann:Ann) (b:aI)
 | lh (ann:Ann) (Inv:LP) (mu:Y aC->Heap->J) (b:aI)
 | le (ann:Ann) (Inv:LP) (mu:Y aC->Heap->J) (vs:Y aC) (h:Heap)
 | cu (ann:Ann) (a b:aI)
 | ct (ann:Ann) (jq9:LP)
 | ch (ann:Ann) (jq9:LP) (b:aI)
 | rf (lv:Bool) (g:aC) (zs:Y aC) (ps:Y J) (asg body:aI)
 | rd (args:Y aC) (ps:Y J) (asg body:aI) (jq9:Heap->Prop) (JR:Option (Heap->Prop))
 | rn (jq9:Heap->Prop) (JR:Option (Heap->Prop))
 | rt (JR:Option (Heap->Prop))
 | re (r:Y ResultVar) (vs:Y aC)
 | rc (r:Y ResultVar) (vs:Y aC) (a:Addr) (ag:Bool)
def C8g{α:Type}:Y (J×α)->J->Bool->α->α
 |_,_,true,v=>v
 | [],_,false,v=>v
 | (k,v)::r,d,false,_=>C8g r d (k==d) v
def B6n{α:Type}(z:α):Y (J×α)->J->Bool->α->α
 |_,_,true,v=>v
 | [],_,false,_=>z
 | (k,v)::r,d,false,_=>B6n z r d (k==d) v
def B2j:Y J->J->Bool->Bool
 |_,_,true=>true
 | [],_,false=>false
 |k::r,d,false=>B2j r d (k==d)
def C2i{α:Type}:Y (J×α)->J->Bool->Option α->Option α
 |_,_,true,v=>v
 | [],_,false,_=>none
 | (k,v)::r,d,false,_=>C2i r d (k==d) (some v)
def C2h{α:Type}(l:Y (J×α)):Option J->Option α
 |some i=>C2i l i false none
 |none=>none
def C4d(x:J):Bool->Y J->Y J->Y J
 |true,r,_=>r
 |false,_,s=>x::s
def C65(i:J):Y J->Y J
 | []=>[]
 |x::L=>C4d x (x==i) L (C65 i L)
def C3d(x:J):Bool->Y J->Y J
 |true,_=>[]
 |false,s=>x::s
def C6l(i:J):Y J->Y J
 | []=>[]
 |x::L=>C3d x (x==i) (C6l i L)
def C0d(a:Y J):Y J->Bool
 | []=>true
 |x::r=>!B2j a x false&&C0d a r
def C3y(i:J):Bool->Y J->Y J
 |true,s=>i::s
 |false,s=>s
def C0s(j:J)(anc:Y (Y J))(L:Y J):Y J->Y J
 | []=>[]
 |i::r=>C3y i (B2j L i false && !B2j (anc.getD i []) j false&&C0d (anc.getD i []) (C6l i L)) (C0s j anc L r)
def C8e:Option (Y J)->Y J
 |none=>[]
 |some l=>l
def C3v(x:J):Bool->Y J->Y J
 |true,l=>l
 |false,l=>x::l
def C0g(l:Y J):Y J->Y J
 | []=>l
 |x::r=>C0g (C3v x (B2j l x false) l) r
def C47:Ground->Bool
 |.textOnly _=>false
 |.gcOnly _=>false
 |_=>true
def C4c(acc:Y (Y J))(l:Y J)(j:J):Bool->Y J
 |true=>C0g l (j::acc.getD j [])
 |false=>l
def C0o(acc:Y (Y J))(l:Y J):Y Edge->Y J
 | []=>l
 |⟨j,g⟩::r=>C0o acc (C4c acc l j (C47 g)) r
def C0p(acc:Y (Y J)):Y aH->Y (Y J)
 | []=>acc
 |o::r=>C0p (acc++[C0o acc [] o.after.toList]) r
def C6v:Option J->Option J->Option J
 |some i,_=>some i
 |none,x=>x
def B19:aI->Option J
 |.region id _ _=>some id
 |.seq a b=>C6v (B19 a) (B19 b)
 |.block _ b=>B19 b
 |.loop b=>B19 b
 |.scope b=>B19 b
 |.cond _ a b=>C6v (B19 a) (B19 b)
 |_=>none
abbrev La:=J×Y J×Y (J×J)×Y aC
def C2k:Y La->Y (J×Ann)
 | []=>[]
 | (i,s,o,z)::r=>(i,⟨s,o,z,⟨[],[]⟩⟩)::C2k r
def C64:Y (J×Y J)->Y (J×Y J×Y (Y J))
 | []=>[]
 | (i,l)::r=>(i,l,[])::C64 r
def wrt:aI->Y aH
 |.region _ ops _=>ops.toList
 |.seq a b |.cond _ a b |.rangeFunc _ _ a b=>wrt a++wrt b
 |.block _ b |.loop b |.scope b=>wrt b
 |_=>[]
def C8v(own:Y J)(o:aH):Option J:=match o.op,o.dst with
 |.alloc _,some d |.box _ _,some d=>bif has own d then some d else none
 |_,_=>none
def C53(own:Y J)(a:Ann)(ops:Y aH):Ann:={a with lim:=⟨ops.filterMap (·.dst),a.owns.map (·.1)++ops.filterMap (C8v own)⟩ }
def A58(i:J):aI->Y aH
 |.loop b=>bif K5 b==some i then wrt b else A58 i b
 |.seq a b |.cond _ a b |.rangeFunc _ _ a b=>A58 i a++A58 i b
 |.block _ b |.scope b=>A58 i b
 |_=>[]
def Zp(i:J):aI->Y aH
 |.seq a b=>bif K5 b==some i then wrt a else Zp i a++Zp i b
 |.cond _ a b |.rangeFunc _ _ a b=>Zp i a++Zp i b
 |.block _ b |.loop b |.scope b=>Zp i b
 |_=>[]
def B9i(own:Y J)(c:aI)(fa:FnAnn):FnAnn:={ fa with loops:=fa.loops.map fun x=>(x.1,C53 own x.2 (A58 x.1 c)),cuts:=fa.cuts.map fun x=>(x.1,C53 own x.2 (Zp x.1 c)) }
def C6s(n:J):Option J->Option J
 |some i=>some (i+n)
 |none=>none
def C4f:aC->SV
 |.bool b=>.b b
 |.int k n=>.n k n
 |v=>.v v
def A9y(e:En)(t:J):SV:=B6n (.v undef) e t false (.v undef)
def B2i(w:Ow)(k:J):Y aC:=B6n [] w k false []
def A3u(e:En):aJ->SV
 |.tmp t=>A9y e t
 |.const v=>C4f v
 |.global g=>.v (.pointer (some ⟨g,0,none⟩))
 |.func f=>.v (.func (.func f) #[] #[])
def A3r:SV->aC
 |.v v=>v
 |.b b=>.bool b
 |.n k n=>.int k n
 |.own _ _=>undef
def A3t(e:En)(x:aJ):aC:=A3r (A3u e x)
def Vl(e:En):Y aJ->Y aC
 | []=>[]
 |x::r=>A3t e x::Vl e r
def B6s(e:En):Y (J×aJ)->Y (J×aC)
 | []=>[]
 | (i,x)::r=>(i,A3t e x)::B6s e r
def C66:aC->Bool
 |.bool b=>b
 |_=>false
def C42:aC->Z
 |.int _ n=>n
 |_=>0
def B6o(e:En):Option aJ->Option Z
 |none=>none
 |some x=>some (C42 (A3t e x))
def B2k:aC->Y aC
 |.agg ⟨l⟩=>l
 |v=>[v]
def A3s:Y aC->aC
 |v::_=>v
 | []=>undef
def B8f(n:J):Bool->Y aC->SV
 |true,cs=>.v (.agg (aE (cs.take n)))
 |false,cs=>.v (A3s cs)
def B2e(ag:Bool)(off n:J)(cs:Y aC):SV:=B8f n ag (cs.drop off)
def C08(cs:Y aC)(off:J)(vs:Y aC):Y aC:=cs.take off++vs++cs.drop (off+vs.length)
def B5j:IntKind->Z->Z
 |.i64,n=>C4 n
 |.i32,n=>C8r n
 |.u64,n=>C7 n
 |.u32,n=>J5 n
 |.u8,n=>wu8 n
 |k,n=>k.wrap n
def C0q:IntKind->J
 |.i8 |.u8=>8
 |.i16 |.u16=>16
 |.i32 |.u32=>32
 |.i64 |.u64=>64
def A2e(d:Option J)(k:IntKind)(n:Z):Y It:=[.put d (.v (.int k n))]
def A5s(d:Option J)(b:Bool):Y It:=[.put d (.v (.bool b))]
def C4b:Y aC->Y aC->Bool->Bool
 |.string a::_,.string b::_,r=>(a.toList==b.toList)&&r
 |_,_,_=>false
def B6t:Y (J×aF)->Y aC->Y aC->Bool
 | [],_,_=>true
 | (o,_)::r,xs,ys=>C4b (xs.drop o) (ys.drop o) (B6t r xs ys)
def A88:TD->Y (J×aF)
 |.t fs=>fs
 |_=>[]
def C6w(b:Z)(lit:Bool)(A:Y It):Y It:=match lit with
 |true=>A
 |false=>[.br (decide (b=0)) [.ff] A]
def C6z(b:Z)(lit:Bool)(A:Y It):Y It:=match lit with
 |true=>A
 |false=>[.br (decide (b<0)) [.ff] A]
def C07(l:Bool)(t:TD)(d:Option J):BinOp->aC->aC->Y It
 |.add,.int k a,.int _ b=>A2e d k (B5j k (a+b))
 |.sub,.int k a,.int _ b=>A2e d k (B5j k (a-b))
 |.mul,.int k a,.int _ b=>A2e d k (B5j k (a*b))
 |.quo,.int k a,.int _ b=>C6w b l (A2e d k (B5j k (a.tdiv b)))
 |.rem,.int k a,.int _ b=>C6w b l (A2e d k (a.tmod b))
 |.shl,.int k a,.int _ b=>C6z b l (A2e d k (B5j k (a*2^(min b.toNat (C0q k)))))
 |.shr,.int k a,.int _ b=>C6z b l (A2e d k (a.fdiv (2^(min b.toNat (C0q k)))))
 |.and,.int k a,.int _ b=>A2e d k (A2g k a b)
 |.or,.int k a,.int _ b=>A2e d k (bor k a b)
 |.xor,.int k a,.int _ b=>A2e d k (C99 k a b)
 |.andNot,.int k a,.int _ b=>A2e d k (C1z k a b)
 |.eql,.int _ a,.int _ b=>A5s d (a==b)
 |.neq,.int _ a,.int _ b=>A5s d (a != b)
 |.lss,.int _ a,.int _ b=>A5s d (decide (a<b))
 |.leq,.int _ a,.int _ b=>A5s d (decide (a<=b))
 |.gtr,.int _ a,.int _ b=>A5s d (decide (a>b))
 |.geq,.int _ a,.int _ b=>A5s d (decide (a>=b))
 |.add,.string a,.string b=>[.cd (((a.size+b.size:J):Z)<=9223372036854775807),.put d (.v (.string (a++b)))]
 |.eql,.string a,.string b=>A5s d (a.toList==b.toList)
 |.neq,.string a,.string b=>A5s d (!(a.toList==b.toList))
 |.eql,.slice a _ _,.slice _ _ _=>A5s d a.isNone
 |.neq,.slice a _ _,.slice _ _ _=>A5s d (!a.isNone)
 |.eql,.bool a,.bool b=>A5s d (a==b)
 |.neq,.bool a,.bool b=>A5s d (!(a==b))
 |.eql,.agg ⟨a⟩,.agg ⟨b⟩=>A5s d (B6t (A88 t) a b)
 |.neq,.agg ⟨a⟩,.agg ⟨b⟩=>A5s d (!B6t (A88 t) a b)
 |_,_,_=>[.ff]
def C3f(t:TD)(d:Option J):BinOp->SV->SV->Y It
 |.eql,.n _ a,.n _ b=>[.put d (.b (a.natAbs==b.natAbs))]
 |.neq,.n _ a,.n _ b=>[.put d (.b (!(a.natAbs==b.natAbs)))]
 |op,x,.n k b=>C07 true t d op (A3r x) (.int k b)
 |op,x,y=>C07 false t d op (A3r x) (A3r y)
def Mq(t:aF):J:=(On t).n
def A6s(y:J):Option Z->Y It
 |none=>[]
 |some i=>[.cd (0<=i/\i<=(y:Z))]
def Oo(y:J):Option Z->J
 |none=>y
 |some i=>i.toNat
def C3i(d:Option J):TD->aC->Option Z->Option Z->Option Z->Y It
 |.l e,.slice A _ c,some l,some h,some m=>[.cd (0<=m/\m<=(c:Z)),.cd (0<=h/\h<=(m.toNat:Z)),.cd (0<=l/\l<=(h.toNat:Z)),.put d (.v (.slice (X9 A m.toNat l.toNat (Mq e)) (h.toNat-l.toNat) (m.toNat-l.toNat)))]
 |.s,.string s,l,h,_=>A6s s.size h++(A6s (Oo s.size h) l++[.put d (.v (.string (s.extract (Oo 0 l) (Oo s.size h))))])
 |.l e,.slice A n c,l,h,_=>A6s c h++(A6s (Oo n h) l++[.put d (.v (.slice (X9 A c (Oo 0 l) (Mq e)) (Oo n h-Oo 0 l) (c-Oo 0 l)))])
 |.r n e,.pointer A,l,h,_=>A6s n h++(A6s (Oo n h) l++[.put d (.v (.slice (X9 A n (Oo 0 l) (Mq e)) (Oo n h-Oo 0 l) (n-Oo 0 l)))])
 |_,_,_,_,_=>[.ff]
def C40(n c:J)(d:Option J)(i:Z):SV->Y It
 |.own k off=>[.put d (.own k (off+i.natAbs*c))]
 |.v (.pointer (some a))=>[.cd (0<=i/\i<((n:J):Z)),.put d (.v (.pointer (some (a.add (i.toNat*c)))))]
 |_=>[.ff]
def C41(d:Option J)(i:Z):TD->SV->Y It
 |.l e,.v (.slice A n _)=>[.ix A n i (Mq e) d]
 |.r n e,x=>C40 n (Mq e) d i x
 |_,_=>[.ff]
def C44(i:Z)(d:Option J):TD->aC->Y It
 |.s,.string s=>[.iy s i d]
 |.r _ e,.agg ⟨cs⟩=>[.put d (B2e (On e).ag (i.natAbs*Mq e) (Mq e) cs)]
 |_,_=>[.ff]
def A9z(t:TD)(f:J):J×aF:=(A88 t).getD f (0,0)
def A87:J×aF->J
 | (a,_)=>a
def B2f:J×aF->aF
 | (_,b)=>b
def C49(o:J)(d:Option J):SV->Y It
 |.own k off=>[.put d (.own k (off+o))]
 |.v (.pointer (some a))=>[.put d (.v (.pointer (some (a.add o))))]
 |_=>[.ff]
def C4j(i:J):TD->J
 |.r _ e=>i*Mq e
 |t=>A87 (A9z t i)
def C0r(t:TD):Y aC->Y (J×aC)->Y aC
 |cs,[]=>cs
 |cs,(i,v)::r=>C0r t (C08 cs (C4j i t) (B2k v)) r
def C0k:TD->Bool
 |.l _=>true
 |_=>false
def B8i(d:Option J)(x:SV):TD->aC->Y It
 |.i k,.int _ n=>A2e d k (B5j k n)
 |_,_=>[.put d x]
def C4g(t s:aF)(tt:TD)(x:SV)(gr:Bool)(d:Option J):Bool->Y It
 |true=>[.efV (convert s t (A3r x)) t gr d]
 |false=>B8i d x tt (A3r x)
def B8g(d:Option J):TD->aC->Y It
 |_,.slice _ n _=>A2e d .i64 ((n:J):Z)
 |_,.string s=>A2e d .i64 ((s.size:J):Z)
 |.r n _,_=>A2e d .i64 ((n:J):Z)
 |_,_=>[.ff]
def B8j(d:Option J):aC->Y It
 |.slice _ _ c=>A2e d .i64 ((c:J):Z)
 |_=>[.ff]
def C3u:Bool->aC->aC->aC
 |true,.int k r,.int _ y=>.int k (if y>r then y else r)
 |false,.int k r,.int _ y=>.int k (if y<r then y else r)
 |_,r,_=>r
def C0e(m:Bool)(r:aC):Y aC->aC
 | []=>r
 |y::l=>C0e m (C3u m r y) l
def C0j:aC->IntKind
 |.int k _=>k
 |_=>.i64
def C0f(m:Bool)(d:Option J):Y aC->Y It
 |v::l=>[.put d (.v (C0e m v l))]
 |_=>[.ff]
def C8d(f:J):Bool->Bool
 |true=>false
 |false=>B2j B8h f false
def B8k(B5j:Y J)(sl:Bool)(vs:Y aC)(t:aF)(gr:Bool)(d:Option J):aC->Y It
 |.func (.func f) ⟨a⟩ ⟨b⟩=>[.call (C8d f sl) f (a++(vs++b)) t (gr && !sl && !B2j B5j f false) d]
 |.func (.yield l) _ _=>[.yc l vs t d]
 |_=>[.ff]
def C43:aJ->Bool
 |.tmp _=>true
 |_=>false
def C4i(x:GX)(e:En)(t:aF)(gr:Bool)(d:Option J):Callee->Y aJ->Array aF->Y It
 |.value f,us,_=>B8k x.wr (C43 f) (Vl e us) t gr d (A3t e f)
 |.builtin .append,us,ts=>[.efV (Builtin.append_ ts t (aE (Vl e us))) t (gr && !B2j x.wr 1000000000 false) d]
 |.builtin .copy,us,ts=>[.efV (Builtin.copy_ ts t (aE (Vl e us))) t false d]
 |.builtin .len,us,ts=>B8g d (On (ts.toList.headD 0)).d (A3s (Vl e us))
 |.builtin .cap,us,_=>B8j d (A3s (Vl e us))
 |.builtin .max,us,_=>C0f true d (Vl e us)
 |.builtin .min,us,_=>C0f false d (Vl e us)
 |_,_,_=>[.ff]
def C2j:Option J->J
 |some d=>d
 |none=>0
def B2h(d:Option J)(cs:Y aC)(s:Sem aC)(gr:Bool):Bool->Y It
 |true=>[.al d cs]
 |false=>[.efP s gr d]
def C3p(d:Option J)(a b:SV):SV->Y It
 |.b true=>[.put d a]
 |.b false=>[.put d b]
 |c=>[.br (C66 (A3r c)) [.put d a] [.put d b]]
def C3x(w:Ow)(d:Option J)(zs:Y aC)(ag:Bool)(n:J):SV->Y It
 |.own k off=>[.put d (B2e ag off n (B2i w k))]
 |.v (.pointer (some a))=>[.ex zs [],.ld a ag d]
 |_=>[.ff]
def C3t(d:Option J):SV->Y It
 |.v (.pointer p)=>[.nc p d]
 |y=>[.put d y]
def C3c(d:Option J):UnOp->SV->Y It
 |.not,.b b=>[.put d (.b (!b))]
 |.not,y=>A5s d (!C66 (A3r y))
 |.neg,y=>A2e d (C0j (A3r y)) (B5j (C0j (A3r y)) (0-C42 (A3r y)))
 |_,_=>[.ff]
def C4a(d:Option J)(i:J):aC->Y It
 |.tuple ⟨vs⟩=>[.put d (.v (vs.getD i undef))]
 |_=>[.ff]
def C3g(w:Ow)(t:aF)(z:aC):SV->Y It
 |.own k off=>[.st k (C08 (B2i w k) off (B2k z))]
 |y=>[.efU (Instr.storeAt t (A3r y) z)]
def C8f(x:GX)(e:En)(w:Ow)(gr:Bool)(t:aF)(d:Option J):Op->Y It
 |.move y=>[.put d (A3u e y)]
 |.assign y=>[.put d (A3u e y)]
 |.pick c a b=>C3p d (A3u e a) (A3u e b) (A3u e c)
 |.load t y=>C3x w d (On t).zs (On t).ag (Mq t) (A3u e y)
 |.fieldAddr s y f=>C49 (A87 (A9z (On s).d f)) d (A3u e y)
 |.nilCheck y=>C3t d (A3u e y)
 |.panic _=>[.ff]
 |.makeInterface _ _=>[.put d (.v undef)]
 |.indexAddr t y i=>C41 d (C42 (A3t e i)) (On t).d (A3u e y)
 |.index t y i=>C44 (C42 (A3t e i)) d (On t).d (A3t e y)
 |.slice t y l h m=>C3i d (On t).d (A3t e y) (B6o e l) (B6o e h) (B6o e m)
 |.binOp op t y z _=>C3f (On t).d d op (A3u e y) (A3u e z)
 |.unOp op _ y=>C3c d op (A3u e y)
 |.convert s t y=>C4g t s (On t).d (A3u e y) gr d (C0k (On s).d||C0k (On t).d)
 |.extract y i=>C4a d i (A3t e y)
 |.field s y f=>[.put d (B2e (On (B2f (A9z (On s).d f))).ag (A87 (A9z (On s).d f)) (Mq (B2f (A9z (On s).d f))) (B2k (A3t e y)))]
 |.build t ps=>[.put d (.v (.agg (aE (C0r (On t).d (On t).zs (B6s e ps.toList)))))]
 |.makeFunc f a b=>[.put d (.v (.func f (aE (Vl e a.toList)) (aE (Vl e b.toList))))]
 |.call c=>C4i x e t gr d c.callee c.args.toList c.argTypes
 |.alloc t=>B2h d (On t).zs (Instr.alloc t true (.tuple #[])) gr (B2j x.own (C2j d) false)
 |.box t y=>B2h d (B2k (A3t e y)) (Instr.box t (A3t e y)) gr (B2j x.own (C2j d) false)
 |.store t y z=>C3g w t (A3t e z) (A3u e y)
 |.makeSlice t l c=>[.efV (Instr.makeSlice t (A3t e l) (A3t e c)) t gr d]
 |.buildSlice t n ps=>[.efV (Instr.buildSlice t n (aE (B6s e ps.toList))) t gr d]
 |_=>[.ff]
def C0m(n:J):Bool->Y aC->aC
 |true,vs=>.agg (aE (vs.take n))
 |false,vs=>A3s vs
def C0n:Y aF->Y aC->Y aC
 | [],_=>[]
 |t::r,vs=>C0m (Mq t) (On t).ag vs::C0n r (vs.drop (Mq t))
def C06:Y aF->Y aC
 | []=>[]
 |t::r=>(On t).zs++C06 r
def C3j(zs:Y aC):TD->Y aC
 |.u ts=>C06 ts
 |_=>zs
def B2g(t:aF):Y aC:=C3j (On t).zs (On t).d
def C3k(t:aF)(vs:Y aC):TD->aC
 |.u ts=>.tuple (aE (C0n ts vs))
 |_=>C0m (Mq t) (On t).ag vs
def Lo(x:SV)(e:En):Option J->En
 |some d=>(d,x)::e
 |none=>e
def B6q:Y J->Y aC->En->En
 |s::r,v::vs,e=>(s,.v v)::B6q r vs e
 |_,_,e=>e
def B6p:Y (J×J)->Y aC->Ow->Ow
 | [],_,w=>w
 | (k,n)::r,vs,w=>(k,vs.take n)::B6p r (vs.drop n) w
def C0i(e:En):Y J->Y aC
 | []=>[]
 |s::r=>A3r (A9y e s)::C0i e r
def C0h(w:Ow):Y (J×J)->Y aC
 | []=>[]
 | (k,_)::r=>B2i w k++C0h w r
def C3z(ann:Ann)(e:En)(w:Ow):Y aC:=C0i e ann.slots++C0h w ann.owns
def C63(id:J):Y It->Bool->Y It
 |l,true=>l
 | [],false=>[]
 |.blk j::r,false=>C63 id r (j==id)
 |_::r,false=>C63 id r false
def C6r(rs:Y ResultVar):Y It->Y It
 | []=>[.re rs []]
 |.rn _ JR::_=>[.rt JR]
 |_::r=>C6r rs r
def C3s(k:J)(e:En):SV->En
 |.own _ _=>e
 |x=>(k,x)::e
def B6m:En->En
 | []=>[]
 | (k,x)::r=>C3s k (B6m r) x
def C45:Y aH->Y aH
 |o::_=>[o]
 | []=>[]
def A6r(l:Y aH):Y J->Y aH
 | []=>[]
 |i::r=>C45 (l.drop i)++A6r l r
def B6r(o:aH)(gr:Bool):Bool->Bool->Y It
 |true,true=>[.o [] [o] gr]
 |false,false=>[.o [] [o] gr]
 |_,_=>[.put o.dst (.v undef)]
def C0a:Y aH->J
 |o::_=>C2j o.dst
 | []=>0
def C0c:Y J->Y aC->En->En
 |s::r,v::vs,e=>C0c r vs ((s,.v v)::e)
 |_,_,e=>e
def C0b(n:J):Y aH->Y J
 | []=>[]
 |_::r=>n::C0b (n+1) r
def C3r(ops:Y aH):Option (Y J×Y (Y J))->Y J
 |some (l,_)=>l
 |none=>C0b 0 ops
def C46:Op->Bool
 |.store _ _ _=>false
 |_=>true
def C48(gs:J)(want:Bool)(o:aH)(gr:Bool):SV->Y It
 |.b b=>B6r o gr b want
 |.v (.bool t)=>[.gd t gs want o gr]
 |_=>[.put o.dst (.v undef)]
def C3q(x:GX)(e:En)(w:Ow)(ops:Y aH)(gr:Bool):aH->Y It
 |⟨d,op,t,_,_,none⟩=>C8f x e w (gr&&C46 op) t d op
 |⟨d,op,t,p,a,some (j,want)⟩=>C48 (C0a (ops.drop j)) want ⟨d,op,t,p,a,none⟩ gr (A9y e (C0a (ops.drop j)))
def C3m(ops:Y aH)(o:Option (Y J×Y (Y J))):Option (Y (J×Y J))->Y It
 |none=>match o with
  |none=>[.o ops ops true]
  |some (l,_)=>[.o ops (A6r ops l) true]
 |some al=>[.a ops (C0p [] ops) al (C3r ops o)]
def C3l(fa:FnAnn)(id:J)(ops:Y aH):Bool->Y It
 |false=>[.o ops ops false]
 |true=>C3m ops (C2i fa.orders id false none) (C2i fa.alts id false none)
def C4e(fa:FnAnn)(id:J)(ops:Y aH)(dr:Bool):Option (Y aC)->Y It
 |none=>C3l fa id ops dr
 |some _=>[.ff]
def C3h(a b:aI):Option Ann->Y It
 |none=>[.c a,.c b]
 |some ann=>[.cu ann a b]
def C4h(a b:aI):SV->Y It
 |.b true=>[.c a]
 |.b false=>[.c b]
 |c=>[.br (C66 (A3r c)) [.c a] [.c b]]
def C3w(b:aI):Option Ann->Y It
 |none=>[.ff]
 |some ann=>[.lp ann b]
def C3n(g:aC)(ps:Y J)(asg body:aI):Option (Y aC)->Option (Y aC)->Y It
 |some zs,none=>[.rf false g zs ps asg body]
 |some zs,some _=>[.rf true g zs ps asg body]
 |_,_=>[.ff]
def C8h(x:GX)(e:En):aI->Y It
 |.skip=>[]
 |.region id ops dr=>C4e x.fa id ops.toList dr (C2h x.fa.rounds (C6s 2000000 (some id)))
 |.seq a b=>C3h a b (C2h x.fa.cuts (B19 b))
 |.cond c a b=>C4h a b (A3u e c)
 |.block id b=>[.c b,.blk id]
 |.loop b=>C3w b (C2h x.fa.loops (B19 b))
 |.rangeFunc g ps asg body=>C3n (A3t e g) ps.toList asg body (C2h x.fa.rounds (B19 body)) (C2h x.fa.rounds (C6s 1000000 (B19 body)))
 |.scope b=>[.c b]
 |.label _=>[]
 |_=>[.ff]
def C3o(rs:Y ResultVar)(w:Ow)(vs:Y aC)(ag:Bool)(n:J)(zs:Y aC):SV->Y It
 |.own k off=>[.re rs (vs++[A3r (B2e ag off n (B2i w k))])]
 |.v (.pointer (some p))=>[.ex zs [],.rc rs vs p ag]
 |_=>[.ff]
def Y5:J->GX->Y It->En->Ow->Heap->Prop
 |0,_,_,_,_,_=>True
 |n+1,x,[],e,w,h=>Y5 n x [.re x.rs []] e w h
 |n+1,x,.c (.exit id)::it,e,w,h=>Y5 n x (C63 id it false) e w h
 |n+1,x,.c .ret::it,e,w,h=>Y5 n x (C6r x.rs it) e w h
 |n+1,x,.c c::it,e,w,h=>Y5 n x (C8h x e c++it) e w h
 |n+1,x,.cu ann a b::it,e,w,h=>∃jq9:LP,Y5 n x (.c a :: .ct ann jq9::it) e w h/\Y5 n x (.fa ann.zs [] :: .ch ann jq9 b::it) e w h
 |n+1,x,.lp ann b::it,e,w,h=>∃(Inv:LP) (mu:Y aC->Heap->J),Inv (C3z ann e w) h/\Y5 n x (.fa ann.zs [] :: .lh ann Inv mu b::it) e w h
 |n+1,x,.rf false g zs ps asg body::it,e,w,h=>A9d prog g h (fun args h1 jq9=>Y5 n x [.ex zs [],.rd args ps asg body jq9 none] (B6m e) [] h1) (fun h2=>Y5 n x it e w h2)
 |n+1,x,.rf true g zs ps asg body::it,e,w,h=>A9c prog g h (fun args h1 jq9 JR=>Y5 n x [.ex zs [],.rd args ps asg body jq9 (some JR)] (B6m e) [] h1) (fun h2=>Y5 n x it e w h2) (fun h2=>Y5 n x (.c .ret::it) e w h2)
 |n+1,x,.o _ [] _::it,e,w,h=>Y5 n x it e w h
 |n+1,x,.o ops (o::l) gr::it,e,w,h=>Y5 n x (C3q x e w ops gr o ++ .o ops l gr::it) e w h
 |n+1,x,.a _ _ _ []::it,e,w,h=>Y5 n x it e w h
 |n+1,x,.a ops anc al (j::L)::it,e,w,h=>Y5 n x (.an ops anc al j L (C0s j anc L (C8e (C2i al j false none)))::it) e w h
 |n+1,x,.an ops anc al j L []::it,e,w,h=>Y5 n x (.o ops (A6r ops [j]) true :: .a ops anc al L::it) e w h
 |n+1,x,.an ops anc al j L (i::r)::it,e,w,h=>Y5 n x (.o ops (A6r ops [j]) true :: .a ops anc al L::it) e w h/\Y5 n x (.ar ops anc al j L i r::it) e w h
 |n+1,x,.ar ops anc al j L i []::it,e,w,h=>Y5 n x (.o ops (A6r ops [i]) true :: .a ops anc al (j::C65 i L)::it) e w h
 |n+1,x,.ar ops anc al j L i (k::r)::it,e,w,h=>Y5 n x (.o ops (A6r ops [i]) true :: .a ops anc al (j::C65 i L)::it) e w h/\Y5 n x (.ar ops anc al j L k r::it) e w h
 |n+1,x,.gd t gs want o gr::it,e,w,h=>Br t (Y5 n x (B6r o gr true want++it) ((gs,.b true)::e) w h) (Y5 n x (B6r o gr false want++it) ((gs,.b false)::e) w h)
 |n+1,x,.blk _::it,e,w,h=>Y5 n x it e w h
 |n+1,x,.put d y::it,e,w,h=>Y5 n x it (Lo y e d) w h
 |n+1,x,.br t A B::it,e,w,h=>Br t (Y5 n x (A++it) e w h) (Y5 n x (B++it) e w h)
 |_+1,_,.ff::_,_,_,_=>False
 |n+1,x,.nc p d::it,e,w,h=>∃a,p=some a/\Y5 n x it (Lo (.v (.pointer (some a))) e d) w h
 |n+1,x,.ix A m i c d::it,e,w,h=>∃a,A=some a/\0<=i/\i<(m:Z)/\Y5 n x it (Lo (.v (.pointer (some (a.add (i.toNat*c))))) e d) w h
 |n+1,x,.iy s i d::it,e,w,h=>∃c:UInt8,(0<=i/\s[i.toNat]? = some c)/\Y5 n x it (Lo (.v (.int .u8 c.toNat)) e d) w h
 |n+1,x,.cd p::it,e,w,h=>p/\Y5 n x it e w h
 |n+1,x,.al d cs::it,e,w,h=>Y5 n x it (Lo (.own (C2j d) 0) e d) ((C2j d,cs)::w) h
 |n+1,x,.st k cs::it,e,w,h=>Y5 n x it e ((k,cs)::w) h
 |n+1,x,.ex (.int k _::zs) acc::it,e,w,h=>∃i:Z,Y5 n x (.ex zs (acc++[.int k i])::it) e w h
 |n+1,x,.ex (.bool _::zs) acc::it,e,w,h=>∃b:Bool,Y5 n x (.ex zs (acc++[.bool b])::it) e w h
 |n+1,x,.ex (.string _::zs) acc::it,e,w,h=>∃s:ByteArray,Y5 n x (.ex zs (acc++[.string s])::it) e w h
 |n+1,x,.ex (.slice _ _ _::zs) acc::it,e,w,h=>∃(A:Option Addr) (m c:J),Y5 n x (.ex zs (acc++[.slice A m c])::it) e w h
 |n+1,x,.ex (.pointer _::zs) acc::it,e,w,h=>∃p:Option Addr,Y5 n x (.ex zs (acc++[.pointer p])::it) e w h
 |n+1,x,.ex (_::zs) acc::it,e,w,h=>∃v:aC,Y5 n x (.ex zs (acc++[v])::it) e w h
 |n+1,x,.fa (.int k _::zs) acc::it,e,w,h=>∀i:Z,Y5 n x (.fa zs (acc++[.int k i])::it) e w h
 |n+1,x,.fa (.bool _::zs) acc::it,e,w,h=>∀b:Bool,Y5 n x (.fa zs (acc++[.bool b])::it) e w h
 |n+1,x,.fa (.string _::zs) acc::it,e,w,h=>∀s:ByteArray,Y5 n x (.fa zs (acc++[.string s])::it) e w h
 |n+1,x,.fa (.slice _ _ _::zs) acc::it,e,w,h=>∀(A:Option Addr) (m c:J),Y5 n x (.fa zs (acc++[.slice A m c])::it) e w h
 |n+1,x,.fa (.pointer _::zs) acc::it,e,w,h=>∀p:Option Addr,Y5 n x (.fa zs (acc++[.pointer p])::it) e w h
 |n+1,x,.fa (_::zs) acc::it,e,w,h=>∀v:aC,Y5 n x (.fa zs (acc++[v])::it) e w h
 |n+1,x,.fa [] vs :: .lh ann Inv mu b::it,e,w,_=>∀h,Inv vs h->Y5 n x (.c b :: .le ann Inv mu vs h::it) (B6q ann.slots vs e) (B6p ann.owns (vs.drop ann.slots.length) w) h
 |n+1,x,.fa [] vs :: .ch ann jq9 b::it,e,w,_=>∀h,jq9 vs h->Y5 n x (.c b::it) (B6q ann.slots vs e) (B6p ann.owns (vs.drop ann.slots.length) w) h
 |_+1,_,.le ann Inv mu vs h0::_,e,w,h=>Inv (C3z ann e w) h/\mu (C3z ann e w) h<mu vs h0
 |_+1,_,.ct ann jq9::_,e,w,h=>jq9 (C3z ann e w) h
 |n+1,x,.ex [] vs :: .ld a true d::it,e,w,h=>cellsAt h a 0 vs (Y5 n x it (Lo (.v (.agg (aE vs))) e d) w h)
 |n+1,x,.ex [] vs :: .ld a false d::it,e,w,h=>h.cell? a=some (A3s vs)/\Y5 n x it (Lo (.v (A3s vs)) e d) w h
 |n+1,x,.ex [] vs :: .rs r h0 gr t d::it,e,w,h=>Y5 n x (.rs1 r h0 gr (C3k t vs (On t).d) d::it) e w h
 |n+1,x,.rs1 r h0 gr v d::it,e,w,h=>r=v/\Grow gr h0 h (Y5 n x it (Lo (.v v) e d) w h)
 |n+1,x,.ex [] vs :: .rd args ps asg body jq9 JR::_,e,w,h=>args=vs/\Y5 n x [.c asg,.c body,.rn jq9 JR] (C0c ps vs e) w h
 |n+1,x,.ex [] vs :: .rc rs us a true::it,e,w,h=>cellsAt h a 0 vs (Y5 n x (.re rs (us++[.agg (aE vs)])::it) e w h)
 |n+1,x,.ex [] vs :: .rc rs us a false::it,e,w,h=>h.cell? a=some (A3s vs)/\Y5 n x (.re rs (us++vs)::it) e w h
 |_+1,_,.rn jq9 _::_,_,_,h=>jq9 h
 |_+1,_,.rt (some jq9)::_,_,_,h=>jq9 h
 |_+1,_,.rt none::_,_,_,_=>False
 |n+1,x,.efV s t gr d::it,e,w,h=>wpH prog s (fun v h'=>Y5 n x (.ex (B2g t) [] :: .rs v h gr t d::it) e w h') h
 |n+1,x,.efP s gr d::it,e,w,h=>wpH prog s (fun v h'=>∃a:Addr,v= .pointer (some a)/\Grow gr h h' (Y5 n x it (Lo (.v (.pointer (some a))) e d) w h')) h
 |n+1,x,.efU s::it,e,w,h=>wpH prog s (fun _ h'=>Y5 n x it e w h') h
 |n+1,x,.call false f us t gr d::it,e,w,h=>FCall prog f (aE us) h fun r h'=>Y5 n x (.ex (B2g t) [] :: .rs r h gr t d::it) e w h'
 |n+1,x,.call true f us t gr d::it,e,w,h=>ECall prog f (aE us) h fun r h'=>Y5 n x (.ex (B2g t) [] :: .rs r h gr t d::it) e w h'
 |n+1,x,.yc l us t d::it,e,w,h=>YCall prog l (aE us) h fun r h'=>Y5 n x (.ex (B2g t) [] :: .rs r h false t d::it) e w h'
 |_+1,x,.re [] vs::_,_,_,h=>x.K (Qq vs) h
 |n+1,x,.re (.tmp t::rs) vs::it,e,w,h=>Y5 n x (.re rs (vs++[A3r (A9y e t)])::it) e w h
 |n+1,x,.re (.cell a t::rs) vs::it,e,w,h=>Y5 n x (C3o rs w vs (On t).ag (Mq t) (On t).zs (A9y e a)++it) e w h
 |_+1,_,_,_,_,_=>False
def Gen(_ _:Prop):Prop:=True
def C8w{a:Prop}:Gen a a:=trivial
