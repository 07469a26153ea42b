/- A part. -/
import Derived.Test.YtdphgbjaijlckaaGreatDoorG08
import Derived.Test.YtdphgbjaijlckaaGreatDoorG09
open Go.Proofs.Tryz
set_option linter.all false
open List renaming toArray->aD
open _root_.Go renaming Value->aC,TypeId->aE,Oper->aF,Code->aG,Operand->aH
namespace Go.Proofs.YtdphgbjaijlckaaGreatDoor
open Go
inductive SV where
 | v (v:aC)
 | b (b:Bool)
 | n (k:IntKind) (n:Int)
 | own (k off:Nat)
abbrev En:=List (Nat × SV)
abbrev Ow:=List (Nat × List aC)
structure GX where
 fa:FnAnn
 rs:List ResultVar
 own:List Nat
 wr:List Nat
 K:VP
inductive It where
 | c (c:aG)
 | o (ops l:List aF) (gr:Bool)
 | a (ops:List aF) (anc:List (List Nat)) (al:List (Nat × List Nat)) (l:List Nat)
 | an (ops:List aF) (anc:List (List Nat)) (al:List (Nat × List Nat)) (j:Nat) (L r:List Nat)
 | ar (ops:List aF) (anc:List (List Nat)) (al:List (Nat × List Nat)) (j:Nat) (L:List Nat) (i:Nat) (r:List Nat)
 | gd (t:Bool) (gs:Nat) (want:Bool) (o:aF) (gr:Bool)
 | blk (id:Nat)
 | put (d:Option Nat) (x:SV)
 | br (t:Bool) (A B:List It)
 | ff
 | nc (p:Option Addr) (d:Option Nat)
 | ix (A:Option Addr) (n:Nat) (i:Int) (c:Nat) (d:Option Nat)
 | iy (s:ByteArray) (i:Int) (d:Option Nat)
 | cd (p:Prop)
 | al (d:Option Nat) (cs:List aC)
 | st (k:Nat) (cs:List aC)
 | ex (zs acc:List aC)
 | fa (zs acc:List aC)
 | ld (a:Addr) (ag:Bool) (d:Option Nat)
 | efV (s:Sem aC) (t:aE) (gr:Bool) (d:Option Nat)
 | efP (s:Sem aC) (gr:Bool) (d:Option Nat)
 | efU (s:Sem Unit)
 | call (e:Bool) (f:Nat) (args:List aC) (t:aE) (gr:Bool) (d:Option Nat)
 | yc (l:Nat) (args:List aC) (t:aE) (d:Option Nat)
 | rs (r:aC) (h:Heap) (gr:Bool) (t:aE) (d:Option Nat)
 | rs1 (r:aC) (h:Heap) (gr:Bool) (v:aC) (d:Option Nat)
 | lp (ann:Ann) (b:aG)
 | lh (ann:Ann) (Inv:LP) (mu:LN) (b:aG)
 | le (ann:Ann) (Inv:LP) (mu:LN) (vs:List aC) (h:Heap)
 | cu (ann:Ann) (a b:aG)
 | ct (ann:Ann) (J:LP)
 | ch (ann:Ann) (J:LP) (b:aG)
 | rf (lv:Bool) (g:aC) (zs:List aC) (ps:List Nat) (asg body:aG)
 | rd (args:List aC) (ps:List Nat) (asg body:aG) (J:Heap->Prop) (JR:Option (Heap->Prop))
 | rn (J:Heap->Prop) (JR:Option (Heap->Prop))
 | rt (JR:Option (Heap->Prop))
 | re (r:List ResultVar) (vs:List aC)
 | rc (r:List ResultVar) (vs:List aC) (a:Addr) (ag:Bool)
def A5v{α:Type}:List (Nat × α)->Nat->Bool->α->α
 | _,_,true,v=>v
 | [],_,false,v=>v
 | (k,v)::r,d,false,_=>A5v r d (k==d) v
def Xp{α:Type}(z:α):List (Nat × α)->Nat->Bool->α->α
 | _,_,true,v=>v
 | [],_,false,_=>z
 | (k,v)::r,d,false,_=>Xp z r d (k==d) v
def Ug:List Nat->Nat->Bool->Bool
 | _,_,true=>true
 | [],_,false=>false
 | k::r,d,false=>Ug r d (k==d)
def A1y{α:Type}:List (Nat × α)->Nat->Bool->Option α->Option α
 | _,_,true,v=>v
 | [],_,false,_=>none
 | (k,v)::r,d,false,_=>A1y r d (k==d) (some v)
def A38{α:Type}(l:List (Nat × α)):Option Nat->Option α
 | some i=>A1y l i false none
 | none=>none
def A3c(x:Nat):Bool->List Nat->List Nat->List Nat
 | true,r,_=>r
 | false,_,s=>x::s
def A48(i:Nat):List Nat->List Nat
 | []=>[]
 | x::L=>A3c x (x==i) L (A48 i L)
def A2b(x:Nat):Bool->List Nat->List Nat
 | true,_=>[]
 | false,s=>x::s
def A4j(i:Nat):List Nat->List Nat
 | []=>[]
 | x::L=>A2b x (x==i) (A4j i L)
def A0m(a:List Nat):List Nat->Bool
 | []=>true
 | x::r=> !Ug a x false&&A0m a r
def A2w(i:Nat):Bool->List Nat->List Nat
 | true,s=>i::s
 | false,s=>s
def A12(j:Nat)(anc:List (List Nat))(L:List Nat):List Nat->List Nat
 | []=>[]
 | i::r=>A2w i (Ug L i false && !Ug (anc.getD i []) j false&&A0m (anc.getD i []) (A4j i L)) (A12 j anc L r)
def A5t:Option (List Nat)->List Nat
 | none=>[]
 | some l=>l
def A2t(x:Nat):Bool->List Nat->List Nat
 | true,l=>l
 | false,l=>x::l
def A0p(l:List Nat):List Nat->List Nat
 | []=>l
 | x::r=>A0p (A2t x (Ug l x false) l) r
def A35:Ground->Bool
 | .textOnly _=>false
 | .gcOnly _=>false
 | _=>true
def A3b(acc:List (List Nat))(l:List Nat)(j:Nat):Bool->List Nat
 | true=>A0p l (j::acc.getD j [])
 | false=>l
def A0x(acc:List (List Nat))(l:List Nat):List Edge->List Nat
 | []=>l
 | ⟨j,g⟩::r=>A0x acc (A3b acc l j (A35 g)) r
def A0y(acc:List (List Nat)):List aF->List (List Nat)
 | []=>acc
 | o::r=>A0y (acc++[A0x acc [] o.after.toList]) r
def A4s:Option Nat->Option Nat->Option Nat
 | some i,_=>some i
 | none,x=>x
def Su:aG->Option Nat
 | .region id _ _=>some id
 | .seq a b=>A4s (Su a) (Su b)
 | .block _ b=>Su b
 | .loop b=>Su b
 | .scope b=>Su b
 | .cond _ a b=>A4s (Su a) (Su b)
 | _=>none
abbrev La:=Nat × List Nat × List (Nat × Nat) × List aC
def A20:List La->List (Nat × Ann)
 | []=>[]
 | (i,s,o,z)::r=>(i,⟨s,o,z,⟨[],[]⟩⟩)::A20 r
def A47:List (Nat × List Nat)->List (Nat × List Nat × List (List Nat))
 | []=>[]
 | (i,l)::r=>(i,l,[])::A47 r
def wrt:aG->List aF
 | .region _ ops _=>ops.toList
 | .seq a b | .cond _ a b | .rangeFunc _ _ a b=>wrt a++wrt b
 | .block _ b | .loop b | .scope b=>wrt b
 | _=>[]
def A64(own:List Nat)(o:aF):Option Nat:=match o.op,o.dst with
 | .alloc _,some d | .box _ _,some d=>bif has own d then some d else none
 | _,_=>none
def A3o(own:List Nat)(a:Ann)(ops:List aF):Ann:={ a with lim:=⟨ops.filterMap (·.dst),a.owns.map (·.1)++ops.filterMap (A64 own)⟩ }
def Np(i:Nat):aG->List aF
 | .loop b=>bif F4 b==some i then wrt b else Np i b
 | .seq a b | .cond _ a b | .rangeFunc _ _ a b=>Np i a++Np i b
 | .block _ b | .scope b=>Np i b
 | _=>[]
def Jj(i:Nat):aG->List aF
 | .seq a b=>bif F4 b==some i then wrt a else Jj i a++Jj i b
 | .cond _ a b | .rangeFunc _ _ a b=>Jj i a++Jj i b
 | .block _ b | .loop b | .scope b=>Jj i b
 | _=>[]
def A04(own:List Nat)(c:aG)(fa:FnAnn):FnAnn:={ fa with loops:=fa.loops.map fun x=>(x.1,A3o own x.2 (Np x.1 c)),cuts:=fa.cuts.map fun x=>(x.1,A3o own x.2 (Jj x.1 c)) }
def A5s(n:Nat):Option Nat->Option Nat
 | some i=>some (i+n)
 | none=>none
def A3d:aC->SV
 | .bool b=>.b b
 | .int k n=>.n k n
 | v=>.v v
def Ro(e:En)(t:Nat):SV:=Xp (.v undef) e t false (.v undef)
def Uf(w:Ow)(k:Nat):List aC:=Xp [] w k false []
def Mq(e:En):aH->SV
 | .tmp t=>Ro e t
 | .const v=>A3d v
 | .global g=>.v (.pointer (some ⟨g,0,none⟩))
 | .func f=>.v (.func (.func f) #[] #[])
def Ml:SV->aC
 | .v v=>v
 | .b b=>.bool b
 | .n k n=>.int k n
 | .own _ _=>undef
def Mo(e:En)(x:aH):aC:=Ml (Mq e x)
def Hg(e:En):List aH->List aC
 | []=>[]
 | x::r=>Mo e x::Hg e r
def Xu(e:En):List (Nat × aH)->List (Nat × aC)
 | []=>[]
 | (i,x)::r=>(i,Mo e x)::Xu e r
def A49:aC->Bool
 | .bool b=>b
 | _=>false
def A30:aC->Int
 | .int _ n=>n
 | _=>0
def Xq(e:En):Option aH->Option Int
 | none=>none
 | some x=>some (A30 (Mo e x))
def Uh:aC->List aC
 | .agg ⟨l⟩=>l
 | v=>[v]
def Mm:List aC->aC
 | v::_=>v
 | []=>undef
def Zj(n:Nat):Bool->List aC->SV
 | true,cs=>.v (.agg (aD (cs.take n)))
 | false,cs=>.v (Mm cs)
def Ub(ag:Bool)(off n:Nat)(cs:List aC):SV:=Zj n ag (cs.drop off)
def A0h(cs:List aC)(off:Nat)(vs:List aC):List aC:=cs.take off++vs++cs.drop (off+vs.length)
def Wv:IntKind->Int->Int
 | .i64,n=>B6 n
 | .i32,n=>A5z n
 | .u64,n=>B9 n
 | .u32,n=>F0 n
 | .u8,n=>wu8 n
 | k,n=>k.wrap n
def A0z:IntKind->Nat
 | .i8 | .u8=>8
 | .i16 | .u16=>16
 | .i32 | .u32=>32
 | .i64 | .u64=>64
def Li(d:Option Nat)(k:IntKind)(n:Int):List It:=[.put d (.v (.int k n))]
def Od(d:Option Nat)(b:Bool):List It:=[.put d (.v (.bool b))]
def A3a:List aC->List aC->Bool->Bool
 | .string a::_,.string b::_,r=>(a.toList==b.toList)&&r
 | _,_,_=>false
def Xv:List (Nat × aE)->List aC->List aC->Bool
 | [],_,_=>true
 | (o,_)::r,xs,ys=>A3a (xs.drop o) (ys.drop o) (Xv r xs ys)
def Ql:TD->List (Nat × aE)
 | .t fs=>fs
 | _=>[]
def A4t(b:Int)(lit:Bool)(A:List It):List It:=match lit with
 | true=>A
 | false=>[.br (decide (b=0)) [.ff] A]
def A4w(b:Int)(lit:Bool)(A:List It):List It:=match lit with
 | true=>A
 | false=>[.br (decide (b<0)) [.ff] A]
def A0g(l:Bool)(t:TD)(d:Option Nat):BinOp->aC->aC->List It
 | .add,.int k a,.int _ b=>Li d k (Wv k (a+b))
 | .sub,.int k a,.int _ b=>Li d k (Wv k (a-b))
 | .mul,.int k a,.int _ b=>Li d k (Wv k (a*b))
 | .quo,.int k a,.int _ b=>A4t b l (Li d k (Wv k (a.tdiv b)))
 | .rem,.int k a,.int _ b=>A4t b l (Li d k (a.tmod b))
 | .shl,.int k a,.int _ b=>A4w b l (Li d k (Wv k (a*2^(min b.toNat (A0z k)))))
 | .shr,.int k a,.int _ b=>A4w b l (Li d k (a.fdiv (2^(min b.toNat (A0z k)))))
 | .and,.int k a,.int _ b=>Li d k (Lj k a b)
 | .or,.int k a,.int _ b=>Li d k (bor k a b)
 | .xor,.int k a,.int _ b=>Li d k (A66 k a b)
 | .andNot,.int k a,.int _ b=>Li d k (A1n k a b)
 | .eql,.int _ a,.int _ b=>Od d (a==b)
 | .neq,.int _ a,.int _ b=>Od d (a != b)
 | .lss,.int _ a,.int _ b=>Od d (decide (a<b))
 | .leq,.int _ a,.int _ b=>Od d (decide (a<=b))
 | .gtr,.int _ a,.int _ b=>Od d (decide (a>b))
 | .geq,.int _ a,.int _ b=>Od d (decide (a>=b))
 | .add,.string a,.string b=>[.cd (((a.size+b.size:Nat):Int)<=9223372036854775807),.put d (.v (.string (a++b)))]
 | .eql,.string a,.string b=>Od d (a.toList==b.toList)
 | .neq,.string a,.string b=>Od d (!(a.toList==b.toList))
 | .eql,.slice a _ _,.slice _ _ _=>Od d a.isNone
 | .neq,.slice a _ _,.slice _ _ _=>Od d (!a.isNone)
 | .eql,.bool a,.bool b=>Od d (a==b)
 | .neq,.bool a,.bool b=>Od d (!(a==b))
 | .eql,.agg ⟨a⟩,.agg ⟨b⟩=>Od d (Xv (Ql t) a b)
 | .neq,.agg ⟨a⟩,.agg ⟨b⟩=>Od d (!Xv (Ql t) a b)
 | _,_,_=>[.ff]
def A2d(t:TD)(d:Option Nat):BinOp->SV->SV->List It
 | .eql,.n _ a,.n _ b=>[.put d (.b (a.natAbs==b.natAbs))]
 | .neq,.n _ a,.n _ b=>[.put d (.b (!(a.natAbs==b.natAbs)))]
 | op,x,.n k b=>A0g true t d op (Ml x) (.int k b)
 | op,x,y=>A0g false t d op (Ml x) (Ml y)
def Cn(t:aE):Nat:=(Dn t).n
def Oy(y:Nat):Option Int->List It
 | none=>[]
 | some i=>[.cd (0<=i/\i<=(y:Int))]
def Do(y:Nat):Option Int->Nat
 | none=>y
 | some i=>i.toNat
def A2g(d:Option Nat):TD->aC->Option Int->Option Int->Option Int->List It
 | .l e,.slice A _ c,some l,some h,some m=>[.cd (0<=m/\m<=(c:Int)),.cd (0<=h/\h<=(m.toNat:Int)),.cd (0<=l/\l<=(h.toNat:Int)),.put d (.v (.slice (Q7 A m.toNat l.toNat (Cn e)) (h.toNat-l.toNat) (m.toNat-l.toNat)))]
 | .s,.string s,l,h,_=>Oy s.size h++(Oy (Do s.size h) l++[.put d (.v (.string (s.extract (Do 0 l) (Do s.size h))))])
 | .l e,.slice A n c,l,h,_=>Oy c h++(Oy (Do n h) l++[.put d (.v (.slice (Q7 A c (Do 0 l) (Cn e)) (Do n h-Do 0 l) (c-Do 0 l)))])
 | .r n e,.pointer A,l,h,_=>Oy n h++(Oy (Do n h) l++[.put d (.v (.slice (Q7 A n (Do 0 l) (Cn e)) (Do n h-Do 0 l) (n-Do 0 l)))])
 | _,_,_,_,_=>[.ff]
def A2y(n c:Nat)(d:Option Nat)(i:Int):SV->List It
 | .own k off=>[.put d (.own k (off+i.natAbs*c))]
 | .v (.pointer (some a))=>[.cd (0<=i/\i<((n:Nat):Int)),.put d (.v (.pointer (some (a.add (i.toNat*c)))))]
 | _=>[.ff]
def A2z(d:Option Nat)(i:Int):TD->SV->List It
 | .l e,.v (.slice A n _)=>[.ix A n i (Cn e) d]
 | .r n e,x=>A2y n (Cn e) d i x
 | _,_=>[.ff]
def A32(i:Int)(d:Option Nat):TD->aC->List It
 | .s,.string s=>[.iy s i d]
 | .r _ e,.agg ⟨cs⟩=>[.put d (Ub (Dn e).ag (i.natAbs*Cn e) (Cn e) cs)]
 | _,_=>[.ff]
def Rp(t:TD)(f:Nat):Nat × aE:=(Ql t).getD f (0,0)
def Qk:Nat × aE->Nat
 | (a,_)=>a
def Uc:Nat × aE->aE
 | (_,b)=>b
def A37(o:Nat)(d:Option Nat):SV->List It
 | .own k off=>[.put d (.own k (off+o))]
 | .v (.pointer (some a))=>[.put d (.v (.pointer (some (a.add o))))]
 | _=>[.ff]
def A3h(i:Nat):TD->Nat
 | .r _ e=>i*Cn e
 | t=>Qk (Rp t i)
def A11(t:TD):List aC->List (Nat × aC)->List aC
 | cs,[]=>cs
 | cs,(i,v)::r=>A11 t (A0h cs (A3h i t) (Uh v)) r
def A0t:TD->Bool
 | .l _=>true
 | _=>false
def Zm(d:Option Nat)(x:SV):TD->aC->List It
 | .i k,.int _ n=>Li d k (Wv k n)
 | _,_=>[.put d x]
def A3e(t s:aE)(tt:TD)(x:SV)(gr:Bool)(d:Option Nat):Bool->List It
 | true=>[.efV (convert s t (Ml x)) t gr d]
 | false=>Zm d x tt (Ml x)
def Zk(d:Option Nat):TD->aC->List It
 | _,.slice _ n _=>Li d .i64 ((n:Nat):Int)
 | _,.string s=>Li d .i64 ((s.size:Nat):Int)
 | .r n _,_=>Li d .i64 ((n:Nat):Int)
 | _,_=>[.ff]
def Zn(d:Option Nat):aC->List It
 | .slice _ _ c=>Li d .i64 ((c:Nat):Int)
 | _=>[.ff]
def A2s:Bool->aC->aC->aC
 | true,.int k r,.int _ y=>.int k (if y>r then y else r)
 | false,.int k r,.int _ y=>.int k (if y<r then y else r)
 | _,r,_=>r
def A0n(m:Bool)(r:aC):List aC->aC
 | []=>r
 | y::l=>A0n m (A2s m r y) l
def A0s:aC->IntKind
 | .int k _=>k
 | _=>.i64
def A0o(m:Bool)(d:Option Nat):List aC->List It
 | v::l=>[.put d (.v (A0n m v l))]
 | _=>[.ff]
def A5r(f:Nat):Bool->Bool
 | true=>false
 | false=>Ug Zl f false
def Zo(Wv:List Nat)(sl:Bool)(vs:List aC)(t:aE)(gr:Bool)(d:Option Nat):aC->List It
 | .func (.func f) ⟨a⟩ ⟨b⟩=>[.call (A5r f sl) f (a++(vs++b)) t (gr && !sl && !Ug Wv f false) d]
 | .func (.yield l) _ _=>[.yc l vs t d]
 | _=>[.ff]
def A31:aH->Bool
 | .tmp _=>true
 | _=>false
def A3g(x:GX)(e:En)(t:aE)(gr:Bool)(d:Option Nat):Callee->List aH->Array aE->List It
 | .value f,us,_=>Zo x.wr (A31 f) (Hg e us) t gr d (Mo e f)
 | .builtin .append,us,ts=>[.efV (Builtin.append_ ts t (aD (Hg e us))) t (gr && !Ug x.wr 1000000000 false) d]
 | .builtin .copy,us,ts=>[.efV (Builtin.copy_ ts t (aD (Hg e us))) t false d]
 | .builtin .len,us,ts=>Zk d (Dn (ts.toList.headD 0)).d (Mm (Hg e us))
 | .builtin .cap,us,_=>Zn d (Mm (Hg e us))
 | .builtin .max,us,_=>A0o true d (Hg e us)
 | .builtin .min,us,_=>A0o false d (Hg e us)
 | _,_,_=>[.ff]
def A1z:Option Nat->Nat
 | some d=>d
 | none=>0
def Ue(d:Option Nat)(cs:List aC)(s:Sem aC)(gr:Bool):Bool->List It
 | true=>[.al d cs]
 | false=>[.efP s gr d]
def A2n(d:Option Nat)(a b:SV):SV->List It
 | .b true=>[.put d a]
 | .b false=>[.put d b]
 | c=>[.br (A49 (Ml c)) [.put d a] [.put d b]]
def A2v(w:Ow)(d:Option Nat)(zs:List aC)(ag:Bool)(n:Nat):SV->List It
 | .own k off=>[.put d (Ub ag off n (Uf w k))]
 | .v (.pointer (some a))=>[.ex zs [],.ld a ag d]
 | _=>[.ff]
def A2r(d:Option Nat):SV->List It
 | .v (.pointer p)=>[.nc p d]
 | y=>[.put d y]
def A2a(d:Option Nat):UnOp->SV->List It
 | .not,.b b=>[.put d (.b (!b))]
 | .not,y=>Od d (!A49 (Ml y))
 | .neg,y=>Li d (A0s (Ml y)) (Wv (A0s (Ml y)) (0-A30 (Ml y)))
 | _,_=>[.ff]
def A39(d:Option Nat)(i:Nat):aC->List It
 | .tuple ⟨vs⟩=>[.put d (.v (vs.getD i undef))]
 | _=>[.ff]
def A2e(w:Ow)(t:aE)(z:aC):SV->List It
 | .own k off=>[.st k (A0h (Uf w k) off (Uh z))]
 | y=>[.efU (Instr.storeAt t (Ml y) z)]
def A5u(x:GX)(e:En)(w:Ow)(gr:Bool)(t:aE)(d:Option Nat):Op->List It
 | .move y=>[.put d (Mq e y)]
 | .assign y=>[.put d (Mq e y)]
 | .pick c a b=>A2n d (Mq e a) (Mq e b) (Mq e c)
 | .load t y=>A2v w d (Dn t).zs (Dn t).ag (Cn t) (Mq e y)
 | .fieldAddr s y f=>A37 (Qk (Rp (Dn s).d f)) d (Mq e y)
 | .nilCheck y=>A2r d (Mq e y)
 | .panic _=>[.ff]
 | .makeInterface _ _=>[.put d (.v undef)]
 | .indexAddr t y i=>A2z d (A30 (Mo e i)) (Dn t).d (Mq e y)
 | .index t y i=>A32 (A30 (Mo e i)) d (Dn t).d (Mo e y)
 | .slice t y l h m=>A2g d (Dn t).d (Mo e y) (Xq e l) (Xq e h) (Xq e m)
 | .binOp op t y z _=>A2d (Dn t).d d op (Mq e y) (Mq e z)
 | .unOp op _ y=>A2a d op (Mq e y)
 | .convert s t y=>A3e t s (Dn t).d (Mq e y) gr d (A0t (Dn s).d||A0t (Dn t).d)
 | .extract y i=>A39 d i (Mo e y)
 | .field s y f=>[.put d (Ub (Dn (Uc (Rp (Dn s).d f))).ag (Qk (Rp (Dn s).d f)) (Cn (Uc (Rp (Dn s).d f))) (Uh (Mo e y)))]
 | .build t ps=>[.put d (.v (.agg (aD (A11 (Dn t).d (Dn t).zs (Xu e ps.toList)))))]
 | .makeFunc f a b=>[.put d (.v (.func f (aD (Hg e a.toList)) (aD (Hg e b.toList))))]
 | .call c=>A3g x e t gr d c.callee c.args.toList c.argTypes
 | .alloc t=>Ue d (Dn t).zs (Instr.alloc t true (.tuple #[])) gr (Ug x.own (A1z d) false)
 | .box t y=>Ue d (Uh (Mo e y)) (Instr.box t (Mo e y)) gr (Ug x.own (A1z d) false)
 | .store t y z=>A2e w t (Mo e z) (Mq e y)
 | .makeSlice t l c=>[.efV (Instr.makeSlice t (Mo e l) (Mo e c)) t gr d]
 | .buildSlice t n ps=>[.efV (Instr.buildSlice t n (aD (Xu e ps.toList))) t gr d]
 | _=>[.ff]
def A0v(n:Nat):Bool->List aC->aC
 | true,vs=>.agg (aD (vs.take n))
 | false,vs=>Mm vs
def A0w:List aE->List aC->List aC
 | [],_=>[]
 | t::r,vs=>A0v (Cn t) (Dn t).ag vs::A0w r (vs.drop (Cn t))
def A0f:List aE->List aC
 | []=>[]
 | t::r=>(Dn t).zs++A0f r
def A2h(zs:List aC):TD->List aC
 | .u ts=>A0f ts
 | _=>zs
def Ud(t:aE):List aC:=A2h (Dn t).zs (Dn t).d
def A2i(t:aE)(vs:List aC):TD->aC
 | .u ts=>.tuple (aD (A0w ts vs))
 | _=>A0v (Cn t) (Dn t).ag vs
def Cd(x:SV)(e:En):Option Nat->En
 | some d=>(d,x)::e
 | none=>e
def Xs:List Nat->List aC->En->En
 | s::r,v::vs,e=>(s,.v v)::Xs r vs e
 | _,_,e=>e
def Xr:List (Nat × Nat)->List aC->Ow->Ow
 | [],_,w=>w
 | (k,n)::r,vs,w=>(k,vs.take n)::Xr r (vs.drop n) w
def A0r(e:En):List Nat->List aC
 | []=>[]
 | s::r=>Ml (Ro e s)::A0r e r
def A0q(w:Ow):List (Nat × Nat)->List aC
 | []=>[]
 | (k,_)::r=>Uf w k++A0q w r
def A2x(ann:Ann)(e:En)(w:Ow):List aC:=A0r e ann.slots++A0q w ann.owns
def A46(id:Nat):List It->Bool->List It
 | l,true=>l
 | [],false=>[]
 | .blk j::r,false=>A46 id r (j==id)
 | _::r,false=>A46 id r false
def A4p(rs:List ResultVar):List It->List It
 | []=>[.re rs []]
 | .rn _ JR::_=>[.rt JR]
 | _::r=>A4p rs r
def A2q(k:Nat)(e:En):SV->En
 | .own _ _=>e
 | x=>(k,x)::e
def Xo:En->En
 | []=>[]
 | (k,x)::r=>A2q k (Xo r) x
def A33:List aF->List aF
 | o::_=>[o]
 | []=>[]
def Ox(l:List aF):List Nat->List aF
 | []=>[]
 | i::r=>A33 (l.drop i)++Ox l r
def Xt(o:aF)(gr:Bool):Bool->Bool->List It
 | true,true=>[.o [] [o] gr]
 | false,false=>[.o [] [o] gr]
 | _,_=>[.put o.dst (.v undef)]
def A0j:List aF->Nat
 | o::_=>A1z o.dst
 | []=>0
def A0l:List Nat->List aC->En->En
 | s::r,v::vs,e=>A0l r vs ((s,.v v)::e)
 | _,_,e=>e
def A0k(n:Nat):List aF->List Nat
 | []=>[]
 | _::r=>n::A0k (n+1) r
def A2p(ops:List aF):Option (List Nat × List (List Nat))->List Nat
 | some (l,_)=>l
 | none=>A0k 0 ops
def A34:Op->Bool
 | .store _ _ _=>false
 | _=>true
def A36(gs:Nat)(want:Bool)(o:aF)(gr:Bool):SV->List It
 | .b b=>Xt o gr b want
 | .v (.bool t)=>[.gd t gs want o gr]
 | _=>[.put o.dst (.v undef)]
def A2o(x:GX)(e:En)(w:Ow)(ops:List aF)(gr:Bool):aF->List It
 | ⟨d,op,t,_,_,none⟩=>A5u x e w (gr&&A34 op) t d op
 | ⟨d,op,t,p,a,some (j,want)⟩=>A36 (A0j (ops.drop j)) want ⟨d,op,t,p,a,none⟩ gr (Ro e (A0j (ops.drop j)))
def A2k(ops:List aF)(o:Option (List Nat × List (List Nat))):Option (List (Nat × List Nat))->List It
 | none=>match o with
  | none=>[.o ops ops true]
  | some (l,_)=>[.o ops (Ox ops l) true]
 | some al=>[.a ops (A0y [] ops) al (A2p ops o)]
def A2j(fa:FnAnn)(id:Nat)(ops:List aF):Bool->List It
 | false=>[.o ops ops false]
 | true=>A2k ops (A1y fa.orders id false none) (A1y fa.alts id false none)
def A2f(a b:aG):Option Ann->List It
 | none=>[.c a,.c b]
 | some ann=>[.cu ann a b]
def A3f(a b:aG):SV->List It
 | .b true=>[.c a]
 | .b false=>[.c b]
 | c=>[.br (A49 (Ml c)) [.c a] [.c b]]
def A2u(b:aG):Option Ann->List It
 | none=>[.ff]
 | some ann=>[.lp ann b]
def A2l(g:aC)(ps:List Nat)(asg body:aG):Option (List aC)->Option (List aC)->List It
 | some zs,none=>[.rf false g zs ps asg body]
 | some zs,some _=>[.rf true g zs ps asg body]
 | _,_=>[.ff]
def A5w(x:GX)(e:En):aG->List It
 | .skip=>[]
 | .region id ops dr=>A2j x.fa id ops.toList dr
 | .seq a b=>A2f a b (A38 x.fa.cuts (Su b))
 | .cond c a b=>A3f a b (Mq e c)
 | .block id b=>[.c b,.blk id]
 | .loop b=>A2u b (A38 x.fa.loops (Su b))
 | .rangeFunc g ps asg body=>A2l (Mo e g) ps.toList asg body (A38 x.fa.rounds (Su body)) (A38 x.fa.rounds (A5s 1000000 (Su body)))
 | .scope b=>[.c b]
 | .label _=>[]
 | _=>[.ff]
def A2m(rs:List ResultVar)(w:Ow)(vs:List aC)(ag:Bool)(n:Nat)(zs:List aC):SV->List It
 | .own k off=>[.re rs (vs++[Ml (Ub ag off n (Uf w k))])]
 | .v (.pointer (some p))=>[.ex zs [],.rc rs vs p ag]
 | _=>[.ff]
def K1:Nat->GX->List It->En->Ow->Heap->Prop
 | 0,_,_,_,_,_=>True
 | n+1,x,[],e,w,h=>K1 n x [.re x.rs []] e w h
 | n+1,x,.c (.exit id)::it,e,w,h=>K1 n x (A46 id it false) e w h
 | n+1,x,.c .ret::it,e,w,h=>K1 n x (A4p x.rs it) e w h
 | n+1,x,.c c::it,e,w,h=>K1 n x (A5w x e c++it) e w h
 | n+1,x,.cu ann a b::it,e,w,h=>∃ J:LP,K1 n x (.c a :: .ct ann J::it) e w h/\K1 n x (.fa ann.zs [] :: .ch ann J b::it) e w h
 | n+1,x,.lp ann b::it,e,w,h=>∃ (Inv:LP) (mu:LN),Inv (A2x ann e w) h/\K1 n x (.fa ann.zs [] :: .lh ann Inv mu b::it) e w h
 | n+1,x,.rf false g zs ps asg body::it,e,w,h=>Wm prog g h (fun args h1 J=>K1 n x [.ex zs [],.rd args ps asg body J none] (Xo e) [] h1) (fun h2=>K1 n x it e w h2)
 | n+1,x,.rf true g zs ps asg body::it,e,w,h=>Wl prog g h (fun args h1 J JR=>K1 n x [.ex zs [],.rd args ps asg body J (some JR)] (Xo e) [] h1) (fun h2=>K1 n x it e w h2) (fun h2=>K1 n x (.c .ret::it) e w h2)
 | n+1,x,.o _ [] _::it,e,w,h=>K1 n x it e w h
 | n+1,x,.o ops (o::l) gr::it,e,w,h=>K1 n x (A2o x e w ops gr o ++ .o ops l gr::it) e w h
 | n+1,x,.a _ _ _ []::it,e,w,h=>K1 n x it e w h
 | n+1,x,.a ops anc al (j::L)::it,e,w,h=>K1 n x (.an ops anc al j L (A12 j anc L (A5t (A1y al j false none)))::it) e w h
 | n+1,x,.an ops anc al j L []::it,e,w,h=>K1 n x (.o ops (Ox ops [j]) true :: .a ops anc al L::it) e w h
 | n+1,x,.an ops anc al j L (i::r)::it,e,w,h=>K1 n x (.o ops (Ox ops [j]) true :: .a ops anc al L::it) e w h/\K1 n x (.ar ops anc al j L i r::it) e w h
 | n+1,x,.ar ops anc al j L i []::it,e,w,h=>K1 n x (.o ops (Ox ops [i]) true :: .a ops anc al (j::A48 i L)::it) e w h
 | n+1,x,.ar ops anc al j L i (k::r)::it,e,w,h=>K1 n x (.o ops (Ox ops [i]) true :: .a ops anc al (j::A48 i L)::it) e w h/\K1 n x (.ar ops anc al j L k r::it) e w h
 | n+1,x,.gd t gs want o gr::it,e,w,h=>Br t (K1 n x (Xt o gr true want++it) ((gs,.b true)::e) w h) (K1 n x (Xt o gr false want++it) ((gs,.b false)::e) w h)
 | n+1,x,.blk _::it,e,w,h=>K1 n x it e w h
 | n+1,x,.put d y::it,e,w,h=>K1 n x it (Cd y e d) w h
 | n+1,x,.br t A B::it,e,w,h=>Br t (K1 n x (A++it) e w h) (K1 n x (B++it) e w h)
 | _+1,_,.ff::_,_,_,_=>False
 | n+1,x,.nc p d::it,e,w,h=>∃ a,p=some a/\K1 n x it (Cd (.v (.pointer (some a))) e d) w h
 | n+1,x,.ix A m i c d::it,e,w,h=>∃ a,A=some a/\0<=i/\i<(m:Int)/\K1 n x it (Cd (.v (.pointer (some (a.add (i.toNat*c))))) e d) w h
 | n+1,x,.iy s i d::it,e,w,h=>∃ c:UInt8,(0<=i/\s[i.toNat]? = some c)/\K1 n x it (Cd (.v (.int .u8 c.toNat)) e d) w h
 | n+1,x,.cd p::it,e,w,h=>p/\K1 n x it e w h
 | n+1,x,.al d cs::it,e,w,h=>K1 n x it (Cd (.own (A1z d) 0) e d) ((A1z d,cs)::w) h
 | n+1,x,.st k cs::it,e,w,h=>K1 n x it e ((k,cs)::w) h
 | n+1,x,.ex (.int k _::zs) acc::it,e,w,h=>∃ i:Int,K1 n x (.ex zs (acc++[.int k i])::it) e w h
 | n+1,x,.ex (.bool _::zs) acc::it,e,w,h=>∃ b:Bool,K1 n x (.ex zs (acc++[.bool b])::it) e w h
 | n+1,x,.ex (.string _::zs) acc::it,e,w,h=>∃ s:ByteArray,K1 n x (.ex zs (acc++[.string s])::it) e w h
 | n+1,x,.ex (.slice _ _ _::zs) acc::it,e,w,h=>∃ (A:Option Addr) (m c:Nat),K1 n x (.ex zs (acc++[.slice A m c])::it) e w h
 | n+1,x,.ex (.pointer _::zs) acc::it,e,w,h=>∃ p:Option Addr,K1 n x (.ex zs (acc++[.pointer p])::it) e w h
 | n+1,x,.ex (_::zs) acc::it,e,w,h=>∃ v:aC,K1 n x (.ex zs (acc++[v])::it) e w h
 | n+1,x,.fa (.int k _::zs) acc::it,e,w,h=>∀ i:Int,K1 n x (.fa zs (acc++[.int k i])::it) e w h
 | n+1,x,.fa (.bool _::zs) acc::it,e,w,h=>∀ b:Bool,K1 n x (.fa zs (acc++[.bool b])::it) e w h
 | n+1,x,.fa (.string _::zs) acc::it,e,w,h=>∀ s:ByteArray,K1 n x (.fa zs (acc++[.string s])::it) e w h
 | n+1,x,.fa (.slice _ _ _::zs) acc::it,e,w,h=>∀ (A:Option Addr) (m c:Nat),K1 n x (.fa zs (acc++[.slice A m c])::it) e w h
 | n+1,x,.fa (.pointer _::zs) acc::it,e,w,h=>∀ p:Option Addr,K1 n x (.fa zs (acc++[.pointer p])::it) e w h
 | n+1,x,.fa (_::zs) acc::it,e,w,h=>∀ v:aC,K1 n x (.fa zs (acc++[v])::it) e w h
 | n+1,x,.fa [] vs :: .lh ann Inv mu b::it,e,w,_=>∀ h,Inv vs h->K1 n x (.c b :: .le ann Inv mu vs h::it) (Xs ann.slots vs e) (Xr ann.owns (vs.drop ann.slots.length) w) h
 | n+1,x,.fa [] vs :: .ch ann J b::it,e,w,_=>∀ h,J vs h->K1 n x (.c b::it) (Xs ann.slots vs e) (Xr ann.owns (vs.drop ann.slots.length) w) h
 | _+1,_,.le ann Inv mu vs h0::_,e,w,h=>Inv (A2x ann e w) h/\mu (A2x ann e w) h<mu vs h0
 | _+1,_,.ct ann J::_,e,w,h=>J (A2x ann e w) h
 | n+1,x,.ex [] vs :: .ld a true d::it,e,w,h=>cellsAt h a 0 vs (K1 n x it (Cd (.v (.agg (aD vs))) e d) w h)
 | n+1,x,.ex [] vs :: .ld a false d::it,e,w,h=>h.cell? a=some (Mm vs)/\K1 n x it (Cd (.v (Mm vs)) e d) w h
 | n+1,x,.ex [] vs :: .rs r h0 gr t d::it,e,w,h=>K1 n x (.rs1 r h0 gr (A2i t vs (Dn t).d) d::it) e w h
 | n+1,x,.rs1 r h0 gr v d::it,e,w,h=>r=v/\Grow gr h0 h (K1 n x it (Cd (.v v) e d) w h)
 | n+1,x,.ex [] vs :: .rd args ps asg body J JR::_,e,w,h=>args=vs/\K1 n x [.c asg,.c body,.rn J JR] (A0l ps vs e) w h
 | n+1,x,.ex [] vs :: .rc rs us a true::it,e,w,h=>cellsAt h a 0 vs (K1 n x (.re rs (us++[.agg (aD vs)])::it) e w h)
 | n+1,x,.ex [] vs :: .rc rs us a false::it,e,w,h=>h.cell? a=some (Mm vs)/\K1 n x (.re rs (us++vs)::it) e w h
 | _+1,_,.rn J _::_,_,_,h=>J h
 | _+1,_,.rt (some J)::_,_,_,h=>J h
 | _+1,_,.rt none::_,_,_,_=>False
 | n+1,x,.efV s t gr d::it,e,w,h=>wpH prog s (fun v h'=>K1 n x (.ex (Ud t) [] :: .rs v h gr t d::it) e w h') h
 | n+1,x,.efP s gr d::it,e,w,h=>wpH prog s (fun v h'=>∃ a:Addr,v= .pointer (some a)/\Grow gr h h' (K1 n x it (Cd (.v (.pointer (some a))) e d) w h')) h
 | n+1,x,.efU s::it,e,w,h=>wpH prog s (fun _ h'=>K1 n x it e w h') h
 | n+1,x,.call false f us t gr d::it,e,w,h=>FCall prog f (aD us) h fun r h'=>K1 n x (.ex (Ud t) [] :: .rs r h gr t d::it) e w h'
 | n+1,x,.call true f us t gr d::it,e,w,h=>ECall prog f (aD us) h fun r h'=>K1 n x (.ex (Ud t) [] :: .rs r h gr t d::it) e w h'
 | n+1,x,.yc l us t d::it,e,w,h=>YCall prog l (aD us) h fun r h'=>K1 n x (.ex (Ud t) [] :: .rs r h false t d::it) e w h'
 | _+1,x,.re [] vs::_,_,_,h=>x.K (Ej vs) h
 | n+1,x,.re (.tmp t::rs) vs::it,e,w,h=>K1 n x (.re rs (vs++[Ml (Ro e t)])::it) e w h
 | n+1,x,.re (.cell a t::rs) vs::it,e,w,h=>K1 n x (A2m rs w vs (Dn t).ag (Cn t) (Dn t).zs (Ro e a)++it) e w h
 | _+1,_,_,_,_,_=>False
def Gen(_ _:Prop):Prop:=True
def A65{a:Prop}:Gen a a:=trivial
