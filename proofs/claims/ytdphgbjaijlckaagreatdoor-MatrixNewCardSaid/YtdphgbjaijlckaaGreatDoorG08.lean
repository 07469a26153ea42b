/- A part. -/
import Derived.Test.YtdphgbjaijlckaaGreatDoorG06
import Derived.Test.YtdphgbjaijlckaaGreatDoorG07
open Go.Proofs.Tryz
set_option linter.all false
open List renaming toArray->aD
open _root_.Go renaming Value->aC,TypeId->aE,Oper->aF,Code->aG,Operand->aH
namespace Go.Proofs.YtdphgbjaijlckaaGreatDoor
open Go
inductive SV where
 | v (v:aC)
 | b (b:Bool)
 | n (k:IntKind) (n:Int)
 | own (k off:Nat)
abbrev En:=List (Nat × SV)
abbrev Ow:=List (Nat × List aC)
structure GX where
 fa:FnAnn
 rs:List ResultVar
 own:List Nat
 wr:List Nat
 K:VP
inductive It where
 | c (c:aG)
 | o (ops l:List aF) (gr:Bool)
 | a (ops:List aF) (anc:List (List Nat)) (al:List (Nat × List Nat)) (l:List Nat)
 | an (ops:List aF) (anc:List (List Nat)) (al:List (Nat × List Nat)) (j:Nat) (L r:List Nat)
 | ar (ops:List aF) (anc:List (List Nat)) (al:List (Nat × List Nat)) (j:Nat) (L:List Nat) (i:Nat) (r:List Nat)
 | gd (t:Bool) (gs:Nat) (want:Bool) (o:aF) (gr:Bool)
 | blk (id:Nat)
 | put (d:Option Nat) (x:SV)
 | br (t:Bool) (A B:List It)
 | ff
 | nc (p:Option Addr) (d:Option Nat)
 | ix (A:Option Addr) (n:Nat) (i:Int) (c:Nat) (d:Option Nat)
 | iy (s:ByteArray) (i:Int) (d:Option Nat)
 | cd (p:Prop)
 | al (d:Option Nat) (cs:List aC)
 | st (k:Nat) (cs:List aC)
 | ex (zs acc:List aC)
 | fa (zs acc:List aC)
 | ld (a:Addr) (ag:Bool) (d:Option Nat)
 | efV (s:Sem aC) (t:aE) (gr:Bool) (d:Option Nat)
 | efP (s:Sem aC) (gr:Bool) (d:Option Nat)
 | efU (s:Sem Unit)
 | call (e:Bool) (f:Nat) (args:List aC) (t:aE) (gr:Bool) (d:Option Nat)
 | yc (l:Nat) (args:List aC) (t:aE) (d:Option Nat)
 | rs (r:aC) (h:Heap) (gr:Bool) (t:aE) (d:Option Nat)
 | rs1 (r:aC) (h:Heap) (gr:Bool) (v:aC) (d:Option Nat)
 | lp (ann:Ann) (b:aG)
 | lh (ann:Ann) (Inv:LP) (mu:LN) (b:aG)
 | le (ann:Ann) (Inv:LP) (mu:LN) (vs:List aC) (h:Heap)
 | cu (ann:Ann) (a b:aG)
 | ct (ann:Ann) (J:LP)
 | ch (ann:Ann) (J:LP) (b:aG)
 | rf (lv:Bool) (g:aC) (zs:List aC) (ps:List Nat) (asg body:aG)
 | rd (args:List aC) (ps:List Nat) (asg body:aG) (J:Heap->Prop) (JR:Option (Heap->Prop))
 | rn (J:Heap->Prop) (JR:Option (Heap->Prop))
 | rt (JR:Option (Heap->Prop))
 | re (r:List ResultVar) (vs:List aC)
 | rc (r:List ResultVar) (vs:List aC) (a:Addr) (ag:Bool)
def A96{α:Type}:List (Nat × α)->Nat->Bool->α->α
 | _,_,true,v=>v
 | [],_,false,v=>v
 | (k,v)::r,d,false,_=>A96 r d (k==d) v
def A10{α:Type}(z:α):List (Nat × α)->Nat->Bool->α->α
 | _,_,true,v=>v
 | [],_,false,_=>z
 | (k,v)::r,d,false,_=>A10 z r d (k==d) v
def Xc:List Nat->Nat->Bool->Bool
 | _,_,true=>true
 | [],_,false=>false
 | k::r,d,false=>Xc r d (k==d)
def A4x{α:Type}:List (Nat × α)->Nat->Bool->Option α->Option α
 | _,_,true,v=>v
 | [],_,false,_=>none
 | (k,v)::r,d,false,_=>A4x r d (k==d) (some v)
def A6g{α:Type}(l:List (Nat × α)):Option Nat->Option α
 | some i=>A4x l i false none
 | none=>none
def A6k(x:Nat):Bool->List Nat->List Nat->List Nat
 | true,r,_=>r
 | false,_,s=>x::s
def A7n(i:Nat):List Nat->List Nat
 | []=>[]
 | x::L=>A6k x (x==i) L (A7n i L)
def A5j(x:Nat):Bool->List Nat->List Nat
 | true,_=>[]
 | false,s=>x::s
def A7u(i:Nat):List Nat->List Nat
 | []=>[]
 | x::L=>A5j x (x==i) (A7u i L)
def A3k(a:List Nat):List Nat->Bool
 | []=>true
 | x::r=> !Xc a x false&&A3k a r
def A64(i:Nat):Bool->List Nat->List Nat
 | true,s=>i::s
 | false,s=>s
def A3z(j:Nat)(anc:List (List Nat))(L:List Nat):List Nat->List Nat
 | []=>[]
 | i::r=>A64 i (Xc L i false && !Xc (anc.getD i []) j false&&A3k (anc.getD i []) (A7u i L)) (A3z j anc L r)
def A94:Option (List Nat)->List Nat
 | none=>[]
 | some l=>l
def A61(x:Nat):Bool->List Nat->List Nat
 | true,l=>l
 | false,l=>x::l
def A3n(l:List Nat):List Nat->List Nat
 | []=>l
 | x::r=>A3n (A61 x (Xc l x false) l) r
def A6d:Ground->Bool
 | .textOnly _=>false
 | .gcOnly _=>false
 | _=>true
def A6j(acc:List (List Nat))(l:List Nat)(j:Nat):Bool->List Nat
 | true=>A3n l (j::acc.getD j [])
 | false=>l
def A3v(acc:List (List Nat))(l:List Nat):List Edge->List Nat
 | []=>l
 | ⟨j,g⟩::r=>A3v acc (A6j acc l j (A6d g)) r
def A3w(acc:List (List Nat)):List aF->List (List Nat)
 | []=>acc
 | o::r=>A3w (acc++[A3v acc [] o.after.toList]) r
def A83:Option Nat->Option Nat->Option Nat
 | some i,_=>some i
 | none,x=>x
def Vr:aG->Option Nat
 | .region id _ _=>some id
 | .seq a b=>A83 (Vr a) (Vr b)
 | .block _ b=>Vr b
 | .loop b=>Vr b
 | .scope b=>Vr b
 | .cond _ a b=>A83 (Vr a) (Vr b)
 | _=>none
abbrev La:=Nat × List Nat × List (Nat × Nat) × List aC
def A4z:List La->List (Nat × Ann)
 | []=>[]
 | (i,s,o,z)::r=>(i,⟨s,o,z,⟨[],[]⟩⟩)::A4z r
def A7m:List (Nat × List Nat)->List (Nat × List Nat × List (List Nat))
 | []=>[]
 | (i,l)::r=>(i,l,[])::A7m r
def wrt:aG->List aF
 | .region _ ops _=>ops.toList
 | .seq a b | .cond _ a b | .rangeFunc _ _ a b=>wrt a++wrt b
 | .block _ b | .loop b | .scope b=>wrt b
 | _=>[]
def A9b(own:List Nat)(o:aF):Option Nat:=match o.op,o.dst with
 | .alloc _,some d | .box _ _,some d=>bif has own d then some d else none
 | _,_=>none
def A6v(own:List Nat)(a:Ann)(ops:List aF):Ann:={ a with lim:=⟨ops.filterMap (·.dst),a.owns.map (·.1)++ops.filterMap (A9b own)⟩ }
def Pd(i:Nat):aG->List aF
 | .loop b=>bif G0 b==some i then wrt b else Pd i b
 | .seq a b | .cond _ a b | .rangeFunc _ _ a b=>Pd i a++Pd i b
 | .block _ b | .scope b=>Pd i b
 | _=>[]
def Kd(i:Nat):aG->List aF
 | .seq a b=>bif G0 b==some i then wrt a else Kd i a++Kd i b
 | .cond _ a b | .rangeFunc _ _ a b=>Kd i a++Kd i b
 | .block _ b | .loop b | .scope b=>Kd i b
 | _=>[]
def A30(own:List Nat)(c:aG)(fa:FnAnn):FnAnn:={ fa with loops:=fa.loops.map fun x=>(x.1,A6v own x.2 (Pd x.1 c)),cuts:=fa.cuts.map fun x=>(x.1,A6v own x.2 (Kd x.1 c)) }
def A93(n:Nat):Option Nat->Option Nat
 | some i=>some (i+n)
 | none=>none
def A6l:aC->SV
 | .bool b=>.b b
 | .int k n=>.n k n
 | v=>.v v
def Uj(e:En)(t:Nat):SV:=A10 (.v undef) e t false (.v undef)
def Xb(w:Ow)(k:Nat):List aC:=A10 [] w k false []
def Nw(e:En):aH->SV
 | .tmp t=>Uj e t
 | .const v=>A6l v
 | .global g=>.v (.pointer (some ⟨g,0,none⟩))
 | .func f=>.v (.func (.func f) #[] #[])
def Nt:SV->aC
 | .v v=>v
 | .b b=>.bool b
 | .n k n=>.int k n
 | .own _ _=>undef
def Nv(e:En)(x:aH):aC:=Nt (Nw e x)
def Ia(e:En):List aH->List aC
 | []=>[]
 | x::r=>Nv e x::Ia e r
def A15(e:En):List (Nat × aH)->List (Nat × aC)
 | []=>[]
 | (i,x)::r=>(i,Nv e x)::A15 e r
def A7o:aC->Bool
 | .bool b=>b
 | _=>false
def A68:aC->Int
 | .int _ n=>n
 | _=>0
def A11(e:En):Option aH->Option Int
 | none=>none
 | some x=>some (A68 (Nv e x))
def Xd:aC->List aC
 | .agg ⟨l⟩=>l
 | v=>[v]
def Nu:List aC->aC
 | v::_=>v
 | []=>undef
def A27(n:Nat):Bool->List aC->SV
 | true,cs=>.v (.agg (aD (cs.take n)))
 | false,cs=>.v (Nu cs)
def Wx(ag:Bool)(off n:Nat)(cs:List aC):SV:=A27 n ag (cs.drop off)
def A3f(cs:List aC)(off:Nat)(vs:List aC):List aC:=cs.take off++vs++cs.drop (off+vs.length)
def A05:IntKind->Int->Int
 | .i64,n=>B7 n
 | .i32,n=>A99 n
 | .u64,n=>C1 n
 | .u32,n=>F6 n
 | .u8,n=>wu8 n
 | k,n=>k.wrap n
def A3x:IntKind->Nat
 | .i8 | .u8=>8
 | .i16 | .u16=>16
 | .i32 | .u32=>32
 | .i64 | .u64=>64
def Mo(d:Option Nat)(k:IntKind)(n:Int):List It:=[.put d (.v (.int k n))]
def Pu(d:Option Nat)(b:Bool):List It:=[.put d (.v (.bool b))]
def A6i:List aC->List aC->Bool->Bool
 | .string a::_,.string b::_,r=>(a.toList==b.toList)&&r
 | _,_,_=>false
def A16:List (Nat × aE)->List aC->List aC->Bool
 | [],_,_=>true
 | (o,_)::r,xs,ys=>A6i (xs.drop o) (ys.drop o) (A16 r xs ys)
def Ss:TD->List (Nat × aE)
 | .t fs=>fs
 | _=>[]
def A84(b:Int)(lit:Bool)(A:List It):List It:=match lit with
 | true=>A
 | false=>[.br (decide (b=0)) [.ff] A]
def A87(b:Int)(lit:Bool)(A:List It):List It:=match lit with
 | true=>A
 | false=>[.br (decide (b<0)) [.ff] A]
def A3e(l:Bool)(t:TD)(d:Option Nat):BinOp->aC->aC->List It
 | .add,.int k a,.int _ b=>Mo d k (A05 k (a+b))
 | .sub,.int k a,.int _ b=>Mo d k (A05 k (a-b))
 | .mul,.int k a,.int _ b=>Mo d k (A05 k (a*b))
 | .quo,.int k a,.int _ b=>A84 b l (Mo d k (A05 k (a.tdiv b)))
 | .rem,.int k a,.int _ b=>A84 b l (Mo d k (a.tmod b))
 | .shl,.int k a,.int _ b=>A87 b l (Mo d k (A05 k (a*2^(min b.toNat (A3x k)))))
 | .shr,.int k a,.int _ b=>A87 b l (Mo d k (a.fdiv (2^(min b.toNat (A3x k)))))
 | .and,.int k a,.int _ b=>Mo d k (Mq k a b)
 | .or,.int k a,.int _ b=>Mo d k (bor k a b)
 | .xor,.int k a,.int _ b=>Mo d k (A9d k a b)
 | .andNot,.int k a,.int _ b=>Mo d k (A4n k a b)
 | .eql,.int _ a,.int _ b=>Pu d (a==b)
 | .neq,.int _ a,.int _ b=>Pu d (a != b)
 | .lss,.int _ a,.int _ b=>Pu d (decide (a<b))
 | .leq,.int _ a,.int _ b=>Pu d (decide (a<=b))
 | .gtr,.int _ a,.int _ b=>Pu d (decide (a>b))
 | .geq,.int _ a,.int _ b=>Pu d (decide (a>=b))
 | .add,.string a,.string b=>[.cd (((a.size+b.size:Nat):Int)<=9223372036854775807),.put d (.v (.string (a++b)))]
 | .eql,.string a,.string b=>Pu d (a.toList==b.toList)
 | .neq,.string a,.string b=>Pu d (!(a.toList==b.toList))
 | .eql,.slice a _ _,.slice _ _ _=>Pu d a.isNone
 | .neq,.slice a _ _,.slice _ _ _=>Pu d (!a.isNone)
 | .eql,.bool a,.bool b=>Pu d (a==b)
 | .neq,.bool a,.bool b=>Pu d (!(a==b))
 | .eql,.agg ⟨a⟩,.agg ⟨b⟩=>Pu d (A16 (Ss t) a b)
 | .neq,.agg ⟨a⟩,.agg ⟨b⟩=>Pu d (!A16 (Ss t) a b)
 | _,_,_=>[.ff]
def A5l(t:TD)(d:Option Nat):BinOp->SV->SV->List It
 | .eql,.n _ a,.n _ b=>[.put d (.b (a.natAbs==b.natAbs))]
 | .neq,.n _ a,.n _ b=>[.put d (.b (!(a.natAbs==b.natAbs)))]
 | op,x,.n k b=>A3e true t d op (Nt x) (.int k b)
 | op,x,y=>A3e false t d op (Nt x) (Nt y)
def De(t:aE):Nat:=(Ef t).n
def Qs(y:Nat):Option Int->List It
 | none=>[]
 | some i=>[.cd (0<=i/\i<=(y:Int))]
def Eg(y:Nat):Option Int->Nat
 | none=>y
 | some i=>i.toNat
def A5o(d:Option Nat):TD->aC->Option Int->Option Int->Option Int->List It
 | .l e,.slice A _ c,some l,some h,some m=>[.cd (0<=m/\m<=(c:Int)),.cd (0<=h/\h<=(m.toNat:Int)),.cd (0<=l/\l<=(h.toNat:Int)),.put d (.v (.slice (N3 A m.toNat l.toNat (De e)) (h.toNat-l.toNat) (m.toNat-l.toNat)))]
 | .s,.string s,l,h,_=>Qs s.size h++(Qs (Eg s.size h) l++[.put d (.v (.string (s.extract (Eg 0 l) (Eg s.size h))))])
 | .l e,.slice A n c,l,h,_=>Qs c h++(Qs (Eg n h) l++[.put d (.v (.slice (N3 A c (Eg 0 l) (De e)) (Eg n h-Eg 0 l) (c-Eg 0 l)))])
 | .r n e,.pointer A,l,h,_=>Qs n h++(Qs (Eg n h) l++[.put d (.v (.slice (N3 A n (Eg 0 l) (De e)) (Eg n h-Eg 0 l) (n-Eg 0 l)))])
 | _,_,_,_,_=>[.ff]
def A66(n c:Nat)(d:Option Nat)(i:Int):SV->List It
 | .own k off=>[.put d (.own k (off+i.natAbs*c))]
 | .v (.pointer (some a))=>[.cd (0<=i/\i<((n:Nat):Int)),.put d (.v (.pointer (some (a.add (i.toNat*c)))))]
 | _=>[.ff]
def A67(d:Option Nat)(i:Int):TD->SV->List It
 | .l e,.v (.slice A n _)=>[.ix A n i (De e) d]
 | .r n e,x=>A66 n (De e) d i x
 | _,_=>[.ff]
def A6a(i:Int)(d:Option Nat):TD->aC->List It
 | .s,.string s=>[.iy s i d]
 | .r _ e,.agg ⟨cs⟩=>[.put d (Wx (Ef e).ag (i.natAbs*De e) (De e) cs)]
 | _,_=>[.ff]
def Uk(t:TD)(f:Nat):Nat × aE:=(Ss t).getD f (0,0)
def Sr:Nat × aE->Nat
 | (a,_)=>a
def Wy:Nat × aE->aE
 | (_,b)=>b
def A6f(o:Nat)(d:Option Nat):SV->List It
 | .own k off=>[.put d (.own k (off+o))]
 | .v (.pointer (some a))=>[.put d (.v (.pointer (some (a.add o))))]
 | _=>[.ff]
def A6p(i:Nat):TD->Nat
 | .r _ e=>i*De e
 | t=>Sr (Uk t i)
def A3y(t:TD):List aC->List (Nat × aC)->List aC
 | cs,[]=>cs
 | cs,(i,v)::r=>A3y t (A3f cs (A6p i t) (Xd v)) r
def A3r:TD->Bool
 | .l _=>true
 | _=>false
def A2a(d:Option Nat)(x:SV):TD->aC->List It
 | .i k,.int _ n=>Mo d k (A05 k n)
 | _,_=>[.put d x]
def A6m(t s:aE)(tt:TD)(x:SV)(gr:Bool)(d:Option Nat):Bool->List It
 | true=>[.efV (convert s t (Nt x)) t gr d]
 | false=>A2a d x tt (Nt x)
def A28(d:Option Nat):TD->aC->List It
 | _,.slice _ n _=>Mo d .i64 ((n:Nat):Int)
 | _,.string s=>Mo d .i64 ((s.size:Nat):Int)
 | .r n _,_=>Mo d .i64 ((n:Nat):Int)
 | _,_=>[.ff]
def A2b(d:Option Nat):aC->List It
 | .slice _ _ c=>Mo d .i64 ((c:Nat):Int)
 | _=>[.ff]
def A60:Bool->aC->aC->aC
 | true,.int k r,.int _ y=>.int k (if y>r then y else r)
 | false,.int k r,.int _ y=>.int k (if y<r then y else r)
 | _,r,_=>r
def A3l(m:Bool)(r:aC):List aC->aC
 | []=>r
 | y::l=>A3l m (A60 m r y) l
def A3q:aC->IntKind
 | .int k _=>k
 | _=>.i64
def A3m(m:Bool)(d:Option Nat):List aC->List It
 | v::l=>[.put d (.v (A3l m v l))]
 | _=>[.ff]
def A92(f:Nat):Bool->Bool
 | true=>false
 | false=>Xc A29 f false
def A2c(A05:List Nat)(sl:Bool)(vs:List aC)(t:aE)(gr:Bool)(d:Option Nat):aC->List It
 | .func (.func f) ⟨a⟩ ⟨b⟩=>[.call (A92 f sl) f (a++(vs++b)) t (gr && !sl && !Xc A05 f false) d]
 | .func (.yield l) _ _=>[.yc l vs t d]
 | _=>[.ff]
def A69:aH->Bool
 | .tmp _=>true
 | _=>false
def A6o(x:GX)(e:En)(t:aE)(gr:Bool)(d:Option Nat):Callee->List aH->Array aE->List It
 | .value f,us,_=>A2c x.wr (A69 f) (Ia e us) t gr d (Nv e f)
 | .builtin .append,us,ts=>[.efV (Builtin.append_ ts t (aD (Ia e us))) t (gr && !Xc x.wr 1000000000 false) d]
 | .builtin .copy,us,ts=>[.efV (Builtin.copy_ ts t (aD (Ia e us))) t false d]
 | .builtin .len,us,ts=>A28 d (Ef (ts.toList.headD 0)).d (Nu (Ia e us))
 | .builtin .cap,us,_=>A2b d (Nu (Ia e us))
 | .builtin .max,us,_=>A3m true d (Ia e us)
 | .builtin .min,us,_=>A3m false d (Ia e us)
 | _,_,_=>[.ff]
def A4y:Option Nat->Nat
 | some d=>d
 | none=>0
def Xa(d:Option Nat)(cs:List aC)(s:Sem aC)(gr:Bool):Bool->List It
 | true=>[.al d cs]
 | false=>[.efP s gr d]
def A5v(d:Option Nat)(a b:SV):SV->List It
 | .b true=>[.put d a]
 | .b false=>[.put d b]
 | c=>[.br (A7o (Nt c)) [.put d a] [.put d b]]
def A63(w:Ow)(d:Option Nat)(zs:List aC)(ag:Bool)(n:Nat):SV->List It
 | .own k off=>[.put d (Wx ag off n (Xb w k))]
 | .v (.pointer (some a))=>[.ex zs [],.ld a ag d]
 | _=>[.ff]
def A5z(d:Option Nat):SV->List It
 | .v (.pointer p)=>[.nc p d]
 | y=>[.put d y]
def A5i(d:Option Nat):UnOp->SV->List It
 | .not,.b b=>[.put d (.b (!b))]
 | .not,y=>Pu d (!A7o (Nt y))
 | .neg,y=>Mo d (A3q (Nt y)) (A05 (A3q (Nt y)) (0-A68 (Nt y)))
 | _,_=>[.ff]
def A6h(d:Option Nat)(i:Nat):aC->List It
 | .tuple ⟨vs⟩=>[.put d (.v (vs.getD i undef))]
 | _=>[.ff]
def A5m(w:Ow)(t:aE)(z:aC):SV->List It
 | .own k off=>[.st k (A3f (Xb w k) off (Xd z))]
 | y=>[.efU (Instr.storeAt t (Nt y) z)]
def A95(x:GX)(e:En)(w:Ow)(gr:Bool)(t:aE)(d:Option Nat):Op->List It
 | .move y=>[.put d (Nw e y)]
 | .assign y=>[.put d (Nw e y)]
 | .pick c a b=>A5v d (Nw e a) (Nw e b) (Nw e c)
 | .load t y=>A63 w d (Ef t).zs (Ef t).ag (De t) (Nw e y)
 | .fieldAddr s y f=>A6f (Sr (Uk (Ef s).d f)) d (Nw e y)
 | .nilCheck y=>A5z d (Nw e y)
 | .panic _=>[.ff]
 | .makeInterface _ _=>[.put d (.v undef)]
 | .indexAddr t y i=>A67 d (A68 (Nv e i)) (Ef t).d (Nw e y)
 | .index t y i=>A6a (A68 (Nv e i)) d (Ef t).d (Nv e y)
 | .slice t y l h m=>A5o d (Ef t).d (Nv e y) (A11 e l) (A11 e h) (A11 e m)
 | .binOp op t y z _=>A5l (Ef t).d d op (Nw e y) (Nw e z)
 | .unOp op _ y=>A5i d op (Nw e y)
 | .convert s t y=>A6m t s (Ef t).d (Nw e y) gr d (A3r (Ef s).d||A3r (Ef t).d)
 | .extract y i=>A6h d i (Nv e y)
 | .field s y f=>[.put d (Wx (Ef (Wy (Uk (Ef s).d f))).ag (Sr (Uk (Ef s).d f)) (De (Wy (Uk (Ef s).d f))) (Xd (Nv e y)))]
 | .build t ps=>[.put d (.v (.agg (aD (A3y (Ef t).d (Ef t).zs (A15 e ps.toList)))))]
 | .makeFunc f a b=>[.put d (.v (.func f (aD (Ia e a.toList)) (aD (Ia e b.toList))))]
 | .call c=>A6o x e t gr d c.callee c.args.toList c.argTypes
 | .alloc t=>Xa d (Ef t).zs (Instr.alloc t true (.tuple #[])) gr (Xc x.own (A4y d) false)
 | .box t y=>Xa d (Xd (Nv e y)) (Instr.box t (Nv e y)) gr (Xc x.own (A4y d) false)
 | .store t y z=>A5m w t (Nv e z) (Nw e y)
 | .makeSlice t l c=>[.efV (Instr.makeSlice t (Nv e l) (Nv e c)) t gr d]
 | .buildSlice t n ps=>[.efV (Instr.buildSlice t n (aD (A15 e ps.toList))) t gr d]
 | _=>[.ff]
def A3t(n:Nat):Bool->List aC->aC
 | true,vs=>.agg (aD (vs.take n))
 | false,vs=>Nu vs
def A3u:List aE->List aC->List aC
 | [],_=>[]
 | t::r,vs=>A3t (De t) (Ef t).ag vs::A3u r (vs.drop (De t))
def A3d:List aE->List aC
 | []=>[]
 | t::r=>(Ef t).zs++A3d r
def A5p(zs:List aC):TD->List aC
 | .u ts=>A3d ts
 | _=>zs
def Wz(t:aE):List aC:=A5p (Ef t).zs (Ef t).d
def A5q(t:aE)(vs:List aC):TD->aC
 | .u ts=>.tuple (aD (A3u ts vs))
 | _=>A3t (De t) (Ef t).ag vs
def Cv(x:SV)(e:En):Option Nat->En
 | some d=>(d,x)::e
 | none=>e
def A13:List Nat->List aC->En->En
 | s::r,v::vs,e=>(s,.v v)::A13 r vs e
 | _,_,e=>e
def A12:List (Nat × Nat)->List aC->Ow->Ow
 | [],_,w=>w
 | (k,n)::r,vs,w=>(k,vs.take n)::A12 r (vs.drop n) w
def A3p(e:En):List Nat->List aC
 | []=>[]
 | s::r=>Nt (Uj e s)::A3p e r
def A3o(w:Ow):List (Nat × Nat)->List aC
 | []=>[]
 | (k,_)::r=>Xb w k++A3o w r
def A65(ann:Ann)(e:En)(w:Ow):List aC:=A3p e ann.slots++A3o w ann.owns
def A7l(id:Nat):List It->Bool->List It
 | l,true=>l
 | [],false=>[]
 | .blk j::r,false=>A7l id r (j==id)
 | _::r,false=>A7l id r false
def A80(rs:List ResultVar):List It->List It
 | []=>[.re rs []]
 | .rn _ JR::_=>[.rt JR]
 | _::r=>A80 rs r
def A5y(k:Nat)(e:En):SV->En
 | .own _ _=>e
 | x=>(k,x)::e
def A0z:En->En
 | []=>[]
 | (k,x)::r=>A5y k (A0z r) x
def A6b:List aF->List aF
 | o::_=>[o]
 | []=>[]
def Qr(l:List aF):List Nat->List aF
 | []=>[]
 | i::r=>A6b (l.drop i)++Qr l r
def A14(o:aF)(gr:Bool):Bool->Bool->List It
 | true,true=>[.o [] [o] gr]
 | false,false=>[.o [] [o] gr]
 | _,_=>[.put o.dst (.v undef)]
def A3h:List aF->Nat
 | o::_=>A4y o.dst
 | []=>0
def A3j:List Nat->List aC->En->En
 | s::r,v::vs,e=>A3j r vs ((s,.v v)::e)
 | _,_,e=>e
def A3i(n:Nat):List aF->List Nat
 | []=>[]
 | _::r=>n::A3i (n+1) r
def A5x(ops:List aF):Option (List Nat × List (List Nat))->List Nat
 | some (l,_)=>l
 | none=>A3i 0 ops
def A6c:Op->Bool
 | .store _ _ _=>false
 | _=>true
def A6e(gs:Nat)(want:Bool)(o:aF)(gr:Bool):SV->List It
 | .b b=>A14 o gr b want
 | .v (.bool t)=>[.gd t gs want o gr]
 | _=>[.put o.dst (.v undef)]
def A5w(x:GX)(e:En)(w:Ow)(ops:List aF)(gr:Bool):aF->List It
 | ⟨d,op,t,_,_,none⟩=>A95 x e w (gr&&A6c op) t d op
 | ⟨d,op,t,p,a,some (j,want)⟩=>A6e (A3h (ops.drop j)) want ⟨d,op,t,p,a,none⟩ gr (Uj e (A3h (ops.drop j)))
def A5s(ops:List aF)(o:Option (List Nat × List (List Nat))):Option (List (Nat × List Nat))->List It
 | none=>match o with
  | none=>[.o ops ops true]
  | some (l,_)=>[.o ops (Qr ops l) true]
 | some al=>[.a ops (A3w [] ops) al (A5x ops o)]
def A5r(fa:FnAnn)(id:Nat)(ops:List aF):Bool->List It
 | false=>[.o ops ops false]
 | true=>A5s ops (A4x fa.orders id false none) (A4x fa.alts id false none)
def A5n(a b:aG):Option Ann->List It
 | none=>[.c a,.c b]
 | some ann=>[.cu ann a b]
def A6n(a b:aG):SV->List It
 | .b true=>[.c a]
 | .b false=>[.c b]
 | c=>[.br (A7o (Nt c)) [.c a] [.c b]]
def A62(b:aG):Option Ann->List It
 | none=>[.ff]
 | some ann=>[.lp ann b]
def A5t(g:aC)(ps:List Nat)(asg body:aG):Option (List aC)->Option (List aC)->List It
 | some zs,none=>[.rf false g zs ps asg body]
 | some zs,some _=>[.rf true g zs ps asg body]
 | _,_=>[.ff]
def A97(x:GX)(e:En):aG->List It
 | .skip=>[]
 | .region id ops dr=>A5r x.fa id ops.toList dr
 | .seq a b=>A5n a b (A6g x.fa.cuts (Vr b))
 | .cond c a b=>A6n a b (Nw e c)
 | .block id b=>[.c b,.blk id]
 | .loop b=>A62 b (A6g x.fa.loops (Vr b))
 | .rangeFunc g ps asg body=>A5t (Nv e g) ps.toList asg body (A6g x.fa.rounds (Vr body)) (A6g x.fa.rounds (A93 1000000 (Vr body)))
 | .scope b=>[.c b]
 | .label _=>[]
 | _=>[.ff]
def A5u(rs:List ResultVar)(w:Ow)(vs:List aC)(ag:Bool)(n:Nat)(zs:List aC):SV->List It
 | .own k off=>[.re rs (vs++[Nt (Wx ag off n (Xb w k))])]
 | .v (.pointer (some p))=>[.ex zs [],.rc rs vs p ag]
 | _=>[.ff]
def L7:Nat->GX->List It->En->Ow->Heap->Prop
 | 0,_,_,_,_,_=>True
 | n+1,x,[],e,w,h=>L7 n x [.re x.rs []] e w h
 | n+1,x,.c (.exit id)::it,e,w,h=>L7 n x (A7l id it false) e w h
 | n+1,x,.c .ret::it,e,w,h=>L7 n x (A80 x.rs it) e w h
 | n+1,x,.c c::it,e,w,h=>L7 n x (A97 x e c++it) e w h
 | n+1,x,.cu ann a b::it,e,w,h=>∃ J:LP,L7 n x (.c a :: .ct ann J::it) e w h/\L7 n x (.fa ann.zs [] :: .ch ann J b::it) e w h
 | n+1,x,.lp ann b::it,e,w,h=>∃ (Inv:LP) (mu:LN),Inv (A65 ann e w) h/\L7 n x (.fa ann.zs [] :: .lh ann Inv mu b::it) e w h
 | n+1,x,.rf false g zs ps asg body::it,e,w,h=>Tr prog g h (fun args h1 J=>L7 n x [.ex zs [],.rd args ps asg body J none] (A0z e) [] h1) (fun h2=>L7 n x it e w h2)
 | n+1,x,.rf true g zs ps asg body::it,e,w,h=>Zu prog g h (fun args h1 J JR=>L7 n x [.ex zs [],.rd args ps asg body J (some JR)] (A0z e) [] h1) (fun h2=>L7 n x it e w h2) (fun h2=>L7 n x (.c .ret::it) e w h2)
 | n+1,x,.o _ [] _::it,e,w,h=>L7 n x it e w h
 | n+1,x,.o ops (o::l) gr::it,e,w,h=>L7 n x (A5w x e w ops gr o ++ .o ops l gr::it) e w h
 | n+1,x,.a _ _ _ []::it,e,w,h=>L7 n x it e w h
 | n+1,x,.a ops anc al (j::L)::it,e,w,h=>L7 n x (.an ops anc al j L (A3z j anc L (A94 (A4x al j false none)))::it) e w h
 | n+1,x,.an ops anc al j L []::it,e,w,h=>L7 n x (.o ops (Qr ops [j]) true :: .a ops anc al L::it) e w h
 | n+1,x,.an ops anc al j L (i::r)::it,e,w,h=>L7 n x (.o ops (Qr ops [j]) true :: .a ops anc al L::it) e w h/\L7 n x (.ar ops anc al j L i r::it) e w h
 | n+1,x,.ar ops anc al j L i []::it,e,w,h=>L7 n x (.o ops (Qr ops [i]) true :: .a ops anc al (j::A7n i L)::it) e w h
 | n+1,x,.ar ops anc al j L i (k::r)::it,e,w,h=>L7 n x (.o ops (Qr ops [i]) true :: .a ops anc al (j::A7n i L)::it) e w h/\L7 n x (.ar ops anc al j L k r::it) e w h
 | n+1,x,.gd t gs want o gr::it,e,w,h=>Br t (L7 n x (A14 o gr true want++it) ((gs,.b true)::e) w h) (L7 n x (A14 o gr false want++it) ((gs,.b false)::e) w h)
 | n+1,x,.blk _::it,e,w,h=>L7 n x it e w h
 | n+1,x,.put d y::it,e,w,h=>L7 n x it (Cv y e d) w h
 | n+1,x,.br t A B::it,e,w,h=>Br t (L7 n x (A++it) e w h) (L7 n x (B++it) e w h)
 | _+1,_,.ff::_,_,_,_=>False
 | n+1,x,.nc p d::it,e,w,h=>∃ a,p=some a/\L7 n x it (Cv (.v (.pointer (some a))) e d) w h
 | n+1,x,.ix A m i c d::it,e,w,h=>∃ a,A=some a/\0<=i/\i<(m:Int)/\L7 n x it (Cv (.v (.pointer (some (a.add (i.toNat*c))))) e d) w h
 | n+1,x,.iy s i d::it,e,w,h=>∃ c:UInt8,(0<=i/\s[i.toNat]? = some c)/\L7 n x it (Cv (.v (.int .u8 c.toNat)) e d) w h
 | n+1,x,.cd p::it,e,w,h=>p/\L7 n x it e w h
 | n+1,x,.al d cs::it,e,w,h=>L7 n x it (Cv (.own (A4y d) 0) e d) ((A4y d,cs)::w) h
 | n+1,x,.st k cs::it,e,w,h=>L7 n x it e ((k,cs)::w) h
 | n+1,x,.ex (.int k _::zs) acc::it,e,w,h=>∃ i:Int,L7 n x (.ex zs (acc++[.int k i])::it) e w h
 | n+1,x,.ex (.bool _::zs) acc::it,e,w,h=>∃ b:Bool,L7 n x (.ex zs (acc++[.bool b])::it) e w h
 | n+1,x,.ex (.string _::zs) acc::it,e,w,h=>∃ s:ByteArray,L7 n x (.ex zs (acc++[.string s])::it) e w h
 | n+1,x,.ex (.slice _ _ _::zs) acc::it,e,w,h=>∃ (A:Option Addr) (m c:Nat),L7 n x (.ex zs (acc++[.slice A m c])::it) e w h
 | n+1,x,.ex (.pointer _::zs) acc::it,e,w,h=>∃ p:Option Addr,L7 n x (.ex zs (acc++[.pointer p])::it) e w h
 | n+1,x,.ex (_::zs) acc::it,e,w,h=>∃ v:aC,L7 n x (.ex zs (acc++[v])::it) e w h
 | n+1,x,.fa (.int k _::zs) acc::it,e,w,h=>∀ i:Int,L7 n x (.fa zs (acc++[.int k i])::it) e w h
 | n+1,x,.fa (.bool _::zs) acc::it,e,w,h=>∀ b:Bool,L7 n x (.fa zs (acc++[.bool b])::it) e w h
 | n+1,x,.fa (.string _::zs) acc::it,e,w,h=>∀ s:ByteArray,L7 n x (.fa zs (acc++[.string s])::it) e w h
 | n+1,x,.fa (.slice _ _ _::zs) acc::it,e,w,h=>∀ (A:Option Addr) (m c:Nat),L7 n x (.fa zs (acc++[.slice A m c])::it) e w h
 | n+1,x,.fa (.pointer _::zs) acc::it,e,w,h=>∀ p:Option Addr,L7 n x (.fa zs (acc++[.pointer p])::it) e w h
 | n+1,x,.fa (_::zs) acc::it,e,w,h=>∀ v:aC,L7 n x (.fa zs (acc++[v])::it) e w h
 | n+1,x,.fa [] vs :: .lh ann Inv mu b::it,e,w,_=>∀ h,Inv vs h->L7 n x (.c b :: .le ann Inv mu vs h::it) (A13 ann.slots vs e) (A12 ann.owns (vs.drop ann.slots.length) w) h
 | n+1,x,.fa [] vs :: .ch ann J b::it,e,w,_=>∀ h,J vs h->L7 n x (.c b::it) (A13 ann.slots vs e) (A12 ann.owns (vs.drop ann.slots.length) w) h
 | _+1,_,.le ann Inv mu vs h0::_,e,w,h=>Inv (A65 ann e w) h/\mu (A65 ann e w) h<mu vs h0
 | _+1,_,.ct ann J::_,e,w,h=>J (A65 ann e w) h
 | n+1,x,.ex [] vs :: .ld a true d::it,e,w,h=>cellsAt h a 0 vs (L7 n x it (Cv (.v (.agg (aD vs))) e d) w h)
 | n+1,x,.ex [] vs :: .ld a false d::it,e,w,h=>h.cell? a=some (Nu vs)/\L7 n x it (Cv (.v (Nu vs)) e d) w h
 | n+1,x,.ex [] vs :: .rs r h0 gr t d::it,e,w,h=>L7 n x (.rs1 r h0 gr (A5q t vs (Ef t).d) d::it) e w h
 | n+1,x,.rs1 r h0 gr v d::it,e,w,h=>r=v/\Grow gr h0 h (L7 n x it (Cv (.v v) e d) w h)
 | n+1,x,.ex [] vs :: .rd args ps asg body J JR::_,e,w,h=>args=vs/\L7 n x [.c asg,.c body,.rn J JR] (A3j ps vs e) w h
 | n+1,x,.ex [] vs :: .rc rs us a true::it,e,w,h=>cellsAt h a 0 vs (L7 n x (.re rs (us++[.agg (aD vs)])::it) e w h)
 | n+1,x,.ex [] vs :: .rc rs us a false::it,e,w,h=>h.cell? a=some (Nu vs)/\L7 n x (.re rs (us++vs)::it) e w h
 | _+1,_,.rn J _::_,_,_,h=>J h
 | _+1,_,.rt (some J)::_,_,_,h=>J h
 | _+1,_,.rt none::_,_,_,_=>False
 | n+1,x,.efV s t gr d::it,e,w,h=>wpH prog s (fun v h'=>L7 n x (.ex (Wz t) [] :: .rs v h gr t d::it) e w h') h
 | n+1,x,.efP s gr d::it,e,w,h=>wpH prog s (fun v h'=>∃ a:Addr,v= .pointer (some a)/\Grow gr h h' (L7 n x it (Cv (.v (.pointer (some a))) e d) w h')) h
 | n+1,x,.efU s::it,e,w,h=>wpH prog s (fun _ h'=>L7 n x it e w h') h
 | n+1,x,.call false f us t gr d::it,e,w,h=>FCall prog f (aD us) h fun r h'=>L7 n x (.ex (Wz t) [] :: .rs r h gr t d::it) e w h'
 | n+1,x,.call true f us t gr d::it,e,w,h=>ECall prog f (aD us) h fun r h'=>L7 n x (.ex (Wz t) [] :: .rs r h gr t d::it) e w h'
 | n+1,x,.yc l us t d::it,e,w,h=>YCall prog l (aD us) h fun r h'=>L7 n x (.ex (Wz t) [] :: .rs r h false t d::it) e w h'
 | _+1,x,.re [] vs::_,_,_,h=>x.K (Fl vs) h
 | n+1,x,.re (.tmp t::rs) vs::it,e,w,h=>L7 n x (.re rs (vs++[Nt (Uj e t)])::it) e w h
 | n+1,x,.re (.cell a t::rs) vs::it,e,w,h=>L7 n x (A5u rs w vs (Ef t).ag (De t) (Ef t).zs (Uj e a)++it) e w h
 | _+1,_,_,_,_,_=>False
def Gen(_ _:Prop):Prop:=True
def A9c{a:Prop}:Gen a a:=trivial
