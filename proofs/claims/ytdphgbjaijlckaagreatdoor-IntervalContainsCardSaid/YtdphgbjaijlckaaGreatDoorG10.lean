/- A part. -/
import Derived.Test.YtdphgbjaijlckaaGreatDoorG08
import Derived.Test.YtdphgbjaijlckaaGreatDoorG09
open Go.Proofs.Tryz
set_option linter.all false
open List renaming toArray->aD
open _root_.Go renaming Value->aC,TypeId->aE,Oper->aF,Code->aG,Operand->aH
namespace Go.Proofs.YtdphgbjaijlckaaGreatDoor
open Go
inductive SV where
 | v (v:aC)
 | b (b:Bool)
 | n (k:IntKind) (n:Int)
 | own (k off:Nat)
abbrev En:=List (Nat × SV)
abbrev Ow:=List (Nat × List aC)
structure GX where
 fa:FnAnn
 rs:List ResultVar
 own:List Nat
 wr:List Nat
 K:VP
inductive It where
 | c (c:aG)
 | o (ops l:List aF) (gr:Bool)
 | a (ops:List aF) (anc:List (List Nat)) (al:List (Nat × List Nat)) (l:List Nat)
 | an (ops:List aF) (anc:List (List Nat)) (al:List (Nat × List Nat)) (j:Nat) (L r:List Nat)
 | ar (ops:List aF) (anc:List (List Nat)) (al:List (Nat × List Nat)) (j:Nat) (L:List Nat) (i:Nat) (r:List Nat)
 | gd (t:Bool) (gs:Nat) (want:Bool) (o:aF) (gr:Bool)
 | blk (id:Nat)
 | put (d:Option Nat) (x:SV)
 | br (t:Bool) (A B:List It)
 | ff
 | nc (p:Option Addr) (d:Option Nat)
 | ix (A:Option Addr) (n:Nat) (i:Int) (c:Nat) (d:Option Nat)
 | iy (s:ByteArray) (i:Int) (d:Option Nat)
 | cd (p:Prop)
 | al (d:Option Nat) (cs:List aC)
 | st (k:Nat) (cs:List aC)
 | ex (zs acc:List aC)
 | fa (zs acc:List aC)
 | ld (a:Addr) (ag:Bool) (d:Option Nat)
 | efV (s:Sem aC) (t:aE) (gr:Bool) (d:Option Nat)
 | efP (s:Sem aC) (gr:Bool) (d:Option Nat)
 | efU (s:Sem Unit)
 | call (e:Bool) (f:Nat) (args:List aC) (t:aE) (gr:Bool) (d:Option Nat)
 | yc (l:Nat) (args:List aC) (t:aE) (d:Option Nat)
 | rs (r:aC) (h:Heap) (gr:Bool) (t:aE) (d:Option Nat)
 | rs1 (r:aC) (h:Heap) (gr:Bool) (v:aC) (d:Option Nat)
 | lp (ann:Ann) (b:aG)
 | lh (ann:Ann) (Inv:LP) (mu:LN) (b:aG)
 | le (ann:Ann) (Inv:LP) (mu:LN) (vs:List aC) (h:Heap)
 | cu (ann:Ann) (a b:aG)
 | ct (ann:Ann) (J:LP)
 | ch (ann:Ann) (J:LP) (b:aG)
 | rf (lv:Bool) (g:aC) (zs:List aC) (ps:List Nat) (asg body:aG)
 | rd (args:List aC) (ps:List Nat) (asg body:aG) (J:Heap->Prop) (JR:Option (Heap->Prop))
 | rn (J:Heap->Prop) (JR:Option (Heap->Prop))
 | rt (JR:Option (Heap->Prop))
 | re (r:List ResultVar) (vs:List aC)
 | rc (r:List ResultVar) (vs:List aC) (a:Addr) (ag:Bool)
def A4b{α:Type}:List (Nat × α)->Nat->Bool->α->α
 | _,_,true,v=>v
 | [],_,false,v=>v
 | (k,v)::r,d,false,_=>A4b r d (k==d) v
def Vj{α:Type}(z:α):List (Nat × α)->Nat->Bool->α->α
 | _,_,true,v=>v
 | [],_,false,_=>z
 | (k,v)::r,d,false,_=>Vj z r d (k==d) v
def Rx:List Nat->Nat->Bool->Bool
 | _,_,true=>true
 | [],_,false=>false
 | k::r,d,false=>Rx r d (k==d)
def A09{α:Type}:List (Nat × α)->Nat->Bool->Option α->Option α
 | _,_,true,v=>v
 | [],_,false,_=>none
 | (k,v)::r,d,false,_=>A09 r d (k==d) (some v)
def A1l{α:Type}(l:List (Nat × α)):Option Nat->Option α
 | some i=>A09 l i false none
 | none=>none
def A1p(x:Nat):Bool->List Nat->List Nat->List Nat
 | true,r,_=>r
 | false,_,s=>x::s
def A2o(i:Nat):List Nat->List Nat
 | []=>[]
 | x::L=>A1p x (x==i) L (A2o i L)
def A0n(x:Nat):Bool->List Nat->List Nat
 | true,_=>[]
 | false,s=>x::s
def A2z(i:Nat):List Nat->List Nat
 | []=>[]
 | x::L=>A0n x (x==i) (A2z i L)
def Yj(a:List Nat):List Nat->Bool
 | []=>true
 | x::r=> !Rx a x false&&Yj a r
def A19(i:Nat):Bool->List Nat->List Nat
 | true,s=>i::s
 | false,s=>s
def Yy(j:Nat)(anc:List (List Nat))(L:List Nat):List Nat->List Nat
 | []=>[]
 | i::r=>A19 i (Rx L i false && !Rx (anc.getD i []) j false&&Yj (anc.getD i []) (A2z i L)) (Yy j anc L r)
def A49:Option (List Nat)->List Nat
 | none=>[]
 | some l=>l
def A16(x:Nat):Bool->List Nat->List Nat
 | true,l=>l
 | false,l=>x::l
def Ym(l:List Nat):List Nat->List Nat
 | []=>l
 | x::r=>Ym (A16 x (Rx l x false) l) r
def A1i:Ground->Bool
 | .textOnly _=>false
 | .gcOnly _=>false
 | _=>true
def A1o(acc:List (List Nat))(l:List Nat)(j:Nat):Bool->List Nat
 | true=>Ym l (j::acc.getD j [])
 | false=>l
def Yu(acc:List (List Nat))(l:List Nat):List Edge->List Nat
 | []=>l
 | ⟨j,g⟩::r=>Yu acc (A1o acc l j (A1i g)) r
def Yv(acc:List (List Nat)):List aF->List (List Nat)
 | []=>acc
 | o::r=>Yv (acc++[Yu acc [] o.after.toList]) r
def A38:Option Nat->Option Nat->Option Nat
 | some i,_=>some i
 | none,x=>x
def Qt:aG->Option Nat
 | .region id _ _=>some id
 | .seq a b=>A38 (Qt a) (Qt b)
 | .block _ b=>Qt b
 | .loop b=>Qt b
 | .scope b=>Qt b
 | .cond _ a b=>A38 (Qt a) (Qt b)
 | _=>none
abbrev La:=Nat × List Nat × List (Nat × Nat) × List aC
def A0b:List La->List (Nat × Ann)
 | []=>[]
 | (i,s,o,z)::r=>(i,⟨s,o,z,⟨[],[]⟩⟩)::A0b r
def A2n:List (Nat × List Nat)->List (Nat × List Nat × List (List Nat))
 | []=>[]
 | (i,l)::r=>(i,l,[])::A2n r
def wrt:aG->List aF
 | .region _ ops _=>ops.toList
 | .seq a b | .cond _ a b | .rangeFunc _ _ a b=>wrt a++wrt b
 | .block _ b | .loop b | .scope b=>wrt b
 | _=>[]
def A4i(own:List Nat)(o:aF):Option Nat:=match o.op,o.dst with
 | .alloc _,some d | .box _ _,some d=>bif has own d then some d else none
 | _,_=>none
def A1z(own:List Nat)(a:Ann)(ops:List aF):Ann:={ a with lim:=⟨ops.filterMap (·.dst),a.owns.map (·.1)++ops.filterMap (A4i own)⟩ }
def Ll(i:Nat):aG->List aF
 | .loop b=>bif E6 b==some i then wrt b else Ll i b
 | .seq a b | .cond _ a b | .rangeFunc _ _ a b=>Ll i a++Ll i b
 | .block _ b | .scope b=>Ll i b
 | _=>[]
def Id(i:Nat):aG->List aF
 | .seq a b=>bif E6 b==some i then wrt a else Id i a++Id i b
 | .cond _ a b | .rangeFunc _ _ a b=>Id i a++Id i b
 | .block _ b | .loop b | .scope b=>Id i b
 | _=>[]
def Xs(own:List Nat)(c:aG)(fa:FnAnn):FnAnn:={ fa with loops:=fa.loops.map fun x=>(x.1,A1z own x.2 (Ll x.1 c)),cuts:=fa.cuts.map fun x=>(x.1,A1z own x.2 (Id x.1 c)) }
def A48(n:Nat):Option Nat->Option Nat
 | some i=>some (i+n)
 | none=>none
def A1q:aC->SV
 | .bool b=>.b b
 | .int k n=>.n k n
 | v=>.v v
def Ps(e:En)(t:Nat):SV:=Vj (.v undef) e t false (.v undef)
def Rw(w:Ow)(k:Nat):List aC:=Vj [] w k false []
def Kq(e:En):aH->SV
 | .tmp t=>Ps e t
 | .const v=>A1q v
 | .global g=>.v (.pointer (some ⟨g,0,none⟩))
 | .func f=>.v (.func (.func f) #[] #[])
def Kn:SV->aC
 | .v v=>v
 | .b b=>.bool b
 | .n k n=>.int k n
 | .own _ _=>undef
def Kp(e:En)(x:aH):aC:=Kn (Kq e x)
def Fv(e:En):List aH->List aC
 | []=>[]
 | x::r=>Kp e x::Fv e r
def Vo(e:En):List (Nat × aH)->List (Nat × aC)
 | []=>[]
 | (i,x)::r=>(i,Kp e x)::Vo e r
def A2p:aC->Bool
 | .bool b=>b
 | _=>false
def A1d:aC->Int
 | .int _ n=>n
 | _=>0
def Vk(e:En):Option aH->Option Int
 | none=>none
 | some x=>some (A1d (Kp e x))
def Ry:aC->List aC
 | .agg ⟨l⟩=>l
 | v=>[v]
def Ko:List aC->aC
 | v::_=>v
 | []=>undef
def Ww(n:Nat):Bool->List aC->SV
 | true,cs=>.v (.agg (aD (cs.take n)))
 | false,cs=>.v (Ko cs)
def Rs(ag:Bool)(off n:Nat)(cs:List aC):SV:=Ww n ag (cs.drop off)
def Ye(cs:List aC)(off:Nat)(vs:List aC):List aC:=cs.take off++vs++cs.drop (off+vs.length)
def Up:IntKind->Int->Int
 | .i64,n=>B7 n
 | .i32,n=>A4e n
 | .u64,n=>C1 n
 | .u32,n=>F9 n
 | .u8,n=>wu8 n
 | k,n=>k.wrap n
def Yw:IntKind->Nat
 | .i8 | .u8=>8
 | .i16 | .u16=>16
 | .i32 | .u32=>32
 | .i64 | .u64=>64
def Jw(d:Option Nat)(k:IntKind)(n:Int):List It:=[.put d (.v (.int k n))]
def Me(d:Option Nat)(b:Bool):List It:=[.put d (.v (.bool b))]
def A1n:List aC->List aC->Bool->Bool
 | .string a::_,.string b::_,r=>(a.toList==b.toList)&&r
 | _,_,_=>false
def Vp:List (Nat × aE)->List aC->List aC->Bool
 | [],_,_=>true
 | (o,_)::r,xs,ys=>A1n (xs.drop o) (ys.drop o) (Vp r xs ys)
def On:TD->List (Nat × aE)
 | .t fs=>fs
 | _=>[]
def A39(b:Int)(lit:Bool)(A:List It):List It:=match lit with
 | true=>A
 | false=>[.br (decide (b=0)) [.ff] A]
def A3c(b:Int)(lit:Bool)(A:List It):List It:=match lit with
 | true=>A
 | false=>[.br (decide (b<0)) [.ff] A]
def Yd(l:Bool)(t:TD)(d:Option Nat):BinOp->aC->aC->List It
 | .add,.int k a,.int _ b=>Jw d k (Up k (a+b))
 | .sub,.int k a,.int _ b=>Jw d k (Up k (a-b))
 | .mul,.int k a,.int _ b=>Jw d k (Up k (a*b))
 | .quo,.int k a,.int _ b=>A39 b l (Jw d k (Up k (a.tdiv b)))
 | .rem,.int k a,.int _ b=>A39 b l (Jw d k (a.tmod b))
 | .shl,.int k a,.int _ b=>A3c b l (Jw d k (Up k (a*2^(min b.toNat (Yw k)))))
 | .shr,.int k a,.int _ b=>A3c b l (Jw d k (a.fdiv (2^(min b.toNat (Yw k)))))
 | .and,.int k a,.int _ b=>Jw d k (Qn k a b)
 | .or,.int k a,.int _ b=>Jw d k (bor k a b)
 | .xor,.int k a,.int _ b=>Jw d k (A4k k a b)
 | .andNot,.int k a,.int _ b=>Jw d k (Zz k a b)
 | .eql,.int _ a,.int _ b=>Me d (a==b)
 | .neq,.int _ a,.int _ b=>Me d (a != b)
 | .lss,.int _ a,.int _ b=>Me d (decide (a<b))
 | .leq,.int _ a,.int _ b=>Me d (decide (a<=b))
 | .gtr,.int _ a,.int _ b=>Me d (decide (a>b))
 | .geq,.int _ a,.int _ b=>Me d (decide (a>=b))
 | .add,.string a,.string b=>[.cd (((a.size+b.size:Nat):Int)<=9223372036854775807),.put d (.v (.string (a++b)))]
 | .eql,.string a,.string b=>Me d (a.toList==b.toList)
 | .neq,.string a,.string b=>Me d (!(a.toList==b.toList))
 | .eql,.slice a _ _,.slice _ _ _=>Me d a.isNone
 | .neq,.slice a _ _,.slice _ _ _=>Me d (!a.isNone)
 | .eql,.bool a,.bool b=>Me d (a==b)
 | .neq,.bool a,.bool b=>Me d (!(a==b))
 | .eql,.agg ⟨a⟩,.agg ⟨b⟩=>Me d (Vp (On t) a b)
 | .neq,.agg ⟨a⟩,.agg ⟨b⟩=>Me d (!Vp (On t) a b)
 | _,_,_=>[.ff]
def A0p(t:TD)(d:Option Nat):BinOp->SV->SV->List It
 | .eql,.n _ a,.n _ b=>[.put d (.b (a.natAbs==b.natAbs))]
 | .neq,.n _ a,.n _ b=>[.put d (.b (!(a.natAbs==b.natAbs)))]
 | op,x,.n k b=>Yd true t d op (Kn x) (.int k b)
 | op,x,y=>Yd false t d op (Kn x) (Kn y)
def Bg(t:aE):Nat:=(Cn t).n
def Ni(y:Nat):Option Int->List It
 | none=>[]
 | some i=>[.cd (0<=i/\i<=(y:Int))]
def Co(y:Nat):Option Int->Nat
 | none=>y
 | some i=>i.toNat
def A0s(d:Option Nat):TD->aC->Option Int->Option Int->Option Int->List It
 | .l e,.slice A _ c,some l,some h,some m=>[.cd (0<=m/\m<=(c:Int)),.cd (0<=h/\h<=(m.toNat:Int)),.cd (0<=l/\l<=(h.toNat:Int)),.put d (.v (.slice (P5 A m.toNat l.toNat (Bg e)) (h.toNat-l.toNat) (m.toNat-l.toNat)))]
 | .s,.string s,l,h,_=>Ni s.size h++(Ni (Co s.size h) l++[.put d (.v (.string (s.extract (Co 0 l) (Co s.size h))))])
 | .l e,.slice A n c,l,h,_=>Ni c h++(Ni (Co n h) l++[.put d (.v (.slice (P5 A c (Co 0 l) (Bg e)) (Co n h-Co 0 l) (c-Co 0 l)))])
 | .r n e,.pointer A,l,h,_=>Ni n h++(Ni (Co n h) l++[.put d (.v (.slice (P5 A n (Co 0 l) (Bg e)) (Co n h-Co 0 l) (n-Co 0 l)))])
 | _,_,_,_,_=>[.ff]
def A1b(n c:Nat)(d:Option Nat)(i:Int):SV->List It
 | .own k off=>[.put d (.own k (off+i.natAbs*c))]
 | .v (.pointer (some a))=>[.cd (0<=i/\i<((n:Nat):Int)),.put d (.v (.pointer (some (a.add (i.toNat*c)))))]
 | _=>[.ff]
def A1c(d:Option Nat)(i:Int):TD->SV->List It
 | .l e,.v (.slice A n _)=>[.ix A n i (Bg e) d]
 | .r n e,x=>A1b n (Bg e) d i x
 | _,_=>[.ff]
def A1f(i:Int)(d:Option Nat):TD->aC->List It
 | .s,.string s=>[.iy s i d]
 | .r _ e,.agg ⟨cs⟩=>[.put d (Rs (Cn e).ag (i.natAbs*Bg e) (Bg e) cs)]
 | _,_=>[.ff]
def Pu(t:TD)(f:Nat):Nat × aE:=(On t).getD f (0,0)
def Om:Nat × aE->Nat
 | (a,_)=>a
def Rt:Nat × aE->aE
 | (_,b)=>b
def A1k(o:Nat)(d:Option Nat):SV->List It
 | .own k off=>[.put d (.own k (off+o))]
 | .v (.pointer (some a))=>[.put d (.v (.pointer (some (a.add o))))]
 | _=>[.ff]
def A1u(i:Nat):TD->Nat
 | .r _ e=>i*Bg e
 | t=>Om (Pu t i)
def Yx(t:TD):List aC->List (Nat × aC)->List aC
 | cs,[]=>cs
 | cs,(i,v)::r=>Yx t (Ye cs (A1u i t) (Ry v)) r
def Yq:TD->Bool
 | .l _=>true
 | _=>false
def Wz(d:Option Nat)(x:SV):TD->aC->List It
 | .i k,.int _ n=>Jw d k (Up k n)
 | _,_=>[.put d x]
def A1r(t s:aE)(tt:TD)(x:SV)(gr:Bool)(d:Option Nat):Bool->List It
 | true=>[.efV (convert s t (Kn x)) t gr d]
 | false=>Wz d x tt (Kn x)
def Wx(d:Option Nat):TD->aC->List It
 | _,.slice _ n _=>Jw d .i64 ((n:Nat):Int)
 | _,.string s=>Jw d .i64 ((s.size:Nat):Int)
 | .r n _,_=>Jw d .i64 ((n:Nat):Int)
 | _,_=>[.ff]
def Xa(d:Option Nat):aC->List It
 | .slice _ _ c=>Jw d .i64 ((c:Nat):Int)
 | _=>[.ff]
def A15:Bool->aC->aC->aC
 | true,.int k r,.int _ y=>.int k (if y>r then y else r)
 | false,.int k r,.int _ y=>.int k (if y<r then y else r)
 | _,r,_=>r
def Yk(m:Bool)(r:aC):List aC->aC
 | []=>r
 | y::l=>Yk m (A15 m r y) l
def Yp:aC->IntKind
 | .int k _=>k
 | _=>.i64
def Yl(m:Bool)(d:Option Nat):List aC->List It
 | v::l=>[.put d (.v (Yk m v l))]
 | _=>[.ff]
def A47(f:Nat):Bool->Bool
 | true=>false
 | false=>Rx Wy f false
def Xb(Up:List Nat)(sl:Bool)(vs:List aC)(t:aE)(gr:Bool)(d:Option Nat):aC->List It
 | .func (.func f) ⟨a⟩ ⟨b⟩=>[.call (A47 f sl) f (a++(vs++b)) t (gr && !sl && !Rx Up f false) d]
 | .func (.yield l) _ _=>[.yc l vs t d]
 | _=>[.ff]
def A1e:aH->Bool
 | .tmp _=>true
 | _=>false
def A1t(x:GX)(e:En)(t:aE)(gr:Bool)(d:Option Nat):Callee->List aH->Array aE->List It
 | .value f,us,_=>Xb x.wr (A1e f) (Fv e us) t gr d (Kp e f)
 | .builtin .append,us,ts=>[.efV (Builtin.append_ ts t (aD (Fv e us))) t (gr && !Rx x.wr 1000000000 false) d]
 | .builtin .copy,us,ts=>[.efV (Builtin.copy_ ts t (aD (Fv e us))) t false d]
 | .builtin .len,us,ts=>Wx d (Cn (ts.toList.headD 0)).d (Ko (Fv e us))
 | .builtin .cap,us,_=>Xa d (Ko (Fv e us))
 | .builtin .max,us,_=>Yl true d (Fv e us)
 | .builtin .min,us,_=>Yl false d (Fv e us)
 | _,_,_=>[.ff]
def A0a:Option Nat->Nat
 | some d=>d
 | none=>0
def Rv(d:Option Nat)(cs:List aC)(s:Sem aC)(gr:Bool):Bool->List It
 | true=>[.al d cs]
 | false=>[.efP s gr d]
def A0z(d:Option Nat)(a b:SV):SV->List It
 | .b true=>[.put d a]
 | .b false=>[.put d b]
 | c=>[.br (A2p (Kn c)) [.put d a] [.put d b]]
def A18(w:Ow)(d:Option Nat)(zs:List aC)(ag:Bool)(n:Nat):SV->List It
 | .own k off=>[.put d (Rs ag off n (Rw w k))]
 | .v (.pointer (some a))=>[.ex zs [],.ld a ag d]
 | _=>[.ff]
def A14(d:Option Nat):SV->List It
 | .v (.pointer p)=>[.nc p d]
 | y=>[.put d y]
def A0m(d:Option Nat):UnOp->SV->List It
 | .not,.b b=>[.put d (.b (!b))]
 | .not,y=>Me d (!A2p (Kn y))
 | .neg,y=>Jw d (Yp (Kn y)) (Up (Yp (Kn y)) (0-A1d (Kn y)))
 | _,_=>[.ff]
def A1m(d:Option Nat)(i:Nat):aC->List It
 | .tuple ⟨vs⟩=>[.put d (.v (vs.getD i undef))]
 | _=>[.ff]
def A0q(w:Ow)(t:aE)(z:aC):SV->List It
 | .own k off=>[.st k (Ye (Rw w k) off (Ry z))]
 | y=>[.efU (Instr.storeAt t (Kn y) z)]
def A4a(x:GX)(e:En)(w:Ow)(gr:Bool)(t:aE)(d:Option Nat):Op->List It
 | .move y=>[.put d (Kq e y)]
 | .assign y=>[.put d (Kq e y)]
 | .pick c a b=>A0z d (Kq e a) (Kq e b) (Kq e c)
 | .load t y=>A18 w d (Cn t).zs (Cn t).ag (Bg t) (Kq e y)
 | .fieldAddr s y f=>A1k (Om (Pu (Cn s).d f)) d (Kq e y)
 | .nilCheck y=>A14 d (Kq e y)
 | .panic _=>[.ff]
 | .makeInterface _ _=>[.put d (.v undef)]
 | .indexAddr t y i=>A1c d (A1d (Kp e i)) (Cn t).d (Kq e y)
 | .index t y i=>A1f (A1d (Kp e i)) d (Cn t).d (Kp e y)
 | .slice t y l h m=>A0s d (Cn t).d (Kp e y) (Vk e l) (Vk e h) (Vk e m)
 | .binOp op t y z _=>A0p (Cn t).d d op (Kq e y) (Kq e z)
 | .unOp op _ y=>A0m d op (Kq e y)
 | .convert s t y=>A1r t s (Cn t).d (Kq e y) gr d (Yq (Cn s).d||Yq (Cn t).d)
 | .extract y i=>A1m d i (Kp e y)
 | .field s y f=>[.put d (Rs (Cn (Rt (Pu (Cn s).d f))).ag (Om (Pu (Cn s).d f)) (Bg (Rt (Pu (Cn s).d f))) (Ry (Kp e y)))]
 | .build t ps=>[.put d (.v (.agg (aD (Yx (Cn t).d (Cn t).zs (Vo e ps.toList)))))]
 | .makeFunc f a b=>[.put d (.v (.func f (aD (Fv e a.toList)) (aD (Fv e b.toList))))]
 | .call c=>A1t x e t gr d c.callee c.args.toList c.argTypes
 | .alloc t=>Rv d (Cn t).zs (Instr.alloc t true (.tuple #[])) gr (Rx x.own (A0a d) false)
 | .box t y=>Rv d (Ry (Kp e y)) (Instr.box t (Kp e y)) gr (Rx x.own (A0a d) false)
 | .store t y z=>A0q w t (Kp e z) (Kq e y)
 | .makeSlice t l c=>[.efV (Instr.makeSlice t (Kp e l) (Kp e c)) t gr d]
 | .buildSlice t n ps=>[.efV (Instr.buildSlice t n (aD (Vo e ps.toList))) t gr d]
 | _=>[.ff]
def Ys(n:Nat):Bool->List aC->aC
 | true,vs=>.agg (aD (vs.take n))
 | false,vs=>Ko vs
def Yt:List aE->List aC->List aC
 | [],_=>[]
 | t::r,vs=>Ys (Bg t) (Cn t).ag vs::Yt r (vs.drop (Bg t))
def Yc:List aE->List aC
 | []=>[]
 | t::r=>(Cn t).zs++Yc r
def A0t(zs:List aC):TD->List aC
 | .u ts=>Yc ts
 | _=>zs
def Ru(t:aE):List aC:=A0t (Cn t).zs (Cn t).d
def A0u(t:aE)(vs:List aC):TD->aC
 | .u ts=>.tuple (aD (Yt ts vs))
 | _=>Ys (Bg t) (Cn t).ag vs
def Au(x:SV)(e:En):Option Nat->En
 | some d=>(d,x)::e
 | none=>e
def Vm:List Nat->List aC->En->En
 | s::r,v::vs,e=>(s,.v v)::Vm r vs e
 | _,_,e=>e
def Vl:List (Nat × Nat)->List aC->Ow->Ow
 | [],_,w=>w
 | (k,n)::r,vs,w=>(k,vs.take n)::Vl r (vs.drop n) w
def Yo(e:En):List Nat->List aC
 | []=>[]
 | s::r=>Kn (Ps e s)::Yo e r
def Yn(w:Ow):List (Nat × Nat)->List aC
 | []=>[]
 | (k,_)::r=>Rw w k++Yn w r
def A1a(ann:Ann)(e:En)(w:Ow):List aC:=Yo e ann.slots++Yn w ann.owns
def A2m(id:Nat):List It->Bool->List It
 | l,true=>l
 | [],false=>[]
 | .blk j::r,false=>A2m id r (j==id)
 | _::r,false=>A2m id r false
def A35(rs:List ResultVar):List It->List It
 | []=>[.re rs []]
 | .rn _ JR::_=>[.rt JR]
 | _::r=>A35 rs r
def A13(k:Nat)(e:En):SV->En
 | .own _ _=>e
 | x=>(k,x)::e
def Vi:En->En
 | []=>[]
 | (k,x)::r=>A13 k (Vi r) x
def A1g:List aF->List aF
 | o::_=>[o]
 | []=>[]
def Nh(l:List aF):List Nat->List aF
 | []=>[]
 | i::r=>A1g (l.drop i)++Nh l r
def Vn(o:aF)(gr:Bool):Bool->Bool->List It
 | true,true=>[.o [] [o] gr]
 | false,false=>[.o [] [o] gr]
 | _,_=>[.put o.dst (.v undef)]
def Yg:List aF->Nat
 | o::_=>A0a o.dst
 | []=>0
def Yi:List Nat->List aC->En->En
 | s::r,v::vs,e=>Yi r vs ((s,.v v)::e)
 | _,_,e=>e
def Yh(n:Nat):List aF->List Nat
 | []=>[]
 | _::r=>n::Yh (n+1) r
def A12(ops:List aF):Option (List Nat × List (List Nat))->List Nat
 | some (l,_)=>l
 | none=>Yh 0 ops
def A1h:Op->Bool
 | .store _ _ _=>false
 | _=>true
def A1j(gs:Nat)(want:Bool)(o:aF)(gr:Bool):SV->List It
 | .b b=>Vn o gr b want
 | .v (.bool t)=>[.gd t gs want o gr]
 | _=>[.put o.dst (.v undef)]
def A11(x:GX)(e:En)(w:Ow)(ops:List aF)(gr:Bool):aF->List It
 | ⟨d,op,t,_,_,none⟩=>A4a x e w (gr&&A1h op) t d op
 | ⟨d,op,t,p,a,some (j,want)⟩=>A1j (Yg (ops.drop j)) want ⟨d,op,t,p,a,none⟩ gr (Ps e (Yg (ops.drop j)))
def A0w(ops:List aF)(o:Option (List Nat × List (List Nat))):Option (List (Nat × List Nat))->List It
 | none=>match o with
  | none=>[.o ops ops true]
  | some (l,_)=>[.o ops (Nh ops l) true]
 | some al=>[.a ops (Yv [] ops) al (A12 ops o)]
def A0v(fa:FnAnn)(id:Nat)(ops:List aF):Bool->List It
 | false=>[.o ops ops false]
 | true=>A0w ops (A09 fa.orders id false none) (A09 fa.alts id false none)
def A0r(a b:aG):Option Ann->List It
 | none=>[.c a,.c b]
 | some ann=>[.cu ann a b]
def A1s(a b:aG):SV->List It
 | .b true=>[.c a]
 | .b false=>[.c b]
 | c=>[.br (A2p (Kn c)) [.c a] [.c b]]
def A17(b:aG):Option Ann->List It
 | none=>[.ff]
 | some ann=>[.lp ann b]
def A0x(g:aC)(ps:List Nat)(asg body:aG):Option (List aC)->Option (List aC)->List It
 | some zs,none=>[.rf false g zs ps asg body]
 | some zs,some _=>[.rf true g zs ps asg body]
 | _,_=>[.ff]
def A4c(x:GX)(e:En):aG->List It
 | .skip=>[]
 | .region id ops dr=>A0v x.fa id ops.toList dr
 | .seq a b=>A0r a b (A1l x.fa.cuts (Qt b))
 | .cond c a b=>A1s a b (Kq e c)
 | .block id b=>[.c b,.blk id]
 | .loop b=>A17 b (A1l x.fa.loops (Qt b))
 | .rangeFunc g ps asg body=>A0x (Kp e g) ps.toList asg body (A1l x.fa.rounds (Qt body)) (A1l x.fa.rounds (A48 1000000 (Qt body)))
 | .scope b=>[.c b]
 | .label _=>[]
 | _=>[.ff]
def A0y(rs:List ResultVar)(w:Ow)(vs:List aC)(ag:Bool)(n:Nat)(zs:List aC):SV->List It
 | .own k off=>[.re rs (vs++[Kn (Rs ag off n (Rw w k))])]
 | .v (.pointer (some p))=>[.ex zs [],.rc rs vs p ag]
 | _=>[.ff]
def J5:Nat->GX->List It->En->Ow->Heap->Prop
 | 0,_,_,_,_,_=>True
 | n+1,x,[],e,w,h=>J5 n x [.re x.rs []] e w h
 | n+1,x,.c (.exit id)::it,e,w,h=>J5 n x (A2m id it false) e w h
 | n+1,x,.c .ret::it,e,w,h=>J5 n x (A35 x.rs it) e w h
 | n+1,x,.c c::it,e,w,h=>J5 n x (A4c x e c++it) e w h
 | n+1,x,.cu ann a b::it,e,w,h=>∃ J:LP,J5 n x (.c a :: .ct ann J::it) e w h/\J5 n x (.fa ann.zs [] :: .ch ann J b::it) e w h
 | n+1,x,.lp ann b::it,e,w,h=>∃ (Inv:LP) (mu:LN),Inv (A1a ann e w) h/\J5 n x (.fa ann.zs [] :: .lh ann Inv mu b::it) e w h
 | n+1,x,.rf false g zs ps asg body::it,e,w,h=>Uj prog g h (fun args h1 J=>J5 n x [.ex zs [],.rd args ps asg body J none] (Vi e) [] h1) (fun h2=>J5 n x it e w h2)
 | n+1,x,.rf true g zs ps asg body::it,e,w,h=>Ui prog g h (fun args h1 J JR=>J5 n x [.ex zs [],.rd args ps asg body J (some JR)] (Vi e) [] h1) (fun h2=>J5 n x it e w h2) (fun h2=>J5 n x (.c .ret::it) e w h2)
 | n+1,x,.o _ [] _::it,e,w,h=>J5 n x it e w h
 | n+1,x,.o ops (o::l) gr::it,e,w,h=>J5 n x (A11 x e w ops gr o ++ .o ops l gr::it) e w h
 | n+1,x,.a _ _ _ []::it,e,w,h=>J5 n x it e w h
 | n+1,x,.a ops anc al (j::L)::it,e,w,h=>J5 n x (.an ops anc al j L (Yy j anc L (A49 (A09 al j false none)))::it) e w h
 | n+1,x,.an ops anc al j L []::it,e,w,h=>J5 n x (.o ops (Nh ops [j]) true :: .a ops anc al L::it) e w h
 | n+1,x,.an ops anc al j L (i::r)::it,e,w,h=>J5 n x (.o ops (Nh ops [j]) true :: .a ops anc al L::it) e w h/\J5 n x (.ar ops anc al j L i r::it) e w h
 | n+1,x,.ar ops anc al j L i []::it,e,w,h=>J5 n x (.o ops (Nh ops [i]) true :: .a ops anc al (j::A2o i L)::it) e w h
 | n+1,x,.ar ops anc al j L i (k::r)::it,e,w,h=>J5 n x (.o ops (Nh ops [i]) true :: .a ops anc al (j::A2o i L)::it) e w h/\J5 n x (.ar ops anc al j L k r::it) e w h
 | n+1,x,.gd t gs want o gr::it,e,w,h=>Br t (J5 n x (Vn o gr true want++it) ((gs,.b true)::e) w h) (J5 n x (Vn o gr false want++it) ((gs,.b false)::e) w h)
 | n+1,x,.blk _::it,e,w,h=>J5 n x it e w h
 | n+1,x,.put d y::it,e,w,h=>J5 n x it (Au y e d) w h
 | n+1,x,.br t A B::it,e,w,h=>Br t (J5 n x (A++it) e w h) (J5 n x (B++it) e w h)
 | _+1,_,.ff::_,_,_,_=>False
 | n+1,x,.nc p d::it,e,w,h=>∃ a,p=some a/\J5 n x it (Au (.v (.pointer (some a))) e d) w h
 | n+1,x,.ix A m i c d::it,e,w,h=>∃ a,A=some a/\0<=i/\i<(m:Int)/\J5 n x it (Au (.v (.pointer (some (a.add (i.toNat*c))))) e d) w h
 | n+1,x,.iy s i d::it,e,w,h=>∃ c:UInt8,(0<=i/\s[i.toNat]? = some c)/\J5 n x it (Au (.v (.int .u8 c.toNat)) e d) w h
 | n+1,x,.cd p::it,e,w,h=>p/\J5 n x it e w h
 | n+1,x,.al d cs::it,e,w,h=>J5 n x it (Au (.own (A0a d) 0) e d) ((A0a d,cs)::w) h
 | n+1,x,.st k cs::it,e,w,h=>J5 n x it e ((k,cs)::w) h
 | n+1,x,.ex (.int k _::zs) acc::it,e,w,h=>∃ i:Int,J5 n x (.ex zs (acc++[.int k i])::it) e w h
 | n+1,x,.ex (.bool _::zs) acc::it,e,w,h=>∃ b:Bool,J5 n x (.ex zs (acc++[.bool b])::it) e w h
 | n+1,x,.ex (.string _::zs) acc::it,e,w,h=>∃ s:ByteArray,J5 n x (.ex zs (acc++[.string s])::it) e w h
 | n+1,x,.ex (.slice _ _ _::zs) acc::it,e,w,h=>∃ (A:Option Addr) (m c:Nat),J5 n x (.ex zs (acc++[.slice A m c])::it) e w h
 | n+1,x,.ex (.pointer _::zs) acc::it,e,w,h=>∃ p:Option Addr,J5 n x (.ex zs (acc++[.pointer p])::it) e w h
 | n+1,x,.ex (_::zs) acc::it,e,w,h=>∃ v:aC,J5 n x (.ex zs (acc++[v])::it) e w h
 | n+1,x,.fa (.int k _::zs) acc::it,e,w,h=>∀ i:Int,J5 n x (.fa zs (acc++[.int k i])::it) e w h
 | n+1,x,.fa (.bool _::zs) acc::it,e,w,h=>∀ b:Bool,J5 n x (.fa zs (acc++[.bool b])::it) e w h
 | n+1,x,.fa (.string _::zs) acc::it,e,w,h=>∀ s:ByteArray,J5 n x (.fa zs (acc++[.string s])::it) e w h
 | n+1,x,.fa (.slice _ _ _::zs) acc::it,e,w,h=>∀ (A:Option Addr) (m c:Nat),J5 n x (.fa zs (acc++[.slice A m c])::it) e w h
 | n+1,x,.fa (.pointer _::zs) acc::it,e,w,h=>∀ p:Option Addr,J5 n x (.fa zs (acc++[.pointer p])::it) e w h
 | n+1,x,.fa (_::zs) acc::it,e,w,h=>∀ v:aC,J5 n x (.fa zs (acc++[v])::it) e w h
 | n+1,x,.fa [] vs :: .lh ann Inv mu b::it,e,w,_=>∀ h,Inv vs h->J5 n x (.c b :: .le ann Inv mu vs h::it) (Vm ann.slots vs e) (Vl ann.owns (vs.drop ann.slots.length) w) h
 | n+1,x,.fa [] vs :: .ch ann J b::it,e,w,_=>∀ h,J vs h->J5 n x (.c b::it) (Vm ann.slots vs e) (Vl ann.owns (vs.drop ann.slots.length) w) h
 | _+1,_,.le ann Inv mu vs h0::_,e,w,h=>Inv (A1a ann e w) h/\mu (A1a ann e w) h<mu vs h0
 | _+1,_,.ct ann J::_,e,w,h=>J (A1a ann e w) h
 | n+1,x,.ex [] vs :: .ld a true d::it,e,w,h=>cellsAt h a 0 vs (J5 n x it (Au (.v (.agg (aD vs))) e d) w h)
 | n+1,x,.ex [] vs :: .ld a false d::it,e,w,h=>h.cell? a=some (Ko vs)/\J5 n x it (Au (.v (Ko vs)) e d) w h
 | n+1,x,.ex [] vs :: .rs r h0 gr t d::it,e,w,h=>J5 n x (.rs1 r h0 gr (A0u t vs (Cn t).d) d::it) e w h
 | n+1,x,.rs1 r h0 gr v d::it,e,w,h=>r=v/\Grow gr h0 h (J5 n x it (Au (.v v) e d) w h)
 | n+1,x,.ex [] vs :: .rd args ps asg body J JR::_,e,w,h=>args=vs/\J5 n x [.c asg,.c body,.rn J JR] (Yi ps vs e) w h
 | n+1,x,.ex [] vs :: .rc rs us a true::it,e,w,h=>cellsAt h a 0 vs (J5 n x (.re rs (us++[.agg (aD vs)])::it) e w h)
 | n+1,x,.ex [] vs :: .rc rs us a false::it,e,w,h=>h.cell? a=some (Ko vs)/\J5 n x (.re rs (us++vs)::it) e w h
 | _+1,_,.rn J _::_,_,_,h=>J h
 | _+1,_,.rt (some J)::_,_,_,h=>J h
 | _+1,_,.rt none::_,_,_,_=>False
 | n+1,x,.efV s t gr d::it,e,w,h=>wpH prog s (fun v h'=>J5 n x (.ex (Ru t) [] :: .rs v h gr t d::it) e w h') h
 | n+1,x,.efP s gr d::it,e,w,h=>wpH prog s (fun v h'=>∃ a:Addr,v= .pointer (some a)/\Grow gr h h' (J5 n x it (Au (.v (.pointer (some a))) e d) w h')) h
 | n+1,x,.efU s::it,e,w,h=>wpH prog s (fun _ h'=>J5 n x it e w h') h
 | n+1,x,.call false f us t gr d::it,e,w,h=>FCall prog f (aD us) h fun r h'=>J5 n x (.ex (Ru t) [] :: .rs r h gr t d::it) e w h'
 | n+1,x,.call true f us t gr d::it,e,w,h=>ECall prog f (aD us) h fun r h'=>J5 n x (.ex (Ru t) [] :: .rs r h gr t d::it) e w h'
 | n+1,x,.yc l us t d::it,e,w,h=>YCall prog l (aD us) h fun r h'=>J5 n x (.ex (Ru t) [] :: .rs r h false t d::it) e w h'
 | _+1,x,.re [] vs::_,_,_,h=>x.K (Dk vs) h
 | n+1,x,.re (.tmp t::rs) vs::it,e,w,h=>J5 n x (.re rs (vs++[Kn (Ps e t)])::it) e w h
 | n+1,x,.re (.cell a t::rs) vs::it,e,w,h=>J5 n x (A0y rs w vs (Cn t).ag (Bg t) (Cn t).zs (Ps e a)++it) e w h
 | _+1,_,_,_,_,_=>False
def Gen(_ _:Prop):Prop:=True
def A4j{a:Prop}:Gen a a:=trivial
