/- A part. -/
import Derived.Test.YteppbhimdjmabaaGreatDoorG00
import Derived.RangeFuncLeaves
set_option linter.all false
open Nat renaming beq->aJ
open _root_ renaming Nat->J,List->Z
open _root_.Go renaming Program->aC,Value->aE,TypeId->aH,Oper->aI
open _root_.Go.Proofs.YteppbhimdjmabaaGreatDoor renaming Heap->aF
namespace Go.Proofs.YteppbhimdjmabaaGreatDoor
open Go
inductive AVal where
 | val (v:aE)
 | own (k off:J)
 | any
structure VS where
 env:J->AVal
 own:J->Option (Z aE)
def VS.put(st:VS)(d:J)(v:AVal):VS:={ env:=fun i=>bif aJ i d then v else st.env i,own:=st.own }
def VS.putO(st:VS)(d:Option J)(v:AVal):VS:=
 match d with
 |some d=>st.put d v
 |none=>st
def VS.setOwn(st:VS)(k:J)(cs:Z aE):VS:={ env:=st.env,own:=fun i=>bif aJ i k then some cs else st.own i }
structure Lim where
 slots:Z J
 keys:Z J
structure Cfg where
 n:J
 own:Z J
 lim:Option Lim
 fns:Z J
 wr:Z J
 inr:Bool:=false
def has(l:Z J)(d:J):Bool:=l.any (aJ d)
def C56(lim:Option Lim)(d:J):Bool:=
 match lim with
 |none=>true
 |some l=>has l.slots d
def A4j(lim:Option Lim)(d:J):Bool:=
 match lim with
 |none=>true
 |some l=>has l.keys d
def A4h(cfg:Cfg)(d:J):Bool:=Nat.blt d cfg.n&&C56 cfg.lim d
def V4(cfg:Cfg)(d:Option J):Bool:=
 match d with
 |none=>true
 |some d=>A4h cfg d
def D6(st:VS):Operand->AVal
 |.tmp t=>st.env t
 |.const v=>.val v
 |.global g=>.val (.pointer (some ⟨g,0,none⟩))
 |.func f=>.val (.func (.func f) #[] #[])
def AVal.isVal:AVal->Bool
 |.val _=>true
 |_=>false
def AVal.toV:AVal->aE
 |.val v=>v
 |_=>undef
def rho(st:VS)(x:Operand):aE:=(D6 st x).toV
def T9(st:VS)(xs:Z Operand):Bool:=xs.all fun x=>(D6 st x).isVal
def Sh(P:aC)(t:aH):aE:=
 match P.info? t with
 |some i=>i.zero.getD undef
 |none=>undef
def Pj(P:aC)(t:aH):Option Bool:=
 match P.underlying t with
 |some (.struct _)|some (.array _ _)=>some true
 |some _=>some false
 |none=>none
def When(b:Bool)(A:Prop):Prop:=match b with|true=>A|false=>False
def cellsAt(h:aF)(a:Addr)(j:J):Z aE->Prop->Prop
 | [],X=>X
 |v::vs,X=>h.cell? (a.add j)=some v/\cellsAt h a (j+1) vs X
def Aj(P:aC)(t:aH)(a:Addr)(h:aF)(C:AVal->Prop):Prop:=
 match Pj P t with
 |some true=>
  match Sh P t with
  |.agg zs=>When (aJ zs.size (P.cellsOf t)) (exL zs.toList fun b=>cellsAt h a 0 b (C (.val (.agg b.toArray))))
  |_=>False
 |some false=>exV (Sh P t) fun v=>h.cell? a=some v/\C (.val v)
 |none=>False
def Af(P:aC)(t:aH)(cs:Z aE)(off:J)(C:AVal->Prop):Prop:=
 match Pj P t with
 |some true=>When ((P.info? t).isSome&&Nat.ble (off+P.cellsOf t) cs.length) (C (.val (.agg ((cs.drop off).take (P.cellsOf t)).toArray)))
 |some false=>
  match cs[off]? with
  |some v=>C (.val v)
  |none=>False
 |none=>False
def X9(A:Option Addr)(m l size:J):Option Addr:=if m=l then A else A.map (·.add (l*size))
def slBound(v:Option AVal)(dflt y:J)(C:J->Prop):Prop:=
 match v with
 |none=>C dflt
 |some (.val (.int _ i))=>(0<=i/\i<=(y:Int))/\C i.toNat
 |_=>False
def Nt(P:aC)(o:aI)(st:VS)(C:AVal->Prop):Prop:=
 match T9 st o.op.operands.toList with
 |true=>
  match Rb P (execOp (rho st) o)with
  |some (.value v)=>C (.val v)
  |_=>False
 |false=>False
def Gu(P:aC)(t:aH)(x:AVal)(lo hi:Option AVal)(C:AVal->Prop):Prop:=
 match P.underlying t,x with
 |some .string,.val (.string s)=>
  slBound hi s.size s.size fun h=>slBound lo 0 h fun l=>C (.val (.string (s.extract l h)))
 |some (.slice e),.val (.slice A n c)=>
  When (P.info? e).isSome (slBound hi n c fun h=>slBound lo 0 h fun l=>C (.val (.slice (X9 A c l (P.cellsOf e)) (h-l) (c-l))))
 |some (.array n e),.val (.pointer (some a))=>
  When (P.info? e).isSome (slBound hi n n fun h=>slBound lo 0 h fun l=>C (.val (.slice (X9 (some a) n l (P.cellsOf e)) (h-l) (n-l))))
 |_,_=>False
def Ns(P:aC)(t:aH)(x lo hi mx:AVal)(C:AVal->Prop):Prop:=
 match P.underlying t,x,lo,hi,mx with
 |some (.slice e),.val (.slice A _ c),.val (.int _ l),.val (.int _ h),.val (.int _ m)=>
  When (P.info? e).isSome ((0<=m/\m<=(c:Int))/\(0<=h/\h<=(m.toNat:Int))/\(0<=l/\l<=(h.toNat:Int))/\C (.val (.slice (X9 A m.toNat l.toNat (P.cellsOf e)) (h.toNat-l.toNat) (m.toNat-l.toNat))))
 |_,_,_,_,_=>False
def Ku(P:aC)(t:aH):Bool:=
 match P.underlying t with
 |some (.slice _)=>true
 |_=>false
def C6f(P:aC)(f:Field)(xs ys:Array aE):Option Bool:=
 match P.underlying f.type,xs[f.offset]?,ys[f.offset]? with
 |some .string,some (.string a),some (.string b)=>
  match f.name == "_" with
  |true=>none
  |false=>some (a.toList==b.toList)
 |_,_,_=>none
def B63(P:aC):Z Field->Array aE->Array aE->Option Bool
 | [],_,_=>some true
 |f::fs,xs,ys=>
  match C6f P f xs ys,B63 P fs xs ys with
  |some a,some b=>some (a&&b)
  |_,_=>none
def A2r(P:aC)(t:aH)(xs ys:Array aE)(C:Bool->Prop):Prop:=
 match P.underlying t with
 |some (.struct fs)=>
  When (!(P.stoodInHeld t) && !(P.eqGuardType P.depth t))
   (match B63 P fs.toList xs ys with
   |some b=>C b
   |none=>False)
 |_=>False
def Ky(P:aC)(o:aI)(st:VS)(op:BinOp)(t:aH)(x y:AVal)(C:AVal->Prop):Prop:=
 match op,x,y with
 |.eql,.val (.agg xs),.val (.agg ys)=>A2r P t xs ys fun b=>C (.val (.bool b))
 |.neq,.val (.agg xs),.val (.agg ys)=>A2r P t xs ys fun b=>C (.val (.bool (!b)))
 |.eql,.val (.slice A _ _),.val (.slice none _ _)=>When (Ku P t) (C (.val (.bool A.isNone)))
 |.neq,.val (.slice A _ _),.val (.slice none _ _)=>When (Ku P t) (C (.val (.bool (!A.isNone))))
 |.quo,.val (.int k a),.val (.int k' b)=>When (k==k') (Br (decide (b=0)) False (C (.val (.int k (k.wrap (a.tdiv b))))))
 |.rem,.val (.int k a),.val (.int k' b)=>When (k==k') (Br (decide (b=0)) False (C (.val (.int k (a.tmod b)))))
 |.shl,.val (.int k a),.val (.int _ b)=>Br (decide (b<0)) False (C (.val (.int k (k.wrap (a*2^(min b.toNat k.bits))))))
 |.shr,.val (.int k a),.val (.int _ b)=>Br (decide (b<0)) False (C (.val (.int k (a.fdiv (2^(min b.toNat k.bits))))))
 |.add,.val (.string a),.val (.string b)=>((a.size+b.size:J):Int)<=9223372036854775807/\C (.val (.string (a++b)))
 |_,_,_=>Nt P o st C
def S5(P:aC)(t:aH)(x i:AVal)(C:AVal->Prop):Prop:=
 match P.underlying t,x,i with
 |some (.array len e),.own k off,.val (.int _ n)=>When (P.info? e).isSome<|Br (decide (0<=n/\n<(len:Int))) (C (.own k (off+n.toNat*P.cellsOf e))) False
 |some (.array len e),.val (.pointer (some a)),.val (.int _ n)=>When (P.info? e).isSome<|(0<=n/\n<(len:Int))/\C (.val (.pointer (some (a.add (n.toNat*P.cellsOf e)))))
 |some (.slice e),.val (.slice A n _),.val (.int _ i)=>When (P.info? e).isSome <| ∃a,A=some a/\0<=i/\i<(n:Int)/\C (.val (.pointer (some (a.add (i.toNat*P.cellsOf e)))))
 |_,_,_=>False
def vcQ(P:aC)(o:aI)(st:VS)(h:aF)(C:AVal->Prop):Prop:=
 match o.op with
 |.move x |.assign x=>C (D6 st x)
 |.pick c a b=>
  match D6 st c with
  |.val (.bool t)=>Br t (C (D6 st a)) (C (D6 st b))
  |_=>False
 |.load t x=>
  match D6 st x with
  |.own k off=>
   match st.own k with
   |some cs=>Af P t cs off C
   |none=>False
  |.val (.pointer (some a))=>Aj P t a h C
  |_=>False
 |.fieldAddr s x f=>
  match D6 st x with
  |.own k off=>
   match P.underlying s with
   |some (.struct fs)=>
    match fs[f]? with
    |some f=>When ((P.info? f.type).isSome&&Nat.blt 0 (P.cellsOf f.type)) (C (.own k (off+f.offset)))
    |none=>False
   |_=>False
  |.val (.pointer (some a))=>
   match P.underlying s with
   |some (.struct fs)=>
    match fs[f]? with
    |some f=>When ((P.info? f.type).isSome&&Nat.blt 0 (P.cellsOf f.type)) (C (.val (.pointer (some (a.add f.offset)))))
    |none=>False
   |_=>False
  |_=>False
 |.nilCheck x=>
  match D6 st x with
  |.own k off=>C (.own k off)
  |.val (.pointer p)=>∃a,p=some a/\C (.val (.pointer (some a)))
  |_=>False
 |.indexAddr t x i=>S5 P t (D6 st x) (D6 st i) C
 |.index t x i=>
  match P.underlying t,D6 st x,D6 st i with
  |some .string,.val (.string s),.val (.int _ i)=>∃c:UInt8,(0<=i/\s[i.toNat]? = some c)/\C (.val (.int .u8 c.toNat))
  |_,_,_=>Nt P o st C
 |.slice t x lo hi none=>Gu P t (D6 st x) (lo.map (D6 st)) (hi.map (D6 st)) C
 |.slice t x (some lo) (some hi) (some mx)=>Ns P t (D6 st x) (D6 st lo) (D6 st hi) (D6 st mx) C
 |.binOp op t x y _=>Ky P o st op t (D6 st x) (D6 st y) C
 |.panic _=>False
 |_=>Nt P o st C
def Grow(gr:Bool)(h h':aF)(X:Prop):Prop:=
 match gr with
 |true=>h.le h'/\X
 |false=>X
def exRt(P:aC)(t:aH)(K:aE->Prop):Prop:=
 match P.underlying t with
 |some (.tuple ts)=>exTs (ts.toList.map (Sh P)) fun a=>K (.tuple a.toArray)
 |_=>exT (Sh P t) K
def effV(P:aC)(s:Sem aE)(o:aI)(gr:Bool)(st:VS)(h:aF)(K:VS->aF->Prop):Prop:=wpH P s (fun v a=>exT (Sh P o.type) fun u=>v=u/\Grow gr h a (K (st.putO o.dst (.val u)) a)) h
def effP(P:aC)(s:Sem aE)(o:aI)(gr:Bool)(st:VS)(h:aF)(K:VS->aF->Prop):Prop:=wpH P s (fun v b=>∃a:Addr,v= .pointer (some a)/\Grow gr h b (K (st.putO o.dst (.val (.pointer (some a)))) b)) h
def effU(P:aC)(s:Sem Unit)(o:aI)(gr:Bool)(st:VS)(h:aF)(K:VS->aF->Prop):Prop:=wpH P s (fun _ a=>Grow gr h a (K (st.putO o.dst (.val undef)) a)) h
def J0(cs:Z aE)(off:J)(vs:Z aE):Z aE:=cs.take off++vs++cs.drop (off+vs.length)
def C4t(vs:Z aE):Bool:=vs.all Qj
def B1e(P:aC)(t:aH):Bool:=
 match P.info? t with
 |some i=>i.zero.isSome
 |none=>false
def Pi(cfg:Cfg)(d:Option J):Bool:=
 match d with
 |some d=>has cfg.own d
 |none=>false
def Ir(cfg:Cfg)(d:Option J)(cells:Z aE)(st:VS)(h:aF)(K:VS->aF->Prop):Prop:=
 match d with
 |some d=>When (A4h cfg d&&A4j cfg.lim d&&(st.own d).isNone) (K ((st.put d (.own d 0)).setOwn d cells) h)
 |none=>False
def Vk(P:aC)(o:aI):Bool:=
 match o.op with
 |.alloc _ |.box _ _ |.store _ _ _ |.makeSlice _ _ _ |.buildSlice _ _ _ |.select _ _ |.defer _=>false
 |.convert s d _=>!(Ku P s||Ku P d)
 |.call c=>
  match c.callee with
  |.builtin .len |.builtin .cap |.builtin .max |.builtin .min=>true
  |_=>false
 |_=>true
def YCall(P:aC)(l:J)(args:Array aE)(h:aF)(K:VP):Prop:=∀W,Sim h W->∃fn tmps asg body,(Instr.yield l args).run P W= .ok (.round l fn tmps asg body) W/\∀n,RoundIn Fence.wide n P l fn tmps asg body W fun e W'=>∃r h',e= .returned r/\K r h'/\Fr h W h' W'
def YCall.mono{P:aC}{l:J}{args:Array aE}{h:aF}{K K':VP}(x:YCall P l args h K)(hk:∀r h',K r h'->K' r h'):YCall P l args h K':=fun W hs=>by obtain⟨fn,b,c,a,g,f⟩:=x W hs;exact⟨fn,b,c,a,g,fun n=>(f n).mono fun _ _ ⟨r,h',e,i,d⟩=>⟨r,h',e,hk r h' i,d⟩⟩
def A9d(P:aC)(g:aE)(h:aF)(B:Z aE->aF->(aF->Prop)->Prop)(K:aF->Prop):Prop:=∃(f:FuncId) (first captured:Array aE),g= .func (.func f) first captured/\(∀args W,(callFunc f args).run P W= .ok (.enter f args) W)/\∀l rec,h l=none-> (∀args h1 jq9,h1 l=none->B args h1 jq9->YCall P l args.toArray (h1.put l (.loop rec)) fun r a=>r= .bool true/\∃h3,h3 l=none/\a=h3.put l (.loop rec)/\jq9 h3)-> FCall P f (first ++ #[.func (.yield l) #[] #[]]++captured) (h.put l (.loop rec)) fun _ a=>∃h3,h3 l=none/\a=h3.put l (.loop rec)/\K h3
def A86(r:Loop):Loop:={ r with state:=.done,pending:=some .ret }
def A9c(P:aC)(g:aE)(h:aF)(B:Z aE->aF->(aF->Prop)->(aF->Prop)->Prop)(K KR:aF->Prop):Prop:=∃(f:FuncId) (first captured:Array aE),g= .func (.func f) first captured/\(∀args W,(callFunc f args).run P W= .ok (.enter f args) W)/\∀l rec,h l=none-> (∀args h1 jq9 JR,h1 l=none->B args h1 jq9 JR->YCall P l args.toArray (h1.put l (.loop rec)) fun r a=>∃h3,h3 l=none/\((r= .bool true/\a=h3.put l (.loop rec)/\jq9 h3)\/(r= .bool false/\a=h3.put l (.loop (A86 rec))/\JR h3)))-> FCall P f (first ++ #[.func (.yield l) #[] #[]]++captured) (h.put l (.loop rec)) fun _ a=>∃h3,h3 l=none/\((a=h3.put l (.loop rec)/\K h3)\/(a=h3.put l (.loop (A86 rec))/\KR h3))
def A7s(P:aC)(cfg:Cfg)(o:aI)(c:Call)(f:AVal)(gr:Bool)(st:VS)(h:aF)(K:VS->aF->Prop):Prop:=
 match f with
 |.val (.func (.func g) first captured)=>
  match has cfg.fns g with
  |true=>When (T9 st c.args.toList) (FCall P g (first++c.args.map (rho st)++captured) h fun r a=>exRt P o.type fun v=>r=v/\Grow gr h a (K (st.putO o.dst (.val v)) a))
  |false=>When (T9 st c.args.toList) (ECall P g (first++c.args.map (rho st)++captured) h fun r a=>exRt P o.type fun v=>r=v/\Grow gr h a (K (st.putO o.dst (.val v)) a))
 |.val (.func (.yield l) first _)=>When (T9 st c.args.toList) (YCall P l (first++c.args.map (rho st)) h fun r a=>exRt P o.type fun v=>r=v/\Grow gr h a (K (st.putO o.dst (.val v)) a))
 |_=>False
def A5x(P:aC)(cfg:Cfg)(o:aI)(t:aH)(a x:Operand)(gr:Bool)(st:VS)(h:aF)(K:VS->aF->Prop):Prop:=
 match D6 st a with
 |.own k off=>
  match st.own k with
  |some cs=>
   When ((D6 st x).isVal&&A4j cfg.lim k&&(P.info? t).isSome&&aJ (rho st x).cells.size (P.cellsOf t)&&Nat.ble (off+P.cellsOf t) cs.length&&C4t (rho st x).cells.toList)
    (K ((st.setOwn k (J0 cs off (rho st x).cells.toList)).putO o.dst (.val undef)) h)
  |none=>False
 |.val p=>When (D6 st x).isVal (effU P (Instr.storeAt t p (rho st x)) o gr st h K)
 |.any=>False
def Ab(P:aC)(cfg:Cfg)(o:aI)(gr:Bool)(st:VS)(h:aF)(K:VS->aF->Prop):Prop:=
 When (V4 cfg o.dst) <|
 match Vk P o with
 |true=>vcQ P o st h fun v=>K (st.putO o.dst v) h
 |false=>
  match o.op with
  |.alloc t=>
   match Pi cfg o.dst with
   |true=>When (B1e P t) (Ir cfg o.dst (Sh P t).cells.toList st h K)
   |false=>effP P (Instr.alloc t true (.tuple #[])) o gr st h K
  |.box t x=>
   When (D6 st x).isVal <|
   match Pi cfg o.dst with
   |true=>Ir cfg o.dst (rho st x).cells.toList st h K
   |false=>effP P (Instr.box t (rho st x)) o gr st h K
  |.store t a x=>A5x P cfg o t a x gr st h K
  |.makeSlice t l c=>When (T9 st [l,c]) (effV P (Instr.makeSlice t (rho st l) (rho st c)) o gr st h K)
  |.buildSlice t n ps=>When (T9 st (ps.toList.map (·.2))) (effV P (Instr.buildSlice t n (ps.map fun(i,x)=>(i,rho st x))) o gr st h K)
  |.convert s d x=>When (T9 st [x]) (effV P (convert s d (rho st x)) o gr st h K)
  |.call c=>
   match c.callee with
   |.value f=>A7s P cfg o c (D6 st f) gr st h K
   |.builtin .append=>When (T9 st c.args.toList) (effV P (Builtin.append_ c.argTypes o.type (c.args.map (rho st))) o gr st h K)
   |.builtin .copy=>When (T9 st c.args.toList) (effV P (Builtin.copy_ c.argTypes o.type (c.args.map (rho st))) o gr st h K)
   |_=>False
  |_=>False
def Sj(P:aC)(cfg:Cfg)(ops:Array aI)(o:aI)(gr:Bool)(st:VS)(h:aF)(K:VS->aF->Prop):Prop:=
 match o.guard with
 |none=>Ab P cfg o gr st h K
 |some (j,want)=>
  match (ops[j]?).bind (·.dst)with
  |none=>False
  |some g=>
   match st.env g with
   |.val (.bool b)=>
    Br b
     (match want with
      |true=>Ab P cfg o gr (st.put g (.val (.bool true))) h K
      |false=>When (V4 cfg o.dst) (K ((st.put g (.val (.bool true))).putO o.dst (.val undef)) h))
     (match want with
      |true=>When (V4 cfg o.dst) (K ((st.put g (.val (.bool false))).putO o.dst (.val undef)) h)
      |false=>Ab P cfg o gr (st.put g (.val (.bool false))) h K)
   |.val (.tuple _)=>When (V4 cfg o.dst) (K (st.putO o.dst (.val undef)) h)
   |_=>False
def B5p(P:aC)(cfg:Cfg)(ops:Array aI)(gr:Bool):Z J->VS->aF->(VS->aF->Prop)->Prop
 | [],st,h,K=>K st h
 |i::is,st,h,K=>
  match ops[i]? with
  |none=>False
  |some o=>Sj P cfg ops o gr st h fun st' h'=>B5p P cfg ops gr is st' h' K
