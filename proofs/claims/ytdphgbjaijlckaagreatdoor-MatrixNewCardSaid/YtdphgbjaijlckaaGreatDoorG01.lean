/- A part. -/
import Derived.Test.YtdphgbjaijlckaaGreatDoorG00
import Derived.RangeFuncLeaves
set_option linter.all false
open Nat renaming beq->aH
open _root_.Go renaming Program->aC,Value->aD,TypeId->aF,Oper->aG
open _root_.Go.Proofs.YtdphgbjaijlckaaGreatDoor renaming Heap->aE
namespace Go.Proofs.YtdphgbjaijlckaaGreatDoor
open Go
inductive AVal where
 | val (v:aD)
 | own (k off:Nat)
 | any
structure VS where
 env:Nat->AVal
 own:Nat->Option (List aD)
def VS.put(st:VS)(d:Nat)(v:AVal):VS:={ env:=fun i=>bif aH i d then v else st.env i,own:=st.own }
def VS.putO(st:VS)(d:Option Nat)(v:AVal):VS:=
 match d with
 | some d=>st.put d v
 | none=>st
def VS.setOwn(st:VS)(k:Nat)(cs:List aD):VS:={ env:=st.env,own:=fun i=>bif aH i k then some cs else st.own i }
structure Lim where
 slots:List Nat
 keys:List Nat
structure Cfg where
 n:Nat
 own:List Nat
 lim:Option Lim
 fns:List Nat
 wr:List Nat
 inr:Bool:=false
def has(l:List Nat)(d:Nat):Bool:=l.any (aH d)
def A6w(lim:Option Lim)(d:Nat):Bool:=
 match lim with
 | none=>true
 | some l=>has l.slots d
def Ok(lim:Option Lim)(d:Nat):Bool:=
 match lim with
 | none=>true
 | some l=>has l.keys d
def Oh(cfg:Cfg)(d:Nat):Bool:=Nat.blt d cfg.n&&A6w cfg.lim d
def K6(cfg:Cfg)(d:Option Nat):Bool:=
 match d with
 | none=>true
 | some d=>Oh cfg d
def C6(st:VS):Operand->AVal
 | .tmp t=>st.env t
 | .const v=>.val v
 | .global g=>.val (.pointer (some ⟨g,0,none⟩))
 | .func f=>.val (.func (.func f) #[] #[])
def AVal.isVal:AVal->Bool
 | .val _=>true
 | _=>false
def AVal.toV:AVal->aD
 | .val v=>v
 | _=>undef
def rho(st:VS)(x:Operand):aD:=(C6 st x).toV
def J9(st:VS)(xs:List Operand):Bool:=xs.all fun x=>(C6 st x).isVal
def Gj(P:aC)(t:aF):aD:=
 match P.info? t with
 | some i=>i.zero.getD undef
 | none=>undef
def Er(P:aC)(t:aF):Option Bool:=
 match P.underlying t with
 | some (.struct _)|some (.array _ _)=>some true
 | some _=>some false
 | none=>none
def When(b:Bool)(A:Prop):Prop:=match b with|true=>A|false=>False
def cellsAt(h:aE)(a:Addr)(j:Nat):List aD->Prop->Prop
 | [],X=>X
 | v::vs,X=>h.cell? (a.add j)=some v/\cellsAt h a (j+1) vs X
def O0(P:aC)(t:aF)(a:Addr)(h:aE)(C:AVal->Prop):Prop:=
 match Er P t with
 | some true=>
  match Gj P t with
  | .agg zs=>When (aH zs.size (P.cellsOf t)) (exL zs.toList fun b=>cellsAt h a 0 b (C (.val (.agg b.toArray))))
  | _=>False
 | some false=>exV (Gj P t) fun v=>h.cell? a=some v/\C (.val v)
 | none=>False
def N8(P:aC)(t:aF)(cs:List aD)(off:Nat)(C:AVal->Prop):Prop:=
 match Er P t with
 | some true=>When ((P.info? t).isSome&&Nat.ble (off+P.cellsOf t) cs.length) (C (.val (.agg ((cs.drop off).take (P.cellsOf t)).toArray)))
 | some false=>
  match cs[off]? with
  | some v=>C (.val v)
  | none=>False
 | none=>False
def N3(A:Option Addr)(m l size:Nat):Option Addr:=if m=l then A else A.map (·.add (l*size))
def slBound(v:Option AVal)(dflt y:Nat)(C:Nat->Prop):Prop:=
 match v with
 | none=>C dflt
 | some (.val (.int _ i))=>(0<=i/\i<=(y:Int))/\C i.toNat
 | _=>False
def Dt(P:aC)(o:aG)(st:VS)(C:AVal->Prop):Prop:=
 match J9 st o.op.operands.toList with
 | true=>
  match Fq P (execOp (rho st) o) with
  | some (.value v)=>C (.val v)
  | _=>False
 | false=>False
def Y9(P:aC)(t:aF)(x:AVal)(lo hi:Option AVal)(C:AVal->Prop):Prop:=
 match P.underlying t,x with
 | some .string,.val (.string s)=>
  slBound hi s.size s.size fun h=>slBound lo 0 h fun l=>C (.val (.string (s.extract l h)))
 | some (.slice e),.val (.slice A n c)=>
  When (P.info? e).isSome (slBound hi n c fun h=>slBound lo 0 h fun l=>C (.val (.slice (N3 A c l (P.cellsOf e)) (h-l) (c-l))))
 | some (.array n e),.val (.pointer (some a))=>
  When (P.info? e).isSome (slBound hi n n fun h=>slBound lo 0 h fun l=>C (.val (.slice (N3 (some a) n l (P.cellsOf e)) (h-l) (n-l))))
 | _,_=>False
def Ds(P:aC)(t:aF)(x lo hi mx:AVal)(C:AVal->Prop):Prop:=
 match P.underlying t,x,lo,hi,mx with
 | some (.slice e),.val (.slice A _ c),.val (.int _ l),.val (.int _ h),.val (.int _ m)=>
  When (P.info? e).isSome ((0<=m/\m<=(c:Int))/\(0<=h/\h<=(m.toNat:Int))/\(0<=l/\l<=(h.toNat:Int))/\C (.val (.slice (N3 A m.toNat l.toNat (P.cellsOf e)) (h.toNat-l.toNat) (m.toNat-l.toNat))))
 | _,_,_,_,_=>False
def Co(P:aC)(t:aF):Bool:=
 match P.underlying t with
 | some (.slice _)=>true
 | _=>false
def A7t(P:aC)(f:Field)(xs ys:Array aD):Option Bool:=
 match P.underlying f.type,xs[f.offset]?,ys[f.offset]? with
 | some .string,some (.string a),some (.string b)=>
  match f.name == "_" with
  | true=>none
  | false=>some (a.toList==b.toList)
 | _,_,_=>none
def A0n(P:aC):List Field->Array aD->Array aD->Option Bool
 | [],_,_=>some true
 | f::fs,xs,ys=>
  match A7t P f xs ys,A0n P fs xs ys with
  | some a,some b=>some (a&&b)
  | _,_=>none
def Nd(P:aC)(t:aF)(xs ys:Array aD)(C:Bool->Prop):Prop:=
 match P.underlying t with
 | some (.struct fs)=>
  When (!(P.stoodInHeld t) && !(P.eqGuardType P.depth t))
   (match A0n P fs.toList xs ys with
   | some b=>C b
   | none=>False)
 | _=>False
def Cr(P:aC)(o:aG)(st:VS)(op:BinOp)(t:aF)(x y:AVal)(C:AVal->Prop):Prop:=
 match op,x,y with
 | .eql,.val (.agg xs),.val (.agg ys)=>Nd P t xs ys fun b=>C (.val (.bool b))
 | .neq,.val (.agg xs),.val (.agg ys)=>Nd P t xs ys fun b=>C (.val (.bool (!b)))
 | .eql,.val (.slice A _ _),.val (.slice none _ _)=>When (Co P t) (C (.val (.bool A.isNone)))
 | .neq,.val (.slice A _ _),.val (.slice none _ _)=>When (Co P t) (C (.val (.bool (!A.isNone))))
 | .quo,.val (.int k a),.val (.int k' b)=>When (k==k') (Br (decide (b=0)) False (C (.val (.int k (k.wrap (a.tdiv b))))))
 | .rem,.val (.int k a),.val (.int k' b)=>When (k==k') (Br (decide (b=0)) False (C (.val (.int k (a.tmod b)))))
 | .shl,.val (.int k a),.val (.int _ b)=>Br (decide (b<0)) False (C (.val (.int k (k.wrap (a*2^(min b.toNat k.bits))))))
 | .shr,.val (.int k a),.val (.int _ b)=>Br (decide (b<0)) False (C (.val (.int k (a.fdiv (2^(min b.toNat k.bits))))))
 | .add,.val (.string a),.val (.string b)=>((a.size+b.size:Nat):Int)<=9223372036854775807/\C (.val (.string (a++b)))
 | _,_,_=>Dt P o st C
def I9(P:aC)(t:aF)(x i:AVal)(C:AVal->Prop):Prop:=
 match P.underlying t,x,i with
 | some (.array len e),.own k off,.val (.int _ n)=>When (P.info? e).isSome<|Br (decide (0<=n/\n<(len:Int))) (C (.own k (off+n.toNat*P.cellsOf e))) False
 | some (.array len e),.val (.pointer (some a)),.val (.int _ n)=>When (P.info? e).isSome<|(0<=n/\n<(len:Int))/\C (.val (.pointer (some (a.add (n.toNat*P.cellsOf e)))))
 | some (.slice e),.val (.slice A n _),.val (.int _ i)=>When (P.info? e).isSome <| ∃ a,A=some a/\0<=i/\i<(n:Int)/\C (.val (.pointer (some (a.add (i.toNat*P.cellsOf e)))))
 | _,_,_=>False
def vcQ(P:aC)(o:aG)(st:VS)(h:aE)(C:AVal->Prop):Prop:=
 match o.op with
 | .move x | .assign x=>C (C6 st x)
 | .pick c a b=>
  match C6 st c with
  | .val (.bool t)=>Br t (C (C6 st a)) (C (C6 st b))
  | _=>False
 | .load t x=>
  match C6 st x with
  | .own k off=>
   match st.own k with
   | some cs=>N8 P t cs off C
   | none=>False
  | .val (.pointer (some a))=>O0 P t a h C
  | _=>False
 | .fieldAddr s x f=>
  match C6 st x with
  | .own k off=>
   match P.underlying s with
   | some (.struct fs)=>
    match fs[f]? with
    | some f=>When ((P.info? f.type).isSome&&Nat.blt 0 (P.cellsOf f.type)) (C (.own k (off+f.offset)))
    | none=>False
   | _=>False
  | .val (.pointer (some a))=>
   match P.underlying s with
   | some (.struct fs)=>
    match fs[f]? with
    | some f=>When ((P.info? f.type).isSome&&Nat.blt 0 (P.cellsOf f.type)) (C (.val (.pointer (some (a.add f.offset)))))
    | none=>False
   | _=>False
  | _=>False
 | .nilCheck x=>
  match C6 st x with
  | .own k off=>C (.own k off)
  | .val (.pointer p)=>∃ a,p=some a/\C (.val (.pointer (some a)))
  | _=>False
 | .indexAddr t x i=>I9 P t (C6 st x) (C6 st i) C
 | .index t x i=>
  match P.underlying t,C6 st x,C6 st i with
  | some .string,.val (.string s),.val (.int _ i)=>∃ c:UInt8,(0<=i/\s[i.toNat]? = some c)/\C (.val (.int .u8 c.toNat))
  | _,_,_=>Dt P o st C
 | .slice t x lo hi none=>Y9 P t (C6 st x) (lo.map (C6 st)) (hi.map (C6 st)) C
 | .slice t x (some lo) (some hi) (some mx)=>Ds P t (C6 st x) (C6 st lo) (C6 st hi) (C6 st mx) C
 | .binOp op t x y _=>Cr P o st op t (C6 st x) (C6 st y) C
 | .panic _=>False
 | _=>Dt P o st C
def Grow(gr:Bool)(h h':aE)(X:Prop):Prop:=
 match gr with
 | true=>h.le h'/\X
 | false=>X
def exRt(P:aC)(t:aF)(K:aD->Prop):Prop:=
 match P.underlying t with
 | some (.tuple ts)=>exTs (ts.toList.map (Gj P)) fun a=>K (.tuple a.toArray)
 | _=>exT (Gj P t) K
def effV(P:aC)(s:Sem aD)(o:aG)(gr:Bool)(st:VS)(h:aE)(K:VS->aE->Prop):Prop:=
 wpH P s (fun v a=>exT (Gj P o.type) fun u=>v=u/\Grow gr h a (K (st.putO o.dst (.val u)) a)) h
def effP(P:aC)(s:Sem aD)(o:aG)(gr:Bool)(st:VS)(h:aE)(K:VS->aE->Prop):Prop:=
 wpH P s (fun v b=>∃ a:Addr,v= .pointer (some a)/\Grow gr h b (K (st.putO o.dst (.val (.pointer (some a)))) b)) h
def effU(P:aC)(s:Sem Unit)(o:aG)(gr:Bool)(st:VS)(h:aE)(K:VS->aE->Prop):Prop:=
 wpH P s (fun _ a=>Grow gr h a (K (st.putO o.dst (.val undef)) a)) h
def H0(cs:List aD)(off:Nat)(vs:List aD):List aD:=cs.take off++vs++cs.drop (off+vs.length)
def A6r(vs:List aD):Bool:=vs.all Qx
def Vu(P:aC)(t:aF):Bool:=
 match P.info? t with
 | some i=>i.zero.isSome
 | none=>false
def Ep(cfg:Cfg)(d:Option Nat):Bool:=
 match d with
 | some d=>has cfg.own d
 | none=>false
def Bk(cfg:Cfg)(d:Option Nat)(cells:List aD)(st:VS)(h:aE)(K:VS->aE->Prop):Prop:=
 match d with
 | some d=>When (Oh cfg d&&Ok cfg.lim d&&(st.own d).isNone) (K ((st.put d (.own d 0)).setOwn d cells) h)
 | none=>False
def Hz(P:aC)(o:aG):Bool:=
 match o.op with
 | .alloc _ | .box _ _ | .store _ _ _ | .makeSlice _ _ _ | .buildSlice _ _ _ | .select _ _ | .defer _=>false
 | .convert s d _=> !(Co P s||Co P d)
 | .call c=>
  match c.callee with
  | .builtin .len | .builtin .cap | .builtin .max | .builtin .min=>true
  | _=>false
 | _=>true
def YCall(P:aC)(l:Nat)(args:Array aD)(h:aE)(K:VP):Prop:=
 ∀ W,Sim h W->∃ fn tmps asg body,(Instr.yield l args).run P W= .ok (.round l fn tmps asg body) W/\
  ∀ n,RoundIn Fence.wide n P l fn tmps asg body W fun e W'=>∃ r h',e= .returned r/\K r h'/\Fr h W h' W'
def YCall.mono{P:aC}{l:Nat}{args:Array aD}{h:aE}{K K':VP}(x:YCall P l args h K)(hk:∀ r h',K r h'->K' r h'):YCall P l args h K':=
 fun W j=>by
  obtain ⟨fn,b,c,a,g,f⟩:=x W j
  exact ⟨fn,b,c,a,g,fun n=>(f n).mono fun _ _ ⟨r,h',e,i,d⟩=>⟨r,h',e,hk r h' i,d⟩⟩
def Tr(P:aC)(g:aD)(h:aE)(B:List aD->aE->(aE->Prop)->Prop)(K:aE->Prop):Prop:=
 ∃ (f:FuncId) (first captured:Array aD),g= .func (.func f) first captured/\(∀ args W,(callFunc f args).run P W= .ok (.enter f args) W)/\
  ∀ l rec,h l=none->
   (∀ args h1 J,h1 l=none->B args h1 J->YCall P l args.toArray (h1.put l (.loop rec)) fun r a=>r= .bool true/\∃ h3,h3 l=none/\a=h3.put l (.loop rec)/\J h3)->
   FCall P f (first ++ #[.func (.yield l) #[] #[]]++captured) (h.put l (.loop rec)) fun _ a=>∃ h3,h3 l=none/\a=h3.put l (.loop rec)/\K h3
def Sq(r:Loop):Loop:={ r with state:=.done,pending:=some .ret }
def Zu(P:aC)(g:aD)(h:aE)(B:List aD->aE->(aE->Prop)->(aE->Prop)->Prop)(K KR:aE->Prop):Prop:=
 ∃ (f:FuncId) (first captured:Array aD),g= .func (.func f) first captured/\(∀ args W,(callFunc f args).run P W= .ok (.enter f args) W)/\
  ∀ l rec,h l=none->
   (∀ args h1 J JR,h1 l=none->B args h1 J JR->YCall P l args.toArray (h1.put l (.loop rec)) fun r a=>∃ h3,h3 l=none/\((r= .bool true/\a=h3.put l (.loop rec)/\J h3)\/(r= .bool false/\a=h3.put l (.loop (Sq rec))/\JR h3)))->
   FCall P f (first ++ #[.func (.yield l) #[] #[]]++captured) (h.put l (.loop rec)) fun _ a=>∃ h3,h3 l=none/\((a=h3.put l (.loop rec)/\K h3)\/(a=h3.put l (.loop (Sq rec))/\KR h3))
def Sc(P:aC)(cfg:Cfg)(o:aG)(c:Call)(f:AVal)(gr:Bool)(st:VS)(h:aE)(K:VS->aE->Prop):Prop:=
 match f with
 | .val (.func (.func g) first captured)=>
  match has cfg.fns g with
  | true=>When (J9 st c.args.toList) (FCall P g (first++c.args.map (rho st)++captured) h fun r a=>exRt P o.type fun v=>r=v/\Grow gr h a (K (st.putO o.dst (.val v)) a))
  | false=>When (J9 st c.args.toList) (ECall P g (first++c.args.map (rho st)++captured) h fun r a=>exRt P o.type fun v=>r=v/\Grow gr h a (K (st.putO o.dst (.val v)) a))
 | .val (.func (.yield l) first _)=>When (J9 st c.args.toList) (YCall P l (first++c.args.map (rho st)) h fun r a=>exRt P o.type fun v=>r=v/\Grow gr h a (K (st.putO o.dst (.val v)) a))
 | _=>False
def Qa(P:aC)(cfg:Cfg)(o:aG)(t:aF)(a x:Operand)(gr:Bool)(st:VS)(h:aE)(K:VS->aE->Prop):Prop:=
 match C6 st a with
 | .own k off=>
  match st.own k with
  | some cs=>
   When ((C6 st x).isVal&&Ok cfg.lim k&&(P.info? t).isSome&&aH (rho st x).cells.size (P.cellsOf t)&&Nat.ble (off+P.cellsOf t) cs.length&&A6r (rho st x).cells.toList)
    (K ((st.setOwn k (H0 cs off (rho st x).cells.toList)).putO o.dst (.val undef)) h)
  | none=>False
 | .val p=>When (C6 st x).isVal (effU P (Instr.storeAt t p (rho st x)) o gr st h K)
 | .any=>False
def N7(P:aC)(cfg:Cfg)(o:aG)(gr:Bool)(st:VS)(h:aE)(K:VS->aE->Prop):Prop:=
 When (K6 cfg o.dst) <|
 match Hz P o with
 | true=>vcQ P o st h fun v=>K (st.putO o.dst v) h
 | false=>
  match o.op with
  | .alloc t=>
   match Ep cfg o.dst with
   | true=>When (Vu P t) (Bk cfg o.dst (Gj P t).cells.toList st h K)
   | false=>effP P (Instr.alloc t true (.tuple #[])) o gr st h K
  | .box t x=>
   When (C6 st x).isVal <|
   match Ep cfg o.dst with
   | true=>Bk cfg o.dst (rho st x).cells.toList st h K
   | false=>effP P (Instr.box t (rho st x)) o gr st h K
  | .store t a x=>Qa P cfg o t a x gr st h K
  | .makeSlice t l c=>When (J9 st [l,c]) (effV P (Instr.makeSlice t (rho st l) (rho st c)) o gr st h K)
  | .buildSlice t n ps=>When (J9 st (ps.toList.map (·.2))) (effV P (Instr.buildSlice t n (ps.map fun (i,x)=>(i,rho st x))) o gr st h K)
  | .convert s d x=>When (J9 st [x]) (effV P (convert s d (rho st x)) o gr st h K)
  | .call c=>
   match c.callee with
   | .value f=>Sc P cfg o c (C6 st f) gr st h K
   | .builtin .append=>When (J9 st c.args.toList) (effV P (Builtin.append_ c.argTypes o.type (c.args.map (rho st))) o gr st h K)
   | .builtin .copy=>When (J9 st c.args.toList) (effV P (Builtin.copy_ c.argTypes o.type (c.args.map (rho st))) o gr st h K)
   | _=>False
  | _=>False
def Gk(P:aC)(cfg:Cfg)(ops:Array aG)(o:aG)(gr:Bool)(st:VS)(h:aE)(K:VS->aE->Prop):Prop:=
 match o.guard with
 | none=>N7 P cfg o gr st h K
 | some (j,want)=>
  match (ops[j]?).bind (·.dst) with
  | none=>False
  | some g=>
   match st.env g with
   | .val (.bool b)=>
    Br b
     (match want with
      | true=>N7 P cfg o gr (st.put g (.val (.bool true))) h K
      | false=>When (K6 cfg o.dst) (K ((st.put g (.val (.bool true))).putO o.dst (.val undef)) h))
     (match want with
      | true=>When (K6 cfg o.dst) (K ((st.put g (.val (.bool false))).putO o.dst (.val undef)) h)
      | false=>N7 P cfg o gr (st.put g (.val (.bool false))) h K)
   | .val (.tuple _)=>When (K6 cfg o.dst) (K (st.putO o.dst (.val undef)) h)
   | _=>False
def A09(P:aC)(cfg:Cfg)(ops:Array aG)(gr:Bool):List Nat->VS->aE->(VS->aE->Prop)->Prop
 | [],st,h,K=>K st h
 | i::is,st,h,K=>
  match ops[i]? with
  | none=>False
  | some o=>Gk P cfg ops o gr st h fun st' h'=>A09 P cfg ops gr is st' h' K
