/- A part. -/
import Derived.Test.YtmbfcbbkbefgfaaGreatDoorG00
import Derived.RangeFuncLeaves
set_option linter.all false
open Nat renaming beq->aH
open _root_.Go renaming Program->aC,Value->aD,TypeId->aF,Oper->aG
open _root_.Go.Proofs.YtmbfcbbkbefgfaaGreatDoor renaming Heap->aE
namespace Go.Proofs.YtmbfcbbkbefgfaaGreatDoor
open Go
inductive AVal where
 | val (v:aD)
 | own (k off:Nat)
 | any
structure VS where
 env:Nat->AVal
 own:Nat->Option (List aD)
def VS.put(st:VS)(d:Nat)(v:AVal):VS:={ env:=fun i=>bif aH i d then v else st.env i,own:=st.own }
def VS.putO(st:VS)(d:Option Nat)(v:AVal):VS:=
 match d with
 | some d=>st.put d v
 | none=>st
def VS.setOwn(st:VS)(k:Nat)(cs:List aD):VS:={ env:=st.env,own:=fun i=>bif aH i k then some cs else st.own i }
structure Lim where
 slots:List Nat
 keys:List Nat
structure Cfg where
 n:Nat
 own:List Nat
 lim:Option Lim
 fns:List Nat
 wr:List Nat
 inr:Bool:=false
def has(l:List Nat)(d:Nat):Bool:=l.any (aH d)
def B9g(lim:Option Lim)(d:Nat):Bool:=
 match lim with
 | none=>true
 | some l=>has l.slots d
def A1a(lim:Option Lim)(d:Nat):Bool:=
 match lim with
 | none=>true
 | some l=>has l.keys d
def A14(cfg:Cfg)(d:Nat):Bool:=Nat.blt d cfg.n&&B9g cfg.lim d
def N2(cfg:Cfg)(d:Option Nat):Bool:=
 match d with
 | none=>true
 | some d=>A14 cfg d
def C8(st:VS):Operand->AVal
 | .tmp t=>st.env t
 | .const v=>.val v
 | .global g=>.val (.pointer (some ⟨g,0,none⟩))
 | .func f=>.val (.func (.func f) #[] #[])
def AVal.isVal:AVal->Bool
 | .val _=>true
 | _=>false
def AVal.toV:AVal->aD
 | .val v=>v
 | _=>undef
def rho(st:VS)(x:Operand):aD:=(C8 st x).toV
def L8(st:VS)(xs:List Operand):Bool:=xs.all fun x=>(C8 st x).isVal
def Ob(P:aC)(t:aF):aD:=
 match P.info? t with
 | some i=>i.zero.getD undef
 | none=>undef
def Kl(P:aC)(t:aF):Option Bool:=
 match P.underlying t with
 | some (.struct _)|some (.array _ _)=>some true
 | some _=>some false
 | none=>none
def When(b:Bool)(A:Prop):Prop:=match b with|true=>A|false=>False
def cellsAt(h:aE)(a:Addr)(j:Nat):List aD->Prop->Prop
 | [],X=>X
 | v::vs,X=>h.cell? (a.add j)=some v/\cellsAt h a (j+1) vs X
def V3(P:aC)(t:aF)(a:Addr)(h:aE)(C:AVal->Prop):Prop:=
 match Kl P t with
 | some true=>
  match Ob P t with
  | .agg zs=>When (aH zs.size (P.cellsOf t)) (exL zs.toList fun b=>cellsAt h a 0 b (C (.val (.agg b.toArray))))
  | _=>False
 | some false=>exV (Ob P t) fun v=>h.cell? a=some v/\C (.val v)
 | none=>False
def T4(P:aC)(t:aF)(cs:List aD)(off:Nat)(C:AVal->Prop):Prop:=
 match Kl P t with
 | some true=>When ((P.info? t).isSome&&Nat.ble (off+P.cellsOf t) cs.length) (C (.val (.agg ((cs.drop off).take (P.cellsOf t)).toArray)))
 | some false=>
  match cs[off]? with
  | some v=>C (.val v)
  | none=>False
 | none=>False
def J4(A:Option Addr)(m l size:Nat):Option Addr:=if m=l then A else A.map (·.add (l*size))
def slBound(v:Option AVal)(dflt y:Nat)(C:Nat->Prop):Prop:=
 match v with
 | none=>C dflt
 | some (.val (.int _ i))=>(0<=i/\i<=(y:Int))/\C i.toNat
 | _=>False
def Jq(P:aC)(o:aG)(st:VS)(C:AVal->Prop):Prop:=
 match L8 st o.op.operands.toList with
 | true=>
  match My P (execOp (rho st) o) with
  | some (.value v)=>C (.val v)
  | _=>False
 | false=>False
def Dn(P:aC)(t:aF)(x:AVal)(lo hi:Option AVal)(C:AVal->Prop):Prop:=
 match P.underlying t,x with
 | some .string,.val (.string s)=>
  slBound hi s.size s.size fun h=>slBound lo 0 h fun l=>C (.val (.string (s.extract l h)))
 | some (.slice e),.val (.slice A n c)=>
  When (P.info? e).isSome (slBound hi n c fun h=>slBound lo 0 h fun l=>C (.val (.slice (J4 A c l (P.cellsOf e)) (h-l) (c-l))))
 | some (.array n e),.val (.pointer (some a))=>
  When (P.info? e).isSome (slBound hi n n fun h=>slBound lo 0 h fun l=>C (.val (.slice (J4 (some a) n l (P.cellsOf e)) (h-l) (n-l))))
 | _,_=>False
def Jp(P:aC)(t:aF)(x lo hi mx:AVal)(C:AVal->Prop):Prop:=
 match P.underlying t,x,lo,hi,mx with
 | some (.slice e),.val (.slice A _ c),.val (.int _ l),.val (.int _ h),.val (.int _ m)=>
  When (P.info? e).isSome ((0<=m/\m<=(c:Int))/\(0<=h/\h<=(m.toNat:Int))/\(0<=l/\l<=(h.toNat:Int))/\C (.val (.slice (J4 A m.toNat l.toNat (P.cellsOf e)) (h.toNat-l.toNat) (m.toNat-l.toNat))))
 | _,_,_,_,_=>False
def Hp(P:aC)(t:aF):Bool:=
 match P.underlying t with
 | some (.slice _)=>true
 | _=>false
def C1n(P:aC)(f:Field)(xs ys:Array aD):Option Bool:=
 match P.underlying f.type,xs[f.offset]?,ys[f.offset]? with
 | some .string,some (.string a),some (.string b)=>
  match f.name == "_" with
  | true=>none
  | false=>some (a.toList==b.toList)
 | _,_,_=>none
def B31(P:aC):List Field->Array aD->Array aD->Option Bool
 | [],_,_=>some true
 | f::fs,xs,ys=>
  match C1n P f xs ys,B31 P fs xs ys with
  | some a,some b=>some (a&&b)
  | _,_=>none
def A03(P:aC)(t:aF)(xs ys:Array aD)(C:Bool->Prop):Prop:=
 match P.underlying t with
 | some (.struct fs)=>
  When (!(P.stoodInHeld t) && !(P.eqGuardType P.depth t))
   (match B31 P fs.toList xs ys with
   | some b=>C b
   | none=>False)
 | _=>False
def Hz(P:aC)(o:aG)(st:VS)(op:BinOp)(t:aF)(x y:AVal)(C:AVal->Prop):Prop:=
 match op,x,y with
 | .eql,.val (.agg xs),.val (.agg ys)=>A03 P t xs ys fun b=>C (.val (.bool b))
 | .neq,.val (.agg xs),.val (.agg ys)=>A03 P t xs ys fun b=>C (.val (.bool (!b)))
 | .eql,.val (.slice A _ _),.val (.slice none _ _)=>When (Hp P t) (C (.val (.bool A.isNone)))
 | .neq,.val (.slice A _ _),.val (.slice none _ _)=>When (Hp P t) (C (.val (.bool (!A.isNone))))
 | .quo,.val (.int k a),.val (.int k' b)=>When (k==k') (Br (decide (b=0)) False (C (.val (.int k (k.wrap (a.tdiv b))))))
 | .rem,.val (.int k a),.val (.int k' b)=>When (k==k') (Br (decide (b=0)) False (C (.val (.int k (a.tmod b)))))
 | .shl,.val (.int k a),.val (.int _ b)=>Br (decide (b<0)) False (C (.val (.int k (k.wrap (a*2^(min b.toNat k.bits))))))
 | .shr,.val (.int k a),.val (.int _ b)=>Br (decide (b<0)) False (C (.val (.int k (a.fdiv (2^(min b.toNat k.bits))))))
 | .add,.val (.string a),.val (.string b)=>((a.size+b.size:Nat):Int)<=9223372036854775807/\C (.val (.string (a++b)))
 | _,_,_=>Jq P o st C
def K7(P:aC)(t:aF)(x i:AVal)(C:AVal->Prop):Prop:=
 match P.underlying t,x,i with
 | some (.array len e),.own k off,.val (.int _ n)=>When (P.info? e).isSome<|Br (decide (0<=n/\n<(len:Int))) (C (.own k (off+n.toNat*P.cellsOf e))) False
 | some (.array len e),.val (.pointer (some a)),.val (.int _ n)=>When (P.info? e).isSome<|(0<=n/\n<(len:Int))/\C (.val (.pointer (some (a.add (n.toNat*P.cellsOf e)))))
 | some (.slice e),.val (.slice A n _),.val (.int _ i)=>When (P.info? e).isSome <| ∃ a,A=some a/\0<=i/\i<(n:Int)/\C (.val (.pointer (some (a.add (i.toNat*P.cellsOf e)))))
 | _,_,_=>False
def vcQ(P:aC)(o:aG)(st:VS)(h:aE)(C:AVal->Prop):Prop:=
 match o.op with
 | .move x | .assign x=>C (C8 st x)
 | .pick c a b=>
  match C8 st c with
  | .val (.bool t)=>Br t (C (C8 st a)) (C (C8 st b))
  | _=>False
 | .load t x=>
  match C8 st x with
  | .own k off=>
   match st.own k with
   | some cs=>T4 P t cs off C
   | none=>False
  | .val (.pointer (some a))=>V3 P t a h C
  | _=>False
 | .fieldAddr s x f=>
  match C8 st x with
  | .own k off=>
   match P.underlying s with
   | some (.struct fs)=>
    match fs[f]? with
    | some f=>When ((P.info? f.type).isSome&&Nat.blt 0 (P.cellsOf f.type)) (C (.own k (off+f.offset)))
    | none=>False
   | _=>False
  | .val (.pointer (some a))=>
   match P.underlying s with
   | some (.struct fs)=>
    match fs[f]? with
    | some f=>When ((P.info? f.type).isSome&&Nat.blt 0 (P.cellsOf f.type)) (C (.val (.pointer (some (a.add f.offset)))))
    | none=>False
   | _=>False
  | _=>False
 | .nilCheck x=>
  match C8 st x with
  | .own k off=>C (.own k off)
  | .val (.pointer p)=>∃ a,p=some a/\C (.val (.pointer (some a)))
  | _=>False
 | .indexAddr t x i=>K7 P t (C8 st x) (C8 st i) C
 | .index t x i=>
  match P.underlying t,C8 st x,C8 st i with
  | some .string,.val (.string s),.val (.int _ i)=>∃ c:UInt8,(0<=i/\s[i.toNat]? = some c)/\C (.val (.int .u8 c.toNat))
  | _,_,_=>Jq P o st C
 | .slice t x lo hi none=>Dn P t (C8 st x) (lo.map (C8 st)) (hi.map (C8 st)) C
 | .slice t x (some lo) (some hi) (some mx)=>Jp P t (C8 st x) (C8 st lo) (C8 st hi) (C8 st mx) C
 | .binOp op t x y _=>Hz P o st op t (C8 st x) (C8 st y) C
 | .panic _=>False
 | _=>Jq P o st C
def Grow(gr:Bool)(h h':aE)(X:Prop):Prop:=
 match gr with
 | true=>h.le h'/\X
 | false=>X
def exRt(P:aC)(t:aF)(K:aD->Prop):Prop:=
 match P.underlying t with
 | some (.tuple ts)=>exTs (ts.toList.map (Ob P)) fun a=>K (.tuple a.toArray)
 | _=>exT (Ob P t) K
def effV(P:aC)(s:Sem aD)(o:aG)(gr:Bool)(st:VS)(h:aE)(K:VS->aE->Prop):Prop:=
 wpH P s (fun v a=>exT (Ob P o.type) fun u=>v=u/\Grow gr h a (K (st.putO o.dst (.val u)) a)) h
def effP(P:aC)(s:Sem aD)(o:aG)(gr:Bool)(st:VS)(h:aE)(K:VS->aE->Prop):Prop:=
 wpH P s (fun v b=>∃ a:Addr,v= .pointer (some a)/\Grow gr h b (K (st.putO o.dst (.val (.pointer (some a)))) b)) h
def effU(P:aC)(s:Sem Unit)(o:aG)(gr:Bool)(st:VS)(h:aE)(K:VS->aE->Prop):Prop:=
 wpH P s (fun _ a=>Grow gr h a (K (st.putO o.dst (.val undef)) a)) h
def J8(cs:List aD)(off:Nat)(vs:List aD):List aD:=cs.take off++vs++cs.drop (off+vs.length)
def B97(vs:List aD):Bool:=vs.all Vj
def A82(P:aC)(t:aF):Bool:=
 match P.info? t with
 | some i=>i.zero.isSome
 | none=>false
def Kk(cfg:Cfg)(d:Option Nat):Bool:=
 match d with
 | some d=>has cfg.own d
 | none=>false
def Fl(cfg:Cfg)(d:Option Nat)(cells:List aD)(st:VS)(h:aE)(K:VS->aE->Prop):Prop:=
 match d with
 | some d=>When (A14 cfg d&&A1a cfg.lim d&&(st.own d).isNone) (K ((st.put d (.own d 0)).setOwn d cells) h)
 | none=>False
def Qy(P:aC)(o:aG):Bool:=
 match o.op with
 | .alloc _ | .box _ _ | .store _ _ _ | .makeSlice _ _ _ | .buildSlice _ _ _ | .select _ _ | .defer _=>false
 | .convert s d _=> !(Hp P s||Hp P d)
 | .call c=>
  match c.callee with
  | .builtin .len | .builtin .cap | .builtin .max | .builtin .min=>true
  | _=>false
 | _=>true
def YCall(P:aC)(l:Nat)(args:Array aD)(h:aE)(K:VP):Prop:=
 ∀ W,Sim h W->∃ fn tmps asg body,(Instr.yield l args).run P W= .ok (.round l fn tmps asg body) W/\
  ∀ n,RoundIn Fence.wide n P l fn tmps asg body W fun e W'=>∃ r h',e= .returned r/\K r h'/\Fr h W h' W'
def YCall.mono{P:aC}{l:Nat}{args:Array aD}{h:aE}{K K':VP}(x:YCall P l args h K)(hk:∀ r h',K r h'->K' r h'):YCall P l args h K':=
 fun W g=>by
  obtain ⟨fn,b,c,a,k,e⟩:=x W g
  exact ⟨fn,b,c,a,k,fun n=>(e n).mono fun _ _ ⟨r,h',j,d,i⟩=>⟨r,h',j,hk r h' d,i⟩⟩
def B5x(P:aC)(g:aD)(h:aE)(B:List aD->aE->(aE->Prop)->Prop)(K:aE->Prop):Prop:=
 ∃ (f:FuncId) (first captured:Array aD),g= .func (.func f) first captured/\(∀ args W,(callFunc f args).run P W= .ok (.enter f args) W)/\
  ∀ l rec,h l=none->
   (∀ args h1 J,h1 l=none->B args h1 J->YCall P l args.toArray (h1.put l (.loop rec)) fun r a=>r= .bool true/\∃ h3,h3 l=none/\a=h3.put l (.loop rec)/\J h3)->
   FCall P f (first ++ #[.func (.yield l) #[] #[]]++captured) (h.put l (.loop rec)) fun _ a=>∃ h3,h3 l=none/\a=h3.put l (.loop rec)/\K h3
def A4n(P:aC)(cfg:Cfg)(o:aG)(c:Call)(f:AVal)(gr:Bool)(st:VS)(h:aE)(K:VS->aE->Prop):Prop:=
 match f with
 | .val (.func (.func g) first captured)=>
  match has cfg.fns g with
  | true=>When (L8 st c.args.toList) (FCall P g (first++c.args.map (rho st)++captured) h fun r a=>exRt P o.type fun v=>r=v/\Grow gr h a (K (st.putO o.dst (.val v)) a))
  | false=>When (L8 st c.args.toList) (ECall P g (first++c.args.map (rho st)++captured) h fun r a=>exRt P o.type fun v=>r=v/\Grow gr h a (K (st.putO o.dst (.val v)) a))
 | .val (.func (.yield l) first _)=>When (L8 st c.args.toList) (YCall P l (first++c.args.map (rho st)) h fun r a=>exRt P o.type fun v=>r=v/\Grow gr h a (K (st.putO o.dst (.val v)) a))
 | _=>False
def A2r(P:aC)(cfg:Cfg)(o:aG)(t:aF)(a x:Operand)(gr:Bool)(st:VS)(h:aE)(K:VS->aE->Prop):Prop:=
 match C8 st a with
 | .own k off=>
  match st.own k with
  | some cs=>
   When ((C8 st x).isVal&&A1a cfg.lim k&&(P.info? t).isSome&&aH (rho st x).cells.size (P.cellsOf t)&&Nat.ble (off+P.cellsOf t) cs.length&&B97 (rho st x).cells.toList)
    (K ((st.setOwn k (J8 cs off (rho st x).cells.toList)).putO o.dst (.val undef)) h)
  | none=>False
 | .val p=>When (C8 st x).isVal (effU P (Instr.storeAt t p (rho st x)) o gr st h K)
 | .any=>False
def O6(P:aC)(cfg:Cfg)(o:aG)(gr:Bool)(st:VS)(h:aE)(K:VS->aE->Prop):Prop:=
 When (N2 cfg o.dst) <|
 match Qy P o with
 | true=>vcQ P o st h fun v=>K (st.putO o.dst v) h
 | false=>
  match o.op with
  | .alloc t=>
   match Kk cfg o.dst with
   | true=>When (A82 P t) (Fl cfg o.dst (Ob P t).cells.toList st h K)
   | false=>effP P (Instr.alloc t true (.tuple #[])) o gr st h K
  | .box t x=>
   When (C8 st x).isVal <|
   match Kk cfg o.dst with
   | true=>Fl cfg o.dst (rho st x).cells.toList st h K
   | false=>effP P (Instr.box t (rho st x)) o gr st h K
  | .store t a x=>A2r P cfg o t a x gr st h K
  | .makeSlice t l c=>When (L8 st [l,c]) (effV P (Instr.makeSlice t (rho st l) (rho st c)) o gr st h K)
  | .buildSlice t n ps=>When (L8 st (ps.toList.map (·.2))) (effV P (Instr.buildSlice t n (ps.map fun (i,x)=>(i,rho st x))) o gr st h K)
  | .convert s d x=>When (L8 st [x]) (effV P (convert s d (rho st x)) o gr st h K)
  | .call c=>
   match c.callee with
   | .value f=>A4n P cfg o c (C8 st f) gr st h K
   | .builtin .append=>When (L8 st c.args.toList) (effV P (Builtin.append_ c.argTypes o.type (c.args.map (rho st))) o gr st h K)
   | .builtin .copy=>When (L8 st c.args.toList) (effV P (Builtin.copy_ c.argTypes o.type (c.args.map (rho st))) o gr st h K)
   | _=>False
  | _=>False
def Oc(P:aC)(cfg:Cfg)(ops:Array aG)(o:aG)(gr:Bool)(st:VS)(h:aE)(K:VS->aE->Prop):Prop:=
 match o.guard with
 | none=>O6 P cfg o gr st h K
 | some (j,want)=>
  match (ops[j]?).bind (·.dst) with
  | none=>False
  | some g=>
   match st.env g with
   | .val (.bool b)=>
    Br b
     (match want with
      | true=>O6 P cfg o gr (st.put g (.val (.bool true))) h K
      | false=>When (N2 cfg o.dst) (K ((st.put g (.val (.bool true))).putO o.dst (.val undef)) h))
     (match want with
      | true=>When (N2 cfg o.dst) (K ((st.put g (.val (.bool false))).putO o.dst (.val undef)) h)
      | false=>O6 P cfg o gr (st.put g (.val (.bool false))) h K)
   | .val (.tuple _)=>When (N2 cfg o.dst) (K (st.putO o.dst (.val undef)) h)
   | _=>False
def B2l(P:aC)(cfg:Cfg)(ops:Array aG)(gr:Bool):List Nat->VS->aE->(VS->aE->Prop)->Prop
 | [],st,h,K=>K st h
 | i::is,st,h,K=>
  match ops[i]? with
  | none=>False
  | some o=>Oc P cfg ops o gr st h fun st' h'=>B2l P cfg ops gr is st' h' K
