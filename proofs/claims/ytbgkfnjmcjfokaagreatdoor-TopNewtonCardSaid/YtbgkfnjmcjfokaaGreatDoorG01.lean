/- A part. -/
import Derived.Test.YtbgkfnjmcjfokaaGreatDoorG00
import Derived.RangeFuncLeaves
set_option linter.all false
open Nat renaming beq->aJ
open _root_.Go renaming Program->aC,Value->aE,TypeId->aH,Oper->aI
open _root_.Go.Proofs.YtbgkfnjmcjfokaaGreatDoor renaming Heap->aF
namespace Go.Proofs.YtbgkfnjmcjfokaaGreatDoor
open Go
inductive AVal where
 | val (v:aE)
 | own (k off:Nat)
 | any
structure VS where
 env:Nat->AVal
 own:Nat->Option (List aE)
def VS.put(st:VS)(d:Nat)(v:AVal):VS:={ env:=fun i=>bif aJ i d then v else st.env i,own:=st.own }
def VS.putO(st:VS)(d:Option Nat)(v:AVal):VS:=
 match d with
 | some d=>st.put d v
 | none=>st
def VS.setOwn(st:VS)(k:Nat)(cs:List aE):VS:={ env:=st.env,own:=fun i=>bif aJ i k then some cs else st.own i }
structure Lim where
 slots:List Nat
 keys:List Nat
structure Cfg where
 n:Nat
 own:List Nat
 lim:Option Lim
 fns:List Nat
 wr:List Nat
 inr:Bool:=false
 ent:Nat × Nat:=(0,0)
def has(l:List Nat)(d:Nat):Bool:=l.any (aJ d)
def C21(lim:Option Lim)(d:Nat):Bool:=
 match lim with
 | none=>true
 | some l=>has l.slots d
def A1a(lim:Option Lim)(d:Nat):Bool:=
 match lim with
 | none=>true
 | some l=>has l.keys d
def A16(cfg:Cfg)(d:Nat):Bool:=Nat.blt d cfg.n&&C21 cfg.lim d
def Q7(cfg:Cfg)(d:Option Nat):Bool:=
 match d with
 | none=>true
 | some d=>A16 cfg d
def C9(st:VS):Operand->AVal
 | .tmp t=>st.env t
 | .const v=>.val v
 | .global g=>.val (.pointer (some ⟨g,0,none⟩))
 | .func f=>.val (.func (.func f) #[] #[])
def AVal.isVal:AVal->Bool
 | .val _=>true
 | _=>false
def AVal.toV:AVal->aE
 | .val v=>v
 | _=>undef
def rho(st:VS)(x:Operand):aE:=(C9 st x).toV
def I0(st:VS)(xs:List Operand):Bool:=xs.all fun x=>(C9 st x).isVal
def Cl(P:aC)(t:aH):aE:=
 match P.info? t with
 | some i=>i.zero.getD undef
 | none=>undef
def Mi(P:aC)(t:aH):Option Bool:=
 match P.underlying t with
 | some (.struct _)|some (.array _ _)=>some true
 | some _=>some false
 | none=>none
def When(b:Bool)(A:Prop):Prop:=match b with|true=>A|false=>False
def cellsAt(h:aF)(a:Addr)(j:Nat):List aE->Prop->Prop
 | [],X=>X
 | v::vs,X=>h.cell? (a.add j)=some v/\cellsAt h a (j+1) vs X
def Y6(P:aC)(t:aH)(a:Addr)(h:aF)(C:AVal->Prop):Prop:=
 match Mi P t with
 | some true=>
  match Cl P t with
  | .agg zs=>When (aJ zs.size (P.cellsOf t)) (exL zs.toList fun b=>cellsAt h a 0 b (C (.val (.agg b.toArray))))
  | _=>False
 | some false=>exV (Cl P t) fun v=>h.cell? a=some v/\C (.val v)
 | none=>False
def Y4(P:aC)(t:aH)(cs:List aE)(off:Nat)(C:AVal->Prop):Prop:=
 match Mi P t with
 | some true=>When ((P.info? t).isSome&&Nat.ble (off+P.cellsOf t) cs.length) (C (.val (.agg ((cs.drop off).take (P.cellsOf t)).toArray)))
 | some false=>
  match cs[off]? with
  | some v=>C (.val v)
  | none=>False
 | none=>False
def U3(A:Option Addr)(m l size:Nat):Option Addr:=if m=l then A else A.map (·.add (l*size))
def slBound(v:Option AVal)(dflt y:Nat)(C:Nat->Prop):Prop:=
 match v with
 | none=>C dflt
 | some (.val (.int _ i))=>(0<=i/\i<=(y:Int))/\C i.toNat
 | _=>False
def Kq(P:aC)(o:aI)(st:VS)(C:AVal->Prop):Prop:=
 match I0 st o.op.operands.toList with
 | true=>
  match H2 P (execOp (rho st) o) with
  | some (.value v)=>C (.val v)
  | _=>False
 | false=>False
def Ep(P:aC)(t:aH)(x:AVal)(lo hi:Option AVal)(C:AVal->Prop):Prop:=
 match P.underlying t,x with
 | some .string,.val (.string s)=>
  slBound hi s.size s.size fun h=>slBound lo 0 h fun l=>C (.val (.string (s.extract l h)))
 | some (.slice e),.val (.slice A n c)=>
  When (P.info? e).isSome (slBound hi n c fun h=>slBound lo 0 h fun l=>C (.val (.slice (U3 A c l (P.cellsOf e)) (h-l) (c-l))))
 | some (.array n e),.val (.pointer (some a))=>
  When (P.info? e).isSome (slBound hi n n fun h=>slBound lo 0 h fun l=>C (.val (.slice (U3 (some a) n l (P.cellsOf e)) (h-l) (n-l))))
 | _,_=>False
def Kp(P:aC)(t:aH)(x lo hi mx:AVal)(C:AVal->Prop):Prop:=
 match P.underlying t,x,lo,hi,mx with
 | some (.slice e),.val (.slice A _ c),.val (.int _ l),.val (.int _ h),.val (.int _ m)=>
  When (P.info? e).isSome ((0<=m/\m<=(c:Int))/\(0<=h/\h<=(m.toNat:Int))/\(0<=l/\l<=(h.toNat:Int))/\C (.val (.slice (U3 A m.toNat l.toNat (P.cellsOf e)) (h.toNat-l.toNat) (m.toNat-l.toNat))))
 | _,_,_,_,_=>False
def C20(P:aC)(t:aH):Bool:=
 match P.underlying t with
 | some (.map _ _)=>true
 | _=>false
def Ir(P:aC)(t:aH):Bool:=
 match P.underlying t with
 | some (.slice _)=>true
 | _=>false
def C3r(P:aC)(f:Field)(xs ys:Array aE):Option Bool:=
 match P.underlying f.type,xs[f.offset]?,ys[f.offset]? with
 | some .string,some (.string a),some (.string b)=>
  match f.name == "_" with
  | true=>none
  | false=>some (a.toList==b.toList)
 | _,_,_=>none
def B2o(P:aC):List Field->Array aE->Array aE->Option Bool
 | [],_,_=>some true
 | f::fs,xs,ys=>
  match C3r P f xs ys,B2o P fs xs ys with
  | some a,some b=>some (a&&b)
  | _,_=>none
def Zs(P:aC)(t:aH)(xs ys:Array aE)(C:Bool->Prop):Prop:=
 match P.underlying t with
 | some (.struct fs)=>
  When (!(P.stoodInHeld t) && !(P.eqGuardType P.depth t))
   (match B2o P fs.toList xs ys with
   | some b=>C b
   | none=>False)
 | _=>False
def Iy(P:aC)(o:aI)(st:VS)(op:BinOp)(t:aH)(x y:AVal)(C:AVal->Prop):Prop:=
 match op,x,y with
 | .eql,.val (.agg xs),.val (.agg ys)=>Zs P t xs ys fun b=>C (.val (.bool b))
 | .neq,.val (.agg xs),.val (.agg ys)=>Zs P t xs ys fun b=>C (.val (.bool (!b)))
 | .eql,.val (.slice A _ _),.val (.slice none _ _)=>When (Ir P t) (C (.val (.bool A.isNone)))
 | .neq,.val (.slice A _ _),.val (.slice none _ _)=>When (Ir P t) (C (.val (.bool (!A.isNone))))
 | .quo,.val (.int k a),.val (.int k' b)=>When (k==k') (Br (decide (b=0)) False (C (.val (.int k (k.wrap (a.tdiv b))))))
 | .rem,.val (.int k a),.val (.int k' b)=>When (k==k') (Br (decide (b=0)) False (C (.val (.int k (a.tmod b)))))
 | .shl,.val (.int k a),.val (.int _ b)=>Br (decide (b<0)) False (C (.val (.int k (k.wrap (a*2^(min b.toNat k.bits))))))
 | .shr,.val (.int k a),.val (.int _ b)=>Br (decide (b<0)) False (C (.val (.int k (a.fdiv (2^(min b.toNat k.bits))))))
 | .add,.val (.string a),.val (.string b)=>((a.size+b.size:Nat):Int)<=9223372036854775807/\C (.val (.string (a++b)))
 | _,_,_=>Kq P o st C
def P8(P:aC)(t:aH)(x i:AVal)(C:AVal->Prop):Prop:=
 match P.underlying t,x,i with
 | some (.array len e),.own k off,.val (.int _ n)=>When (P.info? e).isSome<|Br (decide (0<=n/\n<(len:Int))) (C (.own k (off+n.toNat*P.cellsOf e))) False
 | some (.array len e),.val (.pointer (some a)),.val (.int _ n)=>When (P.info? e).isSome<|(0<=n/\n<(len:Int))/\C (.val (.pointer (some (a.add (n.toNat*P.cellsOf e)))))
 | some (.slice e),.val (.slice A n _),.val (.int _ i)=>When (P.info? e).isSome <| ∃ a,A=some a/\0<=i/\i<(n:Int)/\C (.val (.pointer (some (a.add (i.toNat*P.cellsOf e)))))
 | _,_,_=>False
def vcQ(P:aC)(o:aI)(st:VS)(h:aF)(C:AVal->Prop):Prop:=
 match o.op with
 | .move x | .assign x=>C (C9 st x)
 | .pick c a b=>
  match C9 st c with
  | .val (.bool t)=>Br t (C (C9 st a)) (C (C9 st b))
  | _=>False
 | .load t x=>
  match C9 st x with
  | .own k off=>
   match st.own k with
   | some cs=>Y4 P t cs off C
   | none=>False
  | .val (.pointer (some a))=>Y6 P t a h C
  | _=>False
 | .fieldAddr s x f=>
  match C9 st x with
  | .own k off=>
   match P.underlying s with
   | some (.struct fs)=>
    match fs[f]? with
    | some f=>When ((P.info? f.type).isSome&&Nat.blt 0 (P.cellsOf f.type)) (C (.own k (off+f.offset)))
    | none=>False
   | _=>False
  | .val (.pointer (some a))=>
   match P.underlying s with
   | some (.struct fs)=>
    match fs[f]? with
    | some f=>When ((P.info? f.type).isSome&&Nat.blt 0 (P.cellsOf f.type)) (C (.val (.pointer (some (a.add f.offset)))))
    | none=>False
   | _=>False
  | _=>False
 | .nilCheck x=>
  match C9 st x with
  | .own k off=>C (.own k off)
  | .val (.pointer p)=>∃ a,p=some a/\C (.val (.pointer (some a)))
  | _=>False
 | .indexAddr t x i=>P8 P t (C9 st x) (C9 st i) C
 | .index t x i=>
  match P.underlying t,C9 st x,C9 st i with
  | some .string,.val (.string s),.val (.int _ i)=>∃ c:UInt8,(0<=i/\s[i.toNat]? = some c)/\C (.val (.int .u8 c.toNat))
  | _,_,_=>Kq P o st C
 | .slice t x lo hi none=>Ep P t (C9 st x) (lo.map (C9 st)) (hi.map (C9 st)) C
 | .slice t x (some lo) (some hi) (some mx)=>Kp P t (C9 st x) (C9 st lo) (C9 st hi) (C9 st mx) C
 | .binOp op t x y _=>Iy P o st op t (C9 st x) (C9 st y) C
 | .panic _=>False
 | _=>Kq P o st C
def Grow(gr:Bool)(h h':aF)(X:Prop):Prop:=
 match gr with
 | true=>h.le h'/\X
 | false=>X
def exRt(P:aC)(t:aH)(K:aE->Prop):Prop:=
 match P.underlying t with
 | some (.tuple ts)=>exTs (ts.toList.map (Cl P)) fun a=>K (.tuple a.toArray)
 | _=>exT (Cl P t) K
def effV(P:aC)(s:Sem aE)(o:aI)(gr:Bool)(st:VS)(h:aF)(K:VS->aF->Prop):Prop:=
 wpH P s (fun v a=>exT (Cl P o.type) fun u=>v=u/\Grow gr h a (K (st.putO o.dst (.val u)) a)) h
def effP(P:aC)(s:Sem aE)(o:aI)(gr:Bool)(st:VS)(h:aF)(K:VS->aF->Prop):Prop:=
 wpH P s (fun v b=>∃ a:Addr,v= .pointer (some a)/\Grow gr h b (K (st.putO o.dst (.val (.pointer (some a)))) b)) h
def effU(P:aC)(s:Sem Unit)(o:aI)(gr:Bool)(st:VS)(h:aF)(K:VS->aF->Prop):Prop:=
 wpH P s (fun _ a=>Grow gr h a (K (st.putO o.dst (.val undef)) a)) h
def effN(P:aC)(s:Sem aE)(o:aI)(gr:Bool)(st:VS)(h:aF)(K:VS->aF->Prop):Prop:=
 wpH P s (fun v a=>(v= .tuple #[.bool false]/\Grow gr h a (K (st.putO o.dst (.val (.tuple #[.bool false]))) a))\/
  ∃ k x:aE,v= .tuple #[.bool true,k,x]/\Grow gr h a (K (st.putO o.dst (.val (.tuple #[.bool true,k,x]))) a)) h
def effE(P:aC)(tk tx:aH)(s:Sem aE)(o:aI)(gr:Bool)(st:VS)(h:aF)(K:VS->aF->Prop):Prop:=
 wpH P s (fun v a=>exT (Cl P tk) fun k=>exT (Cl P tx) fun x=>v= .tuple #[k,x]/\Grow gr h a (K (st.putO o.dst (.val (.tuple #[k,x]))) a)) h
def effT(P:aC)(s:Sem aE)(o:aI)(gr:Bool)(st:VS)(h:aF)(K:VS->aF->Prop):Prop:=
 wpH P s (fun v a=>exRt P o.type fun u=>v=u/\Grow gr h a (K (st.putO o.dst (.val u)) a)) h
def F2(cs:List aE)(off:Nat)(vs:List aE):List aE:=cs.take off++vs++cs.drop (off+vs.length)
def C1o(vs:List aE):Bool:=vs.all Jz
def Uw(P:aC)(t:aH):Bool:=
 match P.info? t with
 | some i=>i.zero.isSome
 | none=>false
def Mh(cfg:Cfg)(d:Option Nat):Bool:=
 match d with
 | some d=>has cfg.own d
 | none=>false
def Gn(cfg:Cfg)(d:Option Nat)(cells:List aE)(st:VS)(h:aF)(K:VS->aF->Prop):Prop:=
 match d with
 | some d=>When (A16 cfg d&&A1a cfg.lim d&&(st.own d).isNone) (K ((st.put d (.own d 0)).setOwn d cells) h)
 | none=>False
def Sa(P:aC)(o:aI):Bool:=
 match o.op with
 | .alloc _ | .box _ _ | .store _ _ _ | .makeSlice _ _ _ | .buildSlice _ _ _ | .select _ _ | .defer _ | .makeMap _ _ | .lookup _ _ _ _ | .mapUpdate _ _ _ _ | .range _ _ | .next _ _ | .entry _=>false
 | .convert s d _=> !(Ir P s||Ir P d)
 | .call c=>
  match c.callee with
  | .builtin .len=> !(c.argTypes.any (C20 P))
  | .builtin .cap | .builtin .max | .builtin .min=>true
  | _=>false
 | _=>true
def YCall(P:aC)(l:Nat)(args:Array aE)(h:aF)(K:VP):Prop:=
 ∀ W,Sim h W->∃ fn tmps asg body,(Instr.yield l args).run P W= .ok (.round l fn tmps asg body) W/\
  ∀ n,RoundIn Fence.wide n P l fn tmps asg body W fun e W'=>∃ r h',e= .returned r/\K r h'/\Fr h W h' W'
def YCall.mono{P:aC}{l:Nat}{args:Array aE}{h:aF}{K K':VP}(x:YCall P l args h K)(hk:∀ r h',K r h'->K' r h'):YCall P l args h K':=
 fun W k=>by
  obtain ⟨fn,b,c,a,i,g⟩:=x W k
  exact ⟨fn,b,c,a,i,fun n=>(g n).mono fun _ _ ⟨r,h',e,j,d⟩=>⟨r,h',e,hk r h' j,d⟩⟩
def Wj(P:aC)(g:aE)(h:aF)(B:List aE->aF->(aF->Prop)->Prop)(K:aF->Prop):Prop:=
 ∃ (f:FuncId) (first captured:Array aE),g= .func (.func f) first captured/\(∀ args W,(callFunc f args).run P W= .ok (.enter f args) W)/\
  ∀ l rec,h l=none->
   (∀ args h1 J,h1 l=none->B args h1 J->YCall P l args.toArray (h1.put l (.loop rec)) fun r a=>r= .bool true/\∃ h3,h3 l=none/\a=h3.put l (.loop rec)/\J h3)->
   FCall P f (first ++ #[.func (.yield l) #[] #[]]++captured) (h.put l (.loop rec)) fun _ a=>∃ h3,h3 l=none/\a=h3.put l (.loop rec)/\K h3
def A4s(r:Loop):Loop:={ r with state:=.done,pending:=some .ret }
def B1o(P:aC)(g:aE)(h:aF)(B:List aE->aF->(aF->Prop)->(aF->Prop)->Prop)(K KR:aF->Prop):Prop:=
 ∃ (f:FuncId) (first captured:Array aE),g= .func (.func f) first captured/\(∀ args W,(callFunc f args).run P W= .ok (.enter f args) W)/\
  ∀ l rec,h l=none->
   (∀ args h1 J JR,h1 l=none->B args h1 J JR->YCall P l args.toArray (h1.put l (.loop rec)) fun r a=>∃ h3,h3 l=none/\((r= .bool true/\a=h3.put l (.loop rec)/\J h3)\/(r= .bool false/\a=h3.put l (.loop (A4s rec))/\JR h3)))->
   FCall P f (first ++ #[.func (.yield l) #[] #[]]++captured) (h.put l (.loop rec)) fun _ a=>∃ h3,h3 l=none/\((a=h3.put l (.loop rec)/\K h3)\/(a=h3.put l (.loop (A4s rec))/\KR h3))
def A4c(P:aC)(cfg:Cfg)(o:aI)(c:Call)(f:AVal)(gr:Bool)(st:VS)(h:aF)(K:VS->aF->Prop):Prop:=
 match f with
 | .val (.func (.func g) first captured)=>
  match has cfg.fns g with
  | true=>When (I0 st c.args.toList) (FCall P g (first++c.args.map (rho st)++captured) h fun r a=>exRt P o.type fun v=>r=v/\Grow gr h a (K (st.putO o.dst (.val v)) a))
  | false=>When (I0 st c.args.toList) (ECall P g (first++c.args.map (rho st)++captured) h fun r a=>exRt P o.type fun v=>r=v/\Grow gr h a (K (st.putO o.dst (.val v)) a))
 | .val (.func (.yield l) first _)=>When (I0 st c.args.toList) (YCall P l (first++c.args.map (rho st)) h fun r a=>exRt P o.type fun v=>r=v/\Grow gr h a (K (st.putO o.dst (.val v)) a))
 | _=>False
def Wq(P:aC)(cfg:Cfg)(o:aI)(gr:Bool)(st:VS)(h:aF)(K:VS->aF->Prop):Prop:=
 When (I0 st o.op.operands.toList) (match H2 P (execOp (rho st) o) with
  | some (.enter g args)=>FCall P g args h fun r a=>exRt P o.type fun v=>r=v/\Grow gr h a (K (st.putO o.dst (.val v)) a)
  | _=>False)
def A2i(P:aC)(cfg:Cfg)(o:aI)(t:aH)(a x:Operand)(gr:Bool)(st:VS)(h:aF)(K:VS->aF->Prop):Prop:=
 match C9 st a with
 | .own k off=>
  match st.own k with
  | some cs=>
   When ((C9 st x).isVal&&A1a cfg.lim k&&(P.info? t).isSome&&aJ (rho st x).cells.size (P.cellsOf t)&&Nat.ble (off+P.cellsOf t) cs.length&&C1o (rho st x).cells.toList)
    (K ((st.setOwn k (F2 cs off (rho st x).cells.toList)).putO o.dst (.val undef)) h)
  | none=>False
 | .val p=>When (C9 st x).isVal (effU P (Instr.storeAt t p (rho st x)) o gr st h K)
 | .any=>False
def X5(P:aC)(cfg:Cfg)(o:aI)(gr:Bool)(st:VS)(h:aF)(K:VS->aF->Prop):Prop:=
 When (Q7 cfg o.dst) <|
 match Sa P o with
 | true=>vcQ P o st h fun v=>K (st.putO o.dst v) h
 | false=>
  match o.op with
  | .alloc t=>
   match Mh cfg o.dst with
   | true=>When (Uw P t) (Gn cfg o.dst (Cl P t).cells.toList st h K)
   | false=>effP P (Instr.alloc t true (.tuple #[])) o gr st h K
  | .box t x=>
   When (C9 st x).isVal <|
   match Mh cfg o.dst with
   | true=>Gn cfg o.dst (rho st x).cells.toList st h K
   | false=>effP P (Instr.box t (rho st x)) o gr st h K
  | .store t a x=>A2i P cfg o t a x gr st h K
  | .makeSlice t l c=>When (I0 st [l,c]) (effV P (Instr.makeSlice t (rho st l) (rho st c)) o gr st h K)
  | .buildSlice t n ps=>When (I0 st (ps.toList.map (·.2))) (effV P (Instr.buildSlice t n (ps.map fun (i,x)=>(i,rho st x))) o gr st h K)
  | .convert s d x=>When (I0 st [x]) (effV P (convert s d (rho st x)) o gr st h K)
  | .call c=>
   match c.callee with
   | .value f=>A4c P cfg o c (C9 st f) gr st h K
   | .builtin .append=>When (I0 st c.args.toList) (effV P (Builtin.append_ c.argTypes o.type (c.args.map (rho st))) o gr st h K)
   | .builtin .copy=>When (I0 st c.args.toList) (effV P (Builtin.copy_ c.argTypes o.type (c.args.map (rho st))) o gr st h K)
   | .invoke _ _=>Wq P cfg o gr st h K
   | .builtin .len=>When (I0 st c.args.toList) (effV P (Builtin.len_ c.argTypes o.type (c.args.map (rho st))) o gr st h K)
   | _=>False
  | .makeMap t none=>effV P (Instr.makeMap t none) o gr st h K
  | .lookup t x i ok=>When (I0 st [x,i]) (effT P (Instr.lookup t (rho st x) (rho st i) ok) o gr st h K)
  | .mapUpdate t m k v=>When (I0 st [m,k,v]) (effU P (Instr.mapUpdate t (rho st m) (rho st k) (rho st v)) o gr st h K)
  | .range t x=>When (I0 st [x]) (effP P (Instr.range t (rho st x)) o gr st h K)
  | .next it s=>When (I0 st [it]) (effN P (Instr.next (rho st it) s o.type) o gr st h K)
  | .entry it=>When (I0 st [it]) (effE P cfg.ent.1 cfg.ent.2 (Instr.entry (rho st it)) o gr st h K)
  | _=>False
def Pn(P:aC)(cfg:Cfg)(ops:Array aI)(o:aI)(gr:Bool)(st:VS)(h:aF)(K:VS->aF->Prop):Prop:=
 match o.guard with
 | none=>X5 P cfg o gr st h K
 | some (j,want)=>
  match (ops[j]?).bind (·.dst) with
  | none=>False
  | some g=>
   match st.env g with
   | .val (.bool b)=>
    Br b
     (match want with
      | true=>X5 P cfg o gr (st.put g (.val (.bool true))) h K
      | false=>When (Q7 cfg o.dst) (K ((st.put g (.val (.bool true))).putO o.dst (.val undef)) h))
     (match want with
      | true=>When (Q7 cfg o.dst) (K ((st.put g (.val (.bool false))).putO o.dst (.val undef)) h)
      | false=>X5 P cfg o gr (st.put g (.val (.bool false))) h K)
   | .val (.tuple _)=>When (Q7 cfg o.dst) (K (st.putO o.dst (.val undef)) h)
   | _=>False
def B26(P:aC)(cfg:Cfg)(ops:Array aI)(gr:Bool):List Nat->VS->aF->(VS->aF->Prop)->Prop
 | [],st,h,K=>K st h
 | i::is,st,h,K=>
  match ops[i]? with
  | none=>False
  | some o=>Pn P cfg ops o gr st h fun st' h'=>B26 P cfg ops gr is st' h' K
