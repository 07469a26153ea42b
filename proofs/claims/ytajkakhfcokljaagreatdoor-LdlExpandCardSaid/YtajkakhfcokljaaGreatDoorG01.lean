/-
  Texts of this proof, merged by a program of ours.
-/
import Derived.Test.YtajkakhfcokljaaGreatDoorG00
import Derived.RangeFuncIn
import Derived.RangeFuncLeaves
set_option linter.all false
namespace Go.Proofs.YtajkakhfcokljaaGreatDoor
open Go
inductive AVal where
 | val (v:Value)
 | own (k off:Nat)
 | any
structure VS where
 env:Nat->AVal
 own:Nat->Option (List Value)
def VS.put(st:VS)(d:Nat)(v:AVal):VS:={ env:=fun i=>bif Nat.beq i d then v else st.env i,own:=st.own }
def VS.putO(st:VS)(d:Option Nat)(v:AVal):VS:=
 match d with
 | some d=>st.put d v
 | none=>st
def VS.setOwn(st:VS)(k:Nat)(cs:List Value):VS:={ env:=st.env,own:=fun i=>bif Nat.beq i k then some cs else st.own i }
structure Lim where
 slots:List Nat
 keys:List Nat
structure Cfg where
 n:Nat
 own:List Nat
 lim:Option Lim
 fns:List Nat
 wr:List Nat
 inr:Bool:=false
def has(l:List Nat)(d:Nat):Bool:=l.any (Nat.beq d)
def B8p(lim:Option Lim)(d:Nat):Bool:=
 match lim with
 | none=>true
 | some l=>has l.slots d
def A0h(lim:Option Lim)(d:Nat):Bool:=
 match lim with
 | none=>true
 | some l=>has l.keys d
def A0f(cfg:Cfg)(d:Nat):Bool:=Nat.blt d cfg.n&&B8p cfg.lim d
def O9(cfg:Cfg)(d:Option Nat):Bool:=
 match d with
 | none=>true
 | some d=>A0f cfg d
def D3(st:VS):Operand->AVal
 | .tmp t=>st.env t
 | .const v=>.val v
 | .global g=>.val (.pointer (some ⟨g,0,none⟩))
 | .func f=>.val (.func (.func f) #[] #[])
def AVal.isVal:AVal->Bool
 | .val _=>true
 | _=>false
def AVal.toV:AVal->Value
 | .val v=>v
 | _=>undef
def rho(st:VS)(x:Operand):Value:=(D3 st x).toV
def O4(st:VS)(xs:List Operand):Bool:=xs.all fun x=>(D3 st x).isVal
def Od(P:Program)(t:TypeId):Value:=
 match P.info? t with
 | some i=>i.zero.getD undef
 | none=>undef
def Kn(P:Program)(t:TypeId):Option Bool:=
 match P.underlying t with
 | some (.struct _)|some (.array _ _)=>some true
 | some _=>some false
 | none=>none
def When(b:Bool)(A:Prop):Prop:=match b with|true=>A|false=>False
def cellsAt(h:Heap)(a:Addr)(j:Nat):List Value->Prop->Prop
 | [],X=>X
 | v::vs,X=>h.cell? (a.add j)=some v/\cellsAt h a (j+1) vs X
def V6(P:Program)(t:TypeId)(a:Addr)(h:Heap)(C:AVal->Prop):Prop:=
 match Kn P t with
 | some true=>
  match Od P t with
  | .agg zs=>When (Nat.beq zs.size (P.cellsOf t)) (exL zs.toList fun vs=>cellsAt h a 0 vs (C (.val (.agg vs.toArray))))
  | _=>False
 | some false=>exV (Od P t) fun v=>h.cell? a=some v/\C (.val v)
 | none=>False
def U2(P:Program)(t:TypeId)(cs:List Value)(off:Nat)(C:AVal->Prop):Prop:=
 match Kn P t with
 | some true=>When ((P.info? t).isSome&&Nat.ble (off+P.cellsOf t) cs.length) (C (.val (.agg ((cs.drop off).take (P.cellsOf t)).toArray)))
 | some false=>
  match cs[off]? with
  | some v=>C (.val v)
  | none=>False
 | none=>False
def K0(A:Option Addr)(m l size:Nat):Option Addr:=if m=l then A else A.map (·.add (l*size))
def slBound(v:Option AVal)(dflt y:Nat)(C:Nat->Prop):Prop:=
 match v with
 | none=>C dflt
 | some (.val (.int _ i))=>(0<=i/\i<=(y:Int))/\C i.toNat
 | _=>False
def Jo(P:Program)(o:Oper)(st:VS)(C:AVal->Prop):Prop:=
 match O4 st o.op.operands.toList with
 | true=>
  match My P (execOp (rho st) o) with
  | some (.value v)=>C (.val v)
  | _=>False
 | false=>False
def Dm(P:Program)(t:TypeId)(x:AVal)(lo hi:Option AVal)(C:AVal->Prop):Prop:=
 match P.underlying t,x with
 | some .string,.val (.string s)=>
  slBound hi s.size s.size fun h=>slBound lo 0 h fun l=>C (.val (.string (s.extract l h)))
 | some (.slice e),.val (.slice A n c)=>
  When (P.info? e).isSome (slBound hi n c fun h=>slBound lo 0 h fun l=>C (.val (.slice (K0 A c l (P.cellsOf e)) (h-l) (c-l))))
 | some (.array n e),.val (.pointer (some a))=>
  When (P.info? e).isSome (slBound hi n n fun h=>slBound lo 0 h fun l=>C (.val (.slice (K0 (some a) n l (P.cellsOf e)) (h-l) (n-l))))
 | _,_=>False
def Jn(P:Program)(t:TypeId)(x lo hi mx:AVal)(C:AVal->Prop):Prop:=
 match P.underlying t,x,lo,hi,mx with
 | some (.slice e),.val (.slice A _ c),.val (.int _ l),.val (.int _ h),.val (.int _ m)=>
  When (P.info? e).isSome ((0<=m/\m<=(c:Int))/\(0<=h/\h<=(m.toNat:Int))/\(0<=l/\l<=(h.toNat:Int))/\C (.val (.slice (K0 A m.toNat l.toNat (P.cellsOf e)) (h.toNat-l.toNat) (m.toNat-l.toNat))))
 | _,_,_,_,_=>False
def Hq(P:Program)(t:TypeId):Bool:=
 match P.underlying t with
 | some (.slice _)=>true
 | _=>false
def C0u(P:Program)(f:Field)(xs ys:Array Value):Option Bool:=
 match P.underlying f.type,xs[f.offset]?,ys[f.offset]? with
 | some .string,some (.string a),some (.string b)=>
  match f.name == "_" with
  | true=>none
  | false=>some (a.toList==b.toList)
 | _,_,_=>none
def B27(P:Program):List Field->Array Value->Array Value->Option Bool
 | [],_,_=>some true
 | f::fs,xs,ys=>
  match C0u P f xs ys,B27 P fs xs ys with
  | some a,some b=>some (a&&b)
  | _,_=>none
def Zn(P:Program)(t:TypeId)(xs ys:Array Value)(C:Bool->Prop):Prop:=
 match P.underlying t with
 | some (.struct fs)=>
  When (!(P.stoodInHeld t) && !(P.eqGuardType P.depth t))
   (match B27 P fs.toList xs ys with
   | some b=>C b
   | none=>False)
 | _=>False
def Ic(P:Program)(o:Oper)(st:VS)(op:BinOp)(t:TypeId)(x y:AVal)(C:AVal->Prop):Prop:=
 match op,x,y with
 | .eql,.val (.agg xs),.val (.agg ys)=>Zn P t xs ys fun b=>C (.val (.bool b))
 | .neq,.val (.agg xs),.val (.agg ys)=>Zn P t xs ys fun b=>C (.val (.bool (!b)))
 | .eql,.val (.slice A _ _),.val (.slice none _ _)=>When (Hq P t) (C (.val (.bool A.isNone)))
 | .neq,.val (.slice A _ _),.val (.slice none _ _)=>When (Hq P t) (C (.val (.bool (!A.isNone))))
 | .quo,.val (.int k a),.val (.int k' b)=>When (k==k') (Br (decide (b=0)) False (C (.val (.int k (k.wrap (a.tdiv b))))))
 | .rem,.val (.int k a),.val (.int k' b)=>When (k==k') (Br (decide (b=0)) False (C (.val (.int k (a.tmod b)))))
 | .shl,.val (.int k a),.val (.int _ b)=>Br (decide (b<0)) False (C (.val (.int k (k.wrap (a*2^(min b.toNat k.bits))))))
 | .shr,.val (.int k a),.val (.int _ b)=>Br (decide (b<0)) False (C (.val (.int k (a.fdiv (2^(min b.toNat k.bits))))))
 | .add,.val (.string a),.val (.string b)=>((a.size+b.size:Nat):Int)<=9223372036854775807/\C (.val (.string (a++b)))
 | _,_,_=>Jo P o st C
def N6(P:Program)(t:TypeId)(x i:AVal)(C:AVal->Prop):Prop:=
 match P.underlying t,x,i with
 | some (.array len e),.own k off,.val (.int _ n)=>When (P.info? e).isSome<|Br (decide (0<=n/\n<(len:Int))) (C (.own k (off+n.toNat*P.cellsOf e))) False
 | some (.array len e),.val (.pointer (some a)),.val (.int _ n)=>When (P.info? e).isSome<|(0<=n/\n<(len:Int))/\C (.val (.pointer (some (a.add (n.toNat*P.cellsOf e)))))
 | some (.slice e),.val (.slice A n _),.val (.int _ i)=>When (P.info? e).isSome <| ∃ a,A=some a/\0<=i/\i<(n:Int)/\C (.val (.pointer (some (a.add (i.toNat*P.cellsOf e)))))
 | _,_,_=>False
def vcQ(P:Program)(o:Oper)(st:VS)(h:Heap)(C:AVal->Prop):Prop:=
 match o.op with
 | .move x | .assign x=>C (D3 st x)
 | .pick c a b=>
  match D3 st c with
  | .val (.bool t)=>Br t (C (D3 st a)) (C (D3 st b))
  | _=>False
 | .load t x=>
  match D3 st x with
  | .own k off=>
   match st.own k with
   | some cs=>U2 P t cs off C
   | none=>False
  | .val (.pointer (some a))=>V6 P t a h C
  | _=>False
 | .fieldAddr s x f=>
  match D3 st x with
  | .own k off=>
   match P.underlying s with
   | some (.struct fs)=>
    match fs[f]? with
    | some f=>When ((P.info? f.type).isSome&&Nat.blt 0 (P.cellsOf f.type)) (C (.own k (off+f.offset)))
    | none=>False
   | _=>False
  | .val (.pointer (some a))=>
   match P.underlying s with
   | some (.struct fs)=>
    match fs[f]? with
    | some f=>When ((P.info? f.type).isSome&&Nat.blt 0 (P.cellsOf f.type)) (C (.val (.pointer (some (a.add f.offset)))))
    | none=>False
   | _=>False
  | _=>False
 | .nilCheck x=>
  match D3 st x with
  | .own k off=>C (.own k off)
  | .val (.pointer p)=>∃ a,p=some a/\C (.val (.pointer (some a)))
  | _=>False
 | .indexAddr t x i=>N6 P t (D3 st x) (D3 st i) C
 | .index t x i=>
  match P.underlying t,D3 st x,D3 st i with
  | some .string,.val (.string s),.val (.int _ i)=>∃ c:UInt8,(0<=i/\s[i.toNat]? = some c)/\C (.val (.int .u8 c.toNat))
  | _,_,_=>Jo P o st C
 | .slice t x lo hi none=>Dm P t (D3 st x) (lo.map (D3 st)) (hi.map (D3 st)) C
 | .slice t x (some lo) (some hi) (some mx)=>Jn P t (D3 st x) (D3 st lo) (D3 st hi) (D3 st mx) C
 | .binOp op t x y _=>Ic P o st op t (D3 st x) (D3 st y) C
 | .panic _=>False
 | _=>Jo P o st C
def Grow(gr:Bool)(h h':Heap)(X:Prop):Prop:=
 match gr with
 | true=>h.le h'/\X
 | false=>X
def exRt(P:Program)(t:TypeId)(K:Value->Prop):Prop:=
 match P.underlying t with
 | some (.tuple ts)=>exTs (ts.toList.map (Od P)) fun vs=>K (.tuple vs.toArray)
 | _=>exT (Od P t) K
def effV(P:Program)(s:Sem Value)(o:Oper)(gr:Bool)(st:VS)(h:Heap)(K:VS->Heap->Prop):Prop:=
 wpH P s (fun v h'=>exT (Od P o.type) fun u=>v=u/\Grow gr h h' (K (st.putO o.dst (.val u)) h')) h
def effP(P:Program)(s:Sem Value)(o:Oper)(gr:Bool)(st:VS)(h:Heap)(K:VS->Heap->Prop):Prop:=
 wpH P s (fun v h'=>∃ a:Addr,v= .pointer (some a)/\Grow gr h h' (K (st.putO o.dst (.val (.pointer (some a)))) h')) h
def effU(P:Program)(s:Sem Unit)(o:Oper)(gr:Bool)(st:VS)(h:Heap)(K:VS->Heap->Prop):Prop:=
 wpH P s (fun _ h'=>Grow gr h h' (K (st.putO o.dst (.val undef)) h')) h
def J7(cs:List Value)(off:Nat)(vs:List Value):List Value:=cs.take off++vs++cs.drop (off+vs.length)
def B8k(vs:List Value):Bool:=vs.all A1v
def A74(P:Program)(t:TypeId):Bool:=
 match P.info? t with
 | some i=>i.zero.isSome
 | none=>false
def Km(cfg:Cfg)(d:Option Nat):Bool:=
 match d with
 | some d=>has cfg.own d
 | none=>false
def Fj(cfg:Cfg)(d:Option Nat)(cells:List Value)(st:VS)(h:Heap)(K:VS->Heap->Prop):Prop:=
 match d with
 | some d=>When (A0f cfg d&&A0h cfg.lim d&&(st.own d).isNone) (K ((st.put d (.own d 0)).setOwn d cells) h)
 | none=>False
def Qv(P:Program)(o:Oper):Bool:=
 match o.op with
 | .alloc _ | .box _ _ | .store _ _ _ | .makeSlice _ _ _ | .buildSlice _ _ _ | .select _ _ | .defer _=>false
 | .convert s d _=> !(Hq P s||Hq P d)
 | .call c=>
  match c.callee with
  | .builtin .len | .builtin .cap | .builtin .max | .builtin .min=>true
  | _=>false
 | _=>true
def YCall(P:Program)(l:Nat)(args:Array Value)(h:Heap)(K:VP):Prop:=
 ∀ W,Sim h W->∃ fn tmps asg body,(Instr.yield l args).run P W= .ok (.round l fn tmps asg body) W/\
  ∀ n,RoundIn Fence.wide n P l fn tmps asg body W fun e W'=>∃ r h',e= .returned r/\K r h'/\Fr h W h' W'
theorem YCall.mono{P:Program}{l:Nat}{args:Array Value}{h:Heap}{K K':VP}(x:YCall P l args h K)(hk:∀ r h',K r h'->K' r h'):YCall P l args h K':=
 fun W hs=>by
  obtain ⟨fn,tmps,asg,body,h1,h2⟩:=x W hs
  exact ⟨fn,tmps,asg,body,h1,fun n=>(h2 n).mono fun _ _ ⟨r,h',he,hK,hf⟩=>⟨r,h',he,hk r h' hK,hf⟩⟩
def A1f(P:Program)(g:Value)(h:Heap)(B:List Value->Heap->(Heap->Prop)->Prop)(K:Heap->Prop):Prop:=
 ∃ (f:FuncId) (first captured:Array Value),g= .func (.func f) first captured/\(∀ args W,(callFunc f args).run P W= .ok (.enter f args) W)/\
  ∀ l rec,h l=none->
   (∀ args h1 J,h1 l=none->B args h1 J->YCall P l args.toArray (h1.put l (.loop rec)) fun r h2=>r= .bool true/\∃ h3,h3 l=none/\h2=h3.put l (.loop rec)/\J h3)->
   FCall P f (first ++ #[.func (.yield l) #[] #[]]++captured) (h.put l (.loop rec)) fun _ h2=>∃ h3,h3 l=none/\h2=h3.put l (.loop rec)/\K h3
def A3u(P:Program)(cfg:Cfg)(o:Oper)(c:Call)(f:AVal)(gr:Bool)(st:VS)(h:Heap)(K:VS->Heap->Prop):Prop:=
 match f with
 | .val (.func (.func g) first captured)=>
  match has cfg.fns g with
  | true=>When (O4 st c.args.toList) (FCall P g (first++c.args.map (rho st)++captured) h fun r h'=>exRt P o.type fun v=>r=v/\Grow gr h h' (K (st.putO o.dst (.val v)) h'))
  | false=>When (O4 st c.args.toList) (ECall P g (first++c.args.map (rho st)++captured) h fun r h'=>exRt P o.type fun v=>r=v/\Grow gr h h' (K (st.putO o.dst (.val v)) h'))
 | .val (.func (.yield l) first _)=>When (O4 st c.args.toList) (YCall P l (first++c.args.map (rho st)) h fun r h'=>exRt P o.type fun v=>r=v/\Grow gr h h' (K (st.putO o.dst (.val v)) h'))
 | _=>False
def A21(P:Program)(cfg:Cfg)(o:Oper)(t:TypeId)(a x:Operand)(gr:Bool)(st:VS)(h:Heap)(K:VS->Heap->Prop):Prop:=
 match D3 st a with
 | .own k off=>
  match st.own k with
  | some cs=>
   When ((D3 st x).isVal&&A0h cfg.lim k&&(P.info? t).isSome&&Nat.beq (rho st x).cells.size (P.cellsOf t)&&Nat.ble (off+P.cellsOf t) cs.length&&B8k (rho st x).cells.toList)
    (K ((st.setOwn k (J7 cs off (rho st x).cells.toList)).putO o.dst (.val undef)) h)
  | none=>False
 | .val p=>When (D3 st x).isVal (effU P (Instr.storeAt t p (rho st x)) o gr st h K)
 | .any=>False
def Q8(P:Program)(cfg:Cfg)(o:Oper)(gr:Bool)(st:VS)(h:Heap)(K:VS->Heap->Prop):Prop:=
 When (O9 cfg o.dst) <|
 match Qv P o with
 | true=>vcQ P o st h fun v=>K (st.putO o.dst v) h
 | false=>
  match o.op with
  | .alloc t=>
   match Km cfg o.dst with
   | true=>When (A74 P t) (Fj cfg o.dst (Od P t).cells.toList st h K)
   | false=>effP P (Instr.alloc t true (.tuple #[])) o gr st h K
  | .box t x=>
   When (D3 st x).isVal <|
   match Km cfg o.dst with
   | true=>Fj cfg o.dst (rho st x).cells.toList st h K
   | false=>effP P (Instr.box t (rho st x)) o gr st h K
  | .store t a x=>A21 P cfg o t a x gr st h K
  | .makeSlice t l c=>When (O4 st [l,c]) (effV P (Instr.makeSlice t (rho st l) (rho st c)) o gr st h K)
  | .buildSlice t n ps=>When (O4 st (ps.toList.map (·.2))) (effV P (Instr.buildSlice t n (ps.map fun (i,x)=>(i,rho st x))) o gr st h K)
  | .convert s d x=>When (O4 st [x]) (effV P (convert s d (rho st x)) o gr st h K)
  | .call c=>
   match c.callee with
   | .value f=>A3u P cfg o c (D3 st f) gr st h K
   | .builtin .append=>When (O4 st c.args.toList) (effV P (Builtin.append_ c.argTypes o.type (c.args.map (rho st))) o gr st h K)
   | .builtin .copy=>When (O4 st c.args.toList) (effV P (Builtin.copy_ c.argTypes o.type (c.args.map (rho st))) o gr st h K)
   | _=>False
  | _=>False
def Of(P:Program)(cfg:Cfg)(ops:Array Oper)(o:Oper)(gr:Bool)(st:VS)(h:Heap)(K:VS->Heap->Prop):Prop:=
 match o.guard with
 | none=>Q8 P cfg o gr st h K
 | some (j,want)=>
  match (ops[j]?).bind (·.dst) with
  | none=>False
  | some g=>
   match st.env g with
   | .val (.bool b)=>
    Br b
     (match want with
      | true=>Q8 P cfg o gr (st.put g (.val (.bool true))) h K
      | false=>When (O9 cfg o.dst) (K ((st.put g (.val (.bool true))).putO o.dst (.val undef)) h))
     (match want with
      | true=>When (O9 cfg o.dst) (K ((st.put g (.val (.bool false))).putO o.dst (.val undef)) h)
      | false=>Q8 P cfg o gr (st.put g (.val (.bool false))) h K)
   | .val (.tuple _)=>When (O9 cfg o.dst) (K (st.putO o.dst (.val undef)) h)
   | _=>False
def B1s(P:Program)(cfg:Cfg)(ops:Array Oper)(gr:Bool):List Nat->VS->Heap->(VS->Heap->Prop)->Prop
 | [],st,h,K=>K st h
 | i::is,st,h,K=>
  match ops[i]? with
  | none=>False
  | some o=>Of P cfg ops o gr st h fun st' h'=>B1s P cfg ops gr is st' h' K
end Go.Proofs.YtajkakhfcokljaaGreatDoor
