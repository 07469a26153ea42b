/- A part. -/
import Derived.Test.YtkfhdoblhajcbaaGreatDoorG01
import Derived.OrdersIn
import Derived.RangeFuncCalls
set_option linter.all false
open Bool renaming and_eq_true->aF,false_eq_true->aS
open _root_.Go.Instr renaming sureAddr->aE,loadAt->aL,sliceBounds->aN,sliceAt->aQ,sliceBound->aW,indexAt->aX
open Nat renaming le_of_ble_eq_true->aK,beq->aU,lt_or_ge->aY
open _root_.Go.Op renaming maxDepth->aM,equalIn->aR
open Option renaming map_some->aP
open _root_.Go.Result renaming andThen_ok->aC
open _root_.Go renaming World->aD,Value->aG,Operand->aH,TypeId->aJ,Oper->aO,Program->aV
open _root_.Go.Proofs.YtkfhdoblhajcbaaGreatDoor renaming Heap->aI,AVal->aT
namespace Go.Proofs.YtkfhdoblhajcbaaGreatDoor
open Go
def rel(θ:Nat->Nat):aT->aG->Prop
 |.val v,u=>u=v
 |.own k off,u=>u= .pointer (some ⟨θ k,off,none⟩)
 |.any,_=>True
structure FOkS (F:Fence):Prop where
 ok:F=Fence.wide\/∃ l,F=Fence.wide.inRound l
abbrev FOk(F:Fence):=Inhabited (PLift (FOkS F))
instance:FOk Fence.wide:=⟨⟨⟨.inl rfl⟩⟩⟩
instance {l:Nat}:FOk (Fence.wide.inRound l):=⟨⟨⟨.inr ⟨l,rfl⟩⟩⟩⟩
def FOk.fn{F:Fence}[x:FOk F](f:FuncId):F.fn f:=by rcases x.default.down.ok with rfl|⟨l,rfl⟩<;>trivial
def FOk.depth{F:Fence}[x:FOk F]:F.depth=none:=by rcases x.default.down.ok with rfl|⟨l,rfl⟩<;>rfl
def B3a{F:Fence}[x:FOk F]{k:Nat}{P:aV}{f:FuncId}{args:Array aG}{W:aD}{R:Ending->aD->Prop}(h:Calls P f args W R):CallsIn F k P f args W R:=by rcases x.default.down.ok with rfl|⟨l,rfl⟩;{exact callsIn_wide.2 h};·exact CallsIn.inRound l (callsIn_wide.2 h)
def FOk.round{F:Fence}[x:FOk F]{k:Nat}{P:aV}{l:Nat}{f:FuncId}{tmps:Array aG}{asg body:Code}{W:aD}{R:Ending->aD->Prop}(h:RoundIn Fence.wide k P l f tmps asg body W R):RoundIn F k P l f tmps asg body W R:=by rcases x.default.down.ok with rfl|⟨l,rfl⟩;{exact h};·exact h
def Oper.wpX(F:Fence)(fu:Nat)(P:aV)(o:aO)(a:Act)(W:aD)(next:Act->aD->Prop)(Q:Exit->Act->aD->Prop):Prop:=o.uponIn F fu P a next Q ((execOp a.eval o).run P W)
def Oper.wpX.toIn{F:Fence}[FOk F]{fu:Nat}{P:aV}{o:aO}{a:Act}{W:aD}{next:Act->aD->Prop}{Q:Exit->Act->aD->Prop}(h:Oper.wpX F fu P o a W next Q)(hd:∀c,o.op ≠ .defer c):o.wpIn F fu P a W next Q:=⟨fun f _=>FOk.fn f,by rw[Oper.semAt_eq _ _ _ hd];exact h⟩
def MarksOk(s0:Nat)(h:aI)(W:aD)(ds:List Deferred):Prop:=∃rs:List Nat,rs.Nodup/\ds.map (·.target)=rs.map Target.collected/\∀r∈rs,s0<=r/\h r=none/\W.heap[r]? = some (.deferred (some []))
def MarksOk.nil{s0:Nat}{h:aI}{W:aD}:MarksOk s0 h W []:=⟨[],List.nodup_nil,rfl,fun r c=>by cases c⟩
def MarksOk.turn{s0:Nat}{h h':aI}{W W':aD}{ds:List Deferred}(m:MarksOk s0 h W ds)(x:∀r,h r=none->W.heap[r]? = some (.deferred (some []))->h' r=none/\W'.heap[r]? = some (.deferred (some []))):MarksOk s0 h' W' ds:=by obtain⟨e,g,f,d⟩:=m;exact⟨e,g,f,fun r c=>⟨(d r c).1,x r (d r c).2.1 (d r c).2.2⟩⟩
def Fj{W:aD}{r:Nat}{o:Obj}(e:W.heap[r]? = some o):r<W.heap.size:=by grind
def MarksOk.world{s0:Nat}{h h':aI}{W W':aD}{ds:List Deferred}(m:MarksOk s0 h W ds)(f:Fr h W h' W'):MarksOk s0 h' W' ds:=
 m.turn fun r d e=>by
  have c:=Fj e;refine⟨?_,(f.keep r c d).trans e⟩
  cases x:h' r with
  |none=>rfl
  |some o=>have:=f.new r o d x;omega
structure Rel (s0:Nat) (n:Nat) (θ:Nat->Nat) (st:VS) (h:aI) (a:Act) (W:aD):Prop where
 defers:MarksOk s0 h W a.defers
 size:a.tmps.size=n
 slot:∀ i,i<n->rel θ (st.env i) (a.tmps.getD i undef)
 sim:Sim h W
 own:∀ k cs,st.own k=some cs->∃ t,W.heap[θ k]? = some (.cells cs.toArray t (0,0))/\h (θ k)=none
 inj:∀ k k',(st.own k).isSome=true->(st.own k').isSome=true->θ k=θ k'->k=k'
 wf:∀ i k off,st.env i= .own k off->(st.own k).isSome=true
 out:∀ i,n<=i->st.env i= .val undef
def Good(n:Nat)(h0:aI)(W0:aD)(st:VS)(h:aI)(a:Act)(W:aD):Prop:=∃θ,Rel W0.heap.size n θ st h a W/\Fr h0 W0 h W/\∀k,(st.own k).isSome=true->W0.heap.size<=θ k
structure Agree (lim:Option Lim) (st st':VS):Prop where
 env:∀ i,C2g lim i=false->st'.env i=st.env i
 own:∀ i,A2o lim i=false->st'.own i=st.own i
def Agree.refl(lim:Option Lim)(st:VS):Agree lim st st:=⟨fun _ _=>rfl,fun _ _=>rfl⟩
def Agree.trans{lim:Option Lim}{a b c:VS}(x:Agree lim a b)(y:Agree lim b c):Agree lim a c:=⟨fun i h=>(y.env i h).trans (x.env i h),fun i h=>(y.own i h).trans (x.own i h)⟩
def When.both{b:Bool}{A:Prop}(h:When b A):b=true/\A:=by cases b;{exact h.elim};·exact⟨rfl,h⟩
section
variable {P:aV} {s0:Nat} {F:Fence} {fu:Nat} {n:Nat} {θ:Nat->Nat} {st:VS} {h:aI} {a:Act} {W:aD}
def Rel.slot'(r:Rel s0 n θ st h a W)(i:Nat):rel θ (st.env i) (a.tmps.getD i undef):=by rcases aY i n with c|c;{exact r.slot i c};·rw[r.out i c];show _=undef;have:a.tmps.size<=i:=by{rw[r.size];exact c};grind
def Rel.eval(r:Rel s0 n θ st h a W)(x:aH):rel θ (D7 st x) (a.eval x):=by
 cases x with
 |tmp t=>exact r.slot' t
 |const v=>exact rfl
 |global g=>exact rfl
 |func f=>exact rfl
def Rel.evalVal(r:Rel s0 n θ st h a W){x:aH}{v:aG}(e:D7 st x= .val v):a.eval x=v:=by have:=r.eval x;rw[e]at this;exact this
def Rel.evalOwn(r:Rel s0 n θ st h a W){x:aH}{k off:Nat}(e:D7 st x= .own k off):a.eval x= .pointer (some ⟨θ k,off,none⟩):=by have:=r.eval x;rw[e]at this;exact this
def Rel.evalRho(r:Rel s0 n θ st h a W){x:aH}(e:(D7 st x).isVal=true):a.eval x=rho st x:=by
 unfold rho
 cases y:D7 st x with
 |val v=>exact r.evalVal y
 |own k off=>rw[y]at e;cases e
 |any=>rw[y]at e;cases e
def Rel.evalAll(r:Rel s0 n θ st h a W){xs:List aH}(e:S7 st xs=true):∀x∈xs,a.eval x=rho st x:=fun x c=>r.evalRho (List.all_eq_true.1 e x c)
def Rel.exec(r:Rel s0 n θ st h a W){o:aO}(hs:∀cs b,o.op ≠ .select cs b)(e:S7 st o.op.operands.toList=true):execOp a.eval o=execOp (rho st) o:=execOp_congr o hs fun x c=>r.evalAll e x gz0
def Pp(r:Rel s0 n θ st h a W){o:aO}{C:aT->Prop}(hs:∀cs b,o.op ≠ .select cs b)(hv:Mi P o st C):∃v u,C v/\rel θ v u/\(∀k off,v= .own k off->(st.own k).isSome=true)/\(execOp a.eval o).run P W= .ok (.value u) W:=by unfold Mi at hv;split at hv;{rename_i e;split at hv;{rename_i v c;refine⟨.val v,v,hv,rfl,(fun _ _ e=>by cases e),?_⟩;rw[r.exec hs e];exact Tv _ c W};grind};grind
def Nj{t:aJ}{b:Bool}(h:Oe P t=some b)(W:aD):(isAgg t).run P W= .ok b W:=by
 unfold Oe at h;unfold isAgg
 cases hu:P.underlying t with
 |none=>grind
 |some d=>
  rw[hu]at h;simp only[Sem.run_bind,run_underlying hu,aC];cases d<;>simp at h<;>subst h<;>rfl
def N9{t:aJ}(h:(P.info? t).isSome=true)(W:aD):(sizeOf t).run P W= .ok (P.cellsOf t) W:=by obtain⟨i,c⟩:=Option.isSome_iff_exists.1 h;simp[sizeOf,typeInfo,program,Program.cellsOf,c,Sem.run_bind,Sem.run]
def A04{t:aJ}{d:TypeDesc}(h:P.underlying t=some d):(P.info? t).isSome=true:=by unfold Program.underlying at h;grind
def Lm{t:aJ}{b:Bool}(h:Oe P t=some b):(P.info? t).isSome=true:=by
 unfold Oe at h
 cases hu:P.underlying t with
 |none=>grind
 |some d=>exact A04 hu
def cellsAt.out{a:Addr}{X:Prop}:∀{vs:List aG} {j:Nat},cellsAt h a j vs X->X/\∀i v,vs[i]? = some v->h.cell? (a.add (j+i))=some v:=by
 intro vs
 induction vs with
 |nil=>exact fun x=>⟨x,fun i v e=>by simp at e⟩
 |cons u vs ih=>
  intro j ⟨h1,h2⟩;obtain⟨c,d⟩:=ih h2;refine⟨c,fun i v e=>?_⟩
  cases i with
  |zero=>grind
  |succ i=>grind
def Kh(hs:Sim h W){t:aJ}{ad:Addr}{C:aT->Prop}(hv:Ai P t ad h C):∃v,C (.val v)/\(aL t (.pointer (some ad))).run P W= .ok v W:=by unfold Ai at hv;split at hv;{rename_i c;split at hv;{obtain⟨l,hv⟩:=hv.both;obtain⟨i,k,hv⟩:=exL.out hv;obtain⟨f,g⟩:=hv.out;refine⟨_,f,?_⟩;have d:i.length=P.cellsOf t:=by{simp_all};have:=run_loadCells_list (P:=P) (w:=W) ad i (fun j v e=>hs.cell gz0);simp only[aL,aE,loadVar,Sem.run_bind,Sem.run_pure,Nj c,aC,if_true,N9 (Lm c),<- d,this]};grind};{rename_i c;obtain⟨v,f,hv⟩:=exV.out hv;refine⟨v,hv,?_⟩;simp only[aL,aE,loadVar,Sem.run_bind,Sem.run_pure,Nj c,aC,if_false,aS];simp only[load,Sem.run,hs.cell f]};grind
def Rel.ownCell(r:Rel s0 n θ st h a W){k:Nat}{cs:List aG}(e:st.own k=some cs){off:Nat}{v:aG}(hv:cs[off]? = some v):W.cell? ⟨θ k,off,none⟩=some v:=by obtain⟨t,c,_⟩:=r.own k cs e;simp[World.cell?,c,hv]
def Ha(b off j:Nat):(Addr.add ⟨b,off,none⟩ j)=⟨b,off+j,none⟩:=by unfold Addr.add;grind
def Gv(r:Rel s0 n θ st h a W){t:aJ}{k off:Nat}{cs:List aG}(e:st.own k=some cs){C:aT->Prop}(hv:Ah P t cs off C):∃v,C (.val v)/\(aL t (.pointer (some ⟨θ k,off,none⟩))).run P W= .ok v W:=by unfold Ah at hv;split at hv;{rename_i c;obtain⟨d,hv⟩:=hv.both;simp only[aF]at d;have g:=aK d.2;refine⟨_,hv,?_⟩;have f:((cs.drop off).take (P.cellsOf t)).length=P.cellsOf t:=gz0;have:=run_loadCells_list (P:=P) (w:=W) ⟨θ k,off,none⟩ ((cs.drop off).take (P.cellsOf t)) (fun j v l=>by rw[Ha];refine r.ownCell e ?_;grind);rw[f]at this;simp only[aL,aE,loadVar,Sem.run_bind,Sem.run_pure,Nj c,aC,if_true,N9 (Lm c),this]};{rename_i c;split at hv;{rename_i v i;refine⟨v,hv,?_⟩;simp only[aL,aE,loadVar,Sem.run_bind,Sem.run_pure,Nj c,aC,if_false,aS];simp only[load,Sem.run,r.ownCell e i]};grind};grind
def Rel.evalWf(r:Rel s0 n θ st h a W){x:aH}:∀k off,D7 st x= .own k off->(st.own k).isSome=true:=by
 intro k off e
 cases x with
 |tmp t=>exact r.wf t k off e
 |_=>cases e
def QOut(P:aV)(θ:Nat->Nat)(st:VS)(a:Act)(W:aD)(o:aO)(C:aT->Prop):Prop:=∃v u,C v/\rel θ v u/\(∀k off,v= .own k off->(st.own k).isSome=true)/\(execOp a.eval o).run P W= .ok (.value u) W
def QOut.val{o:aO}{C:aT->Prop}{v:aG}(hc:C (.val v))(hr:(execOp a.eval o).run P W= .ok (.value v) W):QOut P θ st a W o C:=⟨.val v,v,hc,rfl,(fun _ _ e=>by cases e),hr⟩
def slBound.out{v:Option aT}{dflt y:Nat}{C:Nat->Prop}(hb:slBound v dflt y C): (v=none/\C dflt)\/∃k i,v=some (.val (.int k i))/\0<=i/\i<=(y:Int)/\C i.toNat:=by unfold slBound at hb;grind
def S1{k:IntKind}{i:Int}{y:Nat}(h0:0<=i)(h1:i<=(y:Int))(c:BoundsCode)(W:aD):(aW (.int k i) y c).run P W= .ok i.toNat W:=by simp[aW,asIntOf,h0,h1]
def Cv(r:Rel s0 n θ st h a W){isS:Bool}{len cap:Nat}{lo hi:Option aH}{C:Nat->Nat->Prop}
 (hb:slBound (hi.map (D7 st)) len cap fun h=>slBound (lo.map (D7 st)) 0 h fun l=>C l h):
 ∃l h',C l h'/\(aN isS len cap (lo.map a.eval) (hi.map a.eval) none).run P W= .ok (l,h',cap) W:=by
 have c:∀h',(slBound (lo.map (D7 st)) 0 h' fun l=>C l h')->∃l,C l h'/\
  (match lo.map a.eval with
   |some v=>aW v h' .sliceB
   |none=>(pure 0:Sem Nat)).run P W= .ok l W:=by
  intro h' hb;rcases hb.out with⟨e,d⟩|⟨k,i,e,j,g,d⟩;·simp_all
  ·cases lo with
   |none=>simp at e
   |some x=>
    simp only[aP,Option.some.injEq]at e;exact⟨_,d,by simp only[aP,r.evalVal e];exact S1 j g _ W⟩
 rcases hb.out with⟨e,d⟩|⟨k,i,e,j,g,d⟩
 ·cases hi with
  |none=>
   obtain⟨l,m,f⟩:=c _ d;refine⟨l,len,m,?_⟩;unfold aN
   cases lo with
   |none=>simp_all
   |some y=>simp_all
  |some x=>simp at e
 ·cases hi with
  |none=>simp at e
  |some x=>
   simp only[aP,Option.some.injEq]at e;obtain⟨l,m,f⟩:=c _ d;refine⟨l,i.toNat,m,?_⟩;unfold aN
   cases lo with
   |none=>simp at f;simp[r.evalVal e,S1 j g,f]
   |some y=>simp only[aP]at f;simp[r.evalVal e,S1 j g,f]
def A4g(r:Rel s0 n θ st h a W){o:aO}{t:aJ}{x:aH}{lo hi:Option aH}(hop:o.op= .slice t x lo hi none){C:aT->Prop} (hv:Gc P t (D7 st x) (lo.map (D7 st)) (hi.map (D7 st)) C):QOut P θ st a W o C:=by unfold Gc at hv;split at hv;{rename_i s i j;obtain⟨l,d,f,g⟩:=Cv (P:=P) (isS:=false) r (C:=fun l d=>C (.val (.string (s.extract l d)))) hv;refine QOut.val f ?_;simp[execOp,hop,aQ,Instr.slice,run_underlying i,r.evalVal j,g]};{rename_i e A m c i j;obtain⟨hi,hv⟩:=hv.both;obtain⟨l,d,f,g⟩:=Cv (P:=P) (isS:=true) r (C:=fun l d=>C (.val (.slice (V3 A c l (P.cellsOf e)) (d-l) (c-l)))) hv;refine QOut.val f ?_;simp[execOp,hop,aQ,Instr.slice,run_underlying i,r.evalVal j,g,N9 hi,V3]};{rename_i m e k i j;obtain⟨hi,hv⟩:=hv.both;obtain⟨l,d,f,g⟩:=Cv (P:=P) (isS:=false) r (C:=fun l d=>C (.val (.slice (V3 (some k) m l (P.cellsOf e)) (d-l) (m-l)))) hv;refine QOut.val f ?_;simp[execOp,hop,aQ,run_underlying i,r.evalVal j,g,N9 hi,V3,aE];grind};grind
def A1o(r:Rel s0 n θ st h a W){o:aO}{t:aJ}{x lo hi mx:aH}(hop:o.op= .slice t x (some lo) (some hi) (some mx)){C:aT->Prop} (hv:Mh P t (D7 st x) (D7 st lo) (D7 st hi) (D7 st mx) C):QOut P θ st a W o C:=by unfold Mh at hv;split at hv;{rename_i e A m c s l u w y b p q d g f;obtain⟨hi,j,i,k,hv⟩:=hv.both;refine QOut.val hv ?_;simp[execOp,hop,aQ,Instr.slice,aN,run_underlying p,r.evalVal q,r.evalVal d,r.evalVal g,r.evalVal f,S1 j.1 j.2,S1 i.1 i.2,S1 k.1 k.2,N9 hi,V3]};grind
def Un(r:Rel s0 n θ st h a W){o:aO}{t:aJ}{x i:aH}(hop:o.op= .indexAddr t x i){C:aT->Prop} (hv:Q0 P t (D7 st x) (D7 st i) C):QOut P θ st a W o C:=by unfold Q0 at hv;split at hv;{rename_i len e k off _ m g f p;obtain⟨l,hv⟩:=hv.both;by_cases d:0<=m/\m<(len:Int);{have hv:C (.own k (off+m.toNat*P.cellsOf e)):=by{have:decide (0<=m/\m<(len:Int))=true:=decide_eq_true d;rw[this]at hv;exact hv};refine⟨_,.pointer (some ⟨θ k,off+m.toNat*P.cellsOf e,none⟩),hv,rfl,(fun z q w=>by cases w;exact r.evalWf _ _ f),?_⟩;have:=Ha (θ k) off (m.toNat*P.cellsOf e);simp[execOp,hop,aX,run_underlying g,r.evalOwn f,r.evalVal p,asIntOf,aE,N9 l,d.1,d.2,this]};·have:decide (0<=m/\m<(len:Int))=false:=decide_eq_false d;rw[this]at hv;exact hv.elim};{rename_i len e y _ m g f p;obtain⟨l,d,hv⟩:=hv.both;refine QOut.val hv ?_;simp[execOp,hop,aX,run_underlying g,r.evalVal f,r.evalVal p,asIntOf,aE,N9 l,d.1,d.2]};{rename_i e A m c _ j g f p;obtain⟨l,y,rfl,u,s,hv⟩:=hv.both;refine QOut.val hv ?_;simp[execOp,hop,aX,run_underlying g,r.evalVal f,r.evalVal p,asIntOf,N9 l,u,s]};grind
def B3x{W:aD}{xs ys:Array aG}{f:Field}{b:Bool}{d:Nat}(h:C3q P f xs ys=some b): f.name ≠ "_" /\∃a c,(part f.type xs f.offset).run P W= .ok a W/\(part f.type ys f.offset).run P W= .ok c W/\(aR (d+1) f.type a c).run P W= .ok b W:=by unfold C3q at h;split at h;{rename_i a c e i g;split at h;{cases h};·cases h;refine⟨gz0,.string a,.string c,?_,?_,?_⟩;{simp[part,isAgg,Sem.run_bind,run_underlying e,i]};{simp[part,isAgg,Sem.run_bind,run_underlying e,g]};·unfold aR;simp[Sem.run_bind,run_underlying e];exact beq_toListBytes a c};·cases h
def B0a{W:aD}{xs ys:Array aG}{dep:Nat}(l:List Field):∀{b:Bool},B3w P l xs ys=some b->
 (forIn (m:=Sem) l ((none,()):Option Bool×PUnit) (fun f _=>
          if f.name ≠ "_" then do
           let x<-part f.type xs f.offset
           let y<-part f.type ys f.offset
           let e<-aR (dep+1) f.type x y
           if(!e)=true then pure (ForInStep.done (some false,()))
            else pure (ForInStep.yield (none,()))
          else pure (ForInStep.yield (none,())))).run P W= .ok (if b then(none,())else(some false,())) W:=by
 induction l with
 |nil=>intro b h;cases h;simp
 |cons f l ih=>
  intro b h;unfold B3w at h;split at h
  ·rename_i u v j n;cases h;obtain⟨c,p,q,i,g,k⟩:=B3x (W:=W) (d:=dep) j;rw[List.forIn_cons];simp only[iP c,Sem.run_bind,i,g,k,aC]
   cases u with
   |false=>simp
   |true=>
    simp_all
  ·cases h
def B29{t:aJ}{xs ys:Array aG}{C:Bool->Prop}(hv:A1c P t xs ys C):∃b,(∀W,(Op.equal t (.agg xs) (.agg ys)).run P W= .ok b W)/\P.eqGuardType P.depth t=false/\C b:=by unfold A1c at hv;split at hv;{rename_i f e;obtain⟨c,hv⟩:=hv.both;simp only[aF,Bool.not_eq_true']at c;split at hv;{rename_i b g;refine⟨b,fun W=>?_,c.2,hv⟩;have d:aM=(aM-2)+1+1:=rfl;unfold Op.equal;rw[d];generalize aM-2=dep;unfold aR;simp only[Sem.run_bind,run_underlying e,aC];simp only[program,Sem.run,aC,c.1,aS,if_false];rw[<- Array.forIn_toList,Sem.run_bind,B0a f.toList g,aC];cases b<;>simp};grind};grind
def B2v(r:Rel s0 n θ st h a W){o:aO}{op:BinOp}{t t':aJ}{x y:aH}(hop:o.op= .binOp op t x y t'){C:aT->Prop}
 (hv:Jw P o st op t (D7 st x) (D7 st y) C):QOut P θ st a W o C:=by
 have j:∀cs b,o.op ≠ .select cs b:=gz0;unfold Jw at hv
 have l:∀{A:Option Addr} {m p q s:Nat},Js P t=true->(Op.equal t (.slice A m p) (.slice none q s)).run P W= .ok A.isNone W:=by
  intro A m p q s G;unfold Js at G
  cases hu:P.underlying t with
  |none=>grind
  |some d=>
   cases d<;>first|grind|skip
   have D:aM=(aM-1)+1:=rfl;unfold Op.equal;rw[D];generalize aM-1=dep;cases A<;>(unfold aR;simp[run_underlying hu])
 split at hv
 ·rename_i F E f e;obtain⟨b,z,w,c⟩:=B29 hv;refine QOut.val c ?_;simp[execOp,hop,eqGuard,binOp,r.evalVal f,r.evalVal e,z,w]
 ·rename_i F E f e;obtain⟨b,z,w,c⟩:=B29 hv;refine QOut.val c ?_;simp[execOp,hop,eqGuard,binOp,r.evalVal f,r.evalVal e,z,w]
 ·rename_i A m p q s f e;obtain⟨i,c⟩:=hv.both;refine QOut.val c ?_;simp[execOp,hop,eqGuard,binOp,r.evalVal f,r.evalVal e,l i]
 ·rename_i A m p q s f e;obtain⟨i,c⟩:=hv.both;refine QOut.val c ?_;simp[execOp,hop,eqGuard,binOp,r.evalVal f,r.evalVal e,l i]
 ·rename_i k u B v f e;obtain⟨i,c⟩:=hv.both;have i:=eq_of_beq i;subst i;by_cases g:v=0;·rw[decide_eq_true g]at c;exact c.elim
  ·rw[decide_eq_false g]at c;refine QOut.val c ?_;simp[execOp,hop,eqGuard,binOp,Op.intDiv,g,r.evalVal f,r.evalVal e]
 ·rename_i k u B v f e;obtain⟨i,c⟩:=hv.both;have i:=eq_of_beq i;subst i;by_cases g:v=0;·rw[decide_eq_true g]at c;exact c.elim
  ·rw[decide_eq_false g]at c;refine QOut.val c ?_;simp[execOp,hop,eqGuard,binOp,Op.intDiv,g,r.evalVal f,r.evalVal e]
 ·rename_i k u B v f e;by_cases g:v<0;·rw[decide_eq_true g]at hv;exact hv.elim
  ·rw[decide_eq_false g]at hv;refine QOut.val hv ?_;simp[execOp,hop,eqGuard,binOp,Op.shift,g,r.evalVal f,r.evalVal e]
 ·rename_i k u B v f e;by_cases g:v<0;·rw[decide_eq_true g]at hv;exact hv.elim
  ·rw[decide_eq_false g]at hv;refine QOut.val hv ?_;simp[execOp,hop,eqGuard,binOp,Op.shift,g,r.evalVal f,r.evalVal e]
 ·rename_i u v f e;refine QOut.val hv.2 ?_
  have:¬((u.size+v.size:Nat):Int)>IntKind.i64.max:=by
   simp_all
  simp only[execOp,hop,eqGuard,binOp,Op.stringOp,r.evalVal f,r.evalVal e,iN this];simp
 ·exact Pp r j hv
def B7y(r:Rel s0 n θ st h a W){o:aO}{C:aT->Prop}(hsel:∀cs b,o.op ≠ .select cs b)(hv:vcQ P o st h C):QOut P θ st a W o C:=by unfold vcQ at hv;split at hv;{rename_i x d;exact⟨D7 st x,a.eval x,hv,r.eval x,r.evalWf,by simp[execOp,d]⟩};{rename_i x d;exact⟨D7 st x,a.eval x,hv,r.eval x,r.evalWf,by simp[execOp,d]⟩};{rename_i c x y d;split at hv;{rename_i t u;cases t;{exact⟨D7 st y,a.eval y,hv,r.eval y,r.evalWf,by simp[execOp,d,r.evalVal u,asBool]⟩};·exact⟨D7 st x,a.eval x,hv,r.eval x,r.evalWf,by simp[execOp,d,r.evalVal u,asBool]⟩};grind};{rename_i t x d;split at hv;{rename_i k off e;split at hv;{rename_i cs L;obtain⟨v,w,B⟩:=Gv r L hv;exact QOut.val w (by simp[execOp,d,r.evalOwn e,B])};grind};{rename_i F e;obtain⟨v,w,B⟩:=Kh r.sim hv;exact QOut.val w (by simp[execOp,d,r.evalVal e,B])};grind};{rename_i s x f d;split at hv;{rename_i k off e;split at hv;{rename_i N D;split at hv;{rename_i q A;obtain⟨l,hv⟩:=hv.both;simp only[aF]at l;have g:P.cellsOf q.type≠0:=by{have:=aK l.2;omega};refine⟨_,.pointer (some ⟨θ k,off+q.offset,none⟩),hv,rfl,(fun M m z=>by cases z;exact r.evalWf _ _ e),?_⟩;simp[execOp,d,Instr.fieldAt,run_underlying D,A,r.evalOwn e,aE,fieldPlace,N9 l.1,g,Ha]};grind};grind};{rename_i F e;split at hv;{rename_i N D;split at hv;{rename_i q A;obtain⟨l,hv⟩:=hv.both;simp only[aF]at l;have g:P.cellsOf q.type≠0:=by{have:=aK l.2;omega};refine QOut.val hv ?_;simp[execOp,d,Instr.fieldAt,run_underlying D,A,r.evalVal e,aE,fieldPlace,N9 l.1,g]};grind};grind};grind};{rename_i x d;split at hv;{rename_i k off e;exact⟨_,_,hv,rfl,(fun M m z=>by cases z;exact r.evalWf _ _ e),by simp[execOp,d,r.evalOwn e]⟩};{rename_i p e;obtain⟨F,rfl,hv⟩:=hv;exact QOut.val hv (by simp[execOp,d,r.evalVal e])};grind};{rename_i t x i d;exact Un r d hv};{rename_i t x i d;split at hv;{rename_i s _ j G e E;obtain⟨c,⟨H,u⟩,hv⟩:=hv;refine QOut.val hv ?_;simp[execOp,d,Instr.index,run_underlying G,r.evalVal e,r.evalVal E,asIntOf,H,u]};·exact Pp r hsel hv};{rename_i t x O E d;exact A4g r d hv};{rename_i t x O E mx d;exact A1o r d hv};{rename_i op t x y Q d;exact B2v r d hv};{exact hv.elim};·exact Pp r hsel hv
def B51(a:Act)(d i:Nat)(u:aG)(hd:d<a.tmps.size):(a.put (some d) u).tmps.getD i undef=if i=d then u else a.tmps.getD i undef:=by simp only[Act.put,Array.getD,Array.size_setIfInBounds];by_cases h:i=d;{simp_all};·by_cases c:i<a.tmps.size;{simp[c,h,Ne.symm h]};grind
def Rel.put(r:Rel s0 n θ st h a W){d:Nat}(hd:d<n){v:aT}{u:aG}(hv:rel θ v u)(hw:∀k off,v= .own k off->(st.own k).isSome=true):Rel s0 n θ (st.put d v) h (a.put (some d) u) W:=by
 have g:d<a.tmps.size:=by rw[r.size];exact hd
 have c:∀i,(st.put d v).env i=if i=d then v else st.env i:=by
  intro i;by_cases e:i=d;·simp[VS.put]
  ·have:aU i d=false:=by cases x:aU i d with
    |false=>rfl
    |true=>simp_all
   simp[VS.put,this,e]
 refine⟨r.defers,by simpa[Act.put]using r.size,fun i f=>?_,r.sim,r.own,r.inj,fun i k off e=>?_,fun i f=>?_⟩
 ·rw[c,B51 a d i u g];by_cases e:i=d;·grind
  ·simp only[e,if_false];exact r.slot i f
 ·rw[c]at e;by_cases j:i=d;·rw[iP j]at e;exact hw k off e
  ·rw[iN j]at e;exact r.wf i k off e
 ·rw[c,iN o];exact r.out i f
def Q4(st:VS)(d:Option Nat)(v:aT):(st.putO d v).own=st.own:=by cases d<;>rfl
def Rel.putO(r:Rel s0 n θ st h a W){cfg:Cfg}(hn:cfg.n=n){d:Option Nat}(hd:T8 cfg d=true){v:aT}{u:aG}(hv:rel θ v u)(hw:∀k off,v= .own k off->(st.own k).isSome=true):
 Rel s0 n θ (st.putO d v) h (a.put d u) W:=by
 cases d with
 |none=>exact r
 |some d=>
  simp only[T8,A2m,aF]at hd;exact r.put (by simp_all) hv hw
def Agree.putO{cfg:Cfg}{st:VS}{d:Option Nat}{v:aT}(hd:T8 cfg d=true):Agree cfg.lim st (st.putO d v):=by
 cases d with
 |none=>exact Agree.refl _ _
 |some d=>
  simp only[T8,A2m,aF]at hd;refine⟨fun i c=>?_,fun _ _=>rfl⟩
  have:aU i d=false:=by cases x:aU i d with
   |false=>rfl
   |true=>simp_all
  simp[VS.putO,VS.put,this]
def Rel.world(r:Rel s0 n θ st h a W){h':aI}{W':aD}(f:Fr h W h' W'):Rel s0 n θ st h' a W':=by
 refine⟨r.defers.world f,r.size,r.slot,f.sim,fun k cs e=>?_,r.inj,r.wf,r.out⟩;obtain⟨t,g,d⟩:=r.own k cs e
 have c:θ k<W.heap.size:=by
  grind
 refine⟨t,(f.keep _ c d).trans g,?_⟩
 cases x:h' (θ k)with
 |none=>rfl
 |some o=>have:=f.new _ o d x;omega
def Good.quiet{cfg:Cfg}(hn:cfg.n=n){h0:aI}{W0:aD}{o:aO}(g:Good n h0 W0 st h a W)(hd:T8 cfg o.dst=true)(hsel:∀cs b,o.op ≠ .select cs b){K:VS->aI->Prop} (hv:vcQ P o st h fun v=>K (st.putO o.dst v) h) {Q:Exit->Act->aD->Prop}: Oper.wpX F fu P o a W (fun a' W'=>∃st' h',K st' h'/\Good n h0 W0 st' h' a' W'/\Agree cfg.lim st st') Q:=by obtain⟨θ,r,f,l⟩:=g;obtain⟨v,u,j,c,d,i⟩:=B7y r hsel hv;unfold Oper.wpX;rw[i,Oper.uponIn_value];refine⟨_,h,j,⟨θ,r.putO hn hd c d,f,?_⟩,Agree.putO hd⟩;exact fun k e=>l k (by rwa [Q4]at e)
def Grow.out{gr:Bool}{h h':aI}{X:Prop}(x:Grow gr h h' X):X:=by cases gr;{exact x};·exact x.2
def Good.effV{cfg:Cfg}(hn:cfg.n=n){h0:aI}{W0:aD}{o:aO}(g:Good n h0 W0 st h a W)(hd:T8 cfg o.dst=true){s:Sem aG}{gr:Bool}{K:VS->aI->Prop} (hv:effV P s o gr st h K) (hex:∀θ,Rel W0.heap.size n θ st h a W->(execOp a.eval o).run P W=(s.run P W).andThen fun v w=>.ok (.value v) w) {Q:Exit->Act->aD->Prop}: Oper.wpX F fu P o a W (fun a' W'=>∃st' h',K st' h'/\Good n h0 W0 st' h' a' W'/\Agree cfg.lim st st') Q:=by obtain⟨θ,r,f,l⟩:=g;obtain⟨v,W',h',j,c,d⟩:=A42 s _ h W hv r.sim;obtain⟨u,rfl,c⟩:=exT.out c;unfold Oper.wpX;rw[hex θ r,j,aC,Oper.uponIn_value];refine⟨_,h',c.out,⟨θ,(r.world d).putO hn hd (v:=.val v) rfl (fun _ _ e=>by cases e),f.trans d,?_⟩,Agree.putO hd⟩;exact fun k i=>l k (by rwa [Q4]at i)
def Good.effP{cfg:Cfg}(hn:cfg.n=n){h0:aI}{W0:aD}{o:aO}(g:Good n h0 W0 st h a W)(hd:T8 cfg o.dst=true){s:Sem aG}{gr:Bool}{K:VS->aI->Prop} (hv:effP P s o gr st h K) (hex:∀θ,Rel W0.heap.size n θ st h a W->(execOp a.eval o).run P W=(s.run P W).andThen fun v w=>.ok (.value v) w) {Q:Exit->Act->aD->Prop}: Oper.wpX F fu P o a W (fun a' W'=>∃st' h',K st' h'/\Good n h0 W0 st' h' a' W'/\Agree cfg.lim st st') Q:=by obtain⟨θ,r,f,l⟩:=g;obtain⟨v,W',h',j,c,d⟩:=A42 s _ h W hv r.sim;obtain⟨u,rfl,c⟩:=c;unfold Oper.wpX;rw[hex θ r,j,aC,Oper.uponIn_value];refine⟨_,h',c.out,⟨θ,(r.world d).putO hn hd (v:=.val (.pointer (some u))) rfl (fun _ _ e=>by cases e),f.trans d,?_⟩,Agree.putO hd⟩;exact fun k i=>l k (by rwa [Q4]at i)
def Good.effU{cfg:Cfg}(hn:cfg.n=n){h0:aI}{W0:aD}{o:aO}(g:Good n h0 W0 st h a W)(hd:T8 cfg o.dst=true){s:Sem Unit}{gr:Bool}{K:VS->aI->Prop} (hv:effU P s o gr st h K) (hex:∀θ,Rel W0.heap.size n θ st h a W->(execOp a.eval o).run P W=(s.run P W).andThen fun _ w=>.ok .skip w) {Q:Exit->Act->aD->Prop}: Oper.wpX F fu P o a W (fun a' W'=>∃st' h',K st' h'/\Good n h0 W0 st' h' a' W'/\Agree cfg.lim st st') Q:=by obtain⟨θ,r,f,l⟩:=g;obtain⟨v,W',h',i,j,c⟩:=A42 s _ h W hv r.sim;unfold Oper.wpX;rw[hex θ r,i,aC,Oper.uponIn_skip];refine⟨_,h',j.out,⟨θ,(r.world c).putO hn hd (v:=.val undef) rfl (fun _ _ e=>by cases e),f.trans c,?_⟩,Agree.putO hd⟩;exact fun k d=>l k (by rwa [Q4]at d)
def Be{l:List Nat}{d:Nat}:has l d=true↔d∈l:=by simp only[has,List.any_eq_true];simp_all
def Fs{i d:Nat}(h:i≠d):aU i d=false:=by
 cases x:aU i d with
 |false=>rfl
 |true=>simp_all
def Aw(st:VS)(k:Nat)(cs:List aG):(st.setOwn k cs).own k=some cs:=by simp[VS.setOwn]
def G9(st:VS){k i:Nat}(cs:List aG)(h:i≠k):(st.setOwn k cs).own i=st.own i:=by simp[VS.setOwn,Fs h]
def B5q(hs:Sim h W)(o:Obj):Fr h W h {W with heap:=W.heap.push o }:=by refine⟨fun b c e=>?_,rfl,rfl,rfl,by simp,fun b f _=>?_,fun b c e d=>?_⟩;{have:=hs b c e;grind};{grind};grind
def Good.own{cfg:Cfg}(hn:cfg.n=n){h0:aI}{W0:aD}{o:aO}(g:Good n h0 W0 st h a W){cells:Array aG}{t:aJ}{K:VS->aI->Prop}
 (hv:If cfg o.dst cells.toList st h K) (hex:∀θ,Rel W0.heap.size n θ st h a W->(execOp a.eval o).run P W= .ok (.value (.pointer (some ⟨W.heap.size,0,none⟩))) { W with heap:=W.heap.push (.cells cells t) }) {Q:Exit->Act->aD->Prop}:
 Oper.wpX F fu P o a W (fun a' W'=>∃st' h',K st' h'/\Good n h0 W0 st' h' a' W'/\Agree cfg.lim st st') Q:=by
 obtain⟨θ,r,f,hB⟩:=g;unfold If at hv;split at hv
 ·rename_i d M;obtain⟨w,T⟩:=hv.both;simp only[A2m,aF,Option.isNone_iff_eq_none]at w;obtain⟨⟨⟨s,L⟩,H⟩,A⟩:=w;have s:d<n:=by simp_all
  have D:=B5q r.sim (.cells cells t);unfold Oper.wpX;rw[hex θ r,Oper.uponIn_value]
  have z:∀k,(st.own k).isSome=true->θ k<W.heap.size:=by
   intro k l;obtain⟨cs,e⟩:=Option.isSome_iff_exists.1 l;obtain⟨R,S,_⟩:=r.own k cs e;grind
  let θ':Nat->Nat:=fun k=>if k=d then W.heap.size else θ k
  have hθ:∀k,(st.own k).isSome=true->θ' k=θ k:=by
   grind
  have q:∀v u,(∀k off,v= .own k off->(st.own k).isSome=true)->rel θ v u->rel θ' v u:=by
   intro v u V y
   cases v with
   |own k off=>simp only[rel,hθ k (V k off rfl)];exact y
   |_=>exact y
  have B:h W.heap.size=none:=by
   cases x:h W.heap.size with
   |none=>rfl
   |some o'=>have:=r.sim _ _ x;grind
  have O:Rel W0.heap.size n θ' (st.setOwn d cells.toList) h a { W with heap:=W.heap.push (.cells cells t) }:=by
   refine⟨r.defers.world D,r.size,fun i G=>q _ _ (fun k off e=>r.wf i k off e) (r.slot i G),D.sim,fun k cs e=>?_,fun k C l j e=>?_,fun i k off e=>?_,r.out⟩
   ·by_cases c:k=d
    ·subst c;rw[Aw]at e;injection e with e;subst e;exact⟨t,by simp[θ'],gz0⟩
    ·rw[G9 _ _ c]at e;obtain⟨R,S,N⟩:=r.own k cs e;grind
   ·by_cases c:k=d<;>by_cases m:C=d;·omega
    ·rw[G9 _ _ m]at j;grind
    ·rw[G9 _ _ c]at l;grind
    ·rw[G9 _ _ c]at l;rw[G9 _ _ m]at j;rw[hθ k l,hθ C j]at e;exact r.inj k C l j e
   ·have:=r.wf i k off e;have c:k≠d:=gz0;rw[G9 _ _ c];exact this
  have X:=O.put s (v:=.own d 0) (u:=.pointer (some ⟨W.heap.size,0,none⟩)) (by simp[rel,θ']) (fun k off e=>by cases e;rw[Aw];rfl);refine⟨_,h,T,⟨θ',by rw[M];exact X,f.trans D,fun k l=>?_⟩,fun i G=>?_,fun i G=>?_⟩
  ·by_cases c:k=d;·simp only[θ',c,if_true];exact f.size
   ·have l:(st.own k).isSome=true:=by
     have:((st.put d (.own d 0)).setOwn d cells.toList).own k=st.own k:=G9 _ _ c;grind
    grind
  ·have p:i≠d:=gz0;simp[VS.setOwn,VS.put,Fs p]
  ·have p:i≠d:=gz0;exact G9 _ _ p
 grind
def Xd(cur:List aG)(p:Nat)(v:aG)(vs:List aG)(hp:p<cur.length):I8 (cur.set p v) (p+1) vs=I8 cur p (v::vs):=by have e:cur.set p v=cur.take p++v::cur.drop (p+1):=by{rw[List.set_eq_take_append_cons_drop,iP hp]};have c:(cur.set p v).drop (p+1+vs.length)=cur.drop (p+(v::vs).length):=by{rw[List.drop_set_of_lt o];congr 1;grind};unfold I8;grind
def Ni(b:Nat)(t:aJ):∀(vs:List aG) (i:Nat) (cur:List aG) (W:aD) (off:Nat),W.heap[b]? = some (.cells cur.toArray t (0,0))->off+i+vs.length<=cur.length->(∀v∈vs,Pe v=true)->
 ∃W',(storeCells ⟨b,off,none⟩ vs i).run P W= .ok () W'/\W'.heap[b]? = some (.cells (I8 cur (off+i) vs).toArray t (0,0))/\W'.os=W.os/\W'.tape=W.tape/\W'.output=W.output/\W'.heap.size=W.heap.size/\∀k,k≠b->W'.heap[k]? = W.heap[k]? :=by
 intro vs
 induction vs with
 |nil=>
  intro i cur W off d n _;refine⟨W,by rfl,?_,rfl,rfl,rfl,rfl,fun _ _=>rfl⟩;rw[d];simp[I8]
 |cons v vs ih=>
  intro i cur W off d n p;simp only[List.length_cons]at n
  have c:W.cell? ⟨b,off+i,none⟩=some (cur[off+i]'o):=by
   simp[World.cell?,d,List.getElem?_eq_getElem (show off+i<cur.length from o)]
  have j:W.frozen? ⟨b,off+i,none⟩=false:=by simp[World.frozen?,d]
  have e:(W.setCell ⟨b,off+i,none⟩ v).heap[b]? = some (.cells ((cur.set (off+i) v).toArray) t (0,0)):=by
   simp[World.setCell,Array.getElem?_modify,d]
  obtain⟨W',w,g,r,A,s,y,q⟩:=ih (i+1) (cur.set (off+i) v) (W.setCell ⟨b,off+i,none⟩ v) off e gz0 (fun u z=>p u (by simp[z]));refine⟨W',?_,?_,r,A,s,by rw[y];simp[World.setCell],fun k m=>(q k m).trans (Ij W _ v k m)⟩
  ·have l:=p v (by simp)
   have f:(store (Addr.add ⟨b,off,none⟩ i) v).run P W= .ok () (W.setCell ⟨b,off+i,none⟩ v):=by
    rw[Ha];cases v<;>first|(simp[Pe]at l;done)|simp[store,Sem.run,c,j]
   simp only[storeCells,Sem.run_bind,f,aC,w]
  ·rw[g];congr 2;apply congrArg;exact Xd cur (off+i) v vs o
def Good.ownStore{cfg:Cfg}(hn:cfg.n=n){h0:aI}{W0:aD}{o:aO}{t:aJ}{x y:aH}(hop:o.op= .store t x y)(g:Good n h0 W0 st h a W)(hd:T8 cfg o.dst=true){k off:Nat}(hx:D7 st x= .own k off){cs:List aG}(hk:st.own k=some cs){K:VS->aI->Prop} (hv:When ((D7 st y).isVal&&A2o cfg.lim k&&(P.info? t).isSome&&aU (rho st y).cells.size (P.cellsOf t)&&Nat.ble (off+P.cellsOf t) cs.length&&C24 (rho st y).cells.toList) (K ((st.setOwn k (I8 cs off (rho st y).cells.toList)).putO o.dst (.val undef)) h)) {Q:Exit->Act->aD->Prop}: Oper.wpX F fu P o a W (fun a' W'=>∃st' h',K st' h'/\Good n h0 W0 st' h' a' W'/\Agree cfg.lim st st') Q:=by obtain⟨θ,r,f,hB⟩:=g;obtain⟨z,hK⟩:=hv.both;simp only[aF]at z;obtain⟨⟨⟨⟨⟨hy,O⟩,l⟩,m⟩,u⟩,s⟩:=z;have m:=Nat.eq_of_beq_eq_true m;have u:=aK u;obtain⟨tb,E,S⟩:=r.own k cs hk;obtain⟨W',D,aa,w,h3,h4,h5,H⟩:=Ni (P:=P) (θ k) tb (rho st y).cells.toList 0 cs W off E gz0 (fun v hv=>List.all_eq_true.1 s v hv);have q:(execOp a.eval o).run P W= .ok .skip W':=by{simp[execOp,hop,Instr.storeAt,r.evalOwn hx,aE,storeVar,r.evalRho hy,N9 l,m,D]};unfold Oper.wpX;rw[q,Oper.uponIn_skip];have d:Sim h W':=fun b G e=>by{have p:b≠θ k:=gz0;rw[H b p];exact r.sim b G e};have V:Rel W0.heap.size n θ (st.setOwn k (I8 cs off (rho st y).cells.toList)) h a W':=by{have c:∀j,((st.setOwn k (I8 cs off (rho st y).cells.toList)).own j).isSome=(st.own j).isSome:=by{intro j;by_cases e:j=k;{subst e;rw[Aw,hk];rfl};·rw[G9 _ _ e]};refine⟨r.defers.turn fun r' D e=>⟨D,gz0⟩,r.size,r.slot,d,fun j C e=>?_,fun j T N w e=>?_,fun i j G e=>by rw[c];exact r.wf i j G e,r.out⟩;{by_cases B:j=k;{subst B;rw[Aw]at e;grind};·rw[G9 _ _ B]at e;obtain⟨X,M,L⟩:=r.own j C e;refine⟨X,?_,L⟩;rw[H _ (fun e'=>B (r.inj j k gz0 gz0 e'))];exact M};·rw[c]at N w;exact r.inj j T N w e};have A:Fr h0 W0 h W':=by{refine⟨d,w.trans f.os,h3.trans f.tape,h4.trans f.output,gz0,fun b z e=>?_,f.new⟩;have:=hB k gz0;rw[H b oo];exact f.keep b z e};refine⟨_,h,hK,⟨θ,V.putO hn hd (v:=.val undef) rfl (fun _ _ e=>by cases e),A,fun j R=>?_⟩,Agree.trans (b:=st.setOwn k (I8 cs off (rho st y).cells.toList)) ⟨fun _ _=>rfl,fun i hi=>?_⟩ (Agree.putO hd)⟩;{rw[Q4]at R;by_cases e:j=k;{grind};·rw[G9 _ _ e]at R;grind};·exact G9 _ _ (fun e=>gz0)
def Bodies(P:aV)(fns:List Nat):Prop:=∀g,g∈fns->∀args W,(callFunc g args).run P W= .ok (.enter g args) W
def exRt.out{t:aJ}{K:aG->Prop}(x:exRt P t K):∃v,K v:=by unfold exRt at x;split at x;{obtain⟨d,c⟩:=exTs.out x;grind};·exact exT.out x
def Ul(r:Rel s0 n θ st h a W){xs:Array aH}(e:S7 st xs.toList=true):xs.map a.eval=xs.map (rho st):=by apply Array.ext;{simp};·intro i c d;simp only[Array.getElem_map];exact r.evalAll e _ (by simp)
def Good.call[FOk F]{cfg:Cfg}(hn:cfg.n=n)(hfn:Bodies P cfg.fns){h0:aI}{W0:aD}{o:aO}{c:Call}{x:aH}(hop:o.op= .call c)(hcl:c.callee= .value x)(g:Good n h0 W0 st h a W)(hd:T8 cfg o.dst=true){gr:Bool}{K:VS->aI->Prop} (hv:A66 P cfg o c (D7 st x) gr st h K) {Q:Exit->Act->aD->Prop}: Oper.wpX F fu P o a W (fun a' W'=>∃st' h',K st' h'/\Good n h0 W0 st' h' a' W'/\Agree cfg.lim st st') Q:=by obtain⟨θ,r,f,D⟩:=g;unfold A66 at hv;split at hv;{rename_i E first d A;split at hv;{rename_i t;obtain⟨y,hv⟩:=hv.both;have i:(execOp a.eval o).run P W= .ok (.enter E (first++c.args.map (rho st)++d)) W:=by{simp[execOp,hop,resolve,hcl,r.evalVal A,Deferred.ofValue,invoke,hfn E (Be.1 t),Ul r y]};unfold Oper.wpX;rw[i,Oper.uponIn_enter];refine⟨fun j=>(by rw[FOk.depth]at j;cases j),(B3a (hv W r.sim)).mono fun e W' ⟨v,h',C,m,q⟩=>?_⟩;subst C;obtain⟨u,rfl,m⟩:=m.out;refine⟨_,h',m.out,⟨θ,(r.world q).putO hn hd (v:=.val v) rfl (fun _ _ e=>by cases e),f.trans q,?_⟩,Agree.putO hd⟩;exact fun k s=>D k (by rwa [Q4]at s)};·obtain⟨y,hv⟩:=hv.both;obtain⟨v,W',h',H,m,q⟩:=hv W r.sim;have i:(execOp a.eval o).run P W= .ok (.value v) W':=by{rw[<- H];simp[execOp,hop,resolve,hcl,r.evalVal A,Deferred.ofValue,invoke,Ul r y]};obtain⟨u,rfl,m⟩:=m.out;unfold Oper.wpX;rw[i,Oper.uponIn_value];refine⟨_,h',m.out,⟨θ,(r.world q).putO hn hd (v:=.val v) rfl (fun _ _ e=>by cases e),f.trans q,?_⟩,Agree.putO hd⟩;exact fun k s=>D k (by rwa [Q4]at s)};{rename_i l first d A;obtain⟨y,hv⟩:=hv.both;obtain⟨fn,z,B,w,G,p⟩:=hv W r.sim;have i:(execOp a.eval o).run P W= .ok (.round l fn z B w) W:=by{rw[<- G];simp[execOp,hop,resolve,hcl,r.evalVal A,Deferred.ofValue,invoke,Ul r y]};unfold Oper.wpX;rw[i,Oper.uponIn_round];refine⟨fun j=>(by rw[FOk.depth]at j;cases j),(FOk.round (p _)).mono fun e W' ⟨v,h',C,m,q⟩=>?_⟩;subst C;obtain⟨u,rfl,m⟩:=m.out;refine⟨_,h',m.out,⟨θ,(r.world q).putO hn hd (v:=.val v) rfl (fun _ _ e=>by cases e),f.trans q,?_⟩,Agree.putO hd⟩;exact fun k s=>D k (by rwa [Q4]at s)};grind
def Wg{t:aJ}(hz:A9s P t=true)(W:aD):(zeroValue t).run P W= .ok (Qu P t) W:=by
 unfold A9s at hz
 cases hi:P.info? t with
 |none=>grind
 |some i=>
  rw[hi]at hz;obtain⟨z,e⟩:=Option.isSome_iff_exists.1 hz;simp[zeroValue,typeInfo,program,hi,Sem.run_bind,Sem.run,e,Qu]
def Good.core[FOk F]{cfg:Cfg}(hn:cfg.n=n)(hfn:Bodies P cfg.fns){h0:aI}{W0:aD}{o:aO}(g:Good n h0 W0 st h a W){gr:Bool}{K:VS->aI->Prop} (hv:Ae P cfg o gr st h K) {Q:Exit->Act->aD->Prop}: Oper.wpX F fu P o a W (fun a' W'=>∃st' h',K st' h'/\Good n h0 W0 st' h' a' W'/\Agree cfg.lim st st') Q:=by obtain⟨q,hv⟩:=hv.both;split at hv;{rename_i C;have w:∀cs b,o.op ≠ .select cs b:=fun cs b e=>by{simp[Tt,e]at C};exact g.quiet hn q w hv};·split at hv;{rename_i t f;split at hv;{obtain⟨E,hv⟩:=hv.both;refine g.own (P:=P) (t:=t) hn hv fun θ r=>?_;simp[execOp,f,Instr.alloc,Wg E,newVar,newRow,newObj,Sem.run]};·exact g.effP hn q hv fun θ r=>by simp[execOp,f]};{rename_i t x f;obtain⟨j,hv⟩:=hv.both;split at hv;{refine g.own (P:=P) (t:=t) hn hv fun θ r=>?_;simp[execOp,f,Instr.box,r.evalRho j,newVar,newRow,newObj,Sem.run]};·exact g.effP hn q hv fun θ r=>by simp[execOp,f,r.evalRho j]};{rename_i t x y f;unfold A44 at hv;split at hv;{rename_i k off j;split at hv;{rename_i cs B;exact g.ownStore hn f q j B hv};grind};{rename_i p j;obtain⟨D,hv⟩:=hv.both;exact g.effU hn q hv fun θ r=>by simp[execOp,f,r.evalVal j,r.evalRho D]};grind};{rename_i t l c f;obtain⟨j,hv⟩:=hv.both;refine g.effV hn q hv fun θ r=>?_;have z:=r.evalAll j l (by simp);have A:=r.evalAll j c (by simp);simp[execOp,f,z,A]};{rename_i t m ps f;obtain⟨j,hv⟩:=hv.both;refine g.effV hn q hv fun θ r=>?_;have e:(ps.map fun(i,x)=>(i,a.eval x))=ps.map fun(i,x)=>(i,rho st x):=by{apply Array.ext;{simp};·intro i z A;simp only[Array.getElem_map];have:=r.evalAll j (ps[i]'gz0).2 gz0;rw[this]};simp[execOp,f,e]};{rename_i s d x f;obtain⟨j,hv⟩:=hv.both;refine g.effV hn q hv fun θ r=>?_;have z:=r.evalAll j x (by simp);simp[execOp,f,z]};{rename_i c f;split at hv;{rename_i x u;exact g.call hn hfn f u q hv};{rename_i u;obtain⟨j,hv⟩:=hv.both;exact g.effV hn q hv fun θ r=>by simp[execOp,f,resolve,u,invoke,builtin,Ul r j]};{rename_i u;obtain⟨j,hv⟩:=hv.both;exact g.effV hn q hv fun θ r=>by simp[execOp,f,resolve,u,invoke,builtin,Ul r j]};grind};grind
def put_self(st:VS){g:Nat}{v:aT}(e:st.env g=v):st.put g v=st:=by unfold VS.put;congr 1;funext i;by_cases h:i=g;{grind};·simp[Fs h]
def Iv{cfg:Cfg}{o:aO}{gr:Bool}{K:VS->aI->Prop}(hv:Ae P cfg o gr st h K):∀c,o.op ≠ .defer c:=by intro c e;obtain⟨_,hv⟩:=hv.both;simp[Tt,e]at hv
def Good.op[FOk F]{cfg:Cfg}(hn:cfg.n=n)(hfn:Bodies P cfg.fns){h0:aI}{W0:aD}{ops:Array aO}{i:Nat}{o:aO}(hi:ops[i]? = some o)(g:Good n h0 W0 st h a W){gr:Bool}{K:VS->aI->Prop} (hv:Qx P cfg ops o gr st h K) {Q:Exit->Act->aD->Prop}: wpOpIn F fu P ops Q i (fun a' W'=>∃st' h',K st' h'/\Good n h0 W0 st' h' a' W'/\Agree cfg.lim st st') a W:=by unfold wpOpIn;simp only[hi];unfold Qx at hv;have skip:∀{u:aT},T8 cfg o.dst=true->K (st.putO o.dst (.val undef)) h->∃st' h',K st' h'/\Good n h0 W0 st' h' (a.put o.dst undef) W/\Agree cfg.lim st st':=by{intro _ w E;obtain⟨θ,r,f,t⟩:=g;exact⟨_,h,E,⟨θ,r.putO hn w (v:=.val undef) rfl (fun _ _ e=>by cases e),f,fun k A=>t k (by rwa [Q4]at A)⟩,Agree.putO w⟩};split at hv;{rename_i p;rw[iP (by simp[Region.wanted,p])];exact(g.core hn hfn hv).toIn (Iv hv)};·rename_i j m p;split at hv;{exact hv.elim};·rename_i d q;split at hv;{rename_i b l;have C:yielded ops a.tmps j=some b:=by{obtain⟨θ,r,f,t⟩:=g;have D:a.tmps.getD d undef= .bool b:=by{have:=r.slot' d;rw[l]at this;exact this};have B:d<a.tmps.size:=by{rcases aY d a.tmps.size with x|x;{exact x};·rw[r.out d (by rw[<- r.size];exact x)]at l;cases l};have s:a.tmps[d]? = some (.bool b):=by{simp_all};simp[yielded,q,s]};have y:Region.wanted o (yielded ops a.tmps)=(b==m):=by{simp only[Region.wanted,p,C];rfl};rw[y];cases b<;>cases m;{have c:Ae P cfg o gr (st.put d (.val (.bool false))) h K:=hv;rw[put_self st l]at c;exact(g.core hn hfn c).toIn (Iv c)};{have c:When (T8 cfg o.dst) (K ((st.put d (.val (.bool false))).putO o.dst (.val undef)) h):=hv;rw[put_self st l]at c;exact⟨fun f _=>FOk.fn f,skip (u:=.any) c.both.1 c.both.2⟩};{have c:When (T8 cfg o.dst) (K ((st.put d (.val (.bool true))).putO o.dst (.val undef)) h):=hv;rw[put_self st l]at c;exact⟨fun f _=>FOk.fn f,skip (u:=.any) c.both.1 c.both.2⟩};·have c:Ae P cfg o gr (st.put d (.val (.bool true))) h K:=hv;rw[put_self st l]at c;exact(g.core hn hfn c).toIn (Iv c)};{rename_i z l;have y:Region.wanted o (yielded ops a.tmps)=false:=by{obtain⟨θ,r,f,t⟩:=g;have D:a.tmps.getD d undef= .tuple z:=by{have:=r.slot' d;rw[l]at this;exact this};have s:yielded ops a.tmps j=none:=by{unfold yielded;rcases aY d a.tmps.size with x|x;{simp_all};grind};simp[Region.wanted,p,s]};rw[iN gz0];exact⟨fun f _=>FOk.fn f,skip (u:=.any) hv.both.1 hv.both.2⟩};grind
def B5z[FOk F]{cfg:Cfg}(hn:cfg.n=n)(hfn:Bodies P cfg.fns){h0:aI}{W0:aD}{ops:Array aO}{gr:Bool}{Q:Exit->Act->aD->Prop}{K:VS->aI->Prop}:∀(l:List Nat) (st:VS) (h:aI) (a:Act) (W:aD),
 Good n h0 W0 st h a W->B3k P cfg ops gr l st h K->
 (∀st' h' a' W',K st' h'->Good n h0 W0 st' h' a' W'->Agree cfg.lim st st'->Q .normal a' W')->wpOpsIn F fu P ops Q l a W:=by
 intro l
 induction l with
 |nil=>exact fun st h a W g c e=>e st h a W c g (Agree.refl _ _)
 |cons i l ih=>
  intro st h a W g c e;unfold B3k at c;split at c;·exact c.elim
  ·rename_i o m;refine wpOpIn_mono (fun a' W' ⟨st',h',r,t,s⟩=>?_) (g.op hn hfn m c);exact ih st' h' a' W' t r fun f q p W2 k j d=>e f q p W2 k j (s.trans d)
end
