/- A part. -/
import Derived.Test.YtbgkfnjmcjfokaaGreatDoorG01
import Derived.OrdersIn
import Derived.RangeFuncCalls
set_option linter.all false
open Bool renaming and_eq_true->aH,false_eq_true->aW
open _root_.Go.Instr renaming sureAddr->aF,loadAt->aP,sliceBounds->aR,sliceAt->aU,sliceBound->bC,indexAt->bF
open Nat renaming le_of_ble_eq_true->aN,beq->aY,lt_or_ge->bG
open _root_.Go.Op renaming maxDepth->aQ,equalIn->aV
open Option renaming map_some->aT
open _root_.Go.Result renaming andThen_ok->aC
open _root_.Go renaming World->aE,Value->aI,Operand->aK,TypeId->aL,Oper->aO,Program->aZ
open _root_.Go.Proofs.YtbgkfnjmcjfokaaGreatDoor renaming Heap->aJ,AVal->aX
namespace Go.Proofs.YtbgkfnjmcjfokaaGreatDoor
open Go
def rel(θ:Nat->Nat):aX->aI->Prop
 | .val v,u=>u=v
 | .own k off,u=>u= .pointer (some ⟨θ k,off,none⟩)
 | .any,_=>True
structure FOkS (F:Fence):Prop where
 ok:F=Fence.wide\/∃ l,F=Fence.wide.inRound l
abbrev FOk(F:Fence):=Inhabited (PLift (FOkS F))
instance:FOk Fence.wide:=⟨⟨⟨.inl rfl⟩⟩⟩
instance {l:Nat}:FOk (Fence.wide.inRound l):=⟨⟨⟨.inr ⟨l,rfl⟩⟩⟩⟩
def FOk.fn{F:Fence}[x:FOk F](f:FuncId):F.fn f:=by
 rcases x.default.down.ok with rfl|⟨l,rfl⟩<;>trivial
def FOk.depth{F:Fence}[x:FOk F]:F.depth=none:=by
 rcases x.default.down.ok with rfl|⟨l,rfl⟩<;>rfl
def A29{F:Fence}[x:FOk F]{k:Nat}{P:aZ}{f:FuncId}{args:Array aI}{W:aE}{R:Ending->aE->Prop}(h:Calls P f args W R):CallsIn F k P f args W R:=by
 rcases x.default.down.ok with rfl|⟨l,rfl⟩
 ·exact callsIn_wide.2 h
 ·exact CallsIn.inRound l (callsIn_wide.2 h)
def FOk.round{F:Fence}[x:FOk F]{k:Nat}{P:aZ}{l:Nat}{f:FuncId}{tmps:Array aI}{asg body:Code}{W:aE}{R:Ending->aE->Prop}(h:RoundIn Fence.wide k P l f tmps asg body W R):RoundIn F k P l f tmps asg body W R:=by
 rcases x.default.down.ok with rfl|⟨l,rfl⟩
 ·exact h
 ·exact h
def Oper.wpX(F:Fence)(fu:Nat)(P:aZ)(o:aO)(a:Act)(W:aE)(next:Act->aE->Prop)(Q:Exit->Act->aE->Prop):Prop:=
 o.uponIn F fu P a next Q ((execOp a.eval o).run P W)
def Oper.wpX.toIn{F:Fence}[FOk F]{fu:Nat}{P:aZ}{o:aO}{a:Act}{W:aE}{next:Act->aE->Prop}{Q:Exit->Act->aE->Prop}(h:Oper.wpX F fu P o a W next Q)(hd:∀ c,o.op ≠ .defer c):o.wpIn F fu P a W next Q:=
 ⟨fun f _=>FOk.fn f,by rw [Oper.semAt_eq _ _ _ hd];exact h⟩
def MarksOk(s0:Nat)(h:aJ)(W:aE)(ds:List Deferred):Prop:=
 ∃ rs:List Nat,rs.Nodup/\ds.map (·.target)=rs.map Target.collected/\∀ r∈rs,s0<=r/\h r=none/\W.heap[r]? = some (.deferred (some []))
def MarksOk.nil{s0:Nat}{h:aJ}{W:aE}:MarksOk s0 h W []:=⟨[],List.nodup_nil,rfl,fun r a=>by cases a⟩
def MarksOk.turn{s0:Nat}{h h':aJ}{W W':aE}{ds:List Deferred}(m:MarksOk s0 h W ds)(x:∀ r,h r=none->W.heap[r]? = some (.deferred (some []))->h' r=none/\W'.heap[r]? = some (.deferred (some []))):MarksOk s0 h' W' ds:=by
 obtain ⟨c,e,d,b⟩:=m
 exact ⟨c,e,d,fun r a=>⟨(b r a).1,x r (b r a).2.1 (b r a).2.2⟩⟩
def Dy{W:aE}{r:Nat}{o:Obj}(e:W.heap[r]? = some o):r<W.heap.size:=by
 grind
def MarksOk.world{s0:Nat}{h h':aJ}{W W':aE}{ds:List Deferred}(m:MarksOk s0 h W ds)(f:Fr h W h' W'):MarksOk s0 h' W' ds:=
 m.turn fun r b e=>by
  have a:=Dy e
  refine ⟨?_,(f.keep r a b).trans e⟩
  cases x:h' r with
  | none=>rfl
  | some o=>have:=f.new r o b x;omega
structure Rel (s0:Nat) (n:Nat) (θ:Nat->Nat) (st:VS) (h:aJ) (a:Act) (W:aE):Prop where
 defers:MarksOk s0 h W a.defers
 size:a.tmps.size=n
 slot:∀ i,i<n->rel θ (st.env i) (a.tmps.getD i undef)
 sim:Sim h W
 own:∀ k cs,st.own k=some cs->∃ t,W.heap[θ k]? = some (.cells cs.toArray t (0,0))/\h (θ k)=none
 inj:∀ k k',(st.own k).isSome=true->(st.own k').isSome=true->θ k=θ k'->k=k'
 wf:∀ i k off,st.env i= .own k off->(st.own k).isSome=true
 out:∀ i,n<=i->st.env i= .val undef
def Good(n:Nat)(h0:aJ)(W0:aE)(st:VS)(h:aJ)(a:Act)(W:aE):Prop:=
 ∃ θ,Rel W0.heap.size n θ st h a W/\Fr h0 W0 h W/\∀ k,(st.own k).isSome=true->W0.heap.size<=θ k
structure Agree (lim:Option Lim) (st st':VS):Prop where
 env:∀ i,C21 lim i=false->st'.env i=st.env i
 own:∀ i,A1a lim i=false->st'.own i=st.own i
def Agree.refl(lim:Option Lim)(st:VS):Agree lim st st:=⟨fun _ _=>rfl,fun _ _=>rfl⟩
def Agree.trans{lim:Option Lim}{a b c:VS}(x:Agree lim a b)(y:Agree lim b c):Agree lim a c:=
 ⟨fun i h=>(y.env i h).trans (x.env i h),fun i h=>(y.own i h).trans (x.own i h)⟩
def When.both{b:Bool}{A:Prop}(h:When b A):b=true/\A:=by
 cases b
 ·exact h.elim
 ·exact ⟨rfl,h⟩
section
variable {P:aZ} {s0:Nat} {F:Fence} {fu:Nat} {n:Nat} {θ:Nat->Nat} {st:VS} {h:aJ} {a:Act} {W:aE}
def Rel.slot'(r:Rel s0 n θ st h a W)(i:Nat):rel θ (st.env i) (a.tmps.getD i undef):=by
 rcases bG i n with b|b
 ·exact r.slot i b
 ·rw [r.out i b]
  show _=undef
  have:a.tmps.size<=i:=by rw [r.size];exact b
  grind
def Rel.eval(r:Rel s0 n θ st h a W)(x:aK):rel θ (C9 st x) (a.eval x):=by
 cases x with
 | tmp t=>exact r.slot' t
 | const v=>exact rfl
 | global g=>exact rfl
 | func f=>exact rfl
def Rel.evalVal(r:Rel s0 n θ st h a W){x:aK}{v:aI}(e:C9 st x= .val v):a.eval x=v:=by
 have:=r.eval x;rw [e] at this;exact this
def Rel.evalOwn(r:Rel s0 n θ st h a W){x:aK}{k off:Nat}(e:C9 st x= .own k off):a.eval x= .pointer (some ⟨θ k,off,none⟩):=by
 have:=r.eval x;rw [e] at this;exact this
def Rel.evalRho(r:Rel s0 n θ st h a W){x:aK}(e:(C9 st x).isVal=true):a.eval x=rho st x:=by
 unfold rho
 cases y:C9 st x with
 | val v=>exact r.evalVal y
 | own k off=>rw [y] at e;cases e
 | any=>rw [y] at e;cases e
def Rel.evalAll(r:Rel s0 n θ st h a W){xs:List aK}(e:I0 st xs=true):∀ x∈xs,a.eval x=rho st x:=
 fun x b=>r.evalRho (List.all_eq_true.1 e x b)
def Rel.exec(r:Rel s0 n θ st h a W){o:aO}(hs:∀ cs b,o.op ≠ .select cs b)(e:I0 st o.op.operands.toList=true):execOp a.eval o=execOp (rho st) o:=
 execOp_congr o hs fun x c=>r.evalAll e x gz0
def Ny(r:Rel s0 n θ st h a W){o:aO}{C:aX->Prop}(hs:∀ cs b,o.op ≠ .select cs b)(hv:Kq P o st C):
 ∃ v u,C v/\rel θ v u/\(∀ k off,v= .own k off->(st.own k).isSome=true)/\(execOp a.eval o).run P W= .ok (.value u) W:=by
 unfold Kq at hv
 split at hv
 ·rename_i e
  split at hv
  ·rename_i v c
   refine ⟨.val v,v,hv,rfl,(fun _ _ e=>by cases e),?_⟩
   rw [r.exec hs e];exact Jx _ c W
  grind
 grind
def Ll{t:aL}{b:Bool}(h:Mi P t=some b)(W:aE):(isAgg t).run P W= .ok b W:=by
 unfold Mi at h
 unfold isAgg
 cases hu:P.underlying t with
 | none=>grind
 | some d=>
  rw [hu] at h
  simp only [Sem.run_bind,run_underlying hu,aC]
  cases d<;>simp at h<;>subst h<;>rfl
def N8{t:aL}(h:(P.info? t).isSome=true)(W:aE):(sizeOf t).run P W= .ok (P.cellsOf t) W:=by
 obtain ⟨i,a⟩:=Option.isSome_iff_exists.1 h
 simp [sizeOf,typeInfo,program,Program.cellsOf,a,Sem.run_bind,Sem.run]
def Yl{t:aL}{d:TypeDesc}(h:P.underlying t=some d):(P.info? t).isSome=true:=by
 unfold Program.underlying at h
 grind
def Ke{t:aL}{b:Bool}(h:Mi P t=some b):(P.info? t).isSome=true:=by
 unfold Mi at h
 cases hu:P.underlying t with
 | none=>grind
 | some d=>exact Yl hu
def cellsAt.out{a:Addr}{X:Prop}: ∀ {vs:List aI} {j:Nat},cellsAt h a j vs X->X/\∀ i v,vs[i]? = some v->h.cell? (a.add (j+i))=some v:=by
 intro vs
 induction vs with
 | nil=>exact fun x=>⟨x,fun i v e=>by simp at e⟩
 | cons u vs ih=>
  intro j ⟨h1,h2⟩
  obtain ⟨b,c⟩:=ih h2
  refine ⟨b,fun i v e=>?_⟩
  cases i with
  | zero=>grind
  | succ i=>grind
def Jg(hs:Sim h W){t:aL}{ad:Addr}{C:aX->Prop}(hv:Y6 P t ad h C):
 ∃ v,C (.val v)/\(aP t (.pointer (some ad))).run P W= .ok v W:=by
 unfold Y6 at hv
 split at hv
 ·rename_i a
  split at hv
  ·obtain ⟨k,hv⟩:=hv.both
   obtain ⟨g,i,hv⟩:=exL.out hv
   obtain ⟨c,d⟩:=hv.out
   refine ⟨_,c,?_⟩
   have b:g.length=P.cellsOf t:=by simp_all
   have:=run_loadCells_list (P:=P) (w:=W) ad g (fun j v e=>hs.cell gz0)
   simp only [aP,aF,loadVar,Sem.run_bind,Sem.run_pure,Ll a,aC,if_true,N8 (Ke a),<- b,this]
  grind
 ·rename_i a
  obtain ⟨v,c,hv⟩:=exV.out hv
  refine ⟨v,hv,?_⟩
  simp only [aP,aF,loadVar,Sem.run_bind,Sem.run_pure,Ll a,aC,if_false,aW]
  simp only [load,Sem.run,hs.cell c]
 grind
def Rel.ownCell(r:Rel s0 n θ st h a W){k:Nat}{cs:List aI}(e:st.own k=some cs){off:Nat}{v:aI}(hv:cs[off]? = some v):W.cell? ⟨θ k,off,none⟩=some v:=by
 obtain ⟨t,b,_⟩:=r.own k cs e
 simp [World.cell?,b,hv]
def F3(b off j:Nat):(Addr.add ⟨b,off,none⟩ j)=⟨b,off+j,none⟩:=by
 unfold Addr.add;grind
def Ez(r:Rel s0 n θ st h a W){t:aL}{k off:Nat}{cs:List aI}(e:st.own k=some cs){C:aX->Prop}(hv:Y4 P t cs off C):
 ∃ v,C (.val v)/\(aP t (.pointer (some ⟨θ k,off,none⟩))).run P W= .ok v W:=by
 unfold Y4 at hv
 split at hv
 ·rename_i b
  obtain ⟨c,hv⟩:=hv.both
  simp only [aH] at c
  have g:=aN c.2
  refine ⟨_,hv,?_⟩
  have d:((cs.drop off).take (P.cellsOf t)).length=P.cellsOf t:=gz0
  have:=run_loadCells_list (P:=P) (w:=W) ⟨θ k,off,none⟩ ((cs.drop off).take (P.cellsOf t)) (fun j v l=>by
   rw [F3]
   refine r.ownCell e ?_
   grind)
  rw [d] at this
  simp only [aP,aF,loadVar,Sem.run_bind,Sem.run_pure,Ll b,aC,if_true,N8 (Ke b),this]
 ·rename_i b
  split at hv
  ·rename_i v i
   refine ⟨v,hv,?_⟩
   simp only [aP,aF,loadVar,Sem.run_bind,Sem.run_pure,Ll b,aC,if_false,aW]
   simp only [load,Sem.run,r.ownCell e i]
  grind
 grind
def Rel.evalWf(r:Rel s0 n θ st h a W){x:aK}: ∀ k off,C9 st x= .own k off->(st.own k).isSome=true:=by
 intro k off e
 cases x with
 | tmp t=>exact r.wf t k off e
 | _=>cases e
def QOut(P:aZ)(θ:Nat->Nat)(st:VS)(a:Act)(W:aE)(o:aO)(C:aX->Prop):Prop:=
 ∃ v u,C v/\rel θ v u/\(∀ k off,v= .own k off->(st.own k).isSome=true)/\(execOp a.eval o).run P W= .ok (.value u) W
def QOut.val{o:aO}{C:aX->Prop}{v:aI}(hc:C (.val v))(hr:(execOp a.eval o).run P W= .ok (.value v) W):QOut P θ st a W o C:=
 ⟨.val v,v,hc,rfl,(fun _ _ e=>by cases e),hr⟩
def slBound.out{v:Option aX}{dflt y:Nat}{C:Nat->Prop}(hb:slBound v dflt y C):
 (v=none/\C dflt)\/∃ k i,v=some (.val (.int k i))/\0<=i/\i<=(y:Int)/\C i.toNat:=by
 unfold slBound at hb
 grind
def Q8{k:IntKind}{i:Int}{y:Nat}(h0:0<=i)(h1:i<=(y:Int))(c:BoundsCode)(W:aE):(bC (.int k i) y c).run P W= .ok i.toNat W:=by
 simp [bC,asIntOf,h0,h1]
def By(r:Rel s0 n θ st h a W){isS:Bool}{len cap:Nat}{lo hi:Option aK}{C:Nat->Nat->Prop}
 (hb:slBound (hi.map (C9 st)) len cap fun h=>slBound (lo.map (C9 st)) 0 h fun l=>C l h):
 ∃ l h',C l h'/\(aR isS len cap (lo.map a.eval) (hi.map a.eval) none).run P W= .ok (l,h',cap) W:=by
 have b:∀ h',(slBound (lo.map (C9 st)) 0 h' fun l=>C l h')->∃ l,C l h'/\
  (match lo.map a.eval with
   | some v=>bC v h' .sliceB
   | none=>(pure 0:Sem Nat)).run P W= .ok l W:=by
  intro h' hb
  rcases hb.out with ⟨e,c⟩|⟨k,i,e,j,g,c⟩
  ·simp_all
  ·cases lo with
   | none=>simp at e
   | some x=>
    simp only [aT,Option.some.injEq] at e
    exact ⟨_,c,by simp only [aT,r.evalVal e];exact Q8 j g _ W⟩
 rcases hb.out with ⟨e,c⟩|⟨k,i,e,j,g,c⟩
 ·cases hi with
  | none=>
   obtain ⟨l,m,d⟩:=b _ c
   refine ⟨l,len,m,?_⟩
   unfold aR
   cases lo with
   | none=>simp_all
   | some y=>simp_all
  | some x=>simp at e
 ·cases hi with
  | none=>simp at e
  | some x=>
   simp only [aT,Option.some.injEq] at e
   obtain ⟨l,m,d⟩:=b _ c
   refine ⟨l,i.toNat,m,?_⟩
   unfold aR
   cases lo with
   | none=>simp at d;simp [r.evalVal e,Q8 j g,d]
   | some y=>simp only [aT] at d;simp [r.evalVal e,Q8 j g,d]
def A2x(r:Rel s0 n θ st h a W){o:aO}{t:aL}{x:aK}{lo hi:Option aK}(hop:o.op= .slice t x lo hi none){C:aX->Prop}
 (hv:Ep P t (C9 st x) (lo.map (C9 st)) (hi.map (C9 st)) C):QOut P θ st a W o C:=by
 unfold Ep at hv
 split at hv
 ·rename_i s i j
  obtain ⟨l,b,d,g⟩:=By (P:=P) (isS:=false) r (C:=fun l b=>C (.val (.string (s.extract l b)))) hv
  refine QOut.val d ?_
  simp [execOp,hop,aU,Instr.slice,run_underlying i,r.evalVal j,g]
 ·rename_i e A m c i j
  obtain ⟨hi,hv⟩:=hv.both
  obtain ⟨l,b,d,g⟩:=By (P:=P) (isS:=true) r (C:=fun l b=>C (.val (.slice (U3 A c l (P.cellsOf e)) (b-l) (c-l)))) hv
  refine QOut.val d ?_
  simp [execOp,hop,aU,Instr.slice,run_underlying i,r.evalVal j,g,N8 hi,U3]
 ·rename_i m e k i j
  obtain ⟨hi,hv⟩:=hv.both
  obtain ⟨l,b,d,g⟩:=By (P:=P) (isS:=false) r (C:=fun l b=>C (.val (.slice (U3 (some k) m l (P.cellsOf e)) (b-l) (m-l)))) hv
  refine QOut.val d ?_
  simp [execOp,hop,aU,run_underlying i,r.evalVal j,g,N8 hi,U3,aF]
  grind
 grind
def A09(r:Rel s0 n θ st h a W){o:aO}{t:aL}{x lo hi mx:aK}(hop:o.op= .slice t x (some lo) (some hi) (some mx)){C:aX->Prop}
 (hv:Kp P t (C9 st x) (C9 st lo) (C9 st hi) (C9 st mx) C):QOut P θ st a W o C:=by
 unfold Kp at hv
 split at hv
 ·rename_i e A m c u l w y z b q s d i g
  obtain ⟨hi,k,j,p,hv⟩:=hv.both
  refine QOut.val hv ?_
  simp [execOp,hop,aU,Instr.slice,aR,run_underlying q,r.evalVal s,r.evalVal d,r.evalVal i,r.evalVal g,Q8 k.1 k.2,Q8 j.1 j.2,Q8 p.1 p.2,N8 hi,U3]
 grind
def Ss(r:Rel s0 n θ st h a W){o:aO}{t:aL}{x i:aK}(hop:o.op= .indexAddr t x i){C:aX->Prop}
 (hv:P8 P t (C9 st x) (C9 st i) C):QOut P θ st a W o C:=by
 unfold P8 at hv
 split at hv
 ·rename_i len e k d _ m l g q
  obtain ⟨p,hv⟩:=hv.both
  by_cases b:0<=m/\m<(len:Int)
  ·have hv:C (.own k (d+m.toNat*P.cellsOf e)):=by
    have:decide (0<=m/\m<(len:Int))=true:=decide_eq_true b
    rw [this] at hv;exact hv
   refine ⟨_,.pointer (some ⟨θ k,d+m.toNat*P.cellsOf e,none⟩),hv,rfl,(fun B s y=>by cases y;exact r.evalWf _ _ g),?_⟩
   have:=F3 (θ k) d (m.toNat*P.cellsOf e)
   simp [execOp,hop,bF,run_underlying l,r.evalOwn g,r.evalVal q,asIntOf,aF,N8 p,b.1,b.2,this]
  ·have:decide (0<=m/\m<(len:Int))=false:=decide_eq_false b
   rw [this] at hv;exact hv.elim
 ·rename_i len e z _ m l g q
  obtain ⟨p,b,hv⟩:=hv.both
  refine QOut.val hv ?_
  simp [execOp,hop,bF,run_underlying l,r.evalVal g,r.evalVal q,asIntOf,aF,N8 p,b.1,b.2]
 ·rename_i e A m c _ j l g q
  obtain ⟨p,z,rfl,w,u,hv⟩:=hv.both
  refine QOut.val hv ?_
  simp [execOp,hop,bF,run_underlying l,r.evalVal g,r.evalVal q,asIntOf,N8 p,w,u]
 grind
def B2p{W:aE}{xs ys:Array aI}{f:Field}{b:Bool}{d:Nat}(h:C3r P f xs ys=some b):
 f.name ≠ "_" /\∃ a c,(part f.type xs f.offset).run P W= .ok a W/\(part f.type ys f.offset).run P W= .ok c W/\(aV (d+1) f.type a c).run P W= .ok b W:=by
 unfold C3r at h
 split at h
 ·rename_i a c e i g
  split at h
  ·cases h
  ·cases h
   refine ⟨gz0,.string a,.string c,?_,?_,?_⟩
   ·simp [part,isAgg,Sem.run_bind,run_underlying e,i]
   ·simp [part,isAgg,Sem.run_bind,run_underlying e,g]
   ·unfold aV
    simp [Sem.run_bind,run_underlying e]
    exact beq_toListBytes a c
 ·cases h
def A87{W:aE}{xs ys:Array aI}{dep:Nat}(l:List Field):∀ {b:Bool},B2o P l xs ys=some b->
 (forIn (m:=Sem) l ((none,()):Option Bool × PUnit) (fun f _=>
          if f.name ≠ "_" then do
           let x<-part f.type xs f.offset
           let y<-part f.type ys f.offset
           let e<-aV (dep+1) f.type x y
           if (!e)=true then pure (ForInStep.done (some false,()))
            else pure (ForInStep.yield (none,()))
          else pure (ForInStep.yield (none,())))).run P W= .ok (if b then (none,()) else (some false,())) W:=by
 induction l with
 | nil=>intro b h;cases h;simp
 | cons f l ih=>
  intro b h
  unfold B2o at h
  split at h
  ·rename_i u v i k
   cases h
   obtain ⟨a,p,q,g,c,j⟩:=B2p (W:=W) (d:=dep) i
   rw [List.forIn_cons]
   simp only [iP a,Sem.run_bind,g,c,j,aC]
   cases u with
   | false=>simp
   | true=>
    simp_all
  ·cases h
def B0g{t:aL}{xs ys:Array aI}{C:Bool->Prop}(hv:Zs P t xs ys C):∃ b,(∀ W,(Op.equal t (.agg xs) (.agg ys)).run P W= .ok b W)/\P.eqGuardType P.depth t=false/\C b:=by
 unfold Zs at hv
 split at hv
 ·rename_i e d
  obtain ⟨a,hv⟩:=hv.both
  simp only [aH,Bool.not_eq_true'] at a
  split at hv
  ·rename_i b g
   refine ⟨b,fun W=>?_,a.2,hv⟩
   have c:aQ=(aQ-2)+1+1:=rfl
   unfold Op.equal
   rw [c]
   generalize aQ-2=dep
   unfold aV
   simp only [Sem.run_bind,run_underlying d,aC]
   simp only [program,Sem.run,aC,a.1,aW,if_false]
   rw [<- Array.forIn_toList,Sem.run_bind,A87 e.toList g,aC]
   cases b<;>simp
  grind
 grind
def B1b(r:Rel s0 n θ st h a W){o:aO}{op:BinOp}{t t':aL}{x y:aK}(hop:o.op= .binOp op t x y t'){C:aX->Prop}
 (hv:Iy P o st op t (C9 st x) (C9 st y) C):QOut P θ st a W o C:=by
 have l:∀ cs b,o.op ≠ .select cs b:=gz0
 unfold Iy at hv
 have m:∀ {A:Option Addr} {p q s w:Nat},Ir P t=true->(Op.equal t (.slice A p q) (.slice none s w)).run P W= .ok A.isNone W:=by
  intro A p q s w G
  unfold Ir at G
  cases hu:P.underlying t with
  | none=>grind
  | some d=>
   cases d<;>first|grind|skip
   have E:aQ=(aQ-1)+1:=rfl
   unfold Op.equal
   rw [E]
   generalize aQ-1=dep
   cases A<;>(unfold aV;simp [run_underlying hu])
 split at hv
 ·rename_i xs F g e
  obtain ⟨b,B,z,c⟩:=B0g hv
  refine QOut.val c ?_
  simp [execOp,hop,eqGuard,binOp,r.evalVal g,r.evalVal e,B,z]
 ·rename_i xs F g e
  obtain ⟨b,B,z,c⟩:=B0g hv
  refine QOut.val c ?_
  simp [execOp,hop,eqGuard,binOp,r.evalVal g,r.evalVal e,B,z]
 ·rename_i A p q s w g e
  obtain ⟨j,c⟩:=hv.both
  refine QOut.val c ?_
  simp [execOp,hop,eqGuard,binOp,r.evalVal g,r.evalVal e,m j]
 ·rename_i A p q s w g e
  obtain ⟨j,c⟩:=hv.both
  refine QOut.val c ?_
  simp [execOp,hop,eqGuard,binOp,r.evalVal g,r.evalVal e,m j]
 ·rename_i k u D v g e
  obtain ⟨j,c⟩:=hv.both
  have j:=eq_of_beq j;subst j
  by_cases i:v=0
  ·rw [decide_eq_true i] at c;exact c.elim
  ·rw [decide_eq_false i] at c
   refine QOut.val c ?_
   simp [execOp,hop,eqGuard,binOp,Op.intDiv,i,r.evalVal g,r.evalVal e]
 ·rename_i k u D v g e
  obtain ⟨j,c⟩:=hv.both
  have j:=eq_of_beq j;subst j
  by_cases i:v=0
  ·rw [decide_eq_true i] at c;exact c.elim
  ·rw [decide_eq_false i] at c
   refine QOut.val c ?_
   simp [execOp,hop,eqGuard,binOp,Op.intDiv,i,r.evalVal g,r.evalVal e]
 ·rename_i k u D v g e
  by_cases i:v<0
  ·rw [decide_eq_true i] at hv;exact hv.elim
  ·rw [decide_eq_false i] at hv
   refine QOut.val hv ?_
   simp [execOp,hop,eqGuard,binOp,Op.shift,i,r.evalVal g,r.evalVal e]
 ·rename_i k u D v g e
  by_cases i:v<0
  ·rw [decide_eq_true i] at hv;exact hv.elim
  ·rw [decide_eq_false i] at hv
   refine QOut.val hv ?_
   simp [execOp,hop,eqGuard,binOp,Op.shift,i,r.evalVal g,r.evalVal e]
 ·rename_i u v g e
  refine QOut.val hv.2 ?_
  have:¬ ((u.size+v.size:Nat):Int)>IntKind.i64.max:=by
   simp_all
  simp only [execOp,hop,eqGuard,binOp,Op.stringOp,r.evalVal g,r.evalVal e,iN this]
  simp
 ·exact Ny r l hv
def B72(r:Rel s0 n θ st h a W){o:aO}{C:aX->Prop}(hsel:∀ cs b,o.op ≠ .select cs b)(hv:vcQ P o st h C):QOut P θ st a W o C:=by
 unfold vcQ at hv
 split at hv
 ·rename_i x d
  exact ⟨C9 st x,a.eval x,hv,r.eval x,r.evalWf,by simp [execOp,d]⟩
 ·rename_i x d
  exact ⟨C9 st x,a.eval x,hv,r.eval x,r.evalWf,by simp [execOp,d]⟩
 ·rename_i c x y d
  split at hv
  ·rename_i t w
   cases t
   ·exact ⟨C9 st y,a.eval y,hv,r.eval y,r.evalWf,by simp [execOp,d,r.evalVal w,asBool]⟩
   ·exact ⟨C9 st x,a.eval x,hv,r.eval x,r.evalWf,by simp [execOp,d,r.evalVal w,asBool]⟩
  grind
 ·rename_i t x d
  split at hv
  ·rename_i k m e
   split at hv
   ·rename_i cs M
    obtain ⟨v,z,D⟩:=Ez r M hv
    exact QOut.val z (by simp [execOp,d,r.evalOwn e,D])
   grind
  ·rename_i G e
   obtain ⟨v,z,D⟩:=Jg r.sim hv
   exact QOut.val z (by simp [execOp,d,r.evalVal e,D])
  grind
 ·rename_i s x f d
  split at hv
  ·rename_i k m e
   split at hv
   ·rename_i O E
    split at hv
    ·rename_i u B
     obtain ⟨l,hv⟩:=hv.both
     simp only [aH] at l
     have g:P.cellsOf u.type≠0:=by have:=aN l.2;omega
     refine ⟨_,.pointer (some ⟨θ k,m+u.offset,none⟩),hv,rfl,(fun N q A=>by cases A;exact r.evalWf _ _ e),?_⟩
     simp [execOp,d,Instr.fieldAt,run_underlying E,B,r.evalOwn e,aF,fieldPlace,N8 l.1,g,F3]
    grind
   grind
  ·rename_i G e
   split at hv
   ·rename_i O E
    split at hv
    ·rename_i u B
     obtain ⟨l,hv⟩:=hv.both
     simp only [aH] at l
     have g:P.cellsOf u.type≠0:=by have:=aN l.2;omega
     refine QOut.val hv ?_
     simp [execOp,d,Instr.fieldAt,run_underlying E,B,r.evalVal e,aF,fieldPlace,N8 l.1,g]
    grind
   grind
  grind
 ·rename_i x d
  split at hv
  ·rename_i k m e
   exact ⟨_,_,hv,rfl,(fun N q A=>by cases A;exact r.evalWf _ _ e),by simp [execOp,d,r.evalOwn e]⟩
  ·rename_i p e
   obtain ⟨G,rfl,hv⟩:=hv
   exact QOut.val hv (by simp [execOp,d,r.evalVal e])
  grind
 ·rename_i t x i d
  exact Ss r d hv
 ·rename_i t x i d
  split at hv
  ·rename_i s _ j H e F
   obtain ⟨c,⟨L,w⟩,hv⟩:=hv
   refine QOut.val hv ?_
   simp [execOp,d,Instr.index,run_underlying H,r.evalVal e,r.evalVal F,asIntOf,L,w]
  ·exact Ny r hsel hv
 ·rename_i t x Q F d
  exact A2x r d hv
 ·rename_i t x Q F mx d
  exact A09 r d hv
 ·rename_i op t x y R d
  exact B1b r d hv
 ·exact hv.elim
 ·exact Ny r hsel hv
def B3w(a:Act)(d i:Nat)(u:aI)(hd:d<a.tmps.size):(a.put (some d) u).tmps.getD i undef=if i=d then u else a.tmps.getD i undef:=by
 simp only [Act.put,Array.getD,Array.size_setIfInBounds]
 by_cases h:i=d
 ·simp_all
 ·by_cases b:i<a.tmps.size
  ·simp [b,h,Ne.symm h]
  grind
def Rel.put(r:Rel s0 n θ st h a W){d:Nat}(hd:d<n){v:aX}{u:aI}(hv:rel θ v u)(hw:∀ k off,v= .own k off->(st.own k).isSome=true):Rel s0 n θ (st.put d v) h (a.put (some d) u) W:=by
 have g:d<a.tmps.size:=by rw [r.size];exact hd
 have b:∀ i,(st.put d v).env i=if i=d then v else st.env i:=by
  intro i
  by_cases e:i=d
  ·simp [VS.put]
  ·have:aY i d=false:=by cases x:aY i d with
    | false=>rfl
    | true=>simp_all
   simp [VS.put,this,e]
 refine ⟨r.defers,by simpa [Act.put] using r.size,fun i c=>?_,r.sim,r.own,r.inj,fun i k off e=>?_,fun i c=>?_⟩
 ·rw [b,B3w a d i u g]
  by_cases e:i=d
  ·grind
  ·simp only [e,if_false];exact r.slot i c
 ·rw [b] at e
  by_cases j:i=d
  ·rw [iP j] at e;exact hw k off e
  ·rw [iN j] at e;exact r.wf i k off e
 ·rw [b,iN o];exact r.out i c
def O5(st:VS)(d:Option Nat)(v:aX):(st.putO d v).own=st.own:=by cases d<;>rfl
def Rel.putO(r:Rel s0 n θ st h a W){cfg:Cfg}(hn:cfg.n=n){d:Option Nat}(hd:Q7 cfg d=true){v:aX}{u:aI}(hv:rel θ v u)(hw:∀ k off,v= .own k off->(st.own k).isSome=true):
 Rel s0 n θ (st.putO d v) h (a.put d u) W:=by
 cases d with
 | none=>exact r
 | some d=>
  simp only [Q7,A16,aH] at hd
  exact r.put (by simp_all) hv hw
def Agree.putO{cfg:Cfg}{st:VS}{d:Option Nat}{v:aX}(hd:Q7 cfg d=true):Agree cfg.lim st (st.putO d v):=by
 cases d with
 | none=>exact Agree.refl _ _
 | some d=>
  simp only [Q7,A16,aH] at hd
  refine ⟨fun i a=>?_,fun _ _=>rfl⟩
  have:aY i d=false:=by cases x:aY i d with
   | false=>rfl
   | true=>simp_all
  simp [VS.putO,VS.put,this]
def Rel.world(r:Rel s0 n θ st h a W){h':aJ}{W':aE}(f:Fr h W h' W'):Rel s0 n θ st h' a W':=by
 refine ⟨r.defers.world f,r.size,r.slot,f.sim,fun k g e=>?_,r.inj,r.wf,r.out⟩
 obtain ⟨t,d,c⟩:=r.own k g e
 have b:θ k<W.heap.size:=by
  grind
 refine ⟨t,(f.keep _ b c).trans d,?_⟩
 cases x:h' (θ k) with
 | none=>rfl
 | some o=>have:=f.new _ o c x;omega
def Good.quiet{cfg:Cfg}(hn:cfg.n=n){h0:aJ}{W0:aE}{o:aO}(g:Good n h0 W0 st h a W)(hd:Q7 cfg o.dst=true)(hsel:∀ cs b,o.op ≠ .select cs b){K:VS->aJ->Prop}
 (hv:vcQ P o st h fun v=>K (st.putO o.dst v) h) {Q:Exit->Act->aE->Prop}:
 Oper.wpX F fu P o a W (fun a' W'=>∃ st' h',K st' h'/\Good n h0 W0 st' h' a' W'/\Agree cfg.lim st st') Q:=by
 obtain ⟨θ,r,f,l⟩:=g
 obtain ⟨v,u,j,c,d,i⟩:=B72 r hsel hv
 unfold Oper.wpX
 rw [i,Oper.uponIn_value]
 refine ⟨_,h,j,⟨θ,r.putO hn hd c d,f,?_⟩,Agree.putO hd⟩
 exact fun k e=>l k (by rwa [O5] at e)
def Grow.out{gr:Bool}{h h':aJ}{X:Prop}(x:Grow gr h h' X):X:=by
 cases gr
 ·exact x
 ·exact x.2
def Good.effV{cfg:Cfg}(hn:cfg.n=n){h0:aJ}{W0:aE}{o:aO}(g:Good n h0 W0 st h a W)(hd:Q7 cfg o.dst=true){s:Sem aI}{gr:Bool}{K:VS->aJ->Prop}
 (hv:effV P s o gr st h K) (hex:∀ θ,Rel W0.heap.size n θ st h a W->(execOp a.eval o).run P W=(s.run P W).andThen fun v w=>.ok (.value v) w) {Q:Exit->Act->aE->Prop}:
 Oper.wpX F fu P o a W (fun a' W'=>∃ st' h',K st' h'/\Good n h0 W0 st' h' a' W'/\Agree cfg.lim st st') Q:=by
 obtain ⟨θ,r,f,j⟩:=g
 obtain ⟨v,W',h',i,b,c⟩:=Wp s _ h W hv r.sim
 obtain ⟨u,rfl,b⟩:=exT.out b
 unfold Oper.wpX
 rw [hex θ r,i,aC,Oper.uponIn_value]
 refine ⟨_,h',b.out,⟨θ,(r.world c).putO hn hd (v:=.val v) rfl (fun _ _ e=>by cases e),f.trans c,?_⟩,Agree.putO hd⟩
 exact fun k d=>j k (by rwa [O5] at d)
def Good.effP{cfg:Cfg}(hn:cfg.n=n){h0:aJ}{W0:aE}{o:aO}(g:Good n h0 W0 st h a W)(hd:Q7 cfg o.dst=true){s:Sem aI}{gr:Bool}{K:VS->aJ->Prop}
 (hv:effP P s o gr st h K) (hex:∀ θ,Rel W0.heap.size n θ st h a W->(execOp a.eval o).run P W=(s.run P W).andThen fun v w=>.ok (.value v) w) {Q:Exit->Act->aE->Prop}:
 Oper.wpX F fu P o a W (fun a' W'=>∃ st' h',K st' h'/\Good n h0 W0 st' h' a' W'/\Agree cfg.lim st st') Q:=by
 obtain ⟨θ,r,f,j⟩:=g
 obtain ⟨v,W',h',i,b,c⟩:=Wp s _ h W hv r.sim
 obtain ⟨u,rfl,b⟩:=b
 unfold Oper.wpX
 rw [hex θ r,i,aC,Oper.uponIn_value]
 refine ⟨_,h',b.out,⟨θ,(r.world c).putO hn hd (v:=.val (.pointer (some u))) rfl (fun _ _ e=>by cases e),f.trans c,?_⟩,Agree.putO hd⟩
 exact fun k d=>j k (by rwa [O5] at d)
def Good.effG{cfg:Cfg}(hn:cfg.n=n){h0:aJ}{W0:aE}{o:aO}(g:Good n h0 W0 st h a W)(hd:Q7 cfg o.dst=true){s:Sem aI}{K:VS->aJ->Prop}
 (hv:wpH P s (fun v h'=>K (st.putO o.dst (.val v)) h') h) (hex:∀ θ,Rel W0.heap.size n θ st h a W->(execOp a.eval o).run P W=(s.run P W).andThen fun v w=>.ok (.value v) w) {Q:Exit->Act->aE->Prop}:
 Oper.wpX F fu P o a W (fun a' W'=>∃ st' h',K st' h'/\Good n h0 W0 st' h' a' W'/\Agree cfg.lim st st') Q:=by
 obtain ⟨θ,r,f,j⟩:=g
 obtain ⟨v,W',h',d,i,b⟩:=Wp s _ h W hv r.sim
 unfold Oper.wpX
 rw [hex θ r,d,aC,Oper.uponIn_value]
 refine ⟨_,h',i,⟨θ,(r.world b).putO hn hd (v:=.val v) rfl (fun _ _ e=>by cases e),f.trans b,?_⟩,Agree.putO hd⟩
 exact fun k c=>j k (by rwa [O5] at c)
def effN.gen{s:Sem aI}{o:aO}{gr:Bool}{K:VS->aJ->Prop}(x:effN P s o gr st h K):wpH P s (fun v h'=>K (st.putO o.dst (.val v)) h') h:=by
 refine S8 s x fun v h' y=>?_
 rcases y with ⟨rfl,y⟩|⟨k,x,rfl,y⟩
 ·exact y.out
 ·exact y.out
def effE.gen{tk tx:aL}{s:Sem aI}{o:aO}{gr:Bool}{K:VS->aJ->Prop}(x:effE P tk tx s o gr st h K):wpH P s (fun v h'=>K (st.putO o.dst (.val v)) h') h:=by
 refine S8 s x fun v h' y=>?_
 obtain ⟨k,y⟩:=exT.out y
 obtain ⟨x,rfl,z⟩:=exT.out y
 exact Grow.out z
def Good.effU{cfg:Cfg}(hn:cfg.n=n){h0:aJ}{W0:aE}{o:aO}(g:Good n h0 W0 st h a W)(hd:Q7 cfg o.dst=true){s:Sem Unit}{gr:Bool}{K:VS->aJ->Prop}
 (hv:effU P s o gr st h K) (hex:∀ θ,Rel W0.heap.size n θ st h a W->(execOp a.eval o).run P W=(s.run P W).andThen fun _ w=>.ok .skip w) {Q:Exit->Act->aE->Prop}:
 Oper.wpX F fu P o a W (fun a' W'=>∃ st' h',K st' h'/\Good n h0 W0 st' h' a' W'/\Agree cfg.lim st st') Q:=by
 obtain ⟨θ,r,f,j⟩:=g
 obtain ⟨v,W',h',d,i,b⟩:=Wp s _ h W hv r.sim
 unfold Oper.wpX
 rw [hex θ r,d,aC,Oper.uponIn_skip]
 refine ⟨_,h',i.out,⟨θ,(r.world b).putO hn hd (v:=.val undef) rfl (fun _ _ e=>by cases e),f.trans b,?_⟩,Agree.putO hd⟩
 exact fun k c=>j k (by rwa [O5] at c)
def Ab{l:List Nat}{d:Nat}:has l d=true↔d∈l:=by
 simp only [has,List.any_eq_true]
 simp_all
def Ef{i d:Nat}(h:i≠d):aY i d=false:=by
 cases x:aY i d with
 | false=>rfl
 | true=>simp_all
def Z7(st:VS)(k:Nat)(cs:List aI):(st.setOwn k cs).own k=some cs:=by simp [VS.setOwn]
def F9(st:VS){k i:Nat}(cs:List aI)(h:i≠k):(st.setOwn k cs).own i=st.own i:=by simp [VS.setOwn,Ef h]
def B4n(hs:Sim h W)(o:Obj):Fr h W h { W with heap:=W.heap.push o }:=by
 refine ⟨fun b a e=>?_,rfl,rfl,rfl,by simp,fun b d _=>?_,fun b a e c=>?_⟩
 ·have:=hs b a e
  grind
 ·grind
 grind
def Good.own{cfg:Cfg}(hn:cfg.n=n){h0:aJ}{W0:aE}{o:aO}(g:Good n h0 W0 st h a W){cells:Array aI}{t:aL}{K:VS->aJ->Prop}
 (hv:Gn cfg o.dst cells.toList st h K) (hex:∀ θ,Rel W0.heap.size n θ st h a W->(execOp a.eval o).run P W= .ok (.value (.pointer (some ⟨W.heap.size,0,none⟩))) { W with heap:=W.heap.push (.cells cells t) }) {Q:Exit->Act->aE->Prop}:
 Oper.wpX F fu P o a W (fun a' W'=>∃ st' h',K st' h'/\Good n h0 W0 st' h' a' W'/\Agree cfg.lim st st') Q:=by
 obtain ⟨θ,r,f,hB⟩:=g
 unfold Gn at hv
 split at hv
 ·rename_i d N
  obtain ⟨w,V⟩:=hv.both
  simp only [A16,aH,Option.isNone_iff_eq_none] at w
  obtain ⟨⟨⟨s,M⟩,L⟩,A⟩:=w
  have s:d<n:=by simp_all
  have E:=B4n r.sim (.cells cells t)
  unfold Oper.wpX
  rw [hex θ r,Oper.uponIn_value]
  have z:∀ k,(st.own k).isSome=true->θ k<W.heap.size:=by
   intro k l
   obtain ⟨C,e⟩:=Option.isSome_iff_exists.1 l
   obtain ⟨S,T,_⟩:=r.own k C e
   grind
  let θ':Nat->Nat:=fun k=>if k=d then W.heap.size else θ k
  have hθ:∀ k,(st.own k).isSome=true->θ' k=θ k:=by
   grind
  have q:∀ v u,(∀ k c,v= .own k c->(st.own k).isSome=true)->rel θ v u->rel θ' v u:=by
   intro v u X y
   cases v with
   | own k c=>simp only [rel,hθ k (X k c rfl)];exact y
   | _=>exact y
  have B:h W.heap.size=none:=by
   cases x:h W.heap.size with
   | none=>rfl
   | some o'=>have:=r.sim _ _ x;grind
  have R:Rel W0.heap.size n θ' (st.setOwn d cells.toList) h a { W with heap:=W.heap.push (.cells cells t) }:=by
   refine ⟨r.defers.world E,r.size,fun i H=>q _ _ (fun k c e=>r.wf i k c e) (r.slot i H),E.sim,fun k C e=>?_,fun k D l j e=>?_,fun i k c e=>?_,r.out⟩
   ·by_cases b:k=d
    ·subst b
     rw [Z7] at e
     injection e with e;subst e
     exact ⟨t,by simp [θ'],gz0⟩
    ·rw [F9 _ _ b] at e
     obtain ⟨S,T,O⟩:=r.own k C e
     grind
   ·by_cases b:k=d<;>by_cases m:D=d
    ·omega
    ·rw [F9 _ _ m] at j
     grind
    ·rw [F9 _ _ b] at l
     grind
    ·rw [F9 _ _ b] at l
     rw [F9 _ _ m] at j
     rw [hθ k l,hθ D j] at e
     exact r.inj k D l j e
   ·have:=r.wf i k c e
    have b:k≠d:=gz0
    rw [F9 _ _ b];exact this
  have r2:=R.put s (v:=.own d 0) (u:=.pointer (some ⟨W.heap.size,0,none⟩)) (by simp [rel,θ']) (fun k c e=>by cases e;rw [Z7];rfl)
  refine ⟨_,h,V,⟨θ',by rw [N];exact r2,f.trans E,fun k l=>?_⟩,fun i H=>?_,fun i H=>?_⟩
  ·by_cases b:k=d
   ·simp only [θ',b,if_true];exact f.size
   ·have l:(st.own k).isSome=true:=by
     have:((st.put d (.own d 0)).setOwn d cells.toList).own k=st.own k:=F9 _ _ b
     grind
    grind
  ·have p:i≠d:=gz0
   simp [VS.setOwn,VS.put,Ef p]
  ·have p:i≠d:=gz0
   exact F9 _ _ p
 grind
def Vd(cur:List aI)(p:Nat)(v:aI)(vs:List aI)(hp:p<cur.length):F2 (cur.set p v) (p+1) vs=F2 cur p (v::vs):=by
 have e:cur.set p v=cur.take p++v::cur.drop (p+1):=by rw [List.set_eq_take_append_cons_drop,iP hp]
 have a:(cur.set p v).drop (p+1+vs.length)=cur.drop (p+(v::vs).length):=by
  rw [List.drop_set_of_lt o];congr 1;grind
 unfold F2
 grind
def Lk(b:Nat)(t:aL):∀ (vs:List aI) (i:Nat) (cur:List aI) (W:aE) (off:Nat),W.heap[b]? = some (.cells cur.toArray t (0,0))->off+i+vs.length<=cur.length->(∀ v∈vs,Jz v=true)->
 ∃ W',(storeCells ⟨b,off,none⟩ vs i).run P W= .ok () W'/\W'.heap[b]? = some (.cells (F2 cur (off+i) vs).toArray t (0,0))/\W'.os=W.os/\W'.tape=W.tape/\W'.output=W.output/\W'.heap.size=W.heap.size/\∀ k,k≠b->W'.heap[k]? = W.heap[k]? :=by
 intro vs
 induction vs with
 | nil=>
  intro i cur W off c n _
  refine ⟨W,by rfl,?_,rfl,rfl,rfl,rfl,fun _ _=>rfl⟩
  rw [c];simp [F2]
 | cons v vs ih=>
  intro i cur W off c n p
  simp only [List.length_cons] at n
  have a:W.cell? ⟨b,off+i,none⟩=some (cur[off+i]'o):=by
   simp [World.cell?,c,List.getElem?_eq_getElem (show off+i<cur.length from o)]
  have j:W.frozen? ⟨b,off+i,none⟩=false:=by simp [World.frozen?,c]
  have d:(W.setCell ⟨b,off+i,none⟩ v).heap[b]? = some (.cells ((cur.set (off+i) v).toArray) t (0,0)):=by
   simp [World.setCell,Array.getElem?_modify,c]
  obtain ⟨W',w,g,r,z,s,x,q⟩:=ih (i+1) (cur.set (off+i) v) (W.setCell ⟨b,off+i,none⟩ v) off d gz0 (fun u y=>p u (by simp [y]))
  refine ⟨W',?_,?_,r,z,s,by rw [x];simp [World.setCell],fun k m=>(q k m).trans (Gx W _ v k m)⟩
  ·have l:=p v (by simp)
   have e:(store (Addr.add ⟨b,off,none⟩ i) v).run P W= .ok () (W.setCell ⟨b,off+i,none⟩ v):=by
    rw [F3]
    cases v<;>first|(simp [Jz] at l;done)|simp [store,Sem.run,a,j]
   simp only [storeCells,Sem.run_bind,e,aC,w]
  ·rw [g]
   congr 2
   apply congrArg
   exact Vd cur (off+i) v vs o
def Good.ownStore{cfg:Cfg}(hn:cfg.n=n){h0:aJ}{W0:aE}{o:aO}{t:aL}{x y:aK}(hop:o.op= .store t x y)(g:Good n h0 W0 st h a W)(hd:Q7 cfg o.dst=true){k off:Nat}(hx:C9 st x= .own k off){cs:List aI}(hk:st.own k=some cs){K:VS->aJ->Prop}
 (hv:When ((C9 st y).isVal&&A1a cfg.lim k&&(P.info? t).isSome&&aY (rho st y).cells.size (P.cellsOf t)&&Nat.ble (off+P.cellsOf t) cs.length&&C1o (rho st y).cells.toList)
    (K ((st.setOwn k (F2 cs off (rho st y).cells.toList)).putO o.dst (.val undef)) h)) {Q:Exit->Act->aE->Prop}:
 Oper.wpX F fu P o a W (fun a' W'=>∃ st' h',K st' h'/\Good n h0 W0 st' h' a' W'/\Agree cfg.lim st st') Q:=by
 obtain ⟨θ,r,f,hB⟩:=g
 obtain ⟨z,hK⟩:=hv.both
 simp only [aH] at z
 obtain ⟨⟨⟨⟨⟨hy,O⟩,l⟩,m⟩,u⟩,s⟩:=z
 have m:=Nat.eq_of_beq_eq_true m
 have u:=aN u
 obtain ⟨tb,E,S⟩:=r.own k cs hk
 obtain ⟨W',D,aa,w,h3,h4,h5,H⟩:=Lk (P:=P) (θ k) tb (rho st y).cells.toList 0 cs W off E gz0 (fun v hv=>List.all_eq_true.1 s v hv)
 have q:(execOp a.eval o).run P W= .ok .skip W':=by
  simp [execOp,hop,Instr.storeAt,r.evalOwn hx,aF,storeVar,r.evalRho hy,N8 l,m,D]
 unfold Oper.wpX
 rw [q,Oper.uponIn_skip]
 have d:Sim h W':=fun b G e=>by
  have p:b≠θ k:=gz0
  rw [H b p];exact r.sim b G e
 have V:Rel W0.heap.size n θ (st.setOwn k (F2 cs off (rho st y).cells.toList)) h a W':=by
  have c:∀ j,((st.setOwn k (F2 cs off (rho st y).cells.toList)).own j).isSome=(st.own j).isSome:=by
   intro j
   by_cases e:j=k
   ·subst e;rw [Z7,hk];rfl
   ·rw [F9 _ _ e]
  refine ⟨r.defers.turn fun r' D e=>⟨D,gz0⟩,r.size,r.slot,d,fun j C e=>?_,fun j T N w e=>?_,fun i j G e=>by rw [c];exact r.wf i j G e,r.out⟩
  ·by_cases B:j=k
   ·subst B
    rw [Z7] at e;grind
   ·rw [F9 _ _ B] at e
    obtain ⟨X,M,L⟩:=r.own j C e
    refine ⟨X,?_,L⟩
    rw [H _ (fun e'=>B (r.inj j k gz0 gz0 e'))];exact M
  ·rw [c] at N w;exact r.inj j T N w e
 have A:Fr h0 W0 h W':=by
  refine ⟨d,w.trans f.os,h3.trans f.tape,h4.trans f.output,gz0,fun b z e=>?_,f.new⟩
  have:=hB k gz0
  rw [H b oo];exact f.keep b z e
 refine ⟨_,h,hK,⟨θ,V.putO hn hd (v:=.val undef) rfl (fun _ _ e=>by cases e),A,fun j R=>?_⟩,Agree.trans (b:=st.setOwn k (F2 cs off (rho st y).cells.toList)) ⟨fun _ _=>rfl,fun i hi=>?_⟩ (Agree.putO hd)⟩
 ·rw [O5] at R
  by_cases e:j=k
  ·grind
  ·rw [F9 _ _ e] at R;grind
 ·exact F9 _ _ (fun e=>gz0)
def Bodies(P:aZ)(fns:List Nat):Prop:=∀ g,g∈fns->∀ args W,(callFunc g args).run P W= .ok (.enter g args) W
def exRt.out{t:aL}{K:aI->Prop}(x:exRt P t K):∃ v,K v:=by
 unfold exRt at x
 split at x
 ·obtain ⟨b,a⟩:=exTs.out x;grind
 ·exact exT.out x
def effT.gen{s:Sem aI}{o:aO}{gr:Bool}{K:VS->aJ->Prop}(x:effT P s o gr st h K):wpH P s (fun v h'=>K (st.putO o.dst (.val v)) h') h:=
 S8 s x fun v h' y=>by
  obtain ⟨u,rfl,y⟩:=y.out
  exact y.out
def Oi(r:Rel s0 n θ st h a W){xs:Array aK}(e:I0 st xs.toList=true):xs.map a.eval=xs.map (rho st):=by
 apply Array.ext
 ·simp
 ·intro i b c
  simp only [Array.getElem_map]
  exact r.evalAll e _ (by simp)
def Good.call[FOk F]{cfg:Cfg}(hn:cfg.n=n)(hfn:Bodies P cfg.fns){h0:aJ}{W0:aE}{o:aO}{c:Call}{x:aK}(hop:o.op= .call c)(hcl:c.callee= .value x)(g:Good n h0 W0 st h a W)(hd:Q7 cfg o.dst=true){gr:Bool}{K:VS->aJ->Prop}
 (hv:A4c P cfg o c (C9 st x) gr st h K) {Q:Exit->Act->aE->Prop}:
 Oper.wpX F fu P o a W (fun a' W'=>∃ st' h',K st' h'/\Good n h0 W0 st' h' a' W'/\Agree cfg.lim st st') Q:=by
 obtain ⟨θ,r,f,D⟩:=g
 unfold A4c at hv
 split at hv
 ·rename_i E first b A
  split at hv
  ·rename_i s
   obtain ⟨y,hv⟩:=hv.both
   have d:(execOp a.eval o).run P W= .ok (.enter E (first++c.args.map (rho st)++b)) W:=by
    simp [execOp,hop,resolve,hcl,r.evalVal A,Deferred.ofValue,invoke,hfn E (Ab.1 s),Oi r y]
   unfold Oper.wpX
   rw [d,Oper.uponIn_enter]
   refine ⟨fun i=>(by rw [FOk.depth] at i;cases i),(A29 (hv W r.sim)).mono fun e W' ⟨v,h',C,j,p⟩=>?_⟩
   subst C
   obtain ⟨u,rfl,j⟩:=j.out
   refine ⟨_,h',j.out,⟨θ,(r.world p).putO hn hd (v:=.val v) rfl (fun _ _ e=>by cases e),f.trans p,?_⟩,Agree.putO hd⟩
   exact fun k q=>D k (by rwa [O5] at q)
  ·obtain ⟨y,hv⟩:=hv.both
   obtain ⟨v,W',h',H,j,p⟩:=hv W r.sim
   have d:(execOp a.eval o).run P W= .ok (.value v) W':=by
    rw [<- H]
    simp [execOp,hop,resolve,hcl,r.evalVal A,Deferred.ofValue,invoke,Oi r y]
   obtain ⟨u,rfl,j⟩:=j.out
   unfold Oper.wpX
   rw [d,Oper.uponIn_value]
   refine ⟨_,h',j.out,⟨θ,(r.world p).putO hn hd (v:=.val v) rfl (fun _ _ e=>by cases e),f.trans p,?_⟩,Agree.putO hd⟩
   exact fun k q=>D k (by rwa [O5] at q)
 ·rename_i l first b A
  obtain ⟨y,hv⟩:=hv.both
  obtain ⟨fn,z,B,w,G,m⟩:=hv W r.sim
  have d:(execOp a.eval o).run P W= .ok (.round l fn z B w) W:=by
   rw [<- G]
   simp [execOp,hop,resolve,hcl,r.evalVal A,Deferred.ofValue,invoke,Oi r y]
  unfold Oper.wpX
  rw [d,Oper.uponIn_round]
  refine ⟨fun i=>(by rw [FOk.depth] at i;cases i),(FOk.round (m _)).mono fun e W' ⟨v,h',C,j,p⟩=>?_⟩
  subst C
  obtain ⟨u,rfl,j⟩:=j.out
  refine ⟨_,h',j.out,⟨θ,(r.world p).putO hn hd (v:=.val v) rfl (fun _ _ e=>by cases e),f.trans p,?_⟩,Agree.putO hd⟩
  exact fun k q=>D k (by rwa [O5] at q)
 grind
def Good.invoked[FOk F]{cfg:Cfg}(hn:cfg.n=n){h0:aJ}{W0:aE}{o:aO}(hsel:∀ cs b,o.op ≠ .select cs b)(g:Good n h0 W0 st h a W)(hd:Q7 cfg o.dst=true){gr:Bool}{K:VS->aJ->Prop}
 (hv:Wq P cfg o gr st h K) {Q:Exit->Act->aE->Prop}:
 Oper.wpX F fu P o a W (fun a' W'=>∃ st' h',K st' h'/\Good n h0 W0 st' h' a' W'/\Agree cfg.lim st st') Q:=by
 obtain ⟨θ,r,f,w⟩:=g
 obtain ⟨x,hv⟩:=hv.both
 split at hv
 ·rename_i q i m
  have d:(execOp a.eval o).run P W= .ok (.enter q i) W:=by
   rw [r.exec hsel x];exact Jx _ m W
  unfold Oper.wpX
  rw [d,Oper.uponIn_enter]
  refine ⟨fun c=>(by rw [FOk.depth] at c;cases c),(A29 (hv W r.sim)).mono fun e W' ⟨v,h',s,j,l⟩=>?_⟩
  subst s
  obtain ⟨u,rfl,j⟩:=j.out
  refine ⟨_,h',j.out,⟨θ,(r.world l).putO hn hd (v:=.val v) rfl (fun _ _ e=>by cases e),f.trans l,?_⟩,Agree.putO hd⟩
  exact fun k p=>w k (by rwa [O5] at p)
 ·exact hv.elim
def Ug{t:aL}(hz:Uw P t=true)(W:aE):(zeroValue t).run P W= .ok (Cl P t) W:=by
 unfold Uw at hz
 cases hi:P.info? t with
 | none=>grind
 | some i=>
  rw [hi] at hz
  obtain ⟨z,e⟩:=Option.isSome_iff_exists.1 hz
  simp [zeroValue,typeInfo,program,hi,Sem.run_bind,Sem.run,e,Cl]
def Good.core[FOk F]{cfg:Cfg}(hn:cfg.n=n)(hfn:Bodies P cfg.fns){h0:aJ}{W0:aE}{o:aO}(g:Good n h0 W0 st h a W){gr:Bool}{K:VS->aJ->Prop}
 (hv:X5 P cfg o gr st h K) {Q:Exit->Act->aE->Prop}:
 Oper.wpX F fu P o a W (fun a' W'=>∃ st' h',K st' h'/\Good n h0 W0 st' h' a' W'/\Agree cfg.lim st st') Q:=by
 obtain ⟨u,hv⟩:=hv.both
 split at hv
 ·rename_i E
  have B:∀ C b,o.op ≠ .select C b:=fun C b e=>by simp [Sa,e] at E
  exact g.quiet hn u B hv
 ·split at hv
  ·rename_i t j
   split at hv
   ·obtain ⟨M,hv⟩:=hv.both
    refine g.own (P:=P) (t:=t) hn hv fun θ r=>?_
    simp [execOp,j,Instr.alloc,Ug M,newVar,newRow,newObj,Sem.run]
   ·exact g.effP hn u hv fun θ r=>by simp [execOp,j]
  ·rename_i t x j
   obtain ⟨q,hv⟩:=hv.both
   split at hv
   ·refine g.own (P:=P) (t:=t) hn hv fun θ r=>?_
    simp [execOp,j,Instr.box,r.evalRho q,newVar,newRow,newObj,Sem.run]
   ·exact g.effP hn u hv fun θ r=>by simp [execOp,j,r.evalRho q]
  ·rename_i t x y j
   unfold A2i at hv
   split at hv
   ·rename_i k G q
    split at hv
    ·rename_i C D
     exact g.ownStore hn j u q D hv
    grind
   ·rename_i p q
    obtain ⟨H,hv⟩:=hv.both
    exact g.effU hn u hv fun θ r=>by simp [execOp,j,r.evalVal q,r.evalRho H]
   grind
  ·rename_i t l c j
   obtain ⟨q,hv⟩:=hv.both
   refine g.effV hn u hv fun θ r=>?_
   have z:=r.evalAll q l (by simp)
   have A:=r.evalAll q c (by simp)
   simp [execOp,j,z,A]
  ·rename_i t m ps j
   obtain ⟨q,hv⟩:=hv.both
   refine g.effV hn u hv fun θ r=>?_
   have e:(ps.map fun (i,x)=>(i,a.eval x))=ps.map fun (i,x)=>(i,rho st x):=by
    apply Array.ext
    ·simp
    ·intro i z A
     simp only [Array.getElem_map]
     have:=r.evalAll q (ps[i]'gz0).2 gz0
     rw [this]
   simp [execOp,j,e]
  ·rename_i s d x j
   obtain ⟨q,hv⟩:=hv.both
   refine g.effV hn u hv fun θ r=>?_
   have z:=r.evalAll q x (by simp)
   simp [execOp,j,z]
  ·rename_i c j
   split at hv
   ·rename_i x w
    exact g.call hn hfn j w u hv
   ·rename_i w
    obtain ⟨q,hv⟩:=hv.both
    exact g.effV hn u hv fun θ r=>by simp [execOp,j,resolve,w,invoke,builtin,Oi r q]
   ·rename_i w
    obtain ⟨q,hv⟩:=hv.both
    exact g.effV hn u hv fun θ r=>by simp [execOp,j,resolve,w,invoke,builtin,Oi r q]
   ·exact g.invoked hn (fun C b e=>by rw [j] at e;cases e) u hv
   ·rename_i w
    obtain ⟨q,hv⟩:=hv.both
    exact g.effV hn u hv fun θ r=>by simp [execOp,j,resolve,w,invoke,builtin,Oi r q]
   grind
  ·rename_i t j
   exact g.effV hn u hv fun θ r=>by simp [execOp,j]
  ·rename_i t x i N j
   obtain ⟨q,hv⟩:=hv.both
   exact g.effG hn u hv.gen fun θ r=>by
    have z:=r.evalAll q x (by simp)
    have A:=r.evalAll q i (by simp)
    simp [execOp,j,z,A]
  ·rename_i t m k v j
   obtain ⟨q,hv⟩:=hv.both
   exact g.effU hn u hv fun θ r=>by
    have z:=r.evalAll q m (by simp)
    have A:=r.evalAll q k (by simp)
    have L:=r.evalAll q v (by simp)
    simp [execOp,j,z,A,L]
  ·rename_i t x j
   obtain ⟨q,hv⟩:=hv.both
   exact g.effP hn u hv fun θ r=>by
    have z:=r.evalAll q x (by simp)
    simp [execOp,j,z]
  ·rename_i it s j
   obtain ⟨q,hv⟩:=hv.both
   exact g.effG hn u hv.gen fun θ r=>by
    have z:=r.evalAll q it (by simp)
    simp [execOp,j,z]
  ·rename_i it j
   obtain ⟨q,hv⟩:=hv.both
   exact g.effG hn u hv.gen fun θ r=>by
    have z:=r.evalAll q it (by simp)
    simp [execOp,j,z]
  grind
def put_self(st:VS){g:Nat}{v:aX}(e:st.env g=v):st.put g v=st:=by
 unfold VS.put
 congr 1
 funext i
 by_cases h:i=g
 ·grind
 ·simp [Ef h]
def Hs{cfg:Cfg}{o:aO}{gr:Bool}{K:VS->aJ->Prop}(hv:X5 P cfg o gr st h K):∀ c,o.op ≠ .defer c:=by
 intro c e
 obtain ⟨_,hv⟩:=hv.both
 simp [Sa,e] at hv
def Good.op[FOk F]{cfg:Cfg}(hn:cfg.n=n)(hfn:Bodies P cfg.fns){h0:aJ}{W0:aE}{ops:Array aO}{i:Nat}{o:aO}(hi:ops[i]? = some o)(g:Good n h0 W0 st h a W){gr:Bool}{K:VS->aJ->Prop}
 (hv:Pn P cfg ops o gr st h K) {Q:Exit->Act->aE->Prop}:
 wpOpIn F fu P ops Q i (fun a' W'=>∃ st' h',K st' h'/\Good n h0 W0 st' h' a' W'/\Agree cfg.lim st st') a W:=by
 unfold wpOpIn
 simp only [hi]
 unfold Pn at hv
 have skip:∀ {u:aX},Q7 cfg o.dst=true->K (st.putO o.dst (.val undef)) h->∃ st' h',K st' h'/\Good n h0 W0 st' h' (a.put o.dst undef) W/\Agree cfg.lim st st':=by
  intro _ y G
  obtain ⟨θ,r,f,w⟩:=g
  exact ⟨_,h,G,⟨θ,r.putO hn y (v:=.val undef) rfl (fun _ _ e=>by cases e),f,fun k B=>w k (by rwa [O5] at B)⟩,Agree.putO y⟩
 split at hv
 ·rename_i p
  rw [iP (by simp [Region.wanted,p])]
  exact (g.core hn hfn hv).toIn (Hs hv)
 ·rename_i j m p
  split at hv
  ·exact hv.elim
  ·rename_i d q
   split at hv
   ·rename_i b l
    have D:yielded ops a.tmps j=some b:=by
     obtain ⟨θ,r,f,w⟩:=g
     have E:a.tmps.getD d undef= .bool b:=by have:=r.slot' d;rw [l] at this;exact this
     have C:d<a.tmps.size:=by
      rcases bG d a.tmps.size with x|x
      ·exact x
      ·rw [r.out d (by rw [<- r.size];exact x)] at l;cases l
     have s:a.tmps[d]? = some (.bool b):=by
      simp_all
     simp [yielded,q,s]
    have z:Region.wanted o (yielded ops a.tmps)=(b==m):=by
     simp only [Region.wanted,p,D]
     rfl
    rw [z]
    cases b<;>cases m
    ·have c:X5 P cfg o gr (st.put d (.val (.bool false))) h K:=hv
     rw [put_self st l] at c
     exact (g.core hn hfn c).toIn (Hs c)
    ·have c:When (Q7 cfg o.dst) (K ((st.put d (.val (.bool false))).putO o.dst (.val undef)) h):=hv
     rw [put_self st l] at c
     exact ⟨fun f _=>FOk.fn f,skip (u:=.any) c.both.1 c.both.2⟩
    ·have c:When (Q7 cfg o.dst) (K ((st.put d (.val (.bool true))).putO o.dst (.val undef)) h):=hv
     rw [put_self st l] at c
     exact ⟨fun f _=>FOk.fn f,skip (u:=.any) c.both.1 c.both.2⟩
    ·have c:X5 P cfg o gr (st.put d (.val (.bool true))) h K:=hv
     rw [put_self st l] at c
     exact (g.core hn hfn c).toIn (Hs c)
   ·rename_i A l
    have z:Region.wanted o (yielded ops a.tmps)=false:=by
     obtain ⟨θ,r,f,w⟩:=g
     have E:a.tmps.getD d undef= .tuple A:=by have:=r.slot' d;rw [l] at this;exact this
     have s:yielded ops a.tmps j=none:=by
      unfold yielded
      rcases bG d a.tmps.size with x|x
      ·simp_all
      grind
     simp [Region.wanted,p,s]
    rw [iN gz0]
    exact ⟨fun f _=>FOk.fn f,skip (u:=.any) hv.both.1 hv.both.2⟩
   grind
def B4y[FOk F]{cfg:Cfg}(hn:cfg.n=n)(hfn:Bodies P cfg.fns){h0:aJ}{W0:aE}{ops:Array aO}{gr:Bool}{Q:Exit->Act->aE->Prop}{K:VS->aJ->Prop}: ∀ (l:List Nat) (st:VS) (h:aJ) (a:Act) (W:aE),
 Good n h0 W0 st h a W->B26 P cfg ops gr l st h K->
 (∀ st' h' a' W',K st' h'->Good n h0 W0 st' h' a' W'->Agree cfg.lim st st'->Q .normal a' W')->wpOpsIn F fu P ops Q l a W:=by
 intro l
 induction l with
 | nil=>exact fun st h a W g b d=>d st h a W b g (Agree.refl _ _)
 | cons i l ih=>
  intro st h a W g b d
  unfold B26 at b
  split at b
  ·exact b.elim
  ·rename_i o m
   refine wpOpIn_mono (fun a' W' ⟨st',h',r,u,s⟩=>?_) (g.op hn hfn m b)
   exact ih st' h' a' W' u r fun e q p W2 k j c=>d e q p W2 k j (s.trans c)
end
