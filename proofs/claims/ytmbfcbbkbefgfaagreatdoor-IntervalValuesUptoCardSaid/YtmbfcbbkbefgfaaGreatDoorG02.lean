/- A part. -/
import Derived.Test.YtmbfcbbkbefgfaaGreatDoorG01
import Derived.OrdersIn
import Derived.RangeFuncCalls
set_option linter.all false
open _root_.Array renaming getElem?_eq_none->aI,getD->bA,getElem?_eq_getElem->bB
open Bool renaming and_eq_true->aF,false_eq_true->aQ
open _root_.Go.Instr renaming sureAddr->aE,loadAt->aP,sliceBounds->aS,sliceAt->aU,sliceBound->aZ,indexAt->bC
open Nat renaming le_of_ble_eq_true->aG,eq_of_beq_eq_true->aH,lt_or_ge->aO,beq->aX
open _root_.Go.Op renaming maxDepth->aR,equalIn->aV
open Option renaming map_some->aN
open _root_.Go.Result renaming andThen_ok->aC
open _root_.Go renaming World->aD,Value->aJ,Operand->aK,TypeId->aM,Oper->aT,Program->aY
open _root_.Go.Proofs.YtmbfcbbkbefgfaaGreatDoor renaming Heap->aL,AVal->aW
namespace Go.Proofs.YtmbfcbbkbefgfaaGreatDoor
open Go
def rel(θ:Nat->Nat):aW->aJ->Prop
 | .val v,u=>u=v
 | .own k off,u=>u= .pointer (some ⟨θ k,off,none⟩)
 | .any,_=>True
structure FOkS (F:Fence):Prop where
 ok:F=Fence.wide\/∃ l,F=Fence.wide.inRound l
abbrev FOk(F:Fence):=Inhabited (PLift (FOkS F))
instance:FOk Fence.wide:=⟨⟨⟨.inl rfl⟩⟩⟩
instance {l:Nat}:FOk (Fence.wide.inRound l):=⟨⟨⟨.inr ⟨l,rfl⟩⟩⟩⟩
def FOk.fn{F:Fence}[x:FOk F](f:FuncId):F.fn f:=by
 rcases x.default.down.ok with rfl|⟨l,rfl⟩<;>trivial
def FOk.depth{F:Fence}[x:FOk F]:F.depth=none:=by
 rcases x.default.down.ok with rfl|⟨l,rfl⟩<;>rfl
def B0e{F:Fence}[x:FOk F]{k:Nat}{P:aY}{f:FuncId}{args:Array aJ}{W:aD}{R:Ending->aD->Prop}(h:Calls P f args W R):CallsIn F k P f args W R:=by
 rcases x.default.down.ok with rfl|⟨l,rfl⟩
 ·exact callsIn_wide.2 h
 ·exact CallsIn.inRound l (callsIn_wide.2 h)
def FOk.round{F:Fence}[x:FOk F]{k:Nat}{P:aY}{l:Nat}{f:FuncId}{tmps:Array aJ}{asg body:Code}{W:aD}{R:Ending->aD->Prop}(h:RoundIn Fence.wide k P l f tmps asg body W R):RoundIn F k P l f tmps asg body W R:=by
 rcases x.default.down.ok with rfl|⟨l,rfl⟩
 ·exact h
 ·exact h
def Oper.wpX(F:Fence)(fu:Nat)(P:aY)(o:aT)(a:Act)(W:aD)(next:Act->aD->Prop)(Q:Exit->Act->aD->Prop):Prop:=
 o.uponIn F fu P a next Q ((execOp a.eval o).run P W)
def Oper.wpX.toIn{F:Fence}[FOk F]{fu:Nat}{P:aY}{o:aT}{a:Act}{W:aD}{next:Act->aD->Prop}{Q:Exit->Act->aD->Prop}(h:Oper.wpX F fu P o a W next Q)(hd:∀ c,o.op ≠ .defer c):o.wpIn F fu P a W next Q:=
 ⟨fun f _=>FOk.fn f,by rw [Oper.semAt_eq _ _ _ hd];exact h⟩
def MarksOk(s0:Nat)(h:aL)(W:aD)(ds:List Deferred):Prop:=
 ∃ rs:List Nat,rs.Nodup/\ds.map (·.target)=rs.map Target.collected/\∀ r∈rs,s0<=r/\h r=none/\W.heap[r]? = some (.deferred (some []))
def MarksOk.nil{s0:Nat}{h:aL}{W:aD}:MarksOk s0 h W []:=⟨[],List.nodup_nil,rfl,fun r a=>by cases a⟩
def MarksOk.turn{s0:Nat}{h h':aL}{W W':aD}{ds:List Deferred}(m:MarksOk s0 h W ds)(x:∀ r,h r=none->W.heap[r]? = some (.deferred (some []))->h' r=none/\W'.heap[r]? = some (.deferred (some []))):MarksOk s0 h' W' ds:=by
 obtain ⟨d,e,c,b⟩:=m
 exact ⟨d,e,c,fun r a=>⟨(b r a).1,x r (b r a).2.1 (b r a).2.2⟩⟩
def Ct{W:aD}{r:Nat}{o:Obj}(e:W.heap[r]? = some o):r<W.heap.size:=by
 by_cases h:r<W.heap.size
 ·exact h
 ·rw [aI (by omega)] at e;cases e
def MarksOk.world{s0:Nat}{h h':aL}{W W':aD}{ds:List Deferred}(m:MarksOk s0 h W ds)(f:Fr h W h' W'):MarksOk s0 h' W' ds:=
 m.turn fun r b e=>by
  have a:=Ct e
  refine ⟨?_,(f.keep r a b).trans e⟩
  cases x:h' r with
  | none=>rfl
  | some o=>have:=f.new r o b x;omega
structure Rel (s0:Nat) (n:Nat) (θ:Nat->Nat) (st:VS) (h:aL) (a:Act) (W:aD):Prop where
 defers:MarksOk s0 h W a.defers
 size:a.tmps.size=n
 slot:∀ i,i<n->rel θ (st.env i) (a.tmps.getD i undef)
 sim:Sim h W
 own:∀ k cs,st.own k=some cs->∃ t,W.heap[θ k]? = some (.cells cs.toArray t (0,0))/\h (θ k)=none
 inj:∀ k k',(st.own k).isSome=true->(st.own k').isSome=true->θ k=θ k'->k=k'
 wf:∀ i k off,st.env i= .own k off->(st.own k).isSome=true
 out:∀ i,n<=i->st.env i= .val undef
def Good(n:Nat)(h0:aL)(W0:aD)(st:VS)(h:aL)(a:Act)(W:aD):Prop:=
 ∃ θ,Rel W0.heap.size n θ st h a W/\Fr h0 W0 h W/\∀ k,(st.own k).isSome=true->W0.heap.size<=θ k
structure Agree (lim:Option Lim) (st st':VS):Prop where
 env:∀ i,B7u lim i=false->st'.env i=st.env i
 own:∀ i,Zx lim i=false->st'.own i=st.own i
def Agree.refl(lim:Option Lim)(st:VS):Agree lim st st:=⟨fun _ _=>rfl,fun _ _=>rfl⟩
def Agree.trans{lim:Option Lim}{a b c:VS}(x:Agree lim a b)(y:Agree lim b c):Agree lim a c:=
 ⟨fun i h=>(y.env i h).trans (x.env i h),fun i h=>(y.own i h).trans (x.own i h)⟩
def When.both{b:Bool}{A:Prop}(h:When b A):b=true/\A:=by
 cases b
 ·exact h.elim
 ·exact ⟨rfl,h⟩
section
variable {P:aY} {s0:Nat} {F:Fence} {fu:Nat} {n:Nat} {θ:Nat->Nat} {st:VS} {h:aL} {a:Act} {W:aD}
def Rel.slot'(r:Rel s0 n θ st h a W)(i:Nat):rel θ (st.env i) (a.tmps.getD i undef):=by
 rcases aO i n with b|b
 ·exact r.slot i b
 ·rw [r.out i b]
  show _=undef
  have:a.tmps.size<=i:=by rw [r.size];exact b
  simp [bA,Nat.not_lt.2 this]
def Rel.eval(r:Rel s0 n θ st h a W)(x:aK):rel θ (C7 st x) (a.eval x):=by
 cases x with
 | tmp t=>exact r.slot' t
 | const v=>exact rfl
 | global g=>exact rfl
 | func f=>exact rfl
def Rel.evalVal(r:Rel s0 n θ st h a W){x:aK}{v:aJ}(e:C7 st x= .val v):a.eval x=v:=by
 have:=r.eval x;rw [e] at this;exact this
def Rel.evalOwn(r:Rel s0 n θ st h a W){x:aK}{k off:Nat}(e:C7 st x= .own k off):a.eval x= .pointer (some ⟨θ k,off,none⟩):=by
 have:=r.eval x;rw [e] at this;exact this
def Rel.evalRho(r:Rel s0 n θ st h a W){x:aK}(e:(C7 st x).isVal=true):a.eval x=rho st x:=by
 unfold rho
 cases y:C7 st x with
 | val v=>exact r.evalVal y
 | own k off=>rw [y] at e;cases e
 | any=>rw [y] at e;cases e
def Rel.evalAll(r:Rel s0 n θ st h a W){xs:List aK}(e:L9 st xs=true):∀ x∈xs,a.eval x=rho st x:=
 fun x b=>r.evalRho (List.all_eq_true.1 e x b)
def Rel.exec(r:Rel s0 n θ st h a W){o:aT}(hs:∀ cs b,o.op ≠ .select cs b)(e:L9 st o.op.operands.toList=true):execOp a.eval o=execOp (rho st) o:=
 execOp_congr o hs fun x c=>r.evalAll e x (by simpa using c)
def Lp(r:Rel s0 n θ st h a W){o:aT}{C:aW->Prop}(hs:∀ cs b,o.op ≠ .select cs b)(hv:Je P o st C):
 ∃ v u,C v/\rel θ v u/\(∀ k off,v= .own k off->(st.own k).isSome=true)/\(execOp a.eval o).run P W= .ok (.value u) W:=by
 unfold Je at hv
 split at hv
 ·rename_i e
  split at hv
  ·rename_i v c
   refine ⟨.val v,v,hv,rfl,(fun _ _ e=>by cases e),?_⟩
   rw [r.exec hs e];exact Py _ c W
  ·exact hv.elim
 ·exact hv.elim
def Jp{t:aM}{b:Bool}(h:Kb P t=some b)(W:aD):(isAgg t).run P W= .ok b W:=by
 unfold Kb at h
 unfold isAgg
 cases hu:P.underlying t with
 | none=>rw [hu] at h;cases h
 | some d=>
  rw [hu] at h
  simp only [Sem.run_bind,run_underlying hu,aC]
  cases d<;>simp at h<;>subst h<;>rfl
def H6{t:aM}(h:(P.info? t).isSome=true)(W:aD):(sizeOf t).run P W= .ok (P.cellsOf t) W:=by
 obtain ⟨i,a⟩:=Option.isSome_iff_exists.1 h
 simp [sizeOf,typeInfo,program,Program.cellsOf,a,Sem.run_bind,Sem.run]
def Wq{t:aM}{d:TypeDesc}(h:P.underlying t=some d):(P.info? t).isSome=true:=by
 unfold Program.underlying at h
 cases x:P.info? t with
 | none=>rw [x] at h;cases h
 | some i=>rfl
def Ii{t:aM}{b:Bool}(h:Kb P t=some b):(P.info? t).isSome=true:=by
 unfold Kb at h
 cases hu:P.underlying t with
 | none=>rw [hu] at h;cases h
 | some d=>exact Wq hu
def cellsAt.out{a:Addr}{X:Prop}: ∀ {vs:List aJ} {j:Nat},cellsAt h a j vs X->X/\∀ i v,vs[i]? = some v->h.cell? (a.add (j+i))=some v:=by
 intro vs
 induction vs with
 | nil=>exact fun x=>⟨x,fun i v e=>by simp at e⟩
 | cons u vs ih=>
  intro j ⟨h1,h2⟩
  obtain ⟨c,b⟩:=ih h2
  refine ⟨c,fun i v e=>?_⟩
  cases i with
  | zero=>simp at e;subst e;exact h1
  | succ i=>simp at e;have:=b i v e;rwa [show j+1+i=j+(i+1) by omega] at this
def Su(hs:Sim h W){t:aM}{ad:Addr}{C:aW->Prop}(hv:V5 P t ad h C):
 ∃ v,C (.val v)/\(aP t (.pointer (some ad))).run P W= .ok v W:=by
 unfold V5 at hv
 split at hv
 ·rename_i a
  split at hv
  ·rename_i zs l
   obtain ⟨k,hv⟩:=hv.both
   obtain ⟨g,i,hv⟩:=exL.out hv
   obtain ⟨d,b⟩:=hv.out
   refine ⟨_,d,?_⟩
   have c:g.length=P.cellsOf t:=by rw [i,Array.length_toList];exact aH k
   have:=run_loadCells_list (P:=P) (w:=W) ad g (fun j v e=>hs.cell (by simpa using b j v e))
   simp only [aP,aE,loadVar,Sem.run_bind,Sem.run_pure,Jp a,aC,if_true,H6 (Ii a),<- c,this]
  ·exact hv.elim
 ·rename_i a
  obtain ⟨v,d,hv⟩:=exV.out hv
  refine ⟨v,hv,?_⟩
  simp only [aP,aE,loadVar,Sem.run_bind,Sem.run_pure,Jp a,aC,if_false,aQ]
  simp only [load,Sem.run,hs.cell d]
 ·exact hv.elim
def Rel.ownCell(r:Rel s0 n θ st h a W){k:Nat}{cs:List aJ}(e:st.own k=some cs){off:Nat}{v:aJ}(hv:cs[off]? = some v):W.cell? ⟨θ k,off,none⟩=some v:=by
 obtain ⟨t,b,_⟩:=r.own k cs e
 simp [World.cell?,b,hv]
def T4(b off j:Nat):(Addr.add ⟨b,off,none⟩ j)=⟨b,off+j,none⟩:=by
 unfold Addr.add;split
 ·subst_vars;rfl
 ·rfl
def Jv(r:Rel s0 n θ st h a W){t:aM}{k off:Nat}{cs:List aJ}(e:st.own k=some cs){C:aW->Prop}(hv:U4 P t cs off C):
 ∃ v,C (.val v)/\(aP t (.pointer (some ⟨θ k,off,none⟩))).run P W= .ok v W:=by
 unfold U4 at hv
 split at hv
 ·rename_i b
  obtain ⟨d,hv⟩:=hv.both
  simp only [aF] at d
  have i:=aG d.2
  refine ⟨_,hv,?_⟩
  have g:((cs.drop off).take (P.cellsOf t)).length=P.cellsOf t:=by simp;omega
  have:=run_loadCells_list (P:=P) (w:=W) ⟨θ k,off,none⟩ ((cs.drop off).take (P.cellsOf t)) (fun j v c=>by
   rw [T4]
   refine r.ownCell e ?_
   rw [List.getElem?_take] at c
   split at c
   ·rwa [List.getElem?_drop] at c
   ·cases c)
  rw [g] at this
  simp only [aP,aE,loadVar,Sem.run_bind,Sem.run_pure,Jp b,aC,if_true,H6 (Ii b),this]
 ·rename_i b
  split at hv
  ·rename_i v l
   refine ⟨v,hv,?_⟩
   simp only [aP,aE,loadVar,Sem.run_bind,Sem.run_pure,Jp b,aC,if_false,aQ]
   simp only [load,Sem.run,r.ownCell e l]
  ·exact hv.elim
 ·exact hv.elim
def Rel.evalWf(r:Rel s0 n θ st h a W){x:aK}: ∀ k off,C7 st x= .own k off->(st.own k).isSome=true:=by
 intro k off e
 cases x with
 | tmp t=>exact r.wf t k off e
 | _=>cases e
def QOut(P:aY)(θ:Nat->Nat)(st:VS)(a:Act)(W:aD)(o:aT)(C:aW->Prop):Prop:=
 ∃ v u,C v/\rel θ v u/\(∀ k off,v= .own k off->(st.own k).isSome=true)/\(execOp a.eval o).run P W= .ok (.value u) W
def QOut.val{o:aT}{C:aW->Prop}{v:aJ}(hc:C (.val v))(hr:(execOp a.eval o).run P W= .ok (.value v) W):QOut P θ st a W o C:=
 ⟨.val v,v,hc,rfl,(fun _ _ e=>by cases e),hr⟩
def slBound.out{v:Option aW}{dflt y:Nat}{C:Nat->Prop}(hb:slBound v dflt y C):
 (v=none/\C dflt)\/∃ k i,v=some (.val (.int k i))/\0<=i/\i<=(y:Int)/\C i.toNat:=by
 unfold slBound at hb
 split at hb
 ·exact .inl ⟨rfl,hb⟩
 ·exact .inr ⟨_,_,rfl,hb.1.1,hb.1.2,hb.2⟩
 ·exact hb.elim
def L4{k:IntKind}{i:Int}{y:Nat}(h0:0<=i)(h1:i<=(y:Int))(c:BoundsCode)(W:aD):(aZ (.int k i) y c).run P W= .ok i.toNat W:=by
 simp [aZ,asIntOf,h0,h1]
def An(r:Rel s0 n θ st h a W){isS:Bool}{len cap:Nat}{lo hi:Option aK}{C:Nat->Nat->Prop}
 (hb:slBound (hi.map (C7 st)) len cap fun h=>slBound (lo.map (C7 st)) 0 h fun l=>C l h):
 ∃ l h',C l h'/\(aS isS len cap (lo.map a.eval) (hi.map a.eval) none).run P W= .ok (l,h',cap) W:=by
 have b:∀ h',(slBound (lo.map (C7 st)) 0 h' fun l=>C l h')->∃ l,C l h'/\
  (match lo.map a.eval with
   | some v=>aZ v h' .sliceB
   | none=>(pure 0:Sem Nat)).run P W= .ok l W:=by
  intro h' hb
  rcases hb.out with ⟨e,d⟩|⟨k,i,e,g,j,d⟩
  ·cases lo with
   | none=>exact ⟨0,d,by simp⟩
   | some x=>simp at e
  ·cases lo with
   | none=>simp at e
   | some x=>
    simp only [aN,Option.some.injEq] at e
    exact ⟨_,d,by simp only [aN,r.evalVal e];exact L4 g j _ W⟩
 rcases hb.out with ⟨e,d⟩|⟨k,i,e,g,j,d⟩
 ·cases hi with
  | none=>
   obtain ⟨l,m,c⟩:=b _ d
   refine ⟨l,len,m,?_⟩
   unfold aS
   cases lo with
   | none=>simp at c ⊢;exact c
   | some y=>simp only [aN] at c;simp [c]
  | some x=>simp at e
 ·cases hi with
  | none=>simp at e
  | some x=>
   simp only [aN,Option.some.injEq] at e
   obtain ⟨l,m,c⟩:=b _ d
   refine ⟨l,i.toNat,m,?_⟩
   unfold aS
   cases lo with
   | none=>simp at c;simp [r.evalVal e,L4 g j,c]
   | some y=>simp only [aN] at c;simp [r.evalVal e,L4 g j,c]
def A1l(r:Rel s0 n θ st h a W){o:aT}{t:aM}{x:aK}{lo hi:Option aK}(hop:o.op= .slice t x lo hi none){C:aW->Prop}
 (hv:Dj P t (C7 st x) (lo.map (C7 st)) (hi.map (C7 st)) C):QOut P θ st a W o C:=by
 unfold Dj at hv
 split at hv
 ·rename_i s j i
  obtain ⟨l,b,g,d⟩:=An (P:=P) (isS:=false) r (C:=fun l b=>C (.val (.string (s.extract l b)))) hv
  refine QOut.val g ?_
  simp [execOp,hop,aU,Instr.slice,run_underlying j,r.evalVal i,d]
 ·rename_i e A m c j i
  obtain ⟨hi,hv⟩:=hv.both
  obtain ⟨l,b,g,d⟩:=An (P:=P) (isS:=true) r (C:=fun l b=>C (.val (.slice (J6 A c l (P.cellsOf e)) (b-l) (c-l)))) hv
  refine QOut.val g ?_
  simp [execOp,hop,aU,Instr.slice,run_underlying j,r.evalVal i,d,H6 hi,J6]
 ·rename_i m e k j i
  obtain ⟨hi,hv⟩:=hv.both
  obtain ⟨l,b,g,d⟩:=An (P:=P) (isS:=false) r (C:=fun l b=>C (.val (.slice (J6 (some k) m l (P.cellsOf e)) (b-l) (m-l)))) hv
  refine QOut.val g ?_
  simp [execOp,hop,aU,run_underlying j,r.evalVal i,d,H6 hi,J6,aE]
  split<;>rfl
 ·exact hv.elim
def Zc(r:Rel s0 n θ st h a W){o:aT}{t:aM}{x lo hi mx:aK}(hop:o.op= .slice t x (some lo) (some hi) (some mx)){C:aW->Prop}
 (hv:Jd P t (C7 st x) (C7 st lo) (C7 st hi) (C7 st mx) C):QOut P θ st a W o C:=by
 unfold Jd at hv
 split at hv
 ·rename_i e A m c z l u w y b s q i g d
  obtain ⟨hi,p,j,k,hv⟩:=hv.both
  refine QOut.val hv ?_
  simp [execOp,hop,aU,Instr.slice,aS,run_underlying s,r.evalVal q,r.evalVal i,r.evalVal g,r.evalVal d,L4 p.1 p.2,L4 j.1 j.2,L4 k.1 k.2,H6 hi,J6]
 ·exact hv.elim
def Qn(r:Rel s0 n θ st h a W){o:aT}{t:aM}{x i:aK}(hop:o.op= .indexAddr t x i){C:aW->Prop}
 (hv:K4 P t (C7 st x) (C7 st i) C):QOut P θ st a W o C:=by
 unfold K4 at hv
 split at hv
 ·rename_i len e k b _ m q g l
  obtain ⟨p,hv⟩:=hv.both
  by_cases d:0<=m/\m<(len:Int)
  ·have hv:C (.own k (b+m.toNat*P.cellsOf e)):=by
    have:decide (0<=m/\m<(len:Int))=true:=decide_eq_true d
    rw [this] at hv;exact hv
   refine ⟨_,.pointer (some ⟨θ k,b+m.toNat*P.cellsOf e,none⟩),hv,rfl,(fun B s y=>by cases y;exact r.evalWf _ _ g),?_⟩
   have:=T4 (θ k) b (m.toNat*P.cellsOf e)
   simp [execOp,hop,bC,run_underlying q,r.evalOwn g,r.evalVal l,asIntOf,aE,H6 p,d.1,d.2,this]
  ·have:decide (0<=m/\m<(len:Int))=false:=decide_eq_false d
   rw [this] at hv;exact hv.elim
 ·rename_i len e w _ m q g l
  obtain ⟨p,d,hv⟩:=hv.both
  refine QOut.val hv ?_
  simp [execOp,hop,bC,run_underlying q,r.evalVal g,r.evalVal l,asIntOf,aE,H6 p,d.1,d.2]
 ·rename_i e A m c _ j q g l
  obtain ⟨p,w,rfl,u,z,hv⟩:=hv.both
  refine QOut.val hv ?_
  simp [execOp,hop,bC,run_underlying q,r.evalVal g,r.evalVal l,asIntOf,H6 p,u,z]
 ·exact hv.elim
def B16{W:aD}{xs ys:Array aJ}{f:Field}{b:Bool}{d:Nat}(h:C0a P f xs ys=some b):
 f.name ≠ "_" /\∃ a c,(part f.type xs f.offset).run P W= .ok a W/\(part f.type ys f.offset).run P W= .ok c W/\(aV (d+1) f.type a c).run P W= .ok b W:=by
 unfold C0a at h
 split at h
 ·rename_i a c g j i
  split at h
  ·cases h
  ·rename_i e
   cases h
   refine ⟨by simpa using e,.string a,.string c,?_,?_,?_⟩
   ·simp [part,isAgg,Sem.run_bind,run_underlying g,j]
   ·simp [part,isAgg,Sem.run_bind,run_underlying g,i]
   ·unfold aV
    simp [Sem.run_bind,run_underlying g]
    exact beq_toListBytes a c
 ·cases h
def A6u{W:aD}{xs ys:Array aJ}{dep:Nat}(l:List Field):∀ {b:Bool},B15 P l xs ys=some b->
 (forIn (m:=Sem) l ((none,()):Option Bool × PUnit) (fun f _=>
          if f.name ≠ "_" then do
           let x<-part f.type xs f.offset
           let y<-part f.type ys f.offset
           let e<-aV (dep+1) f.type x y
           if (!e)=true then pure (ForInStep.done (some false,()))
            else pure (ForInStep.yield (none,()))
          else pure (ForInStep.yield (none,())))).run P W= .ok (if b then (none,()) else (some false,())) W:=by
 induction l with
 | nil=>intro b h;cases h;simp
 | cons f l ih=>
  intro b h
  unfold B15 at h
  split at h
  ·rename_i u v g i
   cases h
   obtain ⟨a,p,q,k,c,j⟩:=B16 (W:=W) (d:=dep) g
   rw [List.forIn_cons]
   simp only [iP a,Sem.run_bind,k,c,j,aC]
   cases u with
   | false=>simp
   | true=>
    have:=ih i
    simp only [Bool.not_true,aQ,if_false,Sem.run_pure,aC,Bool.true_and]
    exact this
  ·cases h
def A8f{t:aM}{xs ys:Array aJ}{C:Bool->Prop}(hv:Yp P t xs ys C):∃ b,(∀ W,(Op.equal t (.agg xs) (.agg ys)).run P W= .ok b W)/\P.eqGuardType P.depth t=false/\C b:=by
 unfold Yp at hv
 split at hv
 ·rename_i g e
  obtain ⟨a,hv⟩:=hv.both
  simp only [aF,Bool.not_eq_true'] at a
  split at hv
  ·rename_i b d
   refine ⟨b,fun W=>?_,a.2,hv⟩
   have c:aR=(aR-2)+1+1:=rfl
   unfold Op.equal
   rw [c]
   generalize aR-2=dep
   unfold aV
   simp only [Sem.run_bind,run_underlying e,aC]
   simp only [program,Sem.run,aC,a.1,aQ,if_false]
   rw [<- Array.forIn_toList,Sem.run_bind,A6u g.toList d,aC]
   cases b<;>simp
  ·exact hv.elim
 ·exact hv.elim
def A8z(r:Rel s0 n θ st h a W){o:aT}{op:BinOp}{t t':aM}{x y:aK}(hop:o.op= .binOp op t x y t'){C:aW->Prop}
 (hv:Hj P o st op t (C7 st x) (C7 st y) C):QOut P θ st a W o C:=by
 have p:∀ cs b,o.op ≠ .select cs b:=by rw [hop];intro _ _ e;cases e
 unfold Hj at hv
 have m:∀ {A:Option Addr} {s B w z:Nat},Ha P t=true->(Op.equal t (.slice A s B) (.slice none w z)).run P W= .ok A.isNone W:=by
  intro A s B w z q
  unfold Ha at q
  cases hu:P.underlying t with
  | none=>rw [hu] at q;cases q
  | some d=>
   rw [hu] at q
   cases d<;>first|(cases q;done)|skip
   have G:aR=(aR-1)+1:=rfl
   unfold Op.equal
   rw [G]
   generalize aR-1=dep
   cases A<;>(unfold aV;simp [run_underlying hu])
 split at hv
 ·rename_i xs H i g
  obtain ⟨b,D,F,c⟩:=A8f hv
  refine QOut.val c ?_
  simp [execOp,hop,eqGuard,binOp,r.evalVal i,r.evalVal g,D,F]
 ·rename_i xs H i g
  obtain ⟨b,D,F,c⟩:=A8f hv
  refine QOut.val c ?_
  simp [execOp,hop,eqGuard,binOp,r.evalVal i,r.evalVal g,D,F]
 ·rename_i A s B w z i g
  obtain ⟨l,c⟩:=hv.both
  refine QOut.val c ?_
  simp [execOp,hop,eqGuard,binOp,r.evalVal i,r.evalVal g,m l]
 ·rename_i A s B w z i g
  obtain ⟨l,c⟩:=hv.both
  refine QOut.val c ?_
  simp [execOp,hop,eqGuard,binOp,r.evalVal i,r.evalVal g,m l]
 ·rename_i k u E v i g
  obtain ⟨l,c⟩:=hv.both
  have l:=eq_of_beq l;subst l
  by_cases j:v=0
  ·rw [decide_eq_true j] at c;exact c.elim
  ·rw [decide_eq_false j] at c
   refine QOut.val c ?_
   simp [execOp,hop,eqGuard,binOp,Op.intDiv,j,r.evalVal i,r.evalVal g]
 ·rename_i k u E v i g
  obtain ⟨l,c⟩:=hv.both
  have l:=eq_of_beq l;subst l
  by_cases j:v=0
  ·rw [decide_eq_true j] at c;exact c.elim
  ·rw [decide_eq_false j] at c
   refine QOut.val c ?_
   simp [execOp,hop,eqGuard,binOp,Op.intDiv,j,r.evalVal i,r.evalVal g]
 ·rename_i k u E v i g
  by_cases j:v<0
  ·rw [decide_eq_true j] at hv;exact hv.elim
  ·rw [decide_eq_false j] at hv
   refine QOut.val hv ?_
   simp [execOp,hop,eqGuard,binOp,Op.shift,j,r.evalVal i,r.evalVal g]
 ·rename_i k u E v i g
  by_cases j:v<0
  ·rw [decide_eq_true j] at hv;exact hv.elim
  ·rw [decide_eq_false j] at hv
   refine QOut.val hv ?_
   simp [execOp,hop,eqGuard,binOp,Op.shift,j,r.evalVal i,r.evalVal g]
 ·rename_i u v i g
  refine QOut.val hv.2 ?_
  have:¬ ((u.size+v.size:Nat):Int)>IntKind.i64.max:=by
   have:=hv.1
   simp only [IntKind.max,IntKind.signed,IntKind.bits]
   omega
  simp only [execOp,hop,eqGuard,binOp,Op.stringOp,r.evalVal i,r.evalVal g,iN this]
  simp
 ·exact Lp r p hv
def B4w(r:Rel s0 n θ st h a W){o:aT}{C:aW->Prop}(hsel:∀ cs b,o.op ≠ .select cs b)(hv:vcQ P o st h C):QOut P θ st a W o C:=by
 unfold vcQ at hv
 split at hv
 ·rename_i x d
  exact ⟨C7 st x,a.eval x,hv,r.eval x,r.evalWf,by simp [execOp,d]⟩
 ·rename_i x d
  exact ⟨C7 st x,a.eval x,hv,r.eval x,r.evalWf,by simp [execOp,d]⟩
 ·rename_i c x y d
  split at hv
  ·rename_i t w
   cases t
   ·exact ⟨C7 st y,a.eval y,hv,r.eval y,r.evalWf,by simp [execOp,d,r.evalVal w,asBool]⟩
   ·exact ⟨C7 st x,a.eval x,hv,r.eval x,r.evalWf,by simp [execOp,d,r.evalVal w,asBool]⟩
  ·exact hv.elim
 ·rename_i t x d
  split at hv
  ·rename_i k l e
   split at hv
   ·rename_i cs N
    obtain ⟨v,B,F⟩:=Jv r N hv
    exact QOut.val B (by simp [execOp,d,r.evalOwn e,F])
   ·exact hv.elim
  ·rename_i G e
   obtain ⟨v,B,F⟩:=Su r.sim hv
   exact QOut.val B (by simp [execOp,d,r.evalVal e,F])
  ·exact hv.elim
 ·rename_i s x f d
  split at hv
  ·rename_i k l e
   split at hv
   ·rename_i J A
    split at hv
    ·rename_i u z
     obtain ⟨m,hv⟩:=hv.both
     simp only [aF] at m
     have g:P.cellsOf u.type≠0:=by have:=aG m.2;omega
     refine ⟨_,.pointer (some ⟨θ k,l+u.offset,none⟩),hv,rfl,(fun L q D=>by cases D;exact r.evalWf _ _ e),?_⟩
     simp [execOp,d,Instr.fieldAt,run_underlying A,z,r.evalOwn e,aE,fieldPlace,H6 m.1,g,T4]
    ·exact hv.elim
   ·exact hv.elim
  ·rename_i G e
   split at hv
   ·rename_i J A
    split at hv
    ·rename_i u z
     obtain ⟨m,hv⟩:=hv.both
     simp only [aF] at m
     have g:P.cellsOf u.type≠0:=by have:=aG m.2;omega
     refine QOut.val hv ?_
     simp [execOp,d,Instr.fieldAt,run_underlying A,z,r.evalVal e,aE,fieldPlace,H6 m.1,g]
    ·exact hv.elim
   ·exact hv.elim
  ·exact hv.elim
 ·rename_i x d
  split at hv
  ·rename_i k l e
   exact ⟨_,_,hv,rfl,(fun L q D=>by cases D;exact r.evalWf _ _ e),by simp [execOp,d,r.evalOwn e]⟩
  ·rename_i p e
   obtain ⟨G,rfl,hv⟩:=hv
   exact QOut.val hv (by simp [execOp,d,r.evalVal e])
  ·exact hv.elim
 ·rename_i t x i d
  exact Qn r d hv
 ·rename_i t x i d
  split at hv
  ·rename_i s _ j O e E
   obtain ⟨c,⟨H,w⟩,hv⟩:=hv
   refine QOut.val hv ?_
   simp [execOp,d,Instr.index,run_underlying O,r.evalVal e,r.evalVal E,asIntOf,H,w]
  ·exact Lp r hsel hv
 ·rename_i t x M E d
  exact A1l r d hv
 ·rename_i t x M E mx d
  exact Zc r d hv
 ·rename_i op t x y Q d
  exact A8z r d hv
 ·exact hv.elim
 ·exact Lp r hsel hv
def B1t(a:Act)(d i:Nat)(u:aJ)(hd:d<a.tmps.size):(a.put (some d) u).tmps.getD i undef=if i=d then u else a.tmps.getD i undef:=by
 simp only [Act.put,bA,Array.size_setIfInBounds]
 by_cases h:i=d
 ·subst h;simp [hd]
 ·by_cases b:i<a.tmps.size
  ·simp [b,h,Ne.symm h]
  ·simp [b,h]
def Rel.put(r:Rel s0 n θ st h a W){d:Nat}(hd:d<n){v:aW}{u:aJ}(hv:rel θ v u)(hw:∀ k off,v= .own k off->(st.own k).isSome=true):Rel s0 n θ (st.put d v) h (a.put (some d) u) W:=by
 have g:d<a.tmps.size:=by rw [r.size];exact hd
 have b:∀ i,(st.put d v).env i=if i=d then v else st.env i:=by
  intro i
  by_cases e:i=d
  ·subst e;simp [VS.put]
  ·have:aX i d=false:=by cases x:aX i d with
    | false=>rfl
    | true=>exact absurd (aH x) e
   simp [VS.put,this,e]
 refine ⟨r.defers,by simpa [Act.put] using r.size,fun i c=>?_,r.sim,r.own,r.inj,fun i k off e=>?_,fun i c=>?_⟩
 ·rw [b,B1t a d i u g]
  by_cases e:i=d
  ·simp only [e,if_true];exact hv
  ·simp only [e,if_false];exact r.slot i c
 ·rw [b] at e
  by_cases j:i=d
  ·rw [iP j] at e;exact hw k off e
  ·rw [iN j] at e;exact r.wf i k off e
 ·rw [b,iN (by omega)];exact r.out i c
def K6(st:VS)(d:Option Nat)(v:aW):(st.putO d v).own=st.own:=by cases d<;>rfl
def Rel.putO(r:Rel s0 n θ st h a W){cfg:Cfg}(hn:cfg.n=n){d:Option Nat}(hd:N8 cfg d=true){v:aW}{u:aJ}(hv:rel θ v u)(hw:∀ k off,v= .own k off->(st.own k).isSome=true):
 Rel s0 n θ (st.putO d v) h (a.put d u) W:=by
 cases d with
 | none=>exact r
 | some d=>
  simp only [N8,Zo,aF] at hd
  exact r.put (by rw [<- hn];exact aG hd.1) hv hw
def Agree.putO{cfg:Cfg}{st:VS}{d:Option Nat}{v:aW}(hd:N8 cfg d=true):Agree cfg.lim st (st.putO d v):=by
 cases d with
 | none=>exact Agree.refl _ _
 | some d=>
  simp only [N8,Zo,aF] at hd
  refine ⟨fun i a=>?_,fun _ _=>rfl⟩
  have:aX i d=false:=by cases x:aX i d with
   | false=>rfl
   | true=>have:=aH x;subst this;rw [hd.2] at a;cases a
  simp [VS.putO,VS.put,this]
def Rel.world(r:Rel s0 n θ st h a W){h':aL}{W':aD}(f:Fr h W h' W'):Rel s0 n θ st h' a W':=by
 refine ⟨r.defers.world f,r.size,r.slot,f.sim,fun k g e=>?_,r.inj,r.wf,r.out⟩
 obtain ⟨t,b,d⟩:=r.own k g e
 have c:θ k<W.heap.size:=by
  rcases aO (θ k) W.heap.size with x|x
  ·exact x
  ·rw [aI x] at b;cases b
 refine ⟨t,(f.keep _ c d).trans b,?_⟩
 cases x:h' (θ k) with
 | none=>rfl
 | some o=>have:=f.new _ o d x;omega
def Good.quiet{cfg:Cfg}(hn:cfg.n=n){h0:aL}{W0:aD}{o:aT}(g:Good n h0 W0 st h a W)(hd:N8 cfg o.dst=true)(hsel:∀ cs b,o.op ≠ .select cs b){K:VS->aL->Prop}
 (hv:vcQ P o st h fun v=>K (st.putO o.dst v) h) {Q:Exit->Act->aD->Prop}:
 Oper.wpX F fu P o a W (fun a' W'=>∃ st' h',K st' h'/\Good n h0 W0 st' h' a' W'/\Agree cfg.lim st st') Q:=by
 obtain ⟨θ,r,f,e⟩:=g
 obtain ⟨v,u,j,c,d,i⟩:=B4w r hsel hv
 unfold Oper.wpX
 rw [i,Oper.uponIn_value]
 refine ⟨_,h,j,⟨θ,r.putO hn hd c d,f,?_⟩,Agree.putO hd⟩
 exact fun k l=>e k (by rwa [K6] at l)
def Grow.out{gr:Bool}{h h':aL}{X:Prop}(x:Grow gr h h' X):X:=by
 cases gr
 ·exact x
 ·exact x.2
def Good.effV{cfg:Cfg}(hn:cfg.n=n){h0:aL}{W0:aD}{o:aT}(g:Good n h0 W0 st h a W)(hd:N8 cfg o.dst=true){s:Sem aJ}{gr:Bool}{K:VS->aL->Prop}
 (hv:effV P s o gr st h K) (hex:∀ θ,Rel W0.heap.size n θ st h a W->(execOp a.eval o).run P W=(s.run P W).andThen fun v w=>.ok (.value v) w) {Q:Exit->Act->aD->Prop}:
 Oper.wpX F fu P o a W (fun a' W'=>∃ st' h',K st' h'/\Good n h0 W0 st' h' a' W'/\Agree cfg.lim st st') Q:=by
 obtain ⟨θ,r,f,d⟩:=g
 obtain ⟨v,W',h',i,b,c⟩:=A1a s _ h W hv r.sim
 obtain ⟨u,rfl,b⟩:=exT.out b
 unfold Oper.wpX
 rw [hex θ r,i,aC,Oper.uponIn_value]
 refine ⟨_,h',b.out,⟨θ,(r.world c).putO hn hd (v:=.val v) rfl (fun _ _ e=>by cases e),f.trans c,?_⟩,Agree.putO hd⟩
 exact fun k j=>d k (by rwa [K6] at j)
def Good.effP{cfg:Cfg}(hn:cfg.n=n){h0:aL}{W0:aD}{o:aT}(g:Good n h0 W0 st h a W)(hd:N8 cfg o.dst=true){s:Sem aJ}{gr:Bool}{K:VS->aL->Prop}
 (hv:effP P s o gr st h K) (hex:∀ θ,Rel W0.heap.size n θ st h a W->(execOp a.eval o).run P W=(s.run P W).andThen fun v w=>.ok (.value v) w) {Q:Exit->Act->aD->Prop}:
 Oper.wpX F fu P o a W (fun a' W'=>∃ st' h',K st' h'/\Good n h0 W0 st' h' a' W'/\Agree cfg.lim st st') Q:=by
 obtain ⟨θ,r,f,d⟩:=g
 obtain ⟨v,W',h',i,b,c⟩:=A1a s _ h W hv r.sim
 obtain ⟨u,rfl,b⟩:=b
 unfold Oper.wpX
 rw [hex θ r,i,aC,Oper.uponIn_value]
 refine ⟨_,h',b.out,⟨θ,(r.world c).putO hn hd (v:=.val (.pointer (some u))) rfl (fun _ _ e=>by cases e),f.trans c,?_⟩,Agree.putO hd⟩
 exact fun k j=>d k (by rwa [K6] at j)
def Good.effU{cfg:Cfg}(hn:cfg.n=n){h0:aL}{W0:aD}{o:aT}(g:Good n h0 W0 st h a W)(hd:N8 cfg o.dst=true){s:Sem Unit}{gr:Bool}{K:VS->aL->Prop}
 (hv:effU P s o gr st h K) (hex:∀ θ,Rel W0.heap.size n θ st h a W->(execOp a.eval o).run P W=(s.run P W).andThen fun _ w=>.ok .skip w) {Q:Exit->Act->aD->Prop}:
 Oper.wpX F fu P o a W (fun a' W'=>∃ st' h',K st' h'/\Good n h0 W0 st' h' a' W'/\Agree cfg.lim st st') Q:=by
 obtain ⟨θ,r,f,c⟩:=g
 obtain ⟨v,W',h',d,i,b⟩:=A1a s _ h W hv r.sim
 unfold Oper.wpX
 rw [hex θ r,d,aC,Oper.uponIn_skip]
 refine ⟨_,h',i.out,⟨θ,(r.world b).putO hn hd (v:=.val undef) rfl (fun _ _ e=>by cases e),f.trans b,?_⟩,Agree.putO hd⟩
 exact fun k j=>c k (by rwa [K6] at j)
def U5{l:List Nat}{d:Nat}:has l d=true↔d∈l:=by
 simp only [has,List.any_eq_true]
 constructor
 ·rintro ⟨x,a,e⟩;rw [aH e];exact a
 ·exact fun h=>⟨d,h,Nat.beq_refl d⟩
def Bu{i d:Nat}(h:i≠d):aX i d=false:=by
 cases x:aX i d with
 | false=>rfl
 | true=>exact absurd (aH x) h
def U2(st:VS)(k:Nat)(cs:List aJ):(st.setOwn k cs).own k=some cs:=by simp [VS.setOwn]
def E3(st:VS){k i:Nat}(cs:List aJ)(h:i≠k):(st.setOwn k cs).own i=st.own i:=by simp [VS.setOwn,Bu h]
def B2e(hs:Sim h W)(o:Obj):Fr h W h { W with heap:=W.heap.push o }:=by
 have lt:∀ {b:Nat} {a:Obj},W.heap[b]? = some a->b<W.heap.size:=by
  intro b a e
  rcases aO b W.heap.size with x|x
  ·exact x
  ·rw [aI x] at e;cases e
 refine ⟨fun b a e=>?_,rfl,rfl,rfl,by simp,fun b d _=>?_,fun b a e c=>?_⟩
 ·have:=hs b a e
  simp only [Array.getElem?_push];rw [iN (by have:=lt this;omega)];exact this
 ·simp only [Array.getElem?_push];rw [iN (by omega)]
 ·rw [e] at c;cases c
def Good.own{cfg:Cfg}(hn:cfg.n=n){h0:aL}{W0:aD}{o:aT}(g:Good n h0 W0 st h a W){cells:Array aJ}{t:aM}{K:VS->aL->Prop}
 (hv:Ez cfg o.dst cells.toList st h K) (hex:∀ θ,Rel W0.heap.size n θ st h a W->(execOp a.eval o).run P W= .ok (.value (.pointer (some ⟨W.heap.size,0,none⟩))) { W with heap:=W.heap.push (.cells cells t) }) {Q:Exit->Act->aD->Prop}:
 Oper.wpX F fu P o a W (fun a' W'=>∃ st' h',K st' h'/\Good n h0 W0 st' h' a' W'/\Agree cfg.lim st st') Q:=by
 obtain ⟨θ,r,f,T⟩:=g
 unfold Ez at hv
 split at hv
 ·rename_i d X
  obtain ⟨B,V⟩:=hv.both
  simp only [Zo,aF,Option.isNone_iff_eq_none] at B
  obtain ⟨⟨⟨w,D⟩,J⟩,q⟩:=B
  have w:d<n:=by rw [<- hn];exact aG w
  have L:=B2e r.sim (.cells cells t)
  unfold Oper.wpX
  rw [hex θ r,Oper.uponIn_value]
  have c:∀ k,(st.own k).isSome=true->θ k<W.heap.size:=by
   intro k l
   obtain ⟨O,e⟩:=Option.isSome_iff_exists.1 l
   obtain ⟨S,M,_⟩:=r.own k O e
   rcases aO (θ k) W.heap.size with x|x
   ·exact x
   ·rw [aI x] at M;cases M
  let θ':Nat->Nat:=fun k=>if k=d then W.heap.size else θ k
  have hθ:∀ k,(st.own k).isSome=true->θ' k=θ k:=by
   intro k l
   have:k≠d:=by rintro rfl;rw [q] at l;cases l
   simp [θ',this]
  have G:∀ v u,(∀ k j,v= .own k j->(st.own k).isSome=true)->rel θ v u->rel θ' v u:=by
   intro v u hw H
   cases v with
   | own k j=>simp only [rel,hθ k (hw k j rfl)];exact H
   | _=>exact H
  have A:h W.heap.size=none:=by
   cases x:h W.heap.size with
   | none=>rfl
   | some o'=>have:=r.sim _ _ x;simp at this
  have r1:Rel W0.heap.size n θ' (st.setOwn d cells.toList) h a { W with heap:=W.heap.push (.cells cells t) }:=by
   refine ⟨r.defers.world L,r.size,fun i z=>G _ _ (fun k j e=>r.wf i k j e) (r.slot i z),L.sim,fun k O e=>?_,fun k E l p e=>?_,fun i k j e=>?_,r.out⟩
   ·by_cases b:k=d
    ·subst b
     rw [U2] at e
     injection e with e;subst e
     exact ⟨t,by simp [θ'],by simpa [θ'] using A⟩
    ·rw [E3 _ _ b] at e
     obtain ⟨S,M,C⟩:=r.own k O e
     have R:(st.own k).isSome=true:=by rw [e];rfl
     refine ⟨S,?_,by rw [hθ k R];exact C⟩
     rw [hθ k R,L.keep _ (c k R) C];exact M
   ·by_cases b:k=d<;>by_cases m:E=d
    ·rw [b,m]
    ·rw [E3 _ _ m] at p
     have Z:=c E p
     have N:=hθ E p
     rw [N,b] at e;simp [θ'] at e;omega
    ·rw [E3 _ _ b] at l
     have Z:=c k l
     have N:=hθ k l
     rw [N,m] at e;simp [θ'] at e;omega
    ·rw [E3 _ _ b] at l
     rw [E3 _ _ m] at p
     rw [hθ k l,hθ E p] at e
     exact r.inj k E l p e
   ·have:=r.wf i k j e
    have b:k≠d:=by rintro rfl;rw [q] at this;cases this
    rw [E3 _ _ b];exact this
  have r2:=r1.put w (v:=.own d 0) (u:=.pointer (some ⟨W.heap.size,0,none⟩)) (by simp [rel,θ']) (fun k j e=>by cases e;rw [U2];rfl)
  refine ⟨_,h,V,⟨θ',by rw [X];exact r2,f.trans L,fun k l=>?_⟩,fun i z=>?_,fun i z=>?_⟩
  ·by_cases b:k=d
   ·simp only [θ',b,if_true];exact f.size
   ·have l:(st.own k).isSome=true:=by
     have:((st.put d (.own d 0)).setOwn d cells.toList).own k=st.own k:=E3 _ _ b
     rwa [this] at l
    rw [hθ k l];exact T k l
  ·have y:i≠d:=by rintro rfl;rw [D] at z;cases z
   simp [VS.setOwn,VS.put,Bu y]
  ·have y:i≠d:=by rintro rfl;rw [J] at z;cases z
   exact E3 _ _ y
 ·exact hv.elim
def Ts(cur:List aJ)(p:Nat)(v:aJ)(vs:List aJ)(hp:p<cur.length):H8 (cur.set p v) (p+1) vs=H8 cur p (v::vs):=by
 have a:(cur.take p).length=p:=by simp;omega
 have e:cur.set p v=cur.take p++v::cur.drop (p+1):=by rw [List.set_eq_take_append_cons_drop,iP hp]
 have b:(cur.set p v).take (p+1)=cur.take p++[v]:=by
  rw [e,List.take_append,a];simp [List.take_take]
 have c:(cur.set p v).drop (p+1+vs.length)=cur.drop (p+(v::vs).length):=by
  rw [List.drop_set_of_lt (by omega)];congr 1;simp;omega
 unfold H8
 rw [b,c];simp
def Jo(b:Nat)(t:aM):∀ (vs:List aJ) (i:Nat) (cur:List aJ) (W:aD) (off:Nat),W.heap[b]? = some (.cells cur.toArray t (0,0))->off+i+vs.length<=cur.length->(∀ v∈vs,St v=true)->
 ∃ W',(storeCells ⟨b,off,none⟩ vs i).run P W= .ok () W'/\W'.heap[b]? = some (.cells (H8 cur (off+i) vs).toArray t (0,0))/\W'.os=W.os/\W'.tape=W.tape/\W'.output=W.output/\W'.heap.size=W.heap.size/\∀ k,k≠b->W'.heap[k]? = W.heap[k]? :=by
 intro vs
 induction vs with
 | nil=>
  intro i cur W off c m _
  refine ⟨W,by simp [storeCells],?_,rfl,rfl,rfl,rfl,fun _ _=>rfl⟩
  rw [c];simp [H8]
 | cons v vs ih=>
  intro i cur W off c m o
  simp only [List.length_cons] at m
  have a:W.cell? ⟨b,off+i,none⟩=some (cur[off+i]'(by omega)):=by
   simp [World.cell?,c,List.getElem?_eq_getElem (show off+i<cur.length by omega)]
  have e:W.frozen? ⟨b,off+i,none⟩=false:=by simp [World.frozen?,c]
  have d:(W.setCell ⟨b,off+i,none⟩ v).heap[b]? = some (.cells ((cur.set (off+i) v).toArray) t (0,0)):=by
   simp [World.setCell,Array.getElem?_modify,c]
  obtain ⟨W',q,j,p,x,s,y,w⟩:=ih (i+1) (cur.set (off+i) v) (W.setCell ⟨b,off+i,none⟩ v) off d (by simp;omega) (fun u r=>o u (by simp [r]))
  refine ⟨W',?_,?_,p,x,s,by rw [y];simp [World.setCell],fun k n=>(w k n).trans (Ff W _ v k n)⟩
  ·have g:=o v (by simp)
   have l:(store (Addr.add ⟨b,off,none⟩ i) v).run P W= .ok () (W.setCell ⟨b,off+i,none⟩ v):=by
    rw [T4]
    cases v<;>first|(simp [St] at g;done)|simp [store,Sem.run,a,e]
   simp only [storeCells,Sem.run_bind,l,aC,q]
  ·rw [j]
   congr 2
   apply congrArg
   exact Ts cur (off+i) v vs (by omega)
def Good.ownStore{cfg:Cfg}(hn:cfg.n=n){h0:aL}{W0:aD}{o:aT}{t:aM}{x y:aK}(hop:o.op= .store t x y)(g:Good n h0 W0 st h a W)(hd:N8 cfg o.dst=true){k off:Nat}(hx:C7 st x= .own k off){cs:List aJ}(hk:st.own k=some cs){K:VS->aL->Prop}
 (hv:When ((C7 st y).isVal&&Zx cfg.lim k&&(P.info? t).isSome&&aX (rho st y).cells.size (P.cellsOf t)&&Nat.ble (off+P.cellsOf t) cs.length&&B7n (rho st y).cells.toList)
    (K ((st.setOwn k (H8 cs off (rho st y).cells.toList)).putO o.dst (.val undef)) h)) {Q:Exit->Act->aD->Prop}:
 Oper.wpX F fu P o a W (fun a' W'=>∃ st' h',K st' h'/\Good n h0 W0 st' h' a' W'/\Agree cfg.lim st st') Q:=by
 obtain ⟨θ,r,f,E⟩:=g
 obtain ⟨C,hK⟩:=hv.both
 simp only [aF] at C
 obtain ⟨⟨⟨⟨⟨hy,q⟩,m⟩,c⟩,u⟩,z⟩:=C
 have c:=aH c
 have u:=aG u
 obtain ⟨T,w,p⟩:=r.own k cs hk
 obtain ⟨W',J,M,B,h3,h4,h5,D⟩:=Jo (P:=P) (θ k) T (rho st y).cells.toList 0 cs W off w (by simp [c];omega) (fun v hv=>List.all_eq_true.1 z v hv)
 have A:(execOp a.eval o).run P W= .ok .skip W':=by
  simp [execOp,hop,Instr.storeAt,r.evalOwn hx,aE,storeVar,r.evalRho hy,H6 m,c,J]
 unfold Oper.wpX
 rw [A,Oper.uponIn_skip]
 have l:Sim h W':=fun b L e=>by
  have s:b≠θ k:=by rintro rfl;rw [p] at e;cases e
  rw [D b s];exact r.sim b L e
 have r1:Rel W0.heap.size n θ (st.setOwn k (H8 cs off (rho st y).cells.toList)) h a W':=by
  have d:∀ j,((st.setOwn k (H8 cs off (rho st y).cells.toList)).own j).isSome=(st.own j).isSome:=by
   intro j
   by_cases e:j=k
   ·subst e;rw [U2,hk];rfl
   ·rw [E3 _ _ e]
  refine ⟨r.defers.turn fun Z J e=>⟨J,by rw [D Z (by rintro rfl;rw [w] at e;cases e)];exact e⟩,r.size,r.slot,l,fun j R e=>?_,fun j j' V B e=>?_,fun i j L e=>by rw [d];exact r.wf i j L e,r.out⟩
  ·by_cases S:j=k
   ·subst S
    rw [U2] at e;injection e with e;subst e
    exact ⟨T,by simpa using M,p⟩
   ·rw [E3 _ _ S] at e
    obtain ⟨t',O,N⟩:=r.own j R e
    refine ⟨t',?_,N⟩
    rw [D _ (fun e'=>S (r.inj j k (by rw [e];rfl) (by rw [hk];rfl) e'))];exact O
  ·rw [d] at V B;exact r.inj j j' V B e
 have H:Fr h0 W0 h W':=by
  refine ⟨l,B.trans f.os,h3.trans f.tape,h4.trans f.output,by rw [h5];exact f.size,fun b C e=>?_,f.new⟩
  have:=E k (by rw [hk];rfl)
  rw [D b (by omega)];exact f.keep b C e
 refine ⟨_,h,hK,⟨θ,r1.putO hn hd (v:=.val undef) rfl (fun _ _ e=>by cases e),H,fun j G=>?_⟩,Agree.trans (b:=st.setOwn k (H8 cs off (rho st y).cells.toList)) ⟨fun _ _=>rfl,fun i X=>?_⟩ (Agree.putO hd)⟩
 ·rw [K6] at G
  by_cases e:j=k
  ·subst e;exact E j (by rw [hk];rfl)
  ·rw [E3 _ _ e] at G;exact E j G
 ·exact E3 _ _ (fun e=>by subst e;rw [q] at X;cases X)
def Bodies(P:aY)(fns:List Nat):Prop:=∀ g,g∈fns->∀ args W,(callFunc g args).run P W= .ok (.enter g args) W
def exRt.out{t:aM}{K:aJ->Prop}(x:exRt P t K):∃ v,K v:=by
 unfold exRt at x
 split at x
 ·obtain ⟨b,a⟩:=exTs.out x;exact ⟨_,a⟩
 ·exact exT.out x
def Qh(r:Rel s0 n θ st h a W){xs:Array aK}(e:L9 st xs.toList=true):xs.map a.eval=xs.map (rho st):=by
 apply Array.ext
 ·simp
 ·intro i c b
  simp only [Array.getElem_map]
  exact r.evalAll e _ (by simp)
def Good.call[FOk F]{cfg:Cfg}(hn:cfg.n=n)(hfn:Bodies P cfg.fns){h0:aL}{W0:aD}{o:aT}{c:Call}{x:aK}(hop:o.op= .call c)(hcl:c.callee= .value x)(g:Good n h0 W0 st h a W)(hd:N8 cfg o.dst=true){gr:Bool}{K:VS->aL->Prop}
 (hv:A38 P cfg o c (C7 st x) gr st h K) {Q:Exit->Act->aD->Prop}:
 Oper.wpX F fu P o a W (fun a' W'=>∃ st' h',K st' h'/\Good n h0 W0 st' h' a' W'/\Agree cfg.lim st st') Q:=by
 obtain ⟨θ,r,f,C⟩:=g
 unfold A38 at hv
 split at hv
 ·rename_i E first b A
  split at hv
  ·rename_i y
   obtain ⟨q,hv⟩:=hv.both
   have d:(execOp a.eval o).run P W= .ok (.enter E (first++c.args.map (rho st)++b)) W:=by
    simp [execOp,hop,resolve,hcl,r.evalVal A,Deferred.ofValue,invoke,hfn E (U5.1 y),Qh r q]
   unfold Oper.wpX
   rw [d,Oper.uponIn_enter]
   refine ⟨fun i=>(by rw [FOk.depth] at i;cases i),(B0e (hv W r.sim)).mono fun e W' ⟨v,h',B,j,p⟩=>?_⟩
   subst B
   obtain ⟨u,rfl,j⟩:=j.out
   refine ⟨_,h',j.out,⟨θ,(r.world p).putO hn hd (v:=.val v) rfl (fun _ _ e=>by cases e),f.trans p,?_⟩,Agree.putO hd⟩
   exact fun k w=>C k (by rwa [K6] at w)
  ·obtain ⟨q,hv⟩:=hv.both
   obtain ⟨v,W',h',H,j,p⟩:=hv W r.sim
   have d:(execOp a.eval o).run P W= .ok (.value v) W':=by
    rw [<- H]
    simp [execOp,hop,resolve,hcl,r.evalVal A,Deferred.ofValue,invoke,Qh r q]
   obtain ⟨u,rfl,j⟩:=j.out
   unfold Oper.wpX
   rw [d,Oper.uponIn_value]
   refine ⟨_,h',j.out,⟨θ,(r.world p).putO hn hd (v:=.val v) rfl (fun _ _ e=>by cases e),f.trans p,?_⟩,Agree.putO hd⟩
   exact fun k w=>C k (by rwa [K6] at w)
 ·rename_i l first b A
  obtain ⟨q,hv⟩:=hv.both
  obtain ⟨fn,s,D,z,G,m⟩:=hv W r.sim
  have d:(execOp a.eval o).run P W= .ok (.round l fn s D z) W:=by
   rw [<- G]
   simp [execOp,hop,resolve,hcl,r.evalVal A,Deferred.ofValue,invoke,Qh r q]
  unfold Oper.wpX
  rw [d,Oper.uponIn_round]
  refine ⟨fun i=>(by rw [FOk.depth] at i;cases i),(FOk.round (m _)).mono fun e W' ⟨v,h',B,j,p⟩=>?_⟩
  subst B
  obtain ⟨u,rfl,j⟩:=j.out
  refine ⟨_,h',j.out,⟨θ,(r.world p).putO hn hd (v:=.val v) rfl (fun _ _ e=>by cases e),f.trans p,?_⟩,Agree.putO hd⟩
  exact fun k w=>C k (by rwa [K6] at w)
 ·exact hv.elim
def Sr{t:aM}(hz:A67 P t=true)(W:aD):(zeroValue t).run P W= .ok (Nh P t) W:=by
 unfold A67 at hz
 cases hi:P.info? t with
 | none=>rw [hi] at hz;cases hz
 | some i=>
  rw [hi] at hz
  obtain ⟨z,e⟩:=Option.isSome_iff_exists.1 hz
  simp [zeroValue,typeInfo,program,hi,Sem.run_bind,Sem.run,e,Nh]
def Good.core[FOk F]{cfg:Cfg}(hn:cfg.n=n)(hfn:Bodies P cfg.fns){h0:aL}{W0:aD}{o:aT}(g:Good n h0 W0 st h a W){gr:Bool}{K:VS->aL->Prop}
 (hv:P5 P cfg o gr st h K) {Q:Exit->Act->aD->Prop}:
 Oper.wpX F fu P o a W (fun a' W'=>∃ st' h',K st' h'/\Good n h0 W0 st' h' a' W'/\Agree cfg.lim st st') Q:=by
 unfold P5 at hv
 obtain ⟨u,hv⟩:=hv.both
 split at hv
 ·rename_i G
  have A:∀ C b,o.op ≠ .select C b:=fun C b e=>by simp [Px,e] at G
  exact g.quiet hn u A hv
 ·split at hv
  ·rename_i t j
   split at hv
   ·obtain ⟨H,hv⟩:=hv.both
    refine g.own (P:=P) (t:=t) hn hv fun θ r=>?_
    simp [execOp,j,Instr.alloc,Sr H,newVar,newRow,newObj,Sem.run]
   ·exact g.effP hn u hv fun θ r=>by simp [execOp,j]
  ·rename_i t x j
   obtain ⟨q,hv⟩:=hv.both
   split at hv
   ·refine g.own (P:=P) (t:=t) hn hv fun θ r=>?_
    simp [execOp,j,Instr.box,r.evalRho q,newVar,newRow,newObj,Sem.run]
   ·exact g.effP hn u hv fun θ r=>by simp [execOp,j,r.evalRho q]
  ·rename_i t x y j
   unfold A1b at hv
   split at hv
   ·rename_i k E q
    split at hv
    ·rename_i C L
     exact g.ownStore hn j u q L hv
    ·exact hv.elim
   ·rename_i p q
    obtain ⟨J,hv⟩:=hv.both
    exact g.effU hn u hv fun θ r=>by simp [execOp,j,r.evalVal q,r.evalRho J]
   ·exact hv.elim
  ·rename_i t l c j
   obtain ⟨q,hv⟩:=hv.both
   refine g.effV hn u hv fun θ r=>?_
   have z:=r.evalAll q l (by simp)
   have D:=r.evalAll q c (by simp)
   simp [execOp,j,z,D]
  ·rename_i t m B j
   obtain ⟨q,hv⟩:=hv.both
   refine g.effV hn u hv fun θ r=>?_
   have e:(B.map fun (i,x)=>(i,a.eval x))=B.map fun (i,x)=>(i,rho st x):=by
    apply Array.ext
    ·simp
    ·intro i z D
     simp only [Array.getElem_map]
     have:=r.evalAll q (B[i]'(by simpa using z)).2 (by simp only [List.mem_map];exact ⟨B[i]'(by simpa using z),by simp,rfl⟩)
     rw [this]
   simp [execOp,j,e]
  ·rename_i s d x j
   obtain ⟨q,hv⟩:=hv.both
   refine g.effV hn u hv fun θ r=>?_
   have z:=r.evalAll q x (by simp)
   simp [execOp,j,z]
  ·rename_i c j
   split at hv
   ·rename_i x w
    exact g.call hn hfn j w u hv
   ·rename_i w
    obtain ⟨q,hv⟩:=hv.both
    exact g.effV hn u hv fun θ r=>by simp [execOp,j,resolve,w,invoke,builtin,Qh r q]
   ·rename_i w
    obtain ⟨q,hv⟩:=hv.both
    exact g.effV hn u hv fun θ r=>by simp [execOp,j,resolve,w,invoke,builtin,Qh r q]
   ·exact hv.elim
  ·exact hv.elim
def put_self(st:VS){g:Nat}{v:aW}(e:st.env g=v):st.put g v=st:=by
 unfold VS.put
 congr 1
 funext i
 by_cases h:i=g
 ·subst h;simp [e]
 ·simp [Bu h]
def Fv{cfg:Cfg}{o:aT}{gr:Bool}{K:VS->aL->Prop}(hv:P5 P cfg o gr st h K):∀ c,o.op ≠ .defer c:=by
 intro c e
 unfold P5 at hv
 obtain ⟨_,hv⟩:=hv.both
 simp [Px,e] at hv
def Good.op[FOk F]{cfg:Cfg}(hn:cfg.n=n)(hfn:Bodies P cfg.fns){h0:aL}{W0:aD}{ops:Array aT}{i:Nat}{o:aT}(hi:ops[i]? = some o)(g:Good n h0 W0 st h a W){gr:Bool}{K:VS->aL->Prop}
 (hv:Ni P cfg ops o gr st h K) {Q:Exit->Act->aD->Prop}:
 wpOpIn F fu P ops Q i (fun a' W'=>∃ st' h',K st' h'/\Good n h0 W0 st' h' a' W'/\Agree cfg.lim st st') a W:=by
 unfold wpOpIn
 simp only [hi]
 unfold Ni at hv
 have m:∀ {u:aW},N8 cfg o.dst=true->K (st.putO o.dst (.val undef)) h->∃ st' h',K st' h'/\Good n h0 W0 st' h' (a.put o.dst undef) W/\Agree cfg.lim st st':=by
  intro _ C G
  obtain ⟨θ,r,f,B⟩:=g
  exact ⟨_,h,G,⟨θ,r.putO hn C (v:=.val undef) rfl (fun _ _ e=>by cases e),f,fun k H=>B k (by rwa [K6] at H)⟩,Agree.putO C⟩
 split at hv
 ·rename_i y
  rw [iP (by simp [Region.wanted,y])]
  exact (g.core hn hfn hv).toIn (Fv hv)
 ·rename_i j l y
  split at hv
  ·exact hv.elim
  ·rename_i d s
   split at hv
   ·rename_i b p
    have E:yielded ops a.tmps j=some b:=by
     obtain ⟨θ,r,f,B⟩:=g
     have w:a.tmps.getD d undef= .bool b:=by have:=r.slot' d;rw [p] at this;exact this
     have q:d<a.tmps.size:=by
      rcases aO d a.tmps.size with x|x
      ·exact x
      ·rw [r.out d (by rw [<- r.size];exact x)] at p;cases p
     have z:a.tmps[d]? = some (.bool b):=by
      rw [bB q];simp [bA,q] at w;rw [w]
     simp [yielded,s,z]
    have A:Region.wanted o (yielded ops a.tmps)=(b==l):=by
     simp only [Region.wanted,y,E]
     cases b<;>cases l<;>rfl
    rw [A]
    cases b<;>cases l
    ·have c:P5 P cfg o gr (st.put d (.val (.bool false))) h K:=hv
     rw [put_self st p] at c
     rw [iP (by decide)];exact (g.core hn hfn c).toIn (Fv c)
    ·have c:When (N8 cfg o.dst) (K ((st.put d (.val (.bool false))).putO o.dst (.val undef)) h):=hv
     rw [put_self st p] at c
     rw [iN (by decide)];exact ⟨fun f _=>FOk.fn f,m (u:=.any) c.both.1 c.both.2⟩
    ·have c:When (N8 cfg o.dst) (K ((st.put d (.val (.bool true))).putO o.dst (.val undef)) h):=hv
     rw [put_self st p] at c
     rw [iN (by decide)];exact ⟨fun f _=>FOk.fn f,m (u:=.any) c.both.1 c.both.2⟩
    ·have c:P5 P cfg o gr (st.put d (.val (.bool true))) h K:=hv
     rw [put_self st p] at c
     rw [iP (by decide)];exact (g.core hn hfn c).toIn (Fv c)
   ·rename_i D p
    have A:Region.wanted o (yielded ops a.tmps)=false:=by
     obtain ⟨θ,r,f,B⟩:=g
     have w:a.tmps.getD d undef= .tuple D:=by have:=r.slot' d;rw [p] at this;exact this
     have z:yielded ops a.tmps j=none:=by
      unfold yielded
      rw [s]
      simp only [Option.bind_some]
      rcases aO d a.tmps.size with x|x
      ·rw [bB x];simp [bA,x] at w;rw [w]
      ·rw [aI x]
     simp [Region.wanted,y,z]
    rw [iN (by rw [A];decide)]
    exact ⟨fun f _=>FOk.fn f,m (u:=.any) hv.both.1 hv.both.2⟩
   ·exact hv.elim
def B2w[FOk F]{cfg:Cfg}(hn:cfg.n=n)(hfn:Bodies P cfg.fns){h0:aL}{W0:aD}{ops:Array aT}{gr:Bool}{Q:Exit->Act->aD->Prop}{K:VS->aL->Prop}: ∀ (l:List Nat) (st:VS) (h:aL) (a:Act) (W:aD),
 Good n h0 W0 st h a W->B0o P cfg ops gr l st h K->
 (∀ st' h' a' W',K st' h'->Good n h0 W0 st' h' a' W'->Agree cfg.lim st st'->Q .normal a' W')->wpOpsIn F fu P ops Q l a W:=by
 intro l
 induction l with
 | nil=>exact fun st h a W g b c=>c st h a W b g (Agree.refl _ _)
 | cons i l ih=>
  intro st h a W g b c
  unfold B0o at b
  split at b
  ·exact b.elim
  ·rename_i o j
   rw [wpOpsIn_cons]
   refine wpOpIn_mono (fun a' W' ⟨st',h',r,s,q⟩=>?_) (g.op hn hfn j b)
   exact ih st' h' a' W' s r fun e m p W2 k u d=>c e m p W2 k u (q.trans d)
end
