/- A part. -/
import Derived.Test.YtmbfcbbkbefgfaaGreatDoorG01
import Derived.OrdersIn
import Derived.RangeFuncCalls
set_option linter.all false
open _root_.Array renaming getElem?_eq_none->aI,getD->bA,getElem?_eq_getElem->bB
open Bool renaming and_eq_true->aF,false_eq_true->aQ
open _root_.Go.Instr renaming sureAddr->aE,loadAt->aP,sliceBounds->aS,sliceAt->aU,sliceBound->aZ,indexAt->bC
open Nat renaming le_of_ble_eq_true->aG,eq_of_beq_eq_true->aH,lt_or_ge->aO,beq->aX
open _root_.Go.Op renaming maxDepth->aR,equalIn->aV
open Option renaming map_some->aN
open _root_.Go.Result renaming andThen_ok->aC
open _root_.Go renaming World->aD,Value->aJ,Operand->aK,TypeId->aM,Oper->aT,Program->aY
open _root_.Go.Proofs.YtmbfcbbkbefgfaaGreatDoor renaming Heap->aL,AVal->aW
namespace Go.Proofs.YtmbfcbbkbefgfaaGreatDoor
open Go
def rel(θ:Nat->Nat):aW->aJ->Prop
 | .val v,u=>u=v
 | .own k off,u=>u= .pointer (some ⟨θ k,off,none⟩)
 | .any,_=>True
structure FOkS (F:Fence):Prop where
 ok:F=Fence.wide\/∃ l,F=Fence.wide.inRound l
abbrev FOk(F:Fence):=Inhabited (PLift (FOkS F))
instance:FOk Fence.wide:=⟨⟨⟨.inl rfl⟩⟩⟩
instance {l:Nat}:FOk (Fence.wide.inRound l):=⟨⟨⟨.inr ⟨l,rfl⟩⟩⟩⟩
def FOk.fn{F:Fence}[x:FOk F](f:FuncId):F.fn f:=by
 rcases x.default.down.ok with rfl|⟨l,rfl⟩<;>trivial
def FOk.depth{F:Fence}[x:FOk F]:F.depth=none:=by
 rcases x.default.down.ok with rfl|⟨l,rfl⟩<;>rfl
def B2a{F:Fence}[x:FOk F]{k:Nat}{P:aY}{f:FuncId}{args:Array aJ}{W:aD}{R:Ending->aD->Prop}(h:Calls P f args W R):CallsIn F k P f args W R:=by
 rcases x.default.down.ok with rfl|⟨l,rfl⟩
 ·exact callsIn_wide.2 h
 ·exact CallsIn.inRound l (callsIn_wide.2 h)
def FOk.round{F:Fence}[x:FOk F]{k:Nat}{P:aY}{l:Nat}{f:FuncId}{tmps:Array aJ}{asg body:Code}{W:aD}{R:Ending->aD->Prop}(h:RoundIn Fence.wide k P l f tmps asg body W R):RoundIn F k P l f tmps asg body W R:=by
 rcases x.default.down.ok with rfl|⟨l,rfl⟩
 ·exact h
 ·exact h
def Oper.wpX(F:Fence)(fu:Nat)(P:aY)(o:aT)(a:Act)(W:aD)(next:Act->aD->Prop)(Q:Exit->Act->aD->Prop):Prop:=
 o.uponIn F fu P a next Q ((execOp a.eval o).run P W)
def Oper.wpX.toIn{F:Fence}[FOk F]{fu:Nat}{P:aY}{o:aT}{a:Act}{W:aD}{next:Act->aD->Prop}{Q:Exit->Act->aD->Prop}(h:Oper.wpX F fu P o a W next Q)(hd:∀ c,o.op ≠ .defer c):o.wpIn F fu P a W next Q:=
 ⟨fun f _=>FOk.fn f,by rw [Oper.semAt_eq _ _ _ hd];exact h⟩
def MarksOk(s0:Nat)(h:aL)(W:aD)(ds:List Deferred):Prop:=
 ∃ rs:List Nat,rs.Nodup/\ds.map (·.target)=rs.map Target.collected/\∀ r∈rs,s0<=r/\h r=none/\W.heap[r]? = some (.deferred (some []))
def MarksOk.nil{s0:Nat}{h:aL}{W:aD}:MarksOk s0 h W []:=⟨[],List.nodup_nil,rfl,fun r a=>by cases a⟩
def MarksOk.turn{s0:Nat}{h h':aL}{W W':aD}{ds:List Deferred}(m:MarksOk s0 h W ds)(x:∀ r,h r=none->W.heap[r]? = some (.deferred (some []))->h' r=none/\W'.heap[r]? = some (.deferred (some []))):MarksOk s0 h' W' ds:=by
 obtain ⟨c,e,d,b⟩:=m
 exact ⟨c,e,d,fun r a=>⟨(b r a).1,x r (b r a).2.1 (b r a).2.2⟩⟩
def Cz{W:aD}{r:Nat}{o:Obj}(e:W.heap[r]? = some o):r<W.heap.size:=by
 by_cases h:r<W.heap.size
 ·exact h
 ·rw [aI (by omega)] at e;cases e
def MarksOk.world{s0:Nat}{h h':aL}{W W':aD}{ds:List Deferred}(m:MarksOk s0 h W ds)(f:Fr h W h' W'):MarksOk s0 h' W' ds:=
 m.turn fun r b e=>by
  have a:=Cz e
  refine ⟨?_,(f.keep r a b).trans e⟩
  cases x:h' r with
  | none=>rfl
  | some o=>have:=f.new r o b x;omega
structure Rel (s0:Nat) (n:Nat) (θ:Nat->Nat) (st:VS) (h:aL) (a:Act) (W:aD):Prop where
 defers:MarksOk s0 h W a.defers
 size:a.tmps.size=n
 slot:∀ i,i<n->rel θ (st.env i) (a.tmps.getD i undef)
 sim:Sim h W
 own:∀ k cs,st.own k=some cs->∃ t,W.heap[θ k]? = some (.cells cs.toArray t (0,0))/\h (θ k)=none
 inj:∀ k k',(st.own k).isSome=true->(st.own k').isSome=true->θ k=θ k'->k=k'
 wf:∀ i k off,st.env i= .own k off->(st.own k).isSome=true
 out:∀ i,n<=i->st.env i= .val undef
def Good(n:Nat)(h0:aL)(W0:aD)(st:VS)(h:aL)(a:Act)(W:aD):Prop:=
 ∃ θ,Rel W0.heap.size n θ st h a W/\Fr h0 W0 h W/\∀ k,(st.own k).isSome=true->W0.heap.size<=θ k
structure Agree (lim:Option Lim) (st st':VS):Prop where
 env:∀ i,B9g lim i=false->st'.env i=st.env i
 own:∀ i,A1a lim i=false->st'.own i=st.own i
def Agree.refl(lim:Option Lim)(st:VS):Agree lim st st:=⟨fun _ _=>rfl,fun _ _=>rfl⟩
def Agree.trans{lim:Option Lim}{a b c:VS}(x:Agree lim a b)(y:Agree lim b c):Agree lim a c:=
 ⟨fun i h=>(y.env i h).trans (x.env i h),fun i h=>(y.own i h).trans (x.own i h)⟩
def When.both{b:Bool}{A:Prop}(h:When b A):b=true/\A:=by
 cases b
 ·exact h.elim
 ·exact ⟨rfl,h⟩
section
variable {P:aY} {s0:Nat} {F:Fence} {fu:Nat} {n:Nat} {θ:Nat->Nat} {st:VS} {h:aL} {a:Act} {W:aD}
def Rel.slot'(r:Rel s0 n θ st h a W)(i:Nat):rel θ (st.env i) (a.tmps.getD i undef):=by
 rcases aO i n with b|b
 ·exact r.slot i b
 ·rw [r.out i b]
  show _=undef
  have:a.tmps.size<=i:=by rw [r.size];exact b
  simp [bA,Nat.not_lt.2 this]
def Rel.eval(r:Rel s0 n θ st h a W)(x:aK):rel θ (C8 st x) (a.eval x):=by
 cases x with
 | tmp t=>exact r.slot' t
 | const v=>exact rfl
 | global g=>exact rfl
 | func f=>exact rfl
def Rel.evalVal(r:Rel s0 n θ st h a W){x:aK}{v:aJ}(e:C8 st x= .val v):a.eval x=v:=by
 have:=r.eval x;rw [e] at this;exact this
def Rel.evalOwn(r:Rel s0 n θ st h a W){x:aK}{k off:Nat}(e:C8 st x= .own k off):a.eval x= .pointer (some ⟨θ k,off,none⟩):=by
 have:=r.eval x;rw [e] at this;exact this
def Rel.evalRho(r:Rel s0 n θ st h a W){x:aK}(e:(C8 st x).isVal=true):a.eval x=rho st x:=by
 unfold rho
 cases y:C8 st x with
 | val v=>exact r.evalVal y
 | own k off=>rw [y] at e;cases e
 | any=>rw [y] at e;cases e
def Rel.evalAll(r:Rel s0 n θ st h a W){xs:List aK}(e:L8 st xs=true):∀ x∈xs,a.eval x=rho st x:=
 fun x b=>r.evalRho (List.all_eq_true.1 e x b)
def Rel.exec(r:Rel s0 n θ st h a W){o:aT}(hs:∀ cs b,o.op ≠ .select cs b)(e:L8 st o.op.operands.toList=true):execOp a.eval o=execOp (rho st) o:=
 execOp_congr o hs fun x c=>r.evalAll e x (by simpa using c)
def Mx(r:Rel s0 n θ st h a W){o:aT}{C:aW->Prop}(hs:∀ cs b,o.op ≠ .select cs b)(hv:Jq P o st C):
 ∃ v u,C v/\rel θ v u/\(∀ k off,v= .own k off->(st.own k).isSome=true)/\(execOp a.eval o).run P W= .ok (.value u) W:=by
 unfold Jq at hv
 split at hv
 ·rename_i e
  split at hv
  ·rename_i v c
   refine ⟨.val v,v,hv,rfl,(fun _ _ e=>by cases e),?_⟩
   rw [r.exec hs e];exact Qz _ c W
  ·exact hv.elim
 ·exact hv.elim
def Ka{t:aM}{b:Bool}(h:Kl P t=some b)(W:aD):(isAgg t).run P W= .ok b W:=by
 unfold Kl at h
 unfold isAgg
 cases hu:P.underlying t with
 | none=>rw [hu] at h;cases h
 | some d=>
  rw [hu] at h
  simp only [Sem.run_bind,run_underlying hu,aC]
  cases d<;>simp at h<;>subst h<;>rfl
def H9{t:aM}(h:(P.info? t).isSome=true)(W:aD):(sizeOf t).run P W= .ok (P.cellsOf t) W:=by
 obtain ⟨i,a⟩:=Option.isSome_iff_exists.1 h
 simp [sizeOf,typeInfo,program,Program.cellsOf,a,Sem.run_bind,Sem.run]
def Xw{t:aM}{d:TypeDesc}(h:P.underlying t=some d):(P.info? t).isSome=true:=by
 unfold Program.underlying at h
 cases x:P.info? t with
 | none=>rw [x] at h;cases h
 | some i=>rfl
def Iy{t:aM}{b:Bool}(h:Kl P t=some b):(P.info? t).isSome=true:=by
 unfold Kl at h
 cases hu:P.underlying t with
 | none=>rw [hu] at h;cases h
 | some d=>exact Xw hu
def cellsAt.out{a:Addr}{X:Prop}: ∀ {vs:List aJ} {j:Nat},cellsAt h a j vs X->X/\∀ i v,vs[i]? = some v->h.cell? (a.add (j+i))=some v:=by
 intro vs
 induction vs with
 | nil=>exact fun x=>⟨x,fun i v e=>by simp at e⟩
 | cons u vs ih=>
  intro j ⟨h1,h2⟩
  obtain ⟨b,c⟩:=ih h2
  refine ⟨b,fun i v e=>?_⟩
  cases i with
  | zero=>simp at e;subst e;exact h1
  | succ i=>simp at e;have:=c i v e;rwa [show j+1+i=j+(i+1) by omega] at this
def Ud(hs:Sim h W){t:aM}{ad:Addr}{C:aW->Prop}(hv:V3 P t ad h C):
 ∃ v,C (.val v)/\(aP t (.pointer (some ad))).run P W= .ok v W:=by
 unfold V3 at hv
 split at hv
 ·rename_i a
  split at hv
  ·rename_i zs l
   obtain ⟨i,hv⟩:=hv.both
   obtain ⟨g,k,hv⟩:=exL.out hv
   obtain ⟨d,b⟩:=hv.out
   refine ⟨_,d,?_⟩
   have c:g.length=P.cellsOf t:=by rw [k,Array.length_toList];exact aH i
   have:=run_loadCells_list (P:=P) (w:=W) ad g (fun j v e=>hs.cell (by simpa using b j v e))
   simp only [aP,aE,loadVar,Sem.run_bind,Sem.run_pure,Ka a,aC,if_true,H9 (Iy a),<- c,this]
  ·exact hv.elim
 ·rename_i a
  obtain ⟨v,d,hv⟩:=exV.out hv
  refine ⟨v,hv,?_⟩
  simp only [aP,aE,loadVar,Sem.run_bind,Sem.run_pure,Ka a,aC,if_false,aQ]
  simp only [load,Sem.run,hs.cell d]
 ·exact hv.elim
def Rel.ownCell(r:Rel s0 n θ st h a W){k:Nat}{cs:List aJ}(e:st.own k=some cs){off:Nat}{v:aJ}(hv:cs[off]? = some v):W.cell? ⟨θ k,off,none⟩=some v:=by
 obtain ⟨t,b,_⟩:=r.own k cs e
 simp [World.cell?,b,hv]
def Sy(b off j:Nat):(Addr.add ⟨b,off,none⟩ j)=⟨b,off+j,none⟩:=by
 unfold Addr.add;split
 ·subst_vars;rfl
 ·rfl
def Ke(r:Rel s0 n θ st h a W){t:aM}{k off:Nat}{cs:List aJ}(e:st.own k=some cs){C:aW->Prop}(hv:T4 P t cs off C):
 ∃ v,C (.val v)/\(aP t (.pointer (some ⟨θ k,off,none⟩))).run P W= .ok v W:=by
 unfold T4 at hv
 split at hv
 ·rename_i b
  obtain ⟨d,hv⟩:=hv.both
  simp only [aF] at d
  have g:=aG d.2
  refine ⟨_,hv,?_⟩
  have i:((cs.drop off).take (P.cellsOf t)).length=P.cellsOf t:=by simp;omega
  have:=run_loadCells_list (P:=P) (w:=W) ⟨θ k,off,none⟩ ((cs.drop off).take (P.cellsOf t)) (fun j v c=>by
   rw [Sy]
   refine r.ownCell e ?_
   rw [List.getElem?_take] at c
   split at c
   ·rwa [List.getElem?_drop] at c
   ·cases c)
  rw [i] at this
  simp only [aP,aE,loadVar,Sem.run_bind,Sem.run_pure,Ka b,aC,if_true,H9 (Iy b),this]
 ·rename_i b
  split at hv
  ·rename_i v l
   refine ⟨v,hv,?_⟩
   simp only [aP,aE,loadVar,Sem.run_bind,Sem.run_pure,Ka b,aC,if_false,aQ]
   simp only [load,Sem.run,r.ownCell e l]
  ·exact hv.elim
 ·exact hv.elim
def Rel.evalWf(r:Rel s0 n θ st h a W){x:aK}: ∀ k off,C8 st x= .own k off->(st.own k).isSome=true:=by
 intro k off e
 cases x with
 | tmp t=>exact r.wf t k off e
 | _=>cases e
def QOut(P:aY)(θ:Nat->Nat)(st:VS)(a:Act)(W:aD)(o:aT)(C:aW->Prop):Prop:=
 ∃ v u,C v/\rel θ v u/\(∀ k off,v= .own k off->(st.own k).isSome=true)/\(execOp a.eval o).run P W= .ok (.value u) W
def QOut.val{o:aT}{C:aW->Prop}{v:aJ}(hc:C (.val v))(hr:(execOp a.eval o).run P W= .ok (.value v) W):QOut P θ st a W o C:=
 ⟨.val v,v,hc,rfl,(fun _ _ e=>by cases e),hr⟩
def slBound.out{v:Option aW}{dflt y:Nat}{C:Nat->Prop}(hb:slBound v dflt y C):
 (v=none/\C dflt)\/∃ k i,v=some (.val (.int k i))/\0<=i/\i<=(y:Int)/\C i.toNat:=by
 unfold slBound at hb
 split at hb
 ·exact .inl ⟨rfl,hb⟩
 ·exact .inr ⟨_,_,rfl,hb.1.1,hb.1.2,hb.2⟩
 ·exact hb.elim
def L7{k:IntKind}{i:Int}{y:Nat}(h0:0<=i)(h1:i<=(y:Int))(c:BoundsCode)(W:aD):(aZ (.int k i) y c).run P W= .ok i.toNat W:=by
 simp [aZ,asIntOf,h0,h1]
def Az(r:Rel s0 n θ st h a W){isS:Bool}{len cap:Nat}{lo hi:Option aK}{C:Nat->Nat->Prop}
 (hb:slBound (hi.map (C8 st)) len cap fun h=>slBound (lo.map (C8 st)) 0 h fun l=>C l h):
 ∃ l h',C l h'/\(aS isS len cap (lo.map a.eval) (hi.map a.eval) none).run P W= .ok (l,h',cap) W:=by
 have b:∀ h',(slBound (lo.map (C8 st)) 0 h' fun l=>C l h')->∃ l,C l h'/\
  (match lo.map a.eval with
   | some v=>aZ v h' .sliceB
   | none=>(pure 0:Sem Nat)).run P W= .ok l W:=by
  intro h' hb
  rcases hb.out with ⟨e,d⟩|⟨k,i,e,g,j,d⟩
  ·cases lo with
   | none=>exact ⟨0,d,by simp⟩
   | some x=>simp at e
  ·cases lo with
   | none=>simp at e
   | some x=>
    simp only [aN,Option.some.injEq] at e
    exact ⟨_,d,by simp only [aN,r.evalVal e];exact L7 g j _ W⟩
 rcases hb.out with ⟨e,d⟩|⟨k,i,e,g,j,d⟩
 ·cases hi with
  | none=>
   obtain ⟨l,m,c⟩:=b _ d
   refine ⟨l,len,m,?_⟩
   unfold aS
   cases lo with
   | none=>simp at c ⊢;exact c
   | some y=>simp only [aN] at c;simp [c]
  | some x=>simp at e
 ·cases hi with
  | none=>simp at e
  | some x=>
   simp only [aN,Option.some.injEq] at e
   obtain ⟨l,m,c⟩:=b _ d
   refine ⟨l,i.toNat,m,?_⟩
   unfold aS
   cases lo with
   | none=>simp at c;simp [r.evalVal e,L7 g j,c]
   | some y=>simp only [aN] at c;simp [r.evalVal e,L7 g j,c]
def A31(r:Rel s0 n θ st h a W){o:aT}{t:aM}{x:aK}{lo hi:Option aK}(hop:o.op= .slice t x lo hi none){C:aW->Prop}
 (hv:Dn P t (C8 st x) (lo.map (C8 st)) (hi.map (C8 st)) C):QOut P θ st a W o C:=by
 unfold Dn at hv
 split at hv
 ·rename_i s j i
  obtain ⟨l,b,d,g⟩:=Az (P:=P) (isS:=false) r (C:=fun l b=>C (.val (.string (s.extract l b)))) hv
  refine QOut.val d ?_
  simp [execOp,hop,aU,Instr.slice,run_underlying j,r.evalVal i,g]
 ·rename_i e A m c j i
  obtain ⟨hi,hv⟩:=hv.both
  obtain ⟨l,b,d,g⟩:=Az (P:=P) (isS:=true) r (C:=fun l b=>C (.val (.slice (J4 A c l (P.cellsOf e)) (b-l) (c-l)))) hv
  refine QOut.val d ?_
  simp [execOp,hop,aU,Instr.slice,run_underlying j,r.evalVal i,g,H9 hi,J4]
 ·rename_i m e k j i
  obtain ⟨hi,hv⟩:=hv.both
  obtain ⟨l,b,d,g⟩:=Az (P:=P) (isS:=false) r (C:=fun l b=>C (.val (.slice (J4 (some k) m l (P.cellsOf e)) (b-l) (m-l)))) hv
  refine QOut.val d ?_
  simp [execOp,hop,aU,run_underlying j,r.evalVal i,g,H9 hi,J4,aE]
  split<;>rfl
 ·exact hv.elim
def A0j(r:Rel s0 n θ st h a W){o:aT}{t:aM}{x lo hi mx:aK}(hop:o.op= .slice t x (some lo) (some hi) (some mx)){C:aW->Prop}
 (hv:Jp P t (C8 st x) (C8 st lo) (C8 st hi) (C8 st mx) C):QOut P θ st a W o C:=by
 unfold Jp at hv
 split at hv
 ·rename_i e A m c u l w z y b s q g d i
  obtain ⟨hi,p,k,j,hv⟩:=hv.both
  refine QOut.val hv ?_
  simp [execOp,hop,aU,Instr.slice,aS,run_underlying s,r.evalVal q,r.evalVal g,r.evalVal d,r.evalVal i,L7 p.1 p.2,L7 k.1 k.2,L7 j.1 j.2,H9 hi,J4]
 ·exact hv.elim
def Rj(r:Rel s0 n θ st h a W){o:aT}{t:aM}{x i:aK}(hop:o.op= .indexAddr t x i){C:aW->Prop}
 (hv:K7 P t (C8 st x) (C8 st i) C):QOut P θ st a W o C:=by
 unfold K7 at hv
 split at hv
 ·rename_i len e k b _ m p g q
  obtain ⟨l,hv⟩:=hv.both
  by_cases d:0<=m/\m<(len:Int)
  ·have hv:C (.own k (b+m.toNat*P.cellsOf e)):=by
    have:decide (0<=m/\m<(len:Int))=true:=decide_eq_true d
    rw [this] at hv;exact hv
   refine ⟨_,.pointer (some ⟨θ k,b+m.toNat*P.cellsOf e,none⟩),hv,rfl,(fun B s z=>by cases z;exact r.evalWf _ _ g),?_⟩
   have:=Sy (θ k) b (m.toNat*P.cellsOf e)
   simp [execOp,hop,bC,run_underlying p,r.evalOwn g,r.evalVal q,asIntOf,aE,H9 l,d.1,d.2,this]
  ·have:decide (0<=m/\m<(len:Int))=false:=decide_eq_false d
   rw [this] at hv;exact hv.elim
 ·rename_i len e w _ m p g q
  obtain ⟨l,d,hv⟩:=hv.both
  refine QOut.val hv ?_
  simp [execOp,hop,bC,run_underlying p,r.evalVal g,r.evalVal q,asIntOf,aE,H9 l,d.1,d.2]
 ·rename_i e A m c _ j p g q
  obtain ⟨l,w,rfl,u,y,hv⟩:=hv.both
  refine QOut.val hv ?_
  simp [execOp,hop,bC,run_underlying p,r.evalVal g,r.evalVal q,asIntOf,H9 l,u,y]
 ·exact hv.elim
def B32{W:aD}{xs ys:Array aJ}{f:Field}{b:Bool}{d:Nat}(h:C1n P f xs ys=some b):
 f.name ≠ "_" /\∃ a c,(part f.type xs f.offset).run P W= .ok a W/\(part f.type ys f.offset).run P W= .ok c W/\(aV (d+1) f.type a c).run P W= .ok b W:=by
 unfold C1n at h
 split at h
 ·rename_i a c g j i
  split at h
  ·cases h
  ·rename_i e
   cases h
   refine ⟨by simpa using e,.string a,.string c,?_,?_,?_⟩
   ·simp [part,isAgg,Sem.run_bind,run_underlying g,j]
   ·simp [part,isAgg,Sem.run_bind,run_underlying g,i]
   ·unfold aV
    simp [Sem.run_bind,run_underlying g]
    exact beq_toListBytes a c
 ·cases h
def A8m{W:aD}{xs ys:Array aJ}{dep:Nat}(l:List Field):∀ {b:Bool},B31 P l xs ys=some b->
 (forIn (m:=Sem) l ((none,()):Option Bool × PUnit) (fun f _=>
          if f.name ≠ "_" then do
           let x<-part f.type xs f.offset
           let y<-part f.type ys f.offset
           let e<-aV (dep+1) f.type x y
           if (!e)=true then pure (ForInStep.done (some false,()))
            else pure (ForInStep.yield (none,()))
          else pure (ForInStep.yield (none,())))).run P W= .ok (if b then (none,()) else (some false,())) W:=by
 induction l with
 | nil=>intro b h;cases h;simp
 | cons f l ih=>
  intro b h
  unfold B31 at h
  split at h
  ·rename_i u v c g
   cases h
   obtain ⟨a,p,q,k,i,j⟩:=B32 (W:=W) (d:=dep) c
   rw [List.forIn_cons]
   simp only [iP a,Sem.run_bind,k,i,j,aC]
   cases u with
   | false=>simp
   | true=>
    have:=ih g
    simp only [Bool.not_true,aQ,if_false,Sem.run_pure,aC,Bool.true_and]
    exact this
  ·cases h
def A9y{t:aM}{xs ys:Array aJ}{C:Bool->Prop}(hv:A03 P t xs ys C):∃ b,(∀ W,(Op.equal t (.agg xs) (.agg ys)).run P W= .ok b W)/\P.eqGuardType P.depth t=false/\C b:=by
 unfold A03 at hv
 split at hv
 ·rename_i e c
  obtain ⟨a,hv⟩:=hv.both
  simp only [aF,Bool.not_eq_true'] at a
  split at hv
  ·rename_i b g
   refine ⟨b,fun W=>?_,a.2,hv⟩
   have d:aR=(aR-2)+1+1:=rfl
   unfold Op.equal
   rw [d]
   generalize aR-2=dep
   unfold aV
   simp only [Sem.run_bind,run_underlying c,aC]
   simp only [program,Sem.run,aC,a.1,aQ,if_false]
   rw [<- Array.forIn_toList,Sem.run_bind,A8m e.toList g,aC]
   cases b<;>simp
  ·exact hv.elim
 ·exact hv.elim
def B0f(r:Rel s0 n θ st h a W){o:aT}{op:BinOp}{t t':aM}{x y:aK}(hop:o.op= .binOp op t x y t'){C:aW->Prop}
 (hv:Hz P o st op t (C8 st x) (C8 st y) C):QOut P θ st a W o C:=by
 have m:∀ cs b,o.op ≠ .select cs b:=by rw [hop];intro _ _ e;cases e
 unfold Hz at hv
 have p:∀ {A:Option Addr} {z B w s:Nat},Hp P t=true->(Op.equal t (.slice A z B) (.slice none w s)).run P W= .ok A.isNone W:=by
  intro A z B w s q
  unfold Hp at q
  cases hu:P.underlying t with
  | none=>rw [hu] at q;cases q
  | some d=>
   rw [hu] at q
   cases d<;>first|(cases q;done)|skip
   have J:aR=(aR-1)+1:=rfl
   unfold Op.equal
   rw [J]
   generalize aR-1=dep
   cases A<;>(unfold aV;simp [run_underlying hu])
 split at hv
 ·rename_i G H i g
  obtain ⟨b,E,D,c⟩:=A9y hv
  refine QOut.val c ?_
  simp [execOp,hop,eqGuard,binOp,r.evalVal i,r.evalVal g,E,D]
 ·rename_i G H i g
  obtain ⟨b,E,D,c⟩:=A9y hv
  refine QOut.val c ?_
  simp [execOp,hop,eqGuard,binOp,r.evalVal i,r.evalVal g,E,D]
 ·rename_i A z B w s i g
  obtain ⟨l,c⟩:=hv.both
  refine QOut.val c ?_
  simp [execOp,hop,eqGuard,binOp,r.evalVal i,r.evalVal g,p l]
 ·rename_i A z B w s i g
  obtain ⟨l,c⟩:=hv.both
  refine QOut.val c ?_
  simp [execOp,hop,eqGuard,binOp,r.evalVal i,r.evalVal g,p l]
 ·rename_i k u F v i g
  obtain ⟨l,c⟩:=hv.both
  have l:=eq_of_beq l;subst l
  by_cases j:v=0
  ·rw [decide_eq_true j] at c;exact c.elim
  ·rw [decide_eq_false j] at c
   refine QOut.val c ?_
   simp [execOp,hop,eqGuard,binOp,Op.intDiv,j,r.evalVal i,r.evalVal g]
 ·rename_i k u F v i g
  obtain ⟨l,c⟩:=hv.both
  have l:=eq_of_beq l;subst l
  by_cases j:v=0
  ·rw [decide_eq_true j] at c;exact c.elim
  ·rw [decide_eq_false j] at c
   refine QOut.val c ?_
   simp [execOp,hop,eqGuard,binOp,Op.intDiv,j,r.evalVal i,r.evalVal g]
 ·rename_i k u F v i g
  by_cases j:v<0
  ·rw [decide_eq_true j] at hv;exact hv.elim
  ·rw [decide_eq_false j] at hv
   refine QOut.val hv ?_
   simp [execOp,hop,eqGuard,binOp,Op.shift,j,r.evalVal i,r.evalVal g]
 ·rename_i k u F v i g
  by_cases j:v<0
  ·rw [decide_eq_true j] at hv;exact hv.elim
  ·rw [decide_eq_false j] at hv
   refine QOut.val hv ?_
   simp [execOp,hop,eqGuard,binOp,Op.shift,j,r.evalVal i,r.evalVal g]
 ·rename_i u v i g
  refine QOut.val hv.2 ?_
  have:¬ ((u.size+v.size:Nat):Int)>IntKind.i64.max:=by
   have:=hv.1
   simp only [IntKind.max,IntKind.signed,IntKind.bits]
   omega
  simp only [execOp,hop,eqGuard,binOp,Op.stringOp,r.evalVal i,r.evalVal g,iN this]
  simp
 ·exact Mx r m hv
def B6x(r:Rel s0 n θ st h a W){o:aT}{C:aW->Prop}(hsel:∀ cs b,o.op ≠ .select cs b)(hv:vcQ P o st h C):QOut P θ st a W o C:=by
 unfold vcQ at hv
 split at hv
 ·rename_i x d
  exact ⟨C8 st x,a.eval x,hv,r.eval x,r.evalWf,by simp [execOp,d]⟩
 ·rename_i x d
  exact ⟨C8 st x,a.eval x,hv,r.eval x,r.evalWf,by simp [execOp,d]⟩
 ·rename_i c x y d
  split at hv
  ·rename_i t u
   cases t
   ·exact ⟨C8 st y,a.eval y,hv,r.eval y,r.evalWf,by simp [execOp,d,r.evalVal u,asBool]⟩
   ·exact ⟨C8 st x,a.eval x,hv,r.eval x,r.evalWf,by simp [execOp,d,r.evalVal u,asBool]⟩
  ·exact hv.elim
 ·rename_i t x d
  split at hv
  ·rename_i k l e
   split at hv
   ·rename_i cs J
    obtain ⟨v,A,E⟩:=Ke r J hv
    exact QOut.val A (by simp [execOp,d,r.evalOwn e,E])
   ·exact hv.elim
  ·rename_i G e
   obtain ⟨v,A,E⟩:=Ud r.sim hv
   exact QOut.val A (by simp [execOp,d,r.evalVal e,E])
  ·exact hv.elim
 ·rename_i s x f d
  split at hv
  ·rename_i k l e
   split at hv
   ·rename_i M z
    split at hv
    ·rename_i w D
     obtain ⟨m,hv⟩:=hv.both
     simp only [aF] at m
     have g:P.cellsOf w.type≠0:=by have:=aG m.2;omega
     refine ⟨_,.pointer (some ⟨θ k,l+w.offset,none⟩),hv,rfl,(fun O q B=>by cases B;exact r.evalWf _ _ e),?_⟩
     simp [execOp,d,Instr.fieldAt,run_underlying z,D,r.evalOwn e,aE,fieldPlace,H9 m.1,g,Sy]
    ·exact hv.elim
   ·exact hv.elim
  ·rename_i G e
   split at hv
   ·rename_i M z
    split at hv
    ·rename_i w D
     obtain ⟨m,hv⟩:=hv.both
     simp only [aF] at m
     have g:P.cellsOf w.type≠0:=by have:=aG m.2;omega
     refine QOut.val hv ?_
     simp [execOp,d,Instr.fieldAt,run_underlying z,D,r.evalVal e,aE,fieldPlace,H9 m.1,g]
    ·exact hv.elim
   ·exact hv.elim
  ·exact hv.elim
 ·rename_i x d
  split at hv
  ·rename_i k l e
   exact ⟨_,_,hv,rfl,(fun O q B=>by cases B;exact r.evalWf _ _ e),by simp [execOp,d,r.evalOwn e]⟩
  ·rename_i p e
   obtain ⟨G,rfl,hv⟩:=hv
   exact QOut.val hv (by simp [execOp,d,r.evalVal e])
  ·exact hv.elim
 ·rename_i t x i d
  exact Rj r d hv
 ·rename_i t x i d
  split at hv
  ·rename_i s _ j N e F
   obtain ⟨c,⟨H,u⟩,hv⟩:=hv
   refine QOut.val hv ?_
   simp [execOp,d,Instr.index,run_underlying N,r.evalVal e,r.evalVal F,asIntOf,H,u]
  ·exact Mx r hsel hv
 ·rename_i t x L F d
  exact A31 r d hv
 ·rename_i t x L F mx d
  exact A0j r d hv
 ·rename_i op t x y Q d
  exact B0f r d hv
 ·exact hv.elim
 ·exact Mx r hsel hv
def B3i(a:Act)(d i:Nat)(u:aJ)(hd:d<a.tmps.size):(a.put (some d) u).tmps.getD i undef=if i=d then u else a.tmps.getD i undef:=by
 simp only [Act.put,bA,Array.size_setIfInBounds]
 by_cases h:i=d
 ·subst h;simp [hd]
 ·by_cases b:i<a.tmps.size
  ·simp [b,h,Ne.symm h]
  ·simp [b,h]
def Rel.put(r:Rel s0 n θ st h a W){d:Nat}(hd:d<n){v:aW}{u:aJ}(hv:rel θ v u)(hw:∀ k off,v= .own k off->(st.own k).isSome=true):Rel s0 n θ (st.put d v) h (a.put (some d) u) W:=by
 have c:d<a.tmps.size:=by rw [r.size];exact hd
 have b:∀ i,(st.put d v).env i=if i=d then v else st.env i:=by
  intro i
  by_cases e:i=d
  ·subst e;simp [VS.put]
  ·have:aX i d=false:=by cases x:aX i d with
    | false=>rfl
    | true=>exact absurd (aH x) e
   simp [VS.put,this,e]
 refine ⟨r.defers,by simpa [Act.put] using r.size,fun i g=>?_,r.sim,r.own,r.inj,fun i k off e=>?_,fun i g=>?_⟩
 ·rw [b,B3i a d i u c]
  by_cases e:i=d
  ·simp only [e,if_true];exact hv
  ·simp only [e,if_false];exact r.slot i g
 ·rw [b] at e
  by_cases j:i=d
  ·rw [iP j] at e;exact hw k off e
  ·rw [iN j] at e;exact r.wf i k off e
 ·rw [b,iN (by omega)];exact r.out i g
def L0(st:VS)(d:Option Nat)(v:aW):(st.putO d v).own=st.own:=by cases d<;>rfl
def Rel.putO(r:Rel s0 n θ st h a W){cfg:Cfg}(hn:cfg.n=n){d:Option Nat}(hd:N2 cfg d=true){v:aW}{u:aJ}(hv:rel θ v u)(hw:∀ k off,v= .own k off->(st.own k).isSome=true):
 Rel s0 n θ (st.putO d v) h (a.put d u) W:=by
 cases d with
 | none=>exact r
 | some d=>
  simp only [N2,A14,aF] at hd
  exact r.put (by rw [<- hn];exact aG hd.1) hv hw
def Agree.putO{cfg:Cfg}{st:VS}{d:Option Nat}{v:aW}(hd:N2 cfg d=true):Agree cfg.lim st (st.putO d v):=by
 cases d with
 | none=>exact Agree.refl _ _
 | some d=>
  simp only [N2,A14,aF] at hd
  refine ⟨fun i a=>?_,fun _ _=>rfl⟩
  have:aX i d=false:=by cases x:aX i d with
   | false=>rfl
   | true=>have:=aH x;subst this;rw [hd.2] at a;cases a
  simp [VS.putO,VS.put,this]
def Rel.world(r:Rel s0 n θ st h a W){h':aL}{W':aD}(f:Fr h W h' W'):Rel s0 n θ st h' a W':=by
 refine ⟨r.defers.world f,r.size,r.slot,f.sim,fun k g e=>?_,r.inj,r.wf,r.out⟩
 obtain ⟨t,c,d⟩:=r.own k g e
 have b:θ k<W.heap.size:=by
  rcases aO (θ k) W.heap.size with x|x
  ·exact x
  ·rw [aI x] at c;cases c
 refine ⟨t,(f.keep _ b d).trans c,?_⟩
 cases x:h' (θ k) with
 | none=>rfl
 | some o=>have:=f.new _ o d x;omega
def Good.quiet{cfg:Cfg}(hn:cfg.n=n){h0:aL}{W0:aD}{o:aT}(g:Good n h0 W0 st h a W)(hd:N2 cfg o.dst=true)(hsel:∀ cs b,o.op ≠ .select cs b){K:VS->aL->Prop}
 (hv:vcQ P o st h fun v=>K (st.putO o.dst v) h) {Q:Exit->Act->aD->Prop}:
 Oper.wpX F fu P o a W (fun a' W'=>∃ st' h',K st' h'/\Good n h0 W0 st' h' a' W'/\Agree cfg.lim st st') Q:=by
 obtain ⟨θ,r,f,j⟩:=g
 obtain ⟨v,u,i,c,e,l⟩:=B6x r hsel hv
 unfold Oper.wpX
 rw [l,Oper.uponIn_value]
 refine ⟨_,h,i,⟨θ,r.putO hn hd c e,f,?_⟩,Agree.putO hd⟩
 exact fun k d=>j k (by rwa [L0] at d)
def Grow.out{gr:Bool}{h h':aL}{X:Prop}(x:Grow gr h h' X):X:=by
 cases gr
 ·exact x
 ·exact x.2
def Good.effV{cfg:Cfg}(hn:cfg.n=n){h0:aL}{W0:aD}{o:aT}(g:Good n h0 W0 st h a W)(hd:N2 cfg o.dst=true){s:Sem aJ}{gr:Bool}{K:VS->aL->Prop}
 (hv:effV P s o gr st h K) (hex:∀ θ,Rel W0.heap.size n θ st h a W->(execOp a.eval o).run P W=(s.run P W).andThen fun v w=>.ok (.value v) w) {Q:Exit->Act->aD->Prop}:
 Oper.wpX F fu P o a W (fun a' W'=>∃ st' h',K st' h'/\Good n h0 W0 st' h' a' W'/\Agree cfg.lim st st') Q:=by
 obtain ⟨θ,r,f,j⟩:=g
 obtain ⟨v,W',h',i,b,c⟩:=A2q s _ h W hv r.sim
 obtain ⟨u,rfl,b⟩:=exT.out b
 unfold Oper.wpX
 rw [hex θ r,i,aC,Oper.uponIn_value]
 refine ⟨_,h',b.out,⟨θ,(r.world c).putO hn hd (v:=.val v) rfl (fun _ _ e=>by cases e),f.trans c,?_⟩,Agree.putO hd⟩
 exact fun k d=>j k (by rwa [L0] at d)
def Good.effP{cfg:Cfg}(hn:cfg.n=n){h0:aL}{W0:aD}{o:aT}(g:Good n h0 W0 st h a W)(hd:N2 cfg o.dst=true){s:Sem aJ}{gr:Bool}{K:VS->aL->Prop}
 (hv:effP P s o gr st h K) (hex:∀ θ,Rel W0.heap.size n θ st h a W->(execOp a.eval o).run P W=(s.run P W).andThen fun v w=>.ok (.value v) w) {Q:Exit->Act->aD->Prop}:
 Oper.wpX F fu P o a W (fun a' W'=>∃ st' h',K st' h'/\Good n h0 W0 st' h' a' W'/\Agree cfg.lim st st') Q:=by
 obtain ⟨θ,r,f,j⟩:=g
 obtain ⟨v,W',h',i,b,c⟩:=A2q s _ h W hv r.sim
 obtain ⟨u,rfl,b⟩:=b
 unfold Oper.wpX
 rw [hex θ r,i,aC,Oper.uponIn_value]
 refine ⟨_,h',b.out,⟨θ,(r.world c).putO hn hd (v:=.val (.pointer (some u))) rfl (fun _ _ e=>by cases e),f.trans c,?_⟩,Agree.putO hd⟩
 exact fun k d=>j k (by rwa [L0] at d)
def Good.effU{cfg:Cfg}(hn:cfg.n=n){h0:aL}{W0:aD}{o:aT}(g:Good n h0 W0 st h a W)(hd:N2 cfg o.dst=true){s:Sem Unit}{gr:Bool}{K:VS->aL->Prop}
 (hv:effU P s o gr st h K) (hex:∀ θ,Rel W0.heap.size n θ st h a W->(execOp a.eval o).run P W=(s.run P W).andThen fun _ w=>.ok .skip w) {Q:Exit->Act->aD->Prop}:
 Oper.wpX F fu P o a W (fun a' W'=>∃ st' h',K st' h'/\Good n h0 W0 st' h' a' W'/\Agree cfg.lim st st') Q:=by
 obtain ⟨θ,r,f,j⟩:=g
 obtain ⟨v,W',h',i,d,b⟩:=A2q s _ h W hv r.sim
 unfold Oper.wpX
 rw [hex θ r,i,aC,Oper.uponIn_skip]
 refine ⟨_,h',d.out,⟨θ,(r.world b).putO hn hd (v:=.val undef) rfl (fun _ _ e=>by cases e),f.trans b,?_⟩,Agree.putO hd⟩
 exact fun k c=>j k (by rwa [L0] at c)
def T9{l:List Nat}{d:Nat}:has l d=true↔d∈l:=by
 simp only [has,List.any_eq_true]
 constructor
 ·rintro ⟨x,a,e⟩;rw [aH e];exact a
 ·exact fun h=>⟨d,h,Nat.beq_refl d⟩
def Ce{i d:Nat}(h:i≠d):aX i d=false:=by
 cases x:aX i d with
 | false=>rfl
 | true=>exact absurd (aH x) h
def T3(st:VS)(k:Nat)(cs:List aJ):(st.setOwn k cs).own k=some cs:=by simp [VS.setOwn]
def E8(st:VS){k i:Nat}(cs:List aJ)(h:i≠k):(st.setOwn k cs).own i=st.own i:=by simp [VS.setOwn,Ce h]
def B45(hs:Sim h W)(o:Obj):Fr h W h { W with heap:=W.heap.push o }:=by
 have lt:∀ {b:Nat} {a:Obj},W.heap[b]? = some a->b<W.heap.size:=by
  intro b a e
  rcases aO b W.heap.size with x|x
  ·exact x
  ·rw [aI x] at e;cases e
 refine ⟨fun b a e=>?_,rfl,rfl,rfl,by simp,fun b d _=>?_,fun b a e c=>?_⟩
 ·have:=hs b a e
  simp only [Array.getElem?_push];rw [iN (by have:=lt this;omega)];exact this
 ·simp only [Array.getElem?_push];rw [iN (by omega)]
 ·rw [e] at c;cases c
def Good.own{cfg:Cfg}(hn:cfg.n=n){h0:aL}{W0:aD}{o:aT}(g:Good n h0 W0 st h a W){cells:Array aJ}{t:aM}{K:VS->aL->Prop}
 (hv:Fl cfg o.dst cells.toList st h K) (hex:∀ θ,Rel W0.heap.size n θ st h a W->(execOp a.eval o).run P W= .ok (.value (.pointer (some ⟨W.heap.size,0,none⟩))) { W with heap:=W.heap.push (.cells cells t) }) {Q:Exit->Act->aD->Prop}:
 Oper.wpX F fu P o a W (fun a' W'=>∃ st' h',K st' h'/\Good n h0 W0 st' h' a' W'/\Agree cfg.lim st st') Q:=by
 obtain ⟨θ,r,f,X⟩:=g
 unfold Fl at hv
 split at hv
 ·rename_i d hd
  obtain ⟨J,T⟩:=hv.both
  simp only [A14,aF,Option.isNone_iff_eq_none] at J
  obtain ⟨⟨⟨y,C⟩,B⟩,q⟩:=J
  have y:d<n:=by rw [<- hn];exact aG y
  have L:=B45 r.sim (.cells cells t)
  unfold Oper.wpX
  rw [hex θ r,Oper.uponIn_value]
  have c:∀ k,(st.own k).isSome=true->θ k<W.heap.size:=by
   intro k l
   obtain ⟨O,e⟩:=Option.isSome_iff_exists.1 l
   obtain ⟨S,M,_⟩:=r.own k O e
   rcases aO (θ k) W.heap.size with x|x
   ·exact x
   ·rw [aI x] at M;cases M
  let θ':Nat->Nat:=fun k=>if k=d then W.heap.size else θ k
  have hθ:∀ k,(st.own k).isSome=true->θ' k=θ k:=by
   intro k l
   have:k≠d:=by rintro rfl;rw [q] at l;cases l
   simp [θ',this]
  have E:∀ v u,(∀ k j,v= .own k j->(st.own k).isSome=true)->rel θ v u->rel θ' v u:=by
   intro v u hw D
   cases v with
   | own k j=>simp only [rel,hθ k (hw k j rfl)];exact D
   | _=>exact D
  have w:h W.heap.size=none:=by
   cases x:h W.heap.size with
   | none=>rfl
   | some o'=>have:=r.sim _ _ x;simp at this
  have V:Rel W0.heap.size n θ' (st.setOwn d cells.toList) h a { W with heap:=W.heap.push (.cells cells t) }:=by
   refine ⟨r.defers.world L,r.size,fun i A=>E _ _ (fun k j e=>r.wf i k j e) (r.slot i A),L.sim,fun k O e=>?_,fun k H l p e=>?_,fun i k j e=>?_,r.out⟩
   ·by_cases b:k=d
    ·subst b
     rw [T3] at e
     injection e with e;subst e
     exact ⟨t,by simp [θ'],by simpa [θ'] using w⟩
    ·rw [E8 _ _ b] at e
     obtain ⟨S,M,G⟩:=r.own k O e
     have N:(st.own k).isSome=true:=by rw [e];rfl
     refine ⟨S,?_,by rw [hθ k N];exact G⟩
     rw [hθ k N,L.keep _ (c k N) G];exact M
   ·by_cases b:k=d<;>by_cases m:H=d
    ·rw [b,m]
    ·rw [E8 _ _ m] at p
     have Z:=c H p
     have R:=hθ H p
     rw [R,b] at e;simp [θ'] at e;omega
    ·rw [E8 _ _ b] at l
     have Z:=c k l
     have R:=hθ k l
     rw [R,m] at e;simp [θ'] at e;omega
    ·rw [E8 _ _ b] at l
     rw [E8 _ _ m] at p
     rw [hθ k l,hθ H p] at e
     exact r.inj k H l p e
   ·have:=r.wf i k j e
    have b:k≠d:=by rintro rfl;rw [q] at this;cases this
    rw [E8 _ _ b];exact this
  have r2:=V.put y (v:=.own d 0) (u:=.pointer (some ⟨W.heap.size,0,none⟩)) (by simp [rel,θ']) (fun k j e=>by cases e;rw [T3];rfl)
  refine ⟨_,h,T,⟨θ',by rw [hd];exact r2,f.trans L,fun k l=>?_⟩,fun i A=>?_,fun i A=>?_⟩
  ·by_cases b:k=d
   ·simp only [θ',b,if_true];exact f.size
   ·have l:(st.own k).isSome=true:=by
     have:((st.put d (.own d 0)).setOwn d cells.toList).own k=st.own k:=E8 _ _ b
     rwa [this] at l
    rw [hθ k l];exact X k l
  ·have z:i≠d:=by rintro rfl;rw [C] at A;cases A
   simp [VS.setOwn,VS.put,Ce z]
  ·have z:i≠d:=by rintro rfl;rw [B] at A;cases A
   exact E8 _ _ z
 ·exact hv.elim
def Ux(cur:List aJ)(p:Nat)(v:aJ)(vs:List aJ)(hp:p<cur.length):J8 (cur.set p v) (p+1) vs=J8 cur p (v::vs):=by
 have c:(cur.take p).length=p:=by simp;omega
 have e:cur.set p v=cur.take p++v::cur.drop (p+1):=by rw [List.set_eq_take_append_cons_drop,iP hp]
 have b:(cur.set p v).take (p+1)=cur.take p++[v]:=by
  rw [e,List.take_append,c];simp [List.take_take]
 have a:(cur.set p v).drop (p+1+vs.length)=cur.drop (p+(v::vs).length):=by
  rw [List.drop_set_of_lt (by omega)];congr 1;simp;omega
 unfold J8
 rw [b,a];simp
def Jz(b:Nat)(t:aM):∀ (vs:List aJ) (i:Nat) (cur:List aJ) (W:aD) (off:Nat),W.heap[b]? = some (.cells cur.toArray t (0,0))->off+i+vs.length<=cur.length->(∀ v∈vs,Vj v=true)->
 ∃ W',(storeCells ⟨b,off,none⟩ vs i).run P W= .ok () W'/\W'.heap[b]? = some (.cells (J8 cur (off+i) vs).toArray t (0,0))/\W'.os=W.os/\W'.tape=W.tape/\W'.output=W.output/\W'.heap.size=W.heap.size/\∀ k,k≠b->W'.heap[k]? = W.heap[k]? :=by
 intro vs
 induction vs with
 | nil=>
  intro i cur W off d n _
  refine ⟨W,by simp [storeCells],?_,rfl,rfl,rfl,rfl,fun _ _=>rfl⟩
  rw [d];simp [J8]
 | cons v vs ih=>
  intro i cur W off d n o
  simp only [List.length_cons] at n
  have a:W.cell? ⟨b,off+i,none⟩=some (cur[off+i]'(by omega)):=by
   simp [World.cell?,d,List.getElem?_eq_getElem (show off+i<cur.length by omega)]
  have e:W.frozen? ⟨b,off+i,none⟩=false:=by simp [World.frozen?,d]
  have c:(W.setCell ⟨b,off+i,none⟩ v).heap[b]? = some (.cells ((cur.set (off+i) v).toArray) t (0,0)):=by
   simp [World.setCell,Array.getElem?_modify,d]
  obtain ⟨W',x,l,s,r,w,q,y⟩:=ih (i+1) (cur.set (off+i) v) (W.setCell ⟨b,off+i,none⟩ v) off c (by simp;omega) (fun u p=>o u (by simp [p]))
  refine ⟨W',?_,?_,s,r,w,by rw [q];simp [World.setCell],fun k m=>(y k m).trans (Fq W _ v k m)⟩
  ·have j:=o v (by simp)
   have g:(store (Addr.add ⟨b,off,none⟩ i) v).run P W= .ok () (W.setCell ⟨b,off+i,none⟩ v):=by
    rw [Sy]
    cases v<;>first|(simp [Vj] at j;done)|simp [store,Sem.run,a,e]
   simp only [storeCells,Sem.run_bind,g,aC,x]
  ·rw [l]
   congr 2
   apply congrArg
   exact Ux cur (off+i) v vs (by omega)
def Good.ownStore{cfg:Cfg}(hn:cfg.n=n){h0:aL}{W0:aD}{o:aT}{t:aM}{x y:aK}(hop:o.op= .store t x y)(g:Good n h0 W0 st h a W)(hd:N2 cfg o.dst=true){k off:Nat}(hx:C8 st x= .own k off){cs:List aJ}(hk:st.own k=some cs){K:VS->aL->Prop}
 (hv:When ((C8 st y).isVal&&A1a cfg.lim k&&(P.info? t).isSome&&aX (rho st y).cells.size (P.cellsOf t)&&Nat.ble (off+P.cellsOf t) cs.length&&B97 (rho st y).cells.toList)
    (K ((st.setOwn k (J8 cs off (rho st y).cells.toList)).putO o.dst (.val undef)) h)) {Q:Exit->Act->aD->Prop}:
 Oper.wpX F fu P o a W (fun a' W'=>∃ st' h',K st' h'/\Good n h0 W0 st' h' a' W'/\Agree cfg.lim st st') Q:=by
 obtain ⟨θ,r,f,M⟩:=g
 obtain ⟨D,Z⟩:=hv.both
 simp only [aF] at D
 obtain ⟨⟨⟨⟨⟨hy,s⟩,m⟩,c⟩,p⟩,q⟩:=D
 have c:=aH c
 have p:=aG p
 obtain ⟨V,z,A⟩:=r.own k cs hk
 obtain ⟨W',S,G,C,h3,h4,h5,B⟩:=Jz (P:=P) (θ k) V (rho st y).cells.toList 0 cs W off z (by simp [c];omega) (fun v hv=>List.all_eq_true.1 q v hv)
 have w:(execOp a.eval o).run P W= .ok .skip W':=by
  simp [execOp,hop,Instr.storeAt,r.evalOwn hx,aE,storeVar,r.evalRho hy,H9 m,c,S]
 unfold Oper.wpX
 rw [w,Oper.uponIn_skip]
 have d:Sim h W':=fun b H e=>by
  have u:b≠θ k:=by rintro rfl;rw [A] at e;cases e
  rw [B b u];exact r.sim b H e
 have r1:Rel W0.heap.size n θ (st.setOwn k (J8 cs off (rho st y).cells.toList)) h a W':=by
  have l:∀ j,((st.setOwn k (J8 cs off (rho st y).cells.toList)).own j).isSome=(st.own j).isSome:=by
   intro j
   by_cases e:j=k
   ·subst e;rw [T3,hk];rfl
   ·rw [E8 _ _ e]
  refine ⟨r.defers.turn fun r' S e=>⟨S,by rw [B r' (by rintro rfl;rw [z] at e;cases e)];exact e⟩,r.size,r.slot,d,fun j R e=>?_,fun j j' T C e=>?_,fun i j H e=>by rw [l];exact r.wf i j H e,r.out⟩
  ·by_cases E:j=k
   ·subst E
    rw [T3] at e;injection e with e;subst e
    exact ⟨V,by simpa using G,A⟩
   ·rw [E8 _ _ E] at e
    obtain ⟨t',J,L⟩:=r.own j R e
    refine ⟨t',?_,L⟩
    rw [B _ (fun e'=>E (r.inj j k (by rw [e];rfl) (by rw [hk];rfl) e'))];exact J
  ·rw [l] at T C;exact r.inj j j' T C e
 have O:Fr h0 W0 h W':=by
  refine ⟨d,C.trans f.os,h3.trans f.tape,h4.trans f.output,by rw [h5];exact f.size,fun b D e=>?_,f.new⟩
  have:=M k (by rw [hk];rfl)
  rw [B b (by omega)];exact f.keep b D e
 refine ⟨_,h,Z,⟨θ,r1.putO hn hd (v:=.val undef) rfl (fun _ _ e=>by cases e),O,fun j N=>?_⟩,Agree.trans (b:=st.setOwn k (J8 cs off (rho st y).cells.toList)) ⟨fun _ _=>rfl,fun i X=>?_⟩ (Agree.putO hd)⟩
 ·rw [L0] at N
  by_cases e:j=k
  ·subst e;exact M j (by rw [hk];rfl)
  ·rw [E8 _ _ e] at N;exact M j N
 ·exact E8 _ _ (fun e=>by subst e;rw [s] at X;cases X)
def Bodies(P:aY)(fns:List Nat):Prop:=∀ g,g∈fns->∀ args W,(callFunc g args).run P W= .ok (.enter g args) W
def exRt.out{t:aM}{K:aJ->Prop}(x:exRt P t K):∃ v,K v:=by
 unfold exRt at x
 split at x
 ·obtain ⟨b,a⟩:=exTs.out x;exact ⟨_,a⟩
 ·exact exT.out x
def Re(r:Rel s0 n θ st h a W){xs:Array aK}(e:L8 st xs.toList=true):xs.map a.eval=xs.map (rho st):=by
 apply Array.ext
 ·simp
 ·intro i c b
  simp only [Array.getElem_map]
  exact r.evalAll e _ (by simp)
def Good.call[FOk F]{cfg:Cfg}(hn:cfg.n=n)(hfn:Bodies P cfg.fns){h0:aL}{W0:aD}{o:aT}{c:Call}{x:aK}(hop:o.op= .call c)(hcl:c.callee= .value x)(g:Good n h0 W0 st h a W)(hd:N2 cfg o.dst=true){gr:Bool}{K:VS->aL->Prop}
 (hv:A4n P cfg o c (C8 st x) gr st h K) {Q:Exit->Act->aD->Prop}:
 Oper.wpX F fu P o a W (fun a' W'=>∃ st' h',K st' h'/\Good n h0 W0 st' h' a' W'/\Agree cfg.lim st st') Q:=by
 obtain ⟨θ,r,f,C⟩:=g
 unfold A4n at hv
 split at hv
 ·rename_i E first b A
  split at hv
  ·rename_i z
   obtain ⟨y,hv⟩:=hv.both
   have d:(execOp a.eval o).run P W= .ok (.enter E (first++c.args.map (rho st)++b)) W:=by
    simp [execOp,hop,resolve,hcl,r.evalVal A,Deferred.ofValue,invoke,hfn E (T9.1 z),Re r y]
   unfold Oper.wpX
   rw [d,Oper.uponIn_enter]
   refine ⟨fun j=>(by rw [FOk.depth] at j;cases j),(B2a (hv W r.sim)).mono fun e W' ⟨v,h',B,i,p⟩=>?_⟩
   subst B
   obtain ⟨u,rfl,i⟩:=i.out
   refine ⟨_,h',i.out,⟨θ,(r.world p).putO hn hd (v:=.val v) rfl (fun _ _ e=>by cases e),f.trans p,?_⟩,Agree.putO hd⟩
   exact fun k q=>C k (by rwa [L0] at q)
  ·obtain ⟨y,hv⟩:=hv.both
   obtain ⟨v,W',h',H,i,p⟩:=hv W r.sim
   have d:(execOp a.eval o).run P W= .ok (.value v) W':=by
    rw [<- H]
    simp [execOp,hop,resolve,hcl,r.evalVal A,Deferred.ofValue,invoke,Re r y]
   obtain ⟨u,rfl,i⟩:=i.out
   unfold Oper.wpX
   rw [d,Oper.uponIn_value]
   refine ⟨_,h',i.out,⟨θ,(r.world p).putO hn hd (v:=.val v) rfl (fun _ _ e=>by cases e),f.trans p,?_⟩,Agree.putO hd⟩
   exact fun k q=>C k (by rwa [L0] at q)
 ·rename_i l first b A
  obtain ⟨y,hv⟩:=hv.both
  obtain ⟨fn,s,D,w,G,m⟩:=hv W r.sim
  have d:(execOp a.eval o).run P W= .ok (.round l fn s D w) W:=by
   rw [<- G]
   simp [execOp,hop,resolve,hcl,r.evalVal A,Deferred.ofValue,invoke,Re r y]
  unfold Oper.wpX
  rw [d,Oper.uponIn_round]
  refine ⟨fun j=>(by rw [FOk.depth] at j;cases j),(FOk.round (m _)).mono fun e W' ⟨v,h',B,i,p⟩=>?_⟩
  subst B
  obtain ⟨u,rfl,i⟩:=i.out
  refine ⟨_,h',i.out,⟨θ,(r.world p).putO hn hd (v:=.val v) rfl (fun _ _ e=>by cases e),f.trans p,?_⟩,Agree.putO hd⟩
  exact fun k q=>C k (by rwa [L0] at q)
 ·exact hv.elim
def Ua{t:aM}(hz:A82 P t=true)(W:aD):(zeroValue t).run P W= .ok (Ob P t) W:=by
 unfold A82 at hz
 cases hi:P.info? t with
 | none=>rw [hi] at hz;cases hz
 | some i=>
  rw [hi] at hz
  obtain ⟨z,e⟩:=Option.isSome_iff_exists.1 hz
  simp [zeroValue,typeInfo,program,hi,Sem.run_bind,Sem.run,e,Ob]
def Good.core[FOk F]{cfg:Cfg}(hn:cfg.n=n)(hfn:Bodies P cfg.fns){h0:aL}{W0:aD}{o:aT}(g:Good n h0 W0 st h a W){gr:Bool}{K:VS->aL->Prop}
 (hv:O6 P cfg o gr st h K) {Q:Exit->Act->aD->Prop}:
 Oper.wpX F fu P o a W (fun a' W'=>∃ st' h',K st' h'/\Good n h0 W0 st' h' a' W'/\Agree cfg.lim st st') Q:=by
 unfold O6 at hv
 obtain ⟨u,hv⟩:=hv.both
 split at hv
 ·rename_i L
  have A:∀ C b,o.op ≠ .select C b:=fun C b e=>by simp [Qy,e] at L
  exact g.quiet hn u A hv
 ·split at hv
  ·rename_i t j
   split at hv
   ·obtain ⟨G,hv⟩:=hv.both
    refine g.own (P:=P) (t:=t) hn hv fun θ r=>?_
    simp [execOp,j,Instr.alloc,Ua G,newVar,newRow,newObj,Sem.run]
   ·exact g.effP hn u hv fun θ r=>by simp [execOp,j]
  ·rename_i t x j
   obtain ⟨q,hv⟩:=hv.both
   split at hv
   ·refine g.own (P:=P) (t:=t) hn hv fun θ r=>?_
    simp [execOp,j,Instr.box,r.evalRho q,newVar,newRow,newObj,Sem.run]
   ·exact g.effP hn u hv fun θ r=>by simp [execOp,j,r.evalRho q]
  ·rename_i t x y j
   unfold A2r at hv
   split at hv
   ·rename_i k E q
    split at hv
    ·rename_i C H
     exact g.ownStore hn j u q H hv
    ·exact hv.elim
   ·rename_i p q
    obtain ⟨J,hv⟩:=hv.both
    exact g.effU hn u hv fun θ r=>by simp [execOp,j,r.evalVal q,r.evalRho J]
   ·exact hv.elim
  ·rename_i t l c j
   obtain ⟨q,hv⟩:=hv.both
   refine g.effV hn u hv fun θ r=>?_
   have z:=r.evalAll q l (by simp)
   have D:=r.evalAll q c (by simp)
   simp [execOp,j,z,D]
  ·rename_i t m B j
   obtain ⟨q,hv⟩:=hv.both
   refine g.effV hn u hv fun θ r=>?_
   have e:(B.map fun (i,x)=>(i,a.eval x))=B.map fun (i,x)=>(i,rho st x):=by
    apply Array.ext
    ·simp
    ·intro i z D
     simp only [Array.getElem_map]
     have:=r.evalAll q (B[i]'(by simpa using z)).2 (by simp only [List.mem_map];exact ⟨B[i]'(by simpa using z),by simp,rfl⟩)
     rw [this]
   simp [execOp,j,e]
  ·rename_i s d x j
   obtain ⟨q,hv⟩:=hv.both
   refine g.effV hn u hv fun θ r=>?_
   have z:=r.evalAll q x (by simp)
   simp [execOp,j,z]
  ·rename_i c j
   split at hv
   ·rename_i x w
    exact g.call hn hfn j w u hv
   ·rename_i w
    obtain ⟨q,hv⟩:=hv.both
    exact g.effV hn u hv fun θ r=>by simp [execOp,j,resolve,w,invoke,builtin,Re r q]
   ·rename_i w
    obtain ⟨q,hv⟩:=hv.both
    exact g.effV hn u hv fun θ r=>by simp [execOp,j,resolve,w,invoke,builtin,Re r q]
   ·exact hv.elim
  ·exact hv.elim
def put_self(st:VS){g:Nat}{v:aW}(e:st.env g=v):st.put g v=st:=by
 unfold VS.put
 congr 1
 funext i
 by_cases h:i=g
 ·subst h;simp [e]
 ·simp [Ce h]
def Gr{cfg:Cfg}{o:aT}{gr:Bool}{K:VS->aL->Prop}(hv:O6 P cfg o gr st h K):∀ c,o.op ≠ .defer c:=by
 intro c e
 unfold O6 at hv
 obtain ⟨_,hv⟩:=hv.both
 simp [Qy,e] at hv
def Good.op[FOk F]{cfg:Cfg}(hn:cfg.n=n)(hfn:Bodies P cfg.fns){h0:aL}{W0:aD}{ops:Array aT}{i:Nat}{o:aT}(hi:ops[i]? = some o)(g:Good n h0 W0 st h a W){gr:Bool}{K:VS->aL->Prop}
 (hv:Oc P cfg ops o gr st h K) {Q:Exit->Act->aD->Prop}:
 wpOpIn F fu P ops Q i (fun a' W'=>∃ st' h',K st' h'/\Good n h0 W0 st' h' a' W'/\Agree cfg.lim st st') a W:=by
 unfold wpOpIn
 simp only [hi]
 unfold Oc at hv
 have m:∀ {u:aW},N2 cfg o.dst=true->K (st.putO o.dst (.val undef)) h->∃ st' h',K st' h'/\Good n h0 W0 st' h' (a.put o.dst undef) W/\Agree cfg.lim st st':=by
  intro _ C H
  obtain ⟨θ,r,f,B⟩:=g
  exact ⟨_,h,H,⟨θ,r.putO hn C (v:=.val undef) rfl (fun _ _ e=>by cases e),f,fun k D=>B k (by rwa [L0] at D)⟩,Agree.putO C⟩
 split at hv
 ·rename_i y
  rw [iP (by simp [Region.wanted,y])]
  exact (g.core hn hfn hv).toIn (Gr hv)
 ·rename_i j l y
  split at hv
  ·exact hv.elim
  ·rename_i d q
   split at hv
   ·rename_i b p
    have E:yielded ops a.tmps j=some b:=by
     obtain ⟨θ,r,f,B⟩:=g
     have w:a.tmps.getD d undef= .bool b:=by have:=r.slot' d;rw [p] at this;exact this
     have s:d<a.tmps.size:=by
      rcases aO d a.tmps.size with x|x
      ·exact x
      ·rw [r.out d (by rw [<- r.size];exact x)] at p;cases p
     have A:a.tmps[d]? = some (.bool b):=by
      rw [bB s];simp [bA,s] at w;rw [w]
     simp [yielded,q,A]
    have z:Region.wanted o (yielded ops a.tmps)=(b==l):=by
     simp only [Region.wanted,y,E]
     cases b<;>cases l<;>rfl
    rw [z]
    cases b<;>cases l
    ·have c:O6 P cfg o gr (st.put d (.val (.bool false))) h K:=hv
     rw [put_self st p] at c
     rw [iP (by decide)];exact (g.core hn hfn c).toIn (Gr c)
    ·have c:When (N2 cfg o.dst) (K ((st.put d (.val (.bool false))).putO o.dst (.val undef)) h):=hv
     rw [put_self st p] at c
     rw [iN (by decide)];exact ⟨fun f _=>FOk.fn f,m (u:=.any) c.both.1 c.both.2⟩
    ·have c:When (N2 cfg o.dst) (K ((st.put d (.val (.bool true))).putO o.dst (.val undef)) h):=hv
     rw [put_self st p] at c
     rw [iN (by decide)];exact ⟨fun f _=>FOk.fn f,m (u:=.any) c.both.1 c.both.2⟩
    ·have c:O6 P cfg o gr (st.put d (.val (.bool true))) h K:=hv
     rw [put_self st p] at c
     rw [iP (by decide)];exact (g.core hn hfn c).toIn (Gr c)
   ·rename_i G p
    have z:Region.wanted o (yielded ops a.tmps)=false:=by
     obtain ⟨θ,r,f,B⟩:=g
     have w:a.tmps.getD d undef= .tuple G:=by have:=r.slot' d;rw [p] at this;exact this
     have A:yielded ops a.tmps j=none:=by
      unfold yielded
      rw [q]
      simp only [Option.bind_some]
      rcases aO d a.tmps.size with x|x
      ·rw [bB x];simp [bA,x] at w;rw [w]
      ·rw [aI x]
     simp [Region.wanted,y,A]
    rw [iN (by rw [z];decide)]
    exact ⟨fun f _=>FOk.fn f,m (u:=.any) hv.both.1 hv.both.2⟩
   ·exact hv.elim
def B4z[FOk F]{cfg:Cfg}(hn:cfg.n=n)(hfn:Bodies P cfg.fns){h0:aL}{W0:aD}{ops:Array aT}{gr:Bool}{Q:Exit->Act->aD->Prop}{K:VS->aL->Prop}: ∀ (l:List Nat) (st:VS) (h:aL) (a:Act) (W:aD),
 Good n h0 W0 st h a W->B2l P cfg ops gr l st h K->
 (∀ st' h' a' W',K st' h'->Good n h0 W0 st' h' a' W'->Agree cfg.lim st st'->Q .normal a' W')->wpOpsIn F fu P ops Q l a W:=by
 intro l
 induction l with
 | nil=>exact fun st h a W g b d=>d st h a W b g (Agree.refl _ _)
 | cons i l ih=>
  intro st h a W g b d
  unfold B2l at b
  split at b
  ·exact b.elim
  ·rename_i o s
   rw [wpOpsIn_cons]
   refine wpOpIn_mono (fun a' W' ⟨st',h',m,u,r⟩=>?_) (g.op hn hfn s b)
   exact ih st' h' a' W' u m fun c p q W2 k j e=>d c p q W2 k j (r.trans e)
end
