/- A part. -/
import Derived.Test.YtdphgbjaijlckaaGreatDoorG01
import Derived.OrdersIn
import Derived.RangeFuncCalls
set_option linter.all false
open Bool renaming and_eq_true->aF,false_eq_true->aS
open _root_.Go.Instr renaming sureAddr->aE,loadAt->aL,sliceBounds->aN,sliceAt->aQ,sliceBound->aW,indexAt->aX
open Nat renaming le_of_ble_eq_true->aK,beq->aU,lt_or_ge->aY
open _root_.Go.Op renaming maxDepth->aM,equalIn->aR
open Option renaming map_some->aP
open _root_.Go.Result renaming andThen_ok->aC
open _root_.Go renaming World->aD,Value->aG,Operand->aH,TypeId->aJ,Oper->aO,Program->aV
open _root_.Go.Proofs.YtdphgbjaijlckaaGreatDoor renaming Heap->aI,AVal->aT
namespace Go.Proofs.YtdphgbjaijlckaaGreatDoor
open Go
def rel(θ:Nat->Nat):aT->aG->Prop
 | .val v,u=>u=v
 | .own k off,u=>u= .pointer (some ⟨θ k,off,none⟩)
 | .any,_=>True
structure FOkS (F:Fence):Prop where
 ok:F=Fence.wide\/∃ l,F=Fence.wide.inRound l
abbrev FOk(F:Fence):=Inhabited (PLift (FOkS F))
instance:FOk Fence.wide:=⟨⟨⟨.inl rfl⟩⟩⟩
instance {l:Nat}:FOk (Fence.wide.inRound l):=⟨⟨⟨.inr ⟨l,rfl⟩⟩⟩⟩
def FOk.fn{F:Fence}[x:FOk F](f:FuncId):F.fn f:=by
 rcases x.default.down.ok with rfl|⟨l,rfl⟩<;>trivial
def FOk.depth{F:Fence}[x:FOk F]:F.depth=none:=by
 rcases x.default.down.ok with rfl|⟨l,rfl⟩<;>rfl
def A00{F:Fence}[x:FOk F]{k:Nat}{P:aV}{f:FuncId}{args:Array aG}{W:aD}{R:Ending->aD->Prop}(h:Calls P f args W R):CallsIn F k P f args W R:=by
 rcases x.default.down.ok with rfl|⟨l,rfl⟩
 ·exact callsIn_wide.2 h
 ·exact CallsIn.inRound l (callsIn_wide.2 h)
def FOk.round{F:Fence}[x:FOk F]{k:Nat}{P:aV}{l:Nat}{f:FuncId}{tmps:Array aG}{asg body:Code}{W:aD}{R:Ending->aD->Prop}(h:RoundIn Fence.wide k P l f tmps asg body W R):RoundIn F k P l f tmps asg body W R:=by
 rcases x.default.down.ok with rfl|⟨l,rfl⟩
 ·exact h
 ·exact h
def Oper.wpX(F:Fence)(fu:Nat)(P:aV)(o:aO)(a:Act)(W:aD)(next:Act->aD->Prop)(Q:Exit->Act->aD->Prop):Prop:=
 o.uponIn F fu P a next Q ((execOp a.eval o).run P W)
def Oper.wpX.toIn{F:Fence}[FOk F]{fu:Nat}{P:aV}{o:aO}{a:Act}{W:aD}{next:Act->aD->Prop}{Q:Exit->Act->aD->Prop}(h:Oper.wpX F fu P o a W next Q)(hd:∀ c,o.op ≠ .defer c):o.wpIn F fu P a W next Q:=
 ⟨fun f _=>FOk.fn f,by rw [Oper.semAt_eq _ _ _ hd];exact h⟩
def MarksOk(s0:Nat)(h:aI)(W:aD)(ds:List Deferred):Prop:=
 ∃ rs:List Nat,rs.Nodup/\ds.map (·.target)=rs.map Target.collected/\∀ r∈rs,s0<=r/\h r=none/\W.heap[r]? = some (.deferred (some []))
def MarksOk.nil{s0:Nat}{h:aI}{W:aD}:MarksOk s0 h W []:=⟨[],List.nodup_nil,rfl,fun r a=>by cases a⟩
def MarksOk.turn{s0:Nat}{h h':aI}{W W':aD}{ds:List Deferred}(m:MarksOk s0 h W ds)(x:∀ r,h r=none->W.heap[r]? = some (.deferred (some []))->h' r=none/\W'.heap[r]? = some (.deferred (some []))):MarksOk s0 h' W' ds:=by
 obtain ⟨c,e,d,b⟩:=m
 exact ⟨c,e,d,fun r a=>⟨(b r a).1,x r (b r a).2.1 (b r a).2.2⟩⟩
def W8{W:aD}{r:Nat}{o:Obj}(e:W.heap[r]? = some o):r<W.heap.size:=by
 grind
def MarksOk.world{s0:Nat}{h h':aI}{W W':aD}{ds:List Deferred}(m:MarksOk s0 h W ds)(f:Fr h W h' W'):MarksOk s0 h' W' ds:=
 m.turn fun r b e=>by
  have a:=W8 e
  refine ⟨?_,(f.keep r a b).trans e⟩
  cases x:h' r with
  | none=>rfl
  | some o=>have:=f.new r o b x;omega
structure Rel (s0:Nat) (n:Nat) (θ:Nat->Nat) (st:VS) (h:aI) (a:Act) (W:aD):Prop where
 defers:MarksOk s0 h W a.defers
 size:a.tmps.size=n
 slot:∀ i,i<n->rel θ (st.env i) (a.tmps.getD i undef)
 sim:Sim h W
 own:∀ k cs,st.own k=some cs->∃ t,W.heap[θ k]? = some (.cells cs.toArray t (0,0))/\h (θ k)=none
 inj:∀ k k',(st.own k).isSome=true->(st.own k').isSome=true->θ k=θ k'->k=k'
 wf:∀ i k off,st.env i= .own k off->(st.own k).isSome=true
 out:∀ i,n<=i->st.env i= .val undef
def Good(n:Nat)(h0:aI)(W0:aD)(st:VS)(h:aI)(a:Act)(W:aD):Prop:=
 ∃ θ,Rel W0.heap.size n θ st h a W/\Fr h0 W0 h W/\∀ k,(st.own k).isSome=true->W0.heap.size<=θ k
structure Agree (lim:Option Lim) (st st':VS):Prop where
 env:∀ i,A6w lim i=false->st'.env i=st.env i
 own:∀ i,Ok lim i=false->st'.own i=st.own i
def Agree.refl(lim:Option Lim)(st:VS):Agree lim st st:=⟨fun _ _=>rfl,fun _ _=>rfl⟩
def Agree.trans{lim:Option Lim}{a b c:VS}(x:Agree lim a b)(y:Agree lim b c):Agree lim a c:=
 ⟨fun i h=>(y.env i h).trans (x.env i h),fun i h=>(y.own i h).trans (x.own i h)⟩
def When.both{b:Bool}{A:Prop}(h:When b A):b=true/\A:=by
 cases b
 ·exact h.elim
 ·exact ⟨rfl,h⟩
section
variable {P:aV} {s0:Nat} {F:Fence} {fu:Nat} {n:Nat} {θ:Nat->Nat} {st:VS} {h:aI} {a:Act} {W:aD}
def Rel.slot'(r:Rel s0 n θ st h a W)(i:Nat):rel θ (st.env i) (a.tmps.getD i undef):=by
 rcases aY i n with b|b
 ·exact r.slot i b
 ·rw [r.out i b]
  show _=undef
  have:a.tmps.size<=i:=by rw [r.size];exact b
  grind
def Rel.eval(r:Rel s0 n θ st h a W)(x:aH):rel θ (C6 st x) (a.eval x):=by
 cases x with
 | tmp t=>exact r.slot' t
 | const v=>exact rfl
 | global g=>exact rfl
 | func f=>exact rfl
def Rel.evalVal(r:Rel s0 n θ st h a W){x:aH}{v:aG}(e:C6 st x= .val v):a.eval x=v:=by
 have:=r.eval x;rw [e] at this;exact this
def Rel.evalOwn(r:Rel s0 n θ st h a W){x:aH}{k off:Nat}(e:C6 st x= .own k off):a.eval x= .pointer (some ⟨θ k,off,none⟩):=by
 have:=r.eval x;rw [e] at this;exact this
def Rel.evalRho(r:Rel s0 n θ st h a W){x:aH}(e:(C6 st x).isVal=true):a.eval x=rho st x:=by
 unfold rho
 cases y:C6 st x with
 | val v=>exact r.evalVal y
 | own k off=>rw [y] at e;cases e
 | any=>rw [y] at e;cases e
def Rel.evalAll(r:Rel s0 n θ st h a W){xs:List aH}(e:J9 st xs=true):∀ x∈xs,a.eval x=rho st x:=
 fun x b=>r.evalRho (List.all_eq_true.1 e x b)
def Rel.exec(r:Rel s0 n θ st h a W){o:aO}(hs:∀ cs b,o.op ≠ .select cs b)(e:J9 st o.op.operands.toList=true):execOp a.eval o=execOp (rho st) o:=
 execOp_congr o hs fun x c=>r.evalAll e x gz0
def Fp(r:Rel s0 n θ st h a W){o:aO}{C:aT->Prop}(hs:∀ cs b,o.op ≠ .select cs b)(hv:Dt P o st C):
 ∃ v u,C v/\rel θ v u/\(∀ k off,v= .own k off->(st.own k).isSome=true)/\(execOp a.eval o).run P W= .ok (.value u) W:=by
 unfold Dt at hv
 split at hv
 ·rename_i e
  split at hv
  ·rename_i v c
   refine ⟨.val v,v,hv,rfl,(fun _ _ e=>by cases e),?_⟩
   rw [r.exec hs e];exact Ib _ c W
  grind
 grind
def Ec{t:aJ}{b:Bool}(h:Er P t=some b)(W:aD):(isAgg t).run P W= .ok b W:=by
 unfold Er at h
 unfold isAgg
 cases hu:P.underlying t with
 | none=>grind
 | some d=>
  rw [hu] at h
  simp only [Sem.run_bind,run_underlying hu,aC]
  cases d<;>simp at h<;>subst h<;>rfl
def H8{t:aJ}(h:(P.info? t).isSome=true)(W:aD):(sizeOf t).run P W= .ok (P.cellsOf t) W:=by
 obtain ⟨i,a⟩:=Option.isSome_iff_exists.1 h
 simp [sizeOf,typeInfo,program,Program.cellsOf,a,Sem.run_bind,Sem.run]
def Ln{t:aJ}{d:TypeDesc}(h:P.underlying t=some d):(P.info? t).isSome=true:=by
 unfold Program.underlying at h
 grind
def Di{t:aJ}{b:Bool}(h:Er P t=some b):(P.info? t).isSome=true:=by
 unfold Er at h
 cases hu:P.underlying t with
 | none=>grind
 | some d=>exact Ln hu
def cellsAt.out{a:Addr}{X:Prop}: ∀ {vs:List aG} {j:Nat},cellsAt h a j vs X->X/\∀ i v,vs[i]? = some v->h.cell? (a.add (j+i))=some v:=by
 intro vs
 induction vs with
 | nil=>exact fun x=>⟨x,fun i v e=>by simp at e⟩
 | cons u vs ih=>
  intro j ⟨h1,h2⟩
  obtain ⟨b,c⟩:=ih h2
  refine ⟨b,fun i v e=>?_⟩
  cases i with
  | zero=>grind
  | succ i=>grind
def Cx(hs:Sim h W){t:aJ}{ad:Addr}{C:aT->Prop}(hv:O0 P t ad h C):
 ∃ v,C (.val v)/\(aL t (.pointer (some ad))).run P W= .ok v W:=by
 unfold O0 at hv
 split at hv
 ·rename_i a
  split at hv
  ·obtain ⟨i,hv⟩:=hv.both
   obtain ⟨f,g,hv⟩:=exL.out hv
   obtain ⟨c,d⟩:=hv.out
   refine ⟨_,c,?_⟩
   have b:f.length=P.cellsOf t:=by simp_all
   have:=run_loadCells_list (P:=P) (w:=W) ad f (fun j v e=>hs.cell gz0)
   simp only [aL,aE,loadVar,Sem.run_bind,Sem.run_pure,Ec a,aC,if_true,H8 (Di a),<- b,this]
  grind
 ·rename_i a
  obtain ⟨v,c,hv⟩:=exV.out hv
  refine ⟨v,hv,?_⟩
  simp only [aL,aE,loadVar,Sem.run_bind,Sem.run_pure,Ec a,aC,if_false,aS]
  simp only [load,Sem.run,hs.cell c]
 grind
def Rel.ownCell(r:Rel s0 n θ st h a W){k:Nat}{cs:List aG}(e:st.own k=some cs){off:Nat}{v:aG}(hv:cs[off]? = some v):W.cell? ⟨θ k,off,none⟩=some v:=by
 obtain ⟨t,b,_⟩:=r.own k cs e
 simp [World.cell?,b,hv]
def Ae(b off j:Nat):(Addr.add ⟨b,off,none⟩ j)=⟨b,off+j,none⟩:=by
 unfold Addr.add;grind
def Z6(r:Rel s0 n θ st h a W){t:aJ}{k off:Nat}{cs:List aG}(e:st.own k=some cs){C:aT->Prop}(hv:N8 P t cs off C):
 ∃ v,C (.val v)/\(aL t (.pointer (some ⟨θ k,off,none⟩))).run P W= .ok v W:=by
 unfold N8 at hv
 split at hv
 ·rename_i b
  obtain ⟨c,hv⟩:=hv.both
  simp only [aF] at c
  have f:=aK c.2
  refine ⟨_,hv,?_⟩
  have d:((cs.drop off).take (P.cellsOf t)).length=P.cellsOf t:=gz0
  have:=run_loadCells_list (P:=P) (w:=W) ⟨θ k,off,none⟩ ((cs.drop off).take (P.cellsOf t)) (fun j v i=>by
   rw [Ae]
   refine r.ownCell e ?_
   grind)
  rw [d] at this
  simp only [aL,aE,loadVar,Sem.run_bind,Sem.run_pure,Ec b,aC,if_true,H8 (Di b),this]
 ·rename_i b
  split at hv
  ·rename_i v g
   refine ⟨v,hv,?_⟩
   simp only [aL,aE,loadVar,Sem.run_bind,Sem.run_pure,Ec b,aC,if_false,aS]
   simp only [load,Sem.run,r.ownCell e g]
  grind
 grind
def Rel.evalWf(r:Rel s0 n θ st h a W){x:aH}: ∀ k off,C6 st x= .own k off->(st.own k).isSome=true:=by
 intro k off e
 cases x with
 | tmp t=>exact r.wf t k off e
 | _=>cases e
def QOut(P:aV)(θ:Nat->Nat)(st:VS)(a:Act)(W:aD)(o:aO)(C:aT->Prop):Prop:=
 ∃ v u,C v/\rel θ v u/\(∀ k off,v= .own k off->(st.own k).isSome=true)/\(execOp a.eval o).run P W= .ok (.value u) W
def QOut.val{o:aO}{C:aT->Prop}{v:aG}(hc:C (.val v))(hr:(execOp a.eval o).run P W= .ok (.value v) W):QOut P θ st a W o C:=
 ⟨.val v,v,hc,rfl,(fun _ _ e=>by cases e),hr⟩
def slBound.out{v:Option aT}{dflt y:Nat}{C:Nat->Prop}(hb:slBound v dflt y C):
 (v=none/\C dflt)\/∃ k i,v=some (.val (.int k i))/\0<=i/\i<=(y:Int)/\C i.toNat:=by
 unfold slBound at hb
 grind
def J6{k:IntKind}{i:Int}{y:Nat}(h0:0<=i)(h1:i<=(y:Int))(c:BoundsCode)(W:aD):(aW (.int k i) y c).run P W= .ok i.toNat W:=by
 simp [aW,asIntOf,h0,h1]
def T1(r:Rel s0 n θ st h a W){isS:Bool}{len cap:Nat}{lo hi:Option aH}{C:Nat->Nat->Prop}
 (hb:slBound (hi.map (C6 st)) len cap fun h=>slBound (lo.map (C6 st)) 0 h fun l=>C l h):
 ∃ l h',C l h'/\(aN isS len cap (lo.map a.eval) (hi.map a.eval) none).run P W= .ok (l,h',cap) W:=by
 have b:∀ h',(slBound (lo.map (C6 st)) 0 h' fun l=>C l h')->∃ l,C l h'/\
  (match lo.map a.eval with
   | some v=>aW v h' .sliceB
   | none=>(pure 0:Sem Nat)).run P W= .ok l W:=by
  intro h' hb
  rcases hb.out with ⟨e,c⟩|⟨k,i,e,g,f,c⟩
  ·simp_all
  ·cases lo with
   | none=>simp at e
   | some x=>
    simp only [aP,Option.some.injEq] at e
    exact ⟨_,c,by simp only [aP,r.evalVal e];exact J6 g f _ W⟩
 rcases hb.out with ⟨e,c⟩|⟨k,i,e,g,f,c⟩
 ·cases hi with
  | none=>
   obtain ⟨l,j,d⟩:=b _ c
   refine ⟨l,len,j,?_⟩
   unfold aN
   cases lo with
   | none=>simp_all
   | some y=>simp_all
  | some x=>simp at e
 ·cases hi with
  | none=>simp at e
  | some x=>
   simp only [aP,Option.some.injEq] at e
   obtain ⟨l,j,d⟩:=b _ c
   refine ⟨l,i.toNat,j,?_⟩
   unfold aN
   cases lo with
   | none=>simp at d;simp [r.evalVal e,J6 g f,d]
   | some y=>simp only [aP] at d;simp [r.evalVal e,J6 g f,d]
def Qh(r:Rel s0 n θ st h a W){o:aO}{t:aJ}{x:aH}{lo hi:Option aH}(hop:o.op= .slice t x lo hi none){C:aT->Prop}
 (hv:Y9 P t (C6 st x) (lo.map (C6 st)) (hi.map (C6 st)) C):QOut P θ st a W o C:=by
 unfold Y9 at hv
 split at hv
 ·rename_i s g i
  obtain ⟨l,b,d,f⟩:=T1 (P:=P) (isS:=false) r (C:=fun l b=>C (.val (.string (s.extract l b)))) hv
  refine QOut.val d ?_
  simp [execOp,hop,aQ,Instr.slice,run_underlying g,r.evalVal i,f]
 ·rename_i e A m c g i
  obtain ⟨hi,hv⟩:=hv.both
  obtain ⟨l,b,d,f⟩:=T1 (P:=P) (isS:=true) r (C:=fun l b=>C (.val (.slice (N3 A c l (P.cellsOf e)) (b-l) (c-l)))) hv
  refine QOut.val d ?_
  simp [execOp,hop,aQ,Instr.slice,run_underlying g,r.evalVal i,f,H8 hi,N3]
 ·rename_i m e j g i
  obtain ⟨hi,hv⟩:=hv.both
  obtain ⟨l,b,d,f⟩:=T1 (P:=P) (isS:=false) r (C:=fun l b=>C (.val (.slice (N3 (some j) m l (P.cellsOf e)) (b-l) (m-l)))) hv
  refine QOut.val d ?_
  simp [execOp,hop,aQ,run_underlying g,r.evalVal i,f,H8 hi,N3,aE]
  grind
 grind
def No(r:Rel s0 n θ st h a W){o:aO}{t:aJ}{x lo hi mx:aH}(hop:o.op= .slice t x (some lo) (some hi) (some mx)){C:aT->Prop}
 (hv:Ds P t (C6 st x) (C6 st lo) (C6 st hi) (C6 st mx) C):QOut P θ st a W o C:=by
 unfold Ds at hv
 split at hv
 ·rename_i e A m c s l u w y b p q d g f
  obtain ⟨hi,j,i,k,hv⟩:=hv.both
  refine QOut.val hv ?_
  simp [execOp,hop,aQ,Instr.slice,aN,run_underlying p,r.evalVal q,r.evalVal d,r.evalVal g,r.evalVal f,J6 j.1 j.2,J6 i.1 i.2,J6 k.1 k.2,H8 hi,N3]
 grind
def Ih(r:Rel s0 n θ st h a W){o:aO}{t:aJ}{x i:aH}(hop:o.op= .indexAddr t x i){C:aT->Prop}
 (hv:I9 P t (C6 st x) (C6 st i) C):QOut P θ st a W o C:=by
 unfold I9 at hv
 split at hv
 ·rename_i len e k d _ m g f p
  obtain ⟨l,hv⟩:=hv.both
  by_cases b:0<=m/\m<(len:Int)
  ·have hv:C (.own k (d+m.toNat*P.cellsOf e)):=by
    have:decide (0<=m/\m<(len:Int))=true:=decide_eq_true b
    rw [this] at hv;exact hv
   refine ⟨_,.pointer (some ⟨θ k,d+m.toNat*P.cellsOf e,none⟩),hv,rfl,(fun z q w=>by cases w;exact r.evalWf _ _ f),?_⟩
   have:=Ae (θ k) d (m.toNat*P.cellsOf e)
   simp [execOp,hop,aX,run_underlying g,r.evalOwn f,r.evalVal p,asIntOf,aE,H8 l,b.1,b.2,this]
  ·have:decide (0<=m/\m<(len:Int))=false:=decide_eq_false b
   rw [this] at hv;exact hv.elim
 ·rename_i len e y _ m g f p
  obtain ⟨l,b,hv⟩:=hv.both
  refine QOut.val hv ?_
  simp [execOp,hop,aX,run_underlying g,r.evalVal f,r.evalVal p,asIntOf,aE,H8 l,b.1,b.2]
 ·rename_i e A m c _ j g f p
  obtain ⟨l,y,rfl,u,s,hv⟩:=hv.both
  refine QOut.val hv ?_
  simp [execOp,hop,aX,run_underlying g,r.evalVal f,r.evalVal p,asIntOf,H8 l,u,s]
 grind
def A0o{W:aD}{xs ys:Array aG}{f:Field}{b:Bool}{d:Nat}(h:A7t P f xs ys=some b):
 f.name ≠ "_" /\∃ a c,(part f.type xs f.offset).run P W= .ok a W/\(part f.type ys f.offset).run P W= .ok c W/\(aR (d+1) f.type a c).run P W= .ok b W:=by
 unfold A7t at h
 split at h
 ·rename_i a c e i g
  split at h
  ·cases h
  ·cases h
   refine ⟨gz0,.string a,.string c,?_,?_,?_⟩
   ·simp [part,isAgg,Sem.run_bind,run_underlying e,i]
   ·simp [part,isAgg,Sem.run_bind,run_underlying e,g]
   ·unfold aR
    simp [Sem.run_bind,run_underlying e]
    exact beq_toListBytes a c
 ·cases h
def Wn{W:aD}{xs ys:Array aG}{dep:Nat}(l:List Field):∀ {b:Bool},A0n P l xs ys=some b->
 (forIn (m:=Sem) l ((none,()):Option Bool × PUnit) (fun f _=>
          if f.name ≠ "_" then do
           let x<-part f.type xs f.offset
           let y<-part f.type ys f.offset
           let e<-aR (dep+1) f.type x y
           if (!e)=true then pure (ForInStep.done (some false,()))
            else pure (ForInStep.yield (none,()))
          else pure (ForInStep.yield (none,())))).run P W= .ok (if b then (none,()) else (some false,())) W:=by
 induction l with
 | nil=>intro b h;cases h;simp
 | cons f l ih=>
  intro b h
  unfold A0n at h
  split at h
  ·rename_i u v i k
   cases h
   obtain ⟨a,p,q,g,c,j⟩:=A0o (W:=W) (d:=dep) i
   rw [List.forIn_cons]
   simp only [iP a,Sem.run_bind,g,c,j,aC]
   cases u with
   | false=>simp
   | true=>
    simp_all
  ·cases h
def Yu{t:aJ}{xs ys:Array aG}{C:Bool->Prop}(hv:Nd P t xs ys C):∃ b,(∀ W,(Op.equal t (.agg xs) (.agg ys)).run P W= .ok b W)/\P.eqGuardType P.depth t=false/\C b:=by
 unfold Nd at hv
 split at hv
 ·rename_i e d
  obtain ⟨a,hv⟩:=hv.both
  simp only [aF,Bool.not_eq_true'] at a
  split at hv
  ·rename_i b f
   refine ⟨b,fun W=>?_,a.2,hv⟩
   have c:aM=(aM-2)+1+1:=rfl
   unfold Op.equal
   rw [c]
   generalize aM-2=dep
   unfold aR
   simp only [Sem.run_bind,run_underlying d,aC]
   simp only [program,Sem.run,aC,a.1,aS,if_false]
   rw [<- Array.forIn_toList,Sem.run_bind,Wn e.toList f,aC]
   cases b<;>simp
  grind
 grind
def Zm(r:Rel s0 n θ st h a W){o:aO}{op:BinOp}{t t':aJ}{x y:aH}(hop:o.op= .binOp op t x y t'){C:aT->Prop}
 (hv:Cr P o st op t (C6 st x) (C6 st y) C):QOut P θ st a W o C:=by
 have j:∀ cs b,o.op ≠ .select cs b:=gz0
 unfold Cr at hv
 have l:∀ {A:Option Addr} {m p q s:Nat},Co P t=true->(Op.equal t (.slice A m p) (.slice none q s)).run P W= .ok A.isNone W:=by
  intro A m p q s G
  unfold Co at G
  cases hu:P.underlying t with
  | none=>grind
  | some d=>
   cases d<;>first|grind|skip
   have D:aM=(aM-1)+1:=rfl
   unfold Op.equal
   rw [D]
   generalize aM-1=dep
   cases A<;>(unfold aR;simp [run_underlying hu])
 split at hv
 ·rename_i F E f e
  obtain ⟨b,z,w,c⟩:=Yu hv
  refine QOut.val c ?_
  simp [execOp,hop,eqGuard,binOp,r.evalVal f,r.evalVal e,z,w]
 ·rename_i F E f e
  obtain ⟨b,z,w,c⟩:=Yu hv
  refine QOut.val c ?_
  simp [execOp,hop,eqGuard,binOp,r.evalVal f,r.evalVal e,z,w]
 ·rename_i A m p q s f e
  obtain ⟨i,c⟩:=hv.both
  refine QOut.val c ?_
  simp [execOp,hop,eqGuard,binOp,r.evalVal f,r.evalVal e,l i]
 ·rename_i A m p q s f e
  obtain ⟨i,c⟩:=hv.both
  refine QOut.val c ?_
  simp [execOp,hop,eqGuard,binOp,r.evalVal f,r.evalVal e,l i]
 ·rename_i k u B v f e
  obtain ⟨i,c⟩:=hv.both
  have i:=eq_of_beq i;subst i
  by_cases g:v=0
  ·rw [decide_eq_true g] at c;exact c.elim
  ·rw [decide_eq_false g] at c
   refine QOut.val c ?_
   simp [execOp,hop,eqGuard,binOp,Op.intDiv,g,r.evalVal f,r.evalVal e]
 ·rename_i k u B v f e
  obtain ⟨i,c⟩:=hv.both
  have i:=eq_of_beq i;subst i
  by_cases g:v=0
  ·rw [decide_eq_true g] at c;exact c.elim
  ·rw [decide_eq_false g] at c
   refine QOut.val c ?_
   simp [execOp,hop,eqGuard,binOp,Op.intDiv,g,r.evalVal f,r.evalVal e]
 ·rename_i k u B v f e
  by_cases g:v<0
  ·rw [decide_eq_true g] at hv;exact hv.elim
  ·rw [decide_eq_false g] at hv
   refine QOut.val hv ?_
   simp [execOp,hop,eqGuard,binOp,Op.shift,g,r.evalVal f,r.evalVal e]
 ·rename_i k u B v f e
  by_cases g:v<0
  ·rw [decide_eq_true g] at hv;exact hv.elim
  ·rw [decide_eq_false g] at hv
   refine QOut.val hv ?_
   simp [execOp,hop,eqGuard,binOp,Op.shift,g,r.evalVal f,r.evalVal e]
 ·rename_i u v f e
  refine QOut.val hv.2 ?_
  have:¬ ((u.size+v.size:Nat):Int)>IntKind.i64.max:=by
   simp_all
  simp only [execOp,hop,eqGuard,binOp,Op.stringOp,r.evalVal f,r.evalVal e,iN this]
  simp
 ·exact Fp r j hv
def A3g(r:Rel s0 n θ st h a W){o:aO}{C:aT->Prop}(hsel:∀ cs b,o.op ≠ .select cs b)(hv:vcQ P o st h C):QOut P θ st a W o C:=by
 unfold vcQ at hv
 split at hv
 ·rename_i x d
  exact ⟨C6 st x,a.eval x,hv,r.eval x,r.evalWf,by simp [execOp,d]⟩
 ·rename_i x d
  exact ⟨C6 st x,a.eval x,hv,r.eval x,r.evalWf,by simp [execOp,d]⟩
 ·rename_i c x y d
  split at hv
  ·rename_i t w
   cases t
   ·exact ⟨C6 st y,a.eval y,hv,r.eval y,r.evalWf,by simp [execOp,d,r.evalVal w,asBool]⟩
   ·exact ⟨C6 st x,a.eval x,hv,r.eval x,r.evalWf,by simp [execOp,d,r.evalVal w,asBool]⟩
  grind
 ·rename_i t x d
  split at hv
  ·rename_i k m e
   split at hv
   ·rename_i cs M
    obtain ⟨v,z,D⟩:=Z6 r M hv
    exact QOut.val z (by simp [execOp,d,r.evalOwn e,D])
   grind
  ·rename_i G e
   obtain ⟨v,z,D⟩:=Cx r.sim hv
   exact QOut.val z (by simp [execOp,d,r.evalVal e,D])
  grind
 ·rename_i s x f d
  split at hv
  ·rename_i k m e
   split at hv
   ·rename_i O E
    split at hv
    ·rename_i u B
     obtain ⟨l,hv⟩:=hv.both
     simp only [aF] at l
     have g:P.cellsOf u.type≠0:=by have:=aK l.2;omega
     refine ⟨_,.pointer (some ⟨θ k,m+u.offset,none⟩),hv,rfl,(fun N q A=>by cases A;exact r.evalWf _ _ e),?_⟩
     simp [execOp,d,Instr.fieldAt,run_underlying E,B,r.evalOwn e,aE,fieldPlace,H8 l.1,g,Ae]
    grind
   grind
  ·rename_i G e
   split at hv
   ·rename_i O E
    split at hv
    ·rename_i u B
     obtain ⟨l,hv⟩:=hv.both
     simp only [aF] at l
     have g:P.cellsOf u.type≠0:=by have:=aK l.2;omega
     refine QOut.val hv ?_
     simp [execOp,d,Instr.fieldAt,run_underlying E,B,r.evalVal e,aE,fieldPlace,H8 l.1,g]
    grind
   grind
  grind
 ·rename_i x d
  split at hv
  ·rename_i k m e
   exact ⟨_,_,hv,rfl,(fun N q A=>by cases A;exact r.evalWf _ _ e),by simp [execOp,d,r.evalOwn e]⟩
  ·rename_i p e
   obtain ⟨G,rfl,hv⟩:=hv
   exact QOut.val hv (by simp [execOp,d,r.evalVal e])
  grind
 ·rename_i t x i d
  exact Ih r d hv
 ·rename_i t x i d
  split at hv
  ·rename_i s _ j H e F
   obtain ⟨c,⟨L,w⟩,hv⟩:=hv
   refine QOut.val hv ?_
   simp [execOp,d,Instr.index,run_underlying H,r.evalVal e,r.evalVal F,asIntOf,L,w]
  ·exact Fp r hsel hv
 ·rename_i t x Q F d
  exact Qh r d hv
 ·rename_i t x Q F S d
  exact No r d hv
 ·rename_i op t x y R d
  exact Zm r d hv
 ·exact hv.elim
 ·exact Fp r hsel hv
def A1d(a:Act)(d i:Nat)(u:aG)(hd:d<a.tmps.size):(a.put (some d) u).tmps.getD i undef=if i=d then u else a.tmps.getD i undef:=by
 simp only [Act.put,Array.getD,Array.size_setIfInBounds]
 by_cases h:i=d
 ·simp_all
 ·by_cases b:i<a.tmps.size
  ·simp [b,h,Ne.symm h]
  grind
def Rel.put(r:Rel s0 n θ st h a W){d:Nat}(hd:d<n){v:aT}{u:aG}(hv:rel θ v u)(hw:∀ k off,v= .own k off->(st.own k).isSome=true):Rel s0 n θ (st.put d v) h (a.put (some d) u) W:=by
 have f:d<a.tmps.size:=by rw [r.size];exact hd
 have b:∀ i,(st.put d v).env i=if i=d then v else st.env i:=by
  intro i
  by_cases e:i=d
  ·simp [VS.put]
  ·have:aU i d=false:=by cases x:aU i d with
    | false=>rfl
    | true=>simp_all
   simp [VS.put,this,e]
 refine ⟨r.defers,by simpa [Act.put] using r.size,fun i c=>?_,r.sim,r.own,r.inj,fun i k off e=>?_,fun i c=>?_⟩
 ·rw [b,A1d a d i u f]
  by_cases e:i=d
  ·grind
  ·simp only [e,if_false];exact r.slot i c
 ·rw [b] at e
  by_cases g:i=d
  ·rw [iP g] at e;exact hw k off e
  ·rw [iN g] at e;exact r.wf i k off e
 ·rw [b,iN o];exact r.out i c
def J1(st:VS)(d:Option Nat)(v:aT):(st.putO d v).own=st.own:=by cases d<;>rfl
def Rel.putO(r:Rel s0 n θ st h a W){cfg:Cfg}(hn:cfg.n=n){d:Option Nat}(hd:K6 cfg d=true){v:aT}{u:aG}(hv:rel θ v u)(hw:∀ k off,v= .own k off->(st.own k).isSome=true):
 Rel s0 n θ (st.putO d v) h (a.put d u) W:=by
 cases d with
 | none=>exact r
 | some d=>
  simp only [K6,Oh,aF] at hd
  exact r.put (by simp_all) hv hw
def Agree.putO{cfg:Cfg}{st:VS}{d:Option Nat}{v:aT}(hd:K6 cfg d=true):Agree cfg.lim st (st.putO d v):=by
 cases d with
 | none=>exact Agree.refl _ _
 | some d=>
  simp only [K6,Oh,aF] at hd
  refine ⟨fun i a=>?_,fun _ _=>rfl⟩
  have:aU i d=false:=by cases x:aU i d with
   | false=>rfl
   | true=>simp_all
  simp [VS.putO,VS.put,this]
def Rel.world(r:Rel s0 n θ st h a W){h':aI}{W':aD}(f:Fr h W h' W'):Rel s0 n θ st h' a W':=by
 refine ⟨r.defers.world f,r.size,r.slot,f.sim,fun k g e=>?_,r.inj,r.wf,r.out⟩
 obtain ⟨t,d,c⟩:=r.own k g e
 have b:θ k<W.heap.size:=by
  grind
 refine ⟨t,(f.keep _ b c).trans d,?_⟩
 cases x:h' (θ k) with
 | none=>rfl
 | some o=>have:=f.new _ o c x;omega
def Good.quiet{cfg:Cfg}(hn:cfg.n=n){h0:aI}{W0:aD}{o:aO}(g:Good n h0 W0 st h a W)(hd:K6 cfg o.dst=true)(hsel:∀ cs b,o.op ≠ .select cs b){K:VS->aI->Prop}
 (hv:vcQ P o st h fun v=>K (st.putO o.dst v) h) {Q:Exit->Act->aD->Prop}:
 Oper.wpX F fu P o a W (fun a' W'=>∃ st' h',K st' h'/\Good n h0 W0 st' h' a' W'/\Agree cfg.lim st st') Q:=by
 obtain ⟨θ,r,f,l⟩:=g
 obtain ⟨v,u,j,c,d,i⟩:=A3g r hsel hv
 unfold Oper.wpX
 rw [i,Oper.uponIn_value]
 refine ⟨_,h,j,⟨θ,r.putO hn hd c d,f,?_⟩,Agree.putO hd⟩
 exact fun k e=>l k (by rwa [J1] at e)
def Grow.out{gr:Bool}{h h':aI}{X:Prop}(x:Grow gr h h' X):X:=by
 cases gr
 ·exact x
 ·exact x.2
def Good.effV{cfg:Cfg}(hn:cfg.n=n){h0:aI}{W0:aD}{o:aO}(g:Good n h0 W0 st h a W)(hd:K6 cfg o.dst=true){s:Sem aG}{gr:Bool}{K:VS->aI->Prop}
 (hv:effV P s o gr st h K) (hex:∀ θ,Rel W0.heap.size n θ st h a W->(execOp a.eval o).run P W=(s.run P W).andThen fun v w=>.ok (.value v) w) {Q:Exit->Act->aD->Prop}:
 Oper.wpX F fu P o a W (fun a' W'=>∃ st' h',K st' h'/\Good n h0 W0 st' h' a' W'/\Agree cfg.lim st st') Q:=by
 obtain ⟨θ,r,f,j⟩:=g
 obtain ⟨v,W',h',i,b,c⟩:=Pz s _ h W hv r.sim
 obtain ⟨u,rfl,b⟩:=exT.out b
 unfold Oper.wpX
 rw [hex θ r,i,aC,Oper.uponIn_value]
 refine ⟨_,h',b.out,⟨θ,(r.world c).putO hn hd (v:=.val v) rfl (fun _ _ e=>by cases e),f.trans c,?_⟩,Agree.putO hd⟩
 exact fun k d=>j k (by rwa [J1] at d)
def Good.effP{cfg:Cfg}(hn:cfg.n=n){h0:aI}{W0:aD}{o:aO}(g:Good n h0 W0 st h a W)(hd:K6 cfg o.dst=true){s:Sem aG}{gr:Bool}{K:VS->aI->Prop}
 (hv:effP P s o gr st h K) (hex:∀ θ,Rel W0.heap.size n θ st h a W->(execOp a.eval o).run P W=(s.run P W).andThen fun v w=>.ok (.value v) w) {Q:Exit->Act->aD->Prop}:
 Oper.wpX F fu P o a W (fun a' W'=>∃ st' h',K st' h'/\Good n h0 W0 st' h' a' W'/\Agree cfg.lim st st') Q:=by
 obtain ⟨θ,r,f,j⟩:=g
 obtain ⟨v,W',h',i,b,c⟩:=Pz s _ h W hv r.sim
 obtain ⟨u,rfl,b⟩:=b
 unfold Oper.wpX
 rw [hex θ r,i,aC,Oper.uponIn_value]
 refine ⟨_,h',b.out,⟨θ,(r.world c).putO hn hd (v:=.val (.pointer (some u))) rfl (fun _ _ e=>by cases e),f.trans c,?_⟩,Agree.putO hd⟩
 exact fun k d=>j k (by rwa [J1] at d)
def Good.effU{cfg:Cfg}(hn:cfg.n=n){h0:aI}{W0:aD}{o:aO}(g:Good n h0 W0 st h a W)(hd:K6 cfg o.dst=true){s:Sem Unit}{gr:Bool}{K:VS->aI->Prop}
 (hv:effU P s o gr st h K) (hex:∀ θ,Rel W0.heap.size n θ st h a W->(execOp a.eval o).run P W=(s.run P W).andThen fun _ w=>.ok .skip w) {Q:Exit->Act->aD->Prop}:
 Oper.wpX F fu P o a W (fun a' W'=>∃ st' h',K st' h'/\Good n h0 W0 st' h' a' W'/\Agree cfg.lim st st') Q:=by
 obtain ⟨θ,r,f,j⟩:=g
 obtain ⟨v,W',h',d,i,b⟩:=Pz s _ h W hv r.sim
 unfold Oper.wpX
 rw [hex θ r,d,aC,Oper.uponIn_skip]
 refine ⟨_,h',i.out,⟨θ,(r.world b).putO hn hd (v:=.val undef) rfl (fun _ _ e=>by cases e),f.trans b,?_⟩,Agree.putO hd⟩
 exact fun k c=>j k (by rwa [J1] at c)
def Q0{l:List Nat}{d:Nat}:has l d=true↔d∈l:=by
 simp only [has,List.any_eq_true]
 simp_all
def Y3{i d:Nat}(h:i≠d):aU i d=false:=by
 cases x:aU i d with
 | false=>rfl
 | true=>simp_all
def P0(st:VS)(k:Nat)(cs:List aG):(st.setOwn k cs).own k=some cs:=by simp [VS.setOwn]
def E7(st:VS){k i:Nat}(cs:List aG)(h:i≠k):(st.setOwn k cs).own i=st.own i:=by simp [VS.setOwn,Y3 h]
def A1u(hs:Sim h W)(o:Obj):Fr h W h { W with heap:=W.heap.push o }:=by
 refine ⟨fun b a e=>?_,rfl,rfl,rfl,by simp,fun b d _=>?_,fun b a e c=>?_⟩
 ·have:=hs b a e
  grind
 ·grind
 grind
def Good.own{cfg:Cfg}(hn:cfg.n=n){h0:aI}{W0:aD}{o:aO}(g:Good n h0 W0 st h a W){cells:Array aG}{t:aJ}{K:VS->aI->Prop}
 (hv:Bk cfg o.dst cells.toList st h K) (hex:∀ θ,Rel W0.heap.size n θ st h a W->(execOp a.eval o).run P W= .ok (.value (.pointer (some ⟨W.heap.size,0,none⟩))) { W with heap:=W.heap.push (.cells cells t) }) {Q:Exit->Act->aD->Prop}:
 Oper.wpX F fu P o a W (fun a' W'=>∃ st' h',K st' h'/\Good n h0 W0 st' h' a' W'/\Agree cfg.lim st st') Q:=by
 obtain ⟨θ,r,f,hB⟩:=g
 unfold Bk at hv
 split at hv
 ·rename_i d N
  obtain ⟨w,V⟩:=hv.both
  simp only [Oh,aF,Option.isNone_iff_eq_none] at w
  obtain ⟨⟨⟨s,M⟩,L⟩,A⟩:=w
  have s:d<n:=by simp_all
  have E:=A1u r.sim (.cells cells t)
  unfold Oper.wpX
  rw [hex θ r,Oper.uponIn_value]
  have z:∀ k,(st.own k).isSome=true->θ k<W.heap.size:=by
   intro k l
   obtain ⟨C,e⟩:=Option.isSome_iff_exists.1 l
   obtain ⟨S,T,_⟩:=r.own k C e
   grind
  let θ':Nat->Nat:=fun k=>if k=d then W.heap.size else θ k
  have hθ:∀ k,(st.own k).isSome=true->θ' k=θ k:=by
   grind
  have q:∀ v u,(∀ k c,v= .own k c->(st.own k).isSome=true)->rel θ v u->rel θ' v u:=by
   intro v u X y
   cases v with
   | own k c=>simp only [rel,hθ k (X k c rfl)];exact y
   | _=>exact y
  have B:h W.heap.size=none:=by
   cases x:h W.heap.size with
   | none=>rfl
   | some o'=>have:=r.sim _ _ x;grind
  have R:Rel W0.heap.size n θ' (st.setOwn d cells.toList) h a { W with heap:=W.heap.push (.cells cells t) }:=by
   refine ⟨r.defers.world E,r.size,fun i H=>q _ _ (fun k c e=>r.wf i k c e) (r.slot i H),E.sim,fun k C e=>?_,fun k D l j e=>?_,fun i k c e=>?_,r.out⟩
   ·by_cases b:k=d
    ·subst b
     rw [P0] at e
     injection e with e;subst e
     exact ⟨t,by simp [θ'],gz0⟩
    ·rw [E7 _ _ b] at e
     obtain ⟨S,T,O⟩:=r.own k C e
     grind
   ·by_cases b:k=d<;>by_cases m:D=d
    ·omega
    ·rw [E7 _ _ m] at j
     grind
    ·rw [E7 _ _ b] at l
     grind
    ·rw [E7 _ _ b] at l
     rw [E7 _ _ m] at j
     rw [hθ k l,hθ D j] at e
     exact r.inj k D l j e
   ·have:=r.wf i k c e
    have b:k≠d:=gz0
    rw [E7 _ _ b];exact this
  have r2:=R.put s (v:=.own d 0) (u:=.pointer (some ⟨W.heap.size,0,none⟩)) (by simp [rel,θ']) (fun k c e=>by cases e;rw [P0];rfl)
  refine ⟨_,h,V,⟨θ',by rw [N];exact r2,f.trans E,fun k l=>?_⟩,fun i H=>?_,fun i H=>?_⟩
  ·by_cases b:k=d
   ·simp only [θ',b,if_true];exact f.size
   ·have l:(st.own k).isSome=true:=by
     have:((st.put d (.own d 0)).setOwn d cells.toList).own k=st.own k:=E7 _ _ b
     grind
    grind
  ·have p:i≠d:=gz0
   simp [VS.setOwn,VS.put,Y3 p]
  ·have p:i≠d:=gz0
   exact E7 _ _ p
 grind
def Ju(cur:List aG)(p:Nat)(v:aG)(vs:List aG)(hp:p<cur.length):H0 (cur.set p v) (p+1) vs=H0 cur p (v::vs):=by
 have e:cur.set p v=cur.take p++v::cur.drop (p+1):=by rw [List.set_eq_take_append_cons_drop,iP hp]
 have a:(cur.set p v).drop (p+1+vs.length)=cur.drop (p+(v::vs).length):=by
  rw [List.drop_set_of_lt o];congr 1;grind
 unfold H0
 grind
def Eb(b:Nat)(t:aJ):∀ (vs:List aG) (i:Nat) (cur:List aG) (W:aD) (off:Nat),W.heap[b]? = some (.cells cur.toArray t (0,0))->off+i+vs.length<=cur.length->(∀ v∈vs,Qx v=true)->
 ∃ W',(storeCells ⟨b,off,none⟩ vs i).run P W= .ok () W'/\W'.heap[b]? = some (.cells (H0 cur (off+i) vs).toArray t (0,0))/\W'.os=W.os/\W'.tape=W.tape/\W'.output=W.output/\W'.heap.size=W.heap.size/\∀ k,k≠b->W'.heap[k]? = W.heap[k]? :=by
 intro vs
 induction vs with
 | nil=>
  intro i cur W off c m _
  refine ⟨W,by rfl,?_,rfl,rfl,rfl,rfl,fun _ _=>rfl⟩
  rw [c];simp [H0]
 | cons v vs ih=>
  intro i cur W off c m n
  simp only [List.length_cons] at m
  have a:W.cell? ⟨b,off+i,none⟩=some (cur[off+i]'o):=by
   simp [World.cell?,c,List.getElem?_eq_getElem (show off+i<cur.length from o)]
  have g:W.frozen? ⟨b,off+i,none⟩=false:=by simp [World.frozen?,c]
  have d:(W.setCell ⟨b,off+i,none⟩ v).heap[b]? = some (.cells ((cur.set (off+i) v).toArray) t (0,0)):=by
   simp [World.setCell,Array.getElem?_modify,c]
  obtain ⟨W',s,f,q,y,r,w,p⟩:=ih (i+1) (cur.set (off+i) v) (W.setCell ⟨b,off+i,none⟩ v) off d gz0 (fun u x=>n u (by simp [x]))
  refine ⟨W',?_,?_,q,y,r,by rw [w];simp [World.setCell],fun k l=>(p k l).trans (Bo W _ v k l)⟩
  ·have j:=n v (by simp)
   have e:(store (Addr.add ⟨b,off,none⟩ i) v).run P W= .ok () (W.setCell ⟨b,off+i,none⟩ v):=by
    rw [Ae]
    cases v<;>first|(simp [Qx] at j;done)|simp [store,Sem.run,a,g]
   simp only [storeCells,Sem.run_bind,e,aC,s]
  ·rw [f]
   congr 2
   apply congrArg
   exact Ju cur (off+i) v vs o
def Good.ownStore{cfg:Cfg}(hn:cfg.n=n){h0:aI}{W0:aD}{o:aO}{t:aJ}{x y:aH}(hop:o.op= .store t x y)(g:Good n h0 W0 st h a W)(hd:K6 cfg o.dst=true){k off:Nat}(hx:C6 st x= .own k off){cs:List aG}(hk:st.own k=some cs){K:VS->aI->Prop}
 (hv:When ((C6 st y).isVal&&Ok cfg.lim k&&(P.info? t).isSome&&aU (rho st y).cells.size (P.cellsOf t)&&Nat.ble (off+P.cellsOf t) cs.length&&A6r (rho st y).cells.toList)
    (K ((st.setOwn k (H0 cs off (rho st y).cells.toList)).putO o.dst (.val undef)) h)) {Q:Exit->Act->aD->Prop}:
 Oper.wpX F fu P o a W (fun a' W'=>∃ st' h',K st' h'/\Good n h0 W0 st' h' a' W'/\Agree cfg.lim st st') Q:=by
 obtain ⟨θ,r,f,hB⟩:=g
 obtain ⟨z,hK⟩:=hv.both
 simp only [aF] at z
 obtain ⟨⟨⟨⟨⟨hy,O⟩,l⟩,m⟩,u⟩,s⟩:=z
 have m:=Nat.eq_of_beq_eq_true m
 have u:=aK u
 obtain ⟨tb,E,S⟩:=r.own k cs hk
 obtain ⟨W',D,aa,w,h3,h4,h5,H⟩:=Eb (P:=P) (θ k) tb (rho st y).cells.toList 0 cs W off E gz0 (fun v hv=>List.all_eq_true.1 s v hv)
 have q:(execOp a.eval o).run P W= .ok .skip W':=by
  simp [execOp,hop,Instr.storeAt,r.evalOwn hx,aE,storeVar,r.evalRho hy,H8 l,m,D]
 unfold Oper.wpX
 rw [q,Oper.uponIn_skip]
 have d:Sim h W':=fun b G e=>by
  have p:b≠θ k:=gz0
  rw [H b p];exact r.sim b G e
 have V:Rel W0.heap.size n θ (st.setOwn k (H0 cs off (rho st y).cells.toList)) h a W':=by
  have c:∀ j,((st.setOwn k (H0 cs off (rho st y).cells.toList)).own j).isSome=(st.own j).isSome:=by
   intro j
   by_cases e:j=k
   ·subst e;rw [P0,hk];rfl
   ·rw [E7 _ _ e]
  refine ⟨r.defers.turn fun r' D e=>⟨D,gz0⟩,r.size,r.slot,d,fun j C e=>?_,fun j T N w e=>?_,fun i j G e=>by rw [c];exact r.wf i j G e,r.out⟩
  ·by_cases B:j=k
   ·subst B
    rw [P0] at e;grind
   ·rw [E7 _ _ B] at e
    obtain ⟨X,M,L⟩:=r.own j C e
    refine ⟨X,?_,L⟩
    rw [H _ (fun e'=>B (r.inj j k gz0 gz0 e'))];exact M
  ·rw [c] at N w;exact r.inj j T N w e
 have A:Fr h0 W0 h W':=by
  refine ⟨d,w.trans f.os,h3.trans f.tape,h4.trans f.output,gz0,fun b z e=>?_,f.new⟩
  have:=hB k gz0
  rw [H b oo];exact f.keep b z e
 refine ⟨_,h,hK,⟨θ,V.putO hn hd (v:=.val undef) rfl (fun _ _ e=>by cases e),A,fun j R=>?_⟩,Agree.trans (b:=st.setOwn k (H0 cs off (rho st y).cells.toList)) ⟨fun _ _=>rfl,fun i hi=>?_⟩ (Agree.putO hd)⟩
 ·rw [J1] at R
  by_cases e:j=k
  ·grind
  ·rw [E7 _ _ e] at R;grind
 ·exact E7 _ _ (fun e=>gz0)
def Bodies(P:aV)(fns:List Nat):Prop:=∀ g,g∈fns->∀ args W,(callFunc g args).run P W= .ok (.enter g args) W
def exRt.out{t:aJ}{K:aG->Prop}(x:exRt P t K):∃ v,K v:=by
 unfold exRt at x
 split at x
 ·obtain ⟨b,a⟩:=exTs.out x;grind
 ·exact exT.out x
def Ie(r:Rel s0 n θ st h a W){xs:Array aH}(e:J9 st xs.toList=true):xs.map a.eval=xs.map (rho st):=by
 apply Array.ext
 ·simp
 ·intro i b c
  simp only [Array.getElem_map]
  exact r.evalAll e _ (by simp)
def Good.call[FOk F]{cfg:Cfg}(hn:cfg.n=n)(hfn:Bodies P cfg.fns){h0:aI}{W0:aD}{o:aO}{c:Call}{x:aH}(hop:o.op= .call c)(hcl:c.callee= .value x)(g:Good n h0 W0 st h a W)(hd:K6 cfg o.dst=true){gr:Bool}{K:VS->aI->Prop}
 (hv:Sc P cfg o c (C6 st x) gr st h K) {Q:Exit->Act->aD->Prop}:
 Oper.wpX F fu P o a W (fun a' W'=>∃ st' h',K st' h'/\Good n h0 W0 st' h' a' W'/\Agree cfg.lim st st') Q:=by
 obtain ⟨θ,r,f,C⟩:=g
 unfold Sc at hv
 split at hv
 ·rename_i D first b z
  split at hv
  ·rename_i s
   obtain ⟨w,hv⟩:=hv.both
   have d:(execOp a.eval o).run P W= .ok (.enter D (first++c.args.map (rho st)++b)) W:=by
    simp [execOp,hop,resolve,hcl,r.evalVal z,Deferred.ofValue,invoke,hfn D (Q0.1 s),Ie r w]
   unfold Oper.wpX
   rw [d,Oper.uponIn_enter]
   refine ⟨fun i=>(by rw [FOk.depth] at i;cases i),(A00 (hv W r.sim)).mono fun e W' ⟨v,h',B,j,p⟩=>?_⟩
   subst B
   obtain ⟨u,rfl,j⟩:=j.out
   refine ⟨_,h',j.out,⟨θ,(r.world p).putO hn hd (v:=.val v) rfl (fun _ _ e=>by cases e),f.trans p,?_⟩,Agree.putO hd⟩
   exact fun k q=>C k (by rwa [J1] at q)
  ·obtain ⟨w,hv⟩:=hv.both
   obtain ⟨v,W',h',G,j,p⟩:=hv W r.sim
   have d:(execOp a.eval o).run P W= .ok (.value v) W':=by
    rw [<- G]
    simp [execOp,hop,resolve,hcl,r.evalVal z,Deferred.ofValue,invoke,Ie r w]
   obtain ⟨u,rfl,j⟩:=j.out
   unfold Oper.wpX
   rw [d,Oper.uponIn_value]
   refine ⟨_,h',j.out,⟨θ,(r.world p).putO hn hd (v:=.val v) rfl (fun _ _ e=>by cases e),f.trans p,?_⟩,Agree.putO hd⟩
   exact fun k q=>C k (by rwa [J1] at q)
 ·rename_i l first b z
  obtain ⟨w,hv⟩:=hv.both
  obtain ⟨fn,y,A,t,E,m⟩:=hv W r.sim
  have d:(execOp a.eval o).run P W= .ok (.round l fn y A t) W:=by
   rw [<- E]
   simp [execOp,hop,resolve,hcl,r.evalVal z,Deferred.ofValue,invoke,Ie r w]
  unfold Oper.wpX
  rw [d,Oper.uponIn_round]
  refine ⟨fun i=>(by rw [FOk.depth] at i;cases i),(FOk.round (m _)).mono fun e W' ⟨v,h',B,j,p⟩=>?_⟩
  subst B
  obtain ⟨u,rfl,j⟩:=j.out
  refine ⟨_,h',j.out,⟨θ,(r.world p).putO hn hd (v:=.val v) rfl (fun _ _ e=>by cases e),f.trans p,?_⟩,Agree.putO hd⟩
  exact fun k q=>C k (by rwa [J1] at q)
 grind
def Ji{t:aJ}(hz:Vu P t=true)(W:aD):(zeroValue t).run P W= .ok (Gj P t) W:=by
 unfold Vu at hz
 cases hi:P.info? t with
 | none=>grind
 | some i=>
  rw [hi] at hz
  obtain ⟨z,e⟩:=Option.isSome_iff_exists.1 hz
  simp [zeroValue,typeInfo,program,hi,Sem.run_bind,Sem.run,e,Gj]
def Good.core[FOk F]{cfg:Cfg}(hn:cfg.n=n)(hfn:Bodies P cfg.fns){h0:aI}{W0:aD}{o:aO}(g:Good n h0 W0 st h a W){gr:Bool}{K:VS->aI->Prop}
 (hv:N7 P cfg o gr st h K) {Q:Exit->Act->aD->Prop}:
 Oper.wpX F fu P o a W (fun a' W'=>∃ st' h',K st' h'/\Good n h0 W0 st' h' a' W'/\Agree cfg.lim st st') Q:=by
 obtain ⟨q,hv⟩:=hv.both
 split at hv
 ·rename_i E
  have w:∀ B b,o.op ≠ .select B b:=fun B b e=>by simp [Hz,e] at E
  exact g.quiet hn q w hv
 ·split at hv
  ·rename_i t f
   split at hv
   ·obtain ⟨L,hv⟩:=hv.both
    refine g.own (P:=P) (t:=t) hn hv fun θ r=>?_
    simp [execOp,f,Instr.alloc,Ji L,newVar,newRow,newObj,Sem.run]
   ·exact g.effP hn q hv fun θ r=>by simp [execOp,f]
  ·rename_i t x f
   obtain ⟨j,hv⟩:=hv.both
   split at hv
   ·refine g.own (P:=P) (t:=t) hn hv fun θ r=>?_
    simp [execOp,f,Instr.box,r.evalRho j,newVar,newRow,newObj,Sem.run]
   ·exact g.effP hn q hv fun θ r=>by simp [execOp,f,r.evalRho j]
  ·rename_i t x y f
   unfold Qa at hv
   split at hv
   ·rename_i k G j
    split at hv
    ·rename_i B D
     exact g.ownStore hn f q j D hv
    grind
   ·rename_i p j
    obtain ⟨H,hv⟩:=hv.both
    exact g.effU hn q hv fun θ r=>by simp [execOp,f,r.evalVal j,r.evalRho H]
   grind
  ·rename_i t l c f
   obtain ⟨j,hv⟩:=hv.both
   refine g.effV hn q hv fun θ r=>?_
   have z:=r.evalAll j l (by simp)
   have C:=r.evalAll j c (by simp)
   simp [execOp,f,z,C]
  ·rename_i t m A f
   obtain ⟨j,hv⟩:=hv.both
   refine g.effV hn q hv fun θ r=>?_
   have e:(A.map fun (i,x)=>(i,a.eval x))=A.map fun (i,x)=>(i,rho st x):=by
    apply Array.ext
    ·simp
    ·intro i z C
     simp only [Array.getElem_map]
     have:=r.evalAll j (A[i]'gz0).2 gz0
     rw [this]
   simp [execOp,f,e]
  ·rename_i s d x f
   obtain ⟨j,hv⟩:=hv.both
   refine g.effV hn q hv fun θ r=>?_
   have z:=r.evalAll j x (by simp)
   simp [execOp,f,z]
  ·rename_i c f
   split at hv
   ·rename_i x u
    exact g.call hn hfn f u q hv
   ·rename_i u
    obtain ⟨j,hv⟩:=hv.both
    exact g.effV hn q hv fun θ r=>by simp [execOp,f,resolve,u,invoke,builtin,Ie r j]
   ·rename_i u
    obtain ⟨j,hv⟩:=hv.both
    exact g.effV hn q hv fun θ r=>by simp [execOp,f,resolve,u,invoke,builtin,Ie r j]
   grind
  grind
def put_self(st:VS){g:Nat}{v:aT}(e:st.env g=v):st.put g v=st:=by
 unfold VS.put
 congr 1
 funext i
 by_cases h:i=g
 ·grind
 ·simp [Y3 h]
def Bv{cfg:Cfg}{o:aO}{gr:Bool}{K:VS->aI->Prop}(hv:N7 P cfg o gr st h K):∀ c,o.op ≠ .defer c:=by
 intro c e
 obtain ⟨_,hv⟩:=hv.both
 simp [Hz,e] at hv
def Good.op[FOk F]{cfg:Cfg}(hn:cfg.n=n)(hfn:Bodies P cfg.fns){h0:aI}{W0:aD}{ops:Array aO}{i:Nat}{o:aO}(hi:ops[i]? = some o)(g:Good n h0 W0 st h a W){gr:Bool}{K:VS->aI->Prop}
 (hv:Gk P cfg ops o gr st h K) {Q:Exit->Act->aD->Prop}:
 wpOpIn F fu P ops Q i (fun a' W'=>∃ st' h',K st' h'/\Good n h0 W0 st' h' a' W'/\Agree cfg.lim st st') a W:=by
 unfold wpOpIn
 simp only [hi]
 unfold Gk at hv
 have l:∀ {u:aT},K6 cfg o.dst=true->K (st.putO o.dst (.val undef)) h->∃ st' h',K st' h'/\Good n h0 W0 st' h' (a.put o.dst undef) W/\Agree cfg.lim st st':=by
  intro _ y G
  obtain ⟨θ,r,f,w⟩:=g
  exact ⟨_,h,G,⟨θ,r.putO hn y (v:=.val undef) rfl (fun _ _ e=>by cases e),f,fun k B=>w k (by rwa [J1] at B)⟩,Agree.putO y⟩
 split at hv
 ·rename_i q
  rw [iP (by simp [Region.wanted,q])]
  exact (g.core hn hfn hv).toIn (Bv hv)
 ·rename_i j p q
  split at hv
  ·exact hv.elim
  ·rename_i d s
   split at hv
   ·rename_i b m
    have D:yielded ops a.tmps j=some b:=by
     obtain ⟨θ,r,f,w⟩:=g
     have E:a.tmps.getD d undef= .bool b:=by have:=r.slot' d;rw [m] at this;exact this
     have C:d<a.tmps.size:=by
      rcases aY d a.tmps.size with x|x
      ·exact x
      ·rw [r.out d (by rw [<- r.size];exact x)] at m;cases m
     have t:a.tmps[d]? = some (.bool b):=by
      simp_all
     simp [yielded,s,t]
    have z:Region.wanted o (yielded ops a.tmps)=(b==p):=by
     simp only [Region.wanted,q,D]
     rfl
    rw [z]
    cases b<;>cases p
    ·have c:N7 P cfg o gr (st.put d (.val (.bool false))) h K:=hv
     rw [put_self st m] at c
     exact (g.core hn hfn c).toIn (Bv c)
    ·have c:When (K6 cfg o.dst) (K ((st.put d (.val (.bool false))).putO o.dst (.val undef)) h):=hv
     rw [put_self st m] at c
     exact ⟨fun f _=>FOk.fn f,l (u:=.any) c.both.1 c.both.2⟩
    ·have c:When (K6 cfg o.dst) (K ((st.put d (.val (.bool true))).putO o.dst (.val undef)) h):=hv
     rw [put_self st m] at c
     exact ⟨fun f _=>FOk.fn f,l (u:=.any) c.both.1 c.both.2⟩
    ·have c:N7 P cfg o gr (st.put d (.val (.bool true))) h K:=hv
     rw [put_self st m] at c
     exact (g.core hn hfn c).toIn (Bv c)
   ·rename_i A m
    have z:Region.wanted o (yielded ops a.tmps)=false:=by
     obtain ⟨θ,r,f,w⟩:=g
     have E:a.tmps.getD d undef= .tuple A:=by have:=r.slot' d;rw [m] at this;exact this
     have t:yielded ops a.tmps j=none:=by
      unfold yielded
      rcases aY d a.tmps.size with x|x
      ·simp_all
      grind
     simp [Region.wanted,q,t]
    rw [iN gz0]
    exact ⟨fun f _=>FOk.fn f,l (u:=.any) hv.both.1 hv.both.2⟩
   grind
def A1z[FOk F]{cfg:Cfg}(hn:cfg.n=n)(hfn:Bodies P cfg.fns){h0:aI}{W0:aD}{ops:Array aO}{gr:Bool}{Q:Exit->Act->aD->Prop}{K:VS->aI->Prop}: ∀ (l:List Nat) (st:VS) (h:aI) (a:Act) (W:aD),
 Good n h0 W0 st h a W->A09 P cfg ops gr l st h K->
 (∀ st' h' a' W',K st' h'->Good n h0 W0 st' h' a' W'->Agree cfg.lim st st'->Q .normal a' W')->wpOpsIn F fu P ops Q l a W:=by
 intro l
 induction l with
 | nil=>exact fun st h a W g b d=>d st h a W b g (Agree.refl _ _)
 | cons i l ih=>
  intro st h a W g b d
  unfold A09 at b
  split at b
  ·exact b.elim
  ·rename_i o j
   refine wpOpIn_mono (fun a' W' ⟨st',h',q,s,r⟩=>?_) (g.op hn hfn j b)
   exact ih st' h' a' W' s q fun e p m W2 k f c=>d e p m W2 k f (r.trans c)
end
