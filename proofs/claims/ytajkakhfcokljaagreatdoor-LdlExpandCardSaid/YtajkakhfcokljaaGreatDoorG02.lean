/-
  Texts of this proof, merged by a program of ours.
-/
import Derived.Test.YtajkakhfcokljaaGreatDoorG01
import Derived.Laws.StructEq
import Derived.Laws.Cells
import Derived.Laws.Entries
import Derived.OrdersIn
import Derived.RangeFuncCalls
set_option linter.all false
open _root_.Array renaming getElem?_eq_none->C39,getElem?_eq_getElem->C3k,getD->C3l
open Bool renaming and_eq_true->C36,false_eq_true->C3d
open _root_.Go.Instr renaming sureAddr->C35,loadAt->C3c,sliceBounds->C3e,sliceAt->C3g,sliceBound->C3i
open Nat renaming le_of_ble_eq_true->C37,eq_of_beq_eq_true->C38,lt_or_ge->C3b,beq->C3j
open _root_.Go.Op renaming maxDepth->C3f,equalIn->C3h
open Option renaming map_some->C3a
open _root_.Go.Result renaming andThen_ok->C34
namespace Go.Proofs.YtajkakhfcokljaaGreatDoor
open Go
def rel(θ:Nat->Nat):AVal->Value->Prop
 | .val v,u=>u=v
 | .own k off,u=>u= .pointer (some ⟨θ k,off,none⟩)
 | .any,_=>True
structure FOkS (F:Fence):Prop where
 ok:F=Fence.wide\/∃ l,F=Fence.wide.inRound l
abbrev FOk(F:Fence):=Inhabited (PLift (FOkS F))
instance:FOk Fence.wide:=⟨⟨⟨.inl rfl⟩⟩⟩
instance {l:Nat}:FOk (Fence.wide.inRound l):=⟨⟨⟨.inr ⟨l,rfl⟩⟩⟩⟩
theorem FOk.fn{F:Fence}[x:FOk F](f:FuncId):F.fn f:=by
 rcases x.default.down.ok with rfl|⟨l,rfl⟩<;>trivial
theorem FOk.depth{F:Fence}[x:FOk F]:F.depth=none:=by
 rcases x.default.down.ok with rfl|⟨l,rfl⟩<;>rfl
theorem B1d{F:Fence}[x:FOk F]{k:Nat}{P:Program}{f:FuncId}{args:Array Value}{W:World}{R:Ending->World->Prop}(h:Calls P f args W R):CallsIn F k P f args W R:=by
 rcases x.default.down.ok with rfl|⟨l,rfl⟩
 ·exact callsIn_wide.2 h
 ·exact CallsIn.inRound l (callsIn_wide.2 h)
theorem FOk.round{F:Fence}[x:FOk F]{k:Nat}{P:Program}{l:Nat}{f:FuncId}{tmps:Array Value}{asg body:Code}{W:World}{R:Ending->World->Prop}(h:RoundIn Fence.wide k P l f tmps asg body W R):RoundIn F k P l f tmps asg body W R:=by
 rcases x.default.down.ok with rfl|⟨l,rfl⟩
 ·exact h
 ·exact h
def Oper.wpX(F:Fence)(fu:Nat)(P:Program)(o:Oper)(a:Act)(W:World)(next:Act->World->Prop)(Q:Exit->Act->World->Prop):Prop:=
 o.uponIn F fu P a next Q ((execOp a.eval o).run P W)
theorem Oper.wpX.toIn{F:Fence}[FOk F]{fu:Nat}{P:Program}{o:Oper}{a:Act}{W:World}{next:Act->World->Prop}{Q:Exit->Act->World->Prop}(h:Oper.wpX F fu P o a W next Q)(hd:∀ c,o.op ≠ .defer c):o.wpIn F fu P a W next Q:=
 ⟨fun f _=>FOk.fn f,by rw [Oper.semAt_eq _ _ _ hd];exact h⟩
def MarksOk(s0:Nat)(h:Heap)(W:World)(ds:List Deferred):Prop:=
 ∃ rs:List Nat,rs.Nodup/\ds.map (·.target)=rs.map Target.collected/\∀ r∈rs,s0<=r/\h r=none/\W.heap[r]? = some (.deferred (some []))
theorem MarksOk.nil{s0:Nat}{h:Heap}{W:World}:MarksOk s0 h W []:=⟨[],List.nodup_nil,rfl,fun r hr=>by cases hr⟩
theorem MarksOk.turn{s0:Nat}{h h':Heap}{W W':World}{ds:List Deferred}(m:MarksOk s0 h W ds)(x:∀ r,h r=none->W.heap[r]? = some (.deferred (some []))->h' r=none/\W'.heap[r]? = some (.deferred (some []))):MarksOk s0 h' W' ds:=by
 obtain ⟨rs,h1,h2,h3⟩:=m
 exact ⟨rs,h1,h2,fun r hr=>⟨(h3 r hr).1,x r (h3 r hr).2.1 (h3 r hr).2.2⟩⟩
theorem Cs{W:World}{r:Nat}{o:Obj}(e:W.heap[r]? = some o):r<W.heap.size:=by
 by_cases h:r<W.heap.size
 ·exact h
 ·rw [C39 (by omega)] at e;cases e
theorem MarksOk.world{s0:Nat}{h h':Heap}{W W':World}{ds:List Deferred}(m:MarksOk s0 h W ds)(f:Fr h W h' W'):MarksOk s0 h' W' ds:=
 m.turn fun r hr e=>by
  have hlt:=Cs e
  refine ⟨?_,(f.keep r hlt hr).trans e⟩
  cases x:h' r with
  | none=>rfl
  | some o=>have:=f.new r o hr x;omega
structure Rel (s0:Nat) (n:Nat) (θ:Nat->Nat) (st:VS) (h:Heap) (a:Act) (W:World):Prop where
 defers:MarksOk s0 h W a.defers
 size:a.tmps.size=n
 slot:∀ i,i<n->rel θ (st.env i) (a.tmps.getD i undef)
 sim:Sim h W
 own:∀ k cs,st.own k=some cs->∃ t,W.heap[θ k]? = some (.cells cs.toArray t (0,0))/\h (θ k)=none
 inj:∀ k k',(st.own k).isSome=true->(st.own k').isSome=true->θ k=θ k'->k=k'
 wf:∀ i k off,st.env i= .own k off->(st.own k).isSome=true
 out:∀ i,n<=i->st.env i= .val undef
def Good(n:Nat)(h0:Heap)(W0:World)(st:VS)(h:Heap)(a:Act)(W:World):Prop:=
 ∃ θ,Rel W0.heap.size n θ st h a W/\Fr h0 W0 h W/\∀ k,(st.own k).isSome=true->W0.heap.size<=θ k
structure Agree (lim:Option Lim) (st st':VS):Prop where
 env:∀ i,B8p lim i=false->st'.env i=st.env i
 own:∀ i,A0h lim i=false->st'.own i=st.own i
theorem Agree.refl(lim:Option Lim)(st:VS):Agree lim st st:=⟨fun _ _=>rfl,fun _ _=>rfl⟩
theorem Agree.trans{lim:Option Lim}{a b c:VS}(x:Agree lim a b)(y:Agree lim b c):Agree lim a c:=
 ⟨fun i h=>(y.env i h).trans (x.env i h),fun i h=>(y.own i h).trans (x.own i h)⟩
theorem When.both{b:Bool}{A:Prop}(h:When b A):b=true/\A:=by
 cases b
 ·exact h.elim
 ·exact ⟨rfl,h⟩
section
variable {P:Program} {s0:Nat} {F:Fence} {fu:Nat} {n:Nat} {θ:Nat->Nat} {st:VS} {h:Heap} {a:Act} {W:World}
theorem Rel.slot'(r:Rel s0 n θ st h a W)(i:Nat):rel θ (st.env i) (a.tmps.getD i undef):=by
 rcases C3b i n with hi|hi
 ·exact r.slot i hi
 ·rw [r.out i hi]
  show _=undef
  have:a.tmps.size<=i:=by rw [r.size];exact hi
  simp [C3l,Nat.not_lt.2 this]
theorem Rel.eval(r:Rel s0 n θ st h a W)(x:Operand):rel θ (D3 st x) (a.eval x):=by
 cases x with
 | tmp t=>exact r.slot' t
 | const v=>exact rfl
 | global g=>exact rfl
 | func f=>exact rfl
theorem Rel.evalVal(r:Rel s0 n θ st h a W){x:Operand}{v:Value}(e:D3 st x= .val v):a.eval x=v:=by
 have:=r.eval x;rw [e] at this;exact this
theorem Rel.evalOwn(r:Rel s0 n θ st h a W){x:Operand}{k off:Nat}(e:D3 st x= .own k off):a.eval x= .pointer (some ⟨θ k,off,none⟩):=by
 have:=r.eval x;rw [e] at this;exact this
theorem Rel.evalRho(r:Rel s0 n θ st h a W){x:Operand}(e:(D3 st x).isVal=true):a.eval x=rho st x:=by
 unfold rho
 cases y:D3 st x with
 | val v=>exact r.evalVal y
 | own k off=>rw [y] at e;cases e
 | any=>rw [y] at e;cases e
theorem Rel.evalAll(r:Rel s0 n θ st h a W){xs:List Operand}(e:O4 st xs=true):∀ x∈xs,a.eval x=rho st x:=
 fun x hx=>r.evalRho (List.all_eq_true.1 e x hx)
theorem Rel.exec(r:Rel s0 n θ st h a W){o:Oper}(hs:∀ cs b,o.op ≠ .select cs b)(e:O4 st o.op.operands.toList=true):execOp a.eval o=execOp (rho st) o:=
 execOp_congr o hs fun x hx=>r.evalAll e x (by simpa using hx)
theorem Mv(r:Rel s0 n θ st h a W){o:Oper}{C:AVal->Prop}(hs:∀ cs b,o.op ≠ .select cs b)(hv:Jo P o st C):
 ∃ v u,C v/\rel θ v u/\(∀ k off,v= .own k off->(st.own k).isSome=true)/\(execOp a.eval o).run P W= .ok (.value u) W:=by
 unfold Jo at hv
 split at hv
 ·rename_i e
  split at hv
  ·rename_i v hp
   refine ⟨.val v,v,hv,rfl,(fun _ _ e=>by cases e),?_⟩
   rw [r.exec hs e];exact Qw _ hp W
  ·exact hv.elim
 ·exact hv.elim
theorem Kc{t:TypeId}{b:Bool}(h:Kn P t=some b)(W:World):(isAgg t).run P W= .ok b W:=by
 unfold Kn at h
 unfold isAgg
 cases hu:P.underlying t with
 | none=>rw [hu] at h;cases h
 | some d=>
  rw [hu] at h
  simp only [Sem.run_bind,run_underlying hu,C34]
  cases d<;>simp at h<;>subst h<;>rfl
theorem J8{t:TypeId}(h:(P.info? t).isSome=true)(W:World):(sizeOf t).run P W= .ok (P.cellsOf t) W:=by
 obtain ⟨i,hi⟩:=Option.isSome_iff_exists.1 h
 simp [sizeOf,typeInfo,program,Program.cellsOf,hi,Sem.run_bind,Sem.run]
theorem Xf{t:TypeId}{d:TypeDesc}(h:P.underlying t=some d):(P.info? t).isSome=true:=by
 unfold Program.underlying at h
 cases x:P.info? t with
 | none=>rw [x] at h;cases h
 | some i=>rfl
theorem Ix{t:TypeId}{b:Bool}(h:Kn P t=some b):(P.info? t).isSome=true:=by
 unfold Kn at h
 cases hu:P.underlying t with
 | none=>rw [hu] at h;cases h
 | some d=>exact Xf hu
theorem cellsAt.out{a:Addr}{X:Prop}: ∀ {vs:List Value} {j:Nat},cellsAt h a j vs X->X/\∀ i v,vs[i]? = some v->h.cell? (a.add (j+i))=some v:=by
 intro vs
 induction vs with
 | nil=>exact fun x=>⟨x,fun i v e=>by simp at e⟩
 | cons u vs ih=>
  intro j ⟨h1,h2⟩
  obtain ⟨hx,hr⟩:=ih h2
  refine ⟨hx,fun i v e=>?_⟩
  cases i with
  | zero=>simp at e;subst e;exact h1
  | succ i=>simp at e;have:=hr i v e;rwa [show j+1+i=j+(i+1) by omega] at this
theorem Tw(hs:Sim h W){t:TypeId}{ad:Addr}{C:AVal->Prop}(hv:V6 P t ad h C):
 ∃ v,C (.val v)/\(C3c t (.pointer (some ad))).run P W= .ok v W:=by
 unfold V6 at hv
 split at hv
 ·rename_i hag
  split at hv
  ·rename_i zs hz
   obtain ⟨hn,hv⟩:=hv.both
   obtain ⟨vs,hl,hv⟩:=exL.out hv
   obtain ⟨hc,hcell⟩:=hv.out
   refine ⟨_,hc,?_⟩
   have hlen:vs.length=P.cellsOf t:=by rw [hl,Array.length_toList];exact C38 hn
   have:=run_loadCells_list (P:=P) (w:=W) ad vs (fun j v e=>hs.cell (by simpa using hcell j v e))
   simp only [C3c,C35,loadVar,Sem.run_bind,Sem.run_pure,Kc hag,C34,if_true,J8 (Ix hag),<- hlen,this]
  ·exact hv.elim
 ·rename_i hag
  obtain ⟨v,hc,hv⟩:=exV.out hv
  refine ⟨v,hv,?_⟩
  simp only [C3c,C35,loadVar,Sem.run_bind,Sem.run_pure,Kc hag,C34,if_false,C3d]
  simp only [load,Sem.run,hs.cell hc]
 ·exact hv.elim
theorem Rel.ownCell(r:Rel s0 n θ st h a W){k:Nat}{cs:List Value}(e:st.own k=some cs){off:Nat}{v:Value}(hv:cs[off]? = some v):W.cell? ⟨θ k,off,none⟩=some v:=by
 obtain ⟨t,hb,_⟩:=r.own k cs e
 simp [World.cell?,hb,hv]
theorem Ep(b off j:Nat):(Addr.add ⟨b,off,none⟩ j)=⟨b,off+j,none⟩:=by
 unfold Addr.add;split
 ·subst_vars;rfl
 ·rfl
theorem Kh(r:Rel s0 n θ st h a W){t:TypeId}{k off:Nat}{cs:List Value}(e:st.own k=some cs){C:AVal->Prop}(hv:U2 P t cs off C):
 ∃ v,C (.val v)/\(C3c t (.pointer (some ⟨θ k,off,none⟩))).run P W= .ok v W:=by
 unfold U2 at hv
 split at hv
 ·rename_i hag
  obtain ⟨hn,hv⟩:=hv.both
  simp only [C36] at hn
  have hle:=C37 hn.2
  refine ⟨_,hv,?_⟩
  have hl:((cs.drop off).take (P.cellsOf t)).length=P.cellsOf t:=by simp;omega
  have:=run_loadCells_list (P:=P) (w:=W) ⟨θ k,off,none⟩ ((cs.drop off).take (P.cellsOf t)) (fun j v ej=>by
   rw [Ep]
   refine r.ownCell e ?_
   rw [List.getElem?_take] at ej
   split at ej
   ·rwa [List.getElem?_drop] at ej
   ·cases ej)
  rw [hl] at this
  simp only [C3c,C35,loadVar,Sem.run_bind,Sem.run_pure,Kc hag,C34,if_true,J8 (Ix hag),this]
 ·rename_i hag
  split at hv
  ·rename_i v hc
   refine ⟨v,hv,?_⟩
   simp only [C3c,C35,loadVar,Sem.run_bind,Sem.run_pure,Kc hag,C34,if_false,C3d]
   simp only [load,Sem.run,r.ownCell e hc]
  ·exact hv.elim
 ·exact hv.elim
theorem Rel.evalWf(r:Rel s0 n θ st h a W){x:Operand}: ∀ k off,D3 st x= .own k off->(st.own k).isSome=true:=by
 intro k off e
 cases x with
 | tmp t=>exact r.wf t k off e
 | _=>cases e
def QOut(P:Program)(θ:Nat->Nat)(st:VS)(a:Act)(W:World)(o:Oper)(C:AVal->Prop):Prop:=
 ∃ v u,C v/\rel θ v u/\(∀ k off,v= .own k off->(st.own k).isSome=true)/\(execOp a.eval o).run P W= .ok (.value u) W
theorem QOut.val{o:Oper}{C:AVal->Prop}{v:Value}(hc:C (.val v))(hr:(execOp a.eval o).run P W= .ok (.value v) W):QOut P θ st a W o C:=
 ⟨.val v,v,hc,rfl,(fun _ _ e=>by cases e),hr⟩
theorem slBound.out{v:Option AVal}{dflt y:Nat}{C:Nat->Prop}(hb:slBound v dflt y C):
 (v=none/\C dflt)\/∃ k i,v=some (.val (.int k i))/\0<=i/\i<=(y:Int)/\C i.toNat:=by
 unfold slBound at hb
 split at hb
 ·exact .inl ⟨rfl,hb⟩
 ·exact .inr ⟨_,_,rfl,hb.1.1,hb.1.2,hb.2⟩
 ·exact hb.elim
theorem O1{k:IntKind}{i:Int}{y:Nat}(h0:0<=i)(h1:i<=(y:Int))(c:BoundsCode)(W:World):(C3i (.int k i) y c).run P W= .ok i.toNat W:=by
 simp [C3i,asIntOf,h0,h1]
theorem Bf(r:Rel s0 n θ st h a W){isS:Bool}{len cap:Nat}{lo hi:Option Operand}{C:Nat->Nat->Prop}
 (hb:slBound (hi.map (D3 st)) len cap fun h=>slBound (lo.map (D3 st)) 0 h fun l=>C l h):
 ∃ l h',C l h'/\(C3e isS len cap (lo.map a.eval) (hi.map a.eval) none).run P W= .ok (l,h',cap) W:=by
 have lower:∀ h',(slBound (lo.map (D3 st)) 0 h' fun l=>C l h')->∃ l,C l h'/\
  (match lo.map a.eval with
   | some v=>C3i v h' .sliceB
   | none=>(pure 0:Sem Nat)).run P W= .ok l W:=by
  intro h' hb
  rcases hb.out with ⟨e,hc⟩|⟨k,i,e,h0,h1,hc⟩
  ·cases lo with
   | none=>exact ⟨0,hc,by simp⟩
   | some x=>simp at e
  ·cases lo with
   | none=>simp at e
   | some x=>
    simp only [C3a,Option.some.injEq] at e
    exact ⟨_,hc,by simp only [C3a,r.evalVal e];exact O1 h0 h1 _ W⟩
 rcases hb.out with ⟨e,hc⟩|⟨k,i,e,h0,h1,hc⟩
 ·cases hi with
  | none=>
   obtain ⟨l,hC,hr⟩:=lower _ hc
   refine ⟨l,len,hC,?_⟩
   unfold C3e
   cases lo with
   | none=>simp at hr ⊢;exact hr
   | some y=>simp only [C3a] at hr;simp [hr]
  | some x=>simp at e
 ·cases hi with
  | none=>simp at e
  | some x=>
   simp only [C3a,Option.some.injEq] at e
   obtain ⟨l,hC,hr⟩:=lower _ hc
   refine ⟨l,i.toNat,hC,?_⟩
   unfold C3e
   cases lo with
   | none=>simp at hr;simp [r.evalVal e,O1 h0 h1,hr]
   | some y=>simp only [C3a] at hr;simp [r.evalVal e,O1 h0 h1,hr]
theorem A2a(r:Rel s0 n θ st h a W){o:Oper}{t:TypeId}{x:Operand}{lo hi:Option Operand}(hop:o.op= .slice t x lo hi none){C:AVal->Prop}
 (hv:Dm P t (D3 st x) (lo.map (D3 st)) (hi.map (D3 st)) C):QOut P θ st a W o C:=by
 unfold Dm at hv
 split at hv
 ·rename_i s ht hx
  obtain ⟨l,h',hC,hr⟩:=Bf (P:=P) (isS:=false) r (C:=fun l h'=>C (.val (.string (s.extract l h')))) hv
  refine QOut.val hC ?_
  simp [execOp,hop,C3g,Instr.slice,run_underlying ht,r.evalVal hx,hr]
 ·rename_i e A m c ht hx
  obtain ⟨hi,hv⟩:=hv.both
  obtain ⟨l,h',hC,hr⟩:=Bf (P:=P) (isS:=true) r (C:=fun l h'=>C (.val (.slice (K0 A c l (P.cellsOf e)) (h'-l) (c-l)))) hv
  refine QOut.val hC ?_
  simp [execOp,hop,C3g,Instr.slice,run_underlying ht,r.evalVal hx,hr,J8 hi,K0]
 ·rename_i m e ad ht hx
  obtain ⟨hi,hv⟩:=hv.both
  obtain ⟨l,h',hC,hr⟩:=Bf (P:=P) (isS:=false) r (C:=fun l h'=>C (.val (.slice (K0 (some ad) m l (P.cellsOf e)) (h'-l) (m-l)))) hv
  refine QOut.val hC ?_
  simp [execOp,hop,C3g,run_underlying ht,r.evalVal hx,hr,J8 hi,K0,C35]
  split<;>rfl
 ·exact hv.elim
theorem Zy(r:Rel s0 n θ st h a W){o:Oper}{t:TypeId}{x lo hi mx:Operand}(hop:o.op= .slice t x (some lo) (some hi) (some mx)){C:AVal->Prop}
 (hv:Jn P t (D3 st x) (D3 st lo) (D3 st hi) (D3 st mx) C):QOut P θ st a W o C:=by
 unfold Jn at hv
 split at hv
 ·rename_i e A m c k1 l k2 h' k3 b ht hx hlo hhi hmx
  obtain ⟨hi,h1,h2,h3,hv⟩:=hv.both
  refine QOut.val hv ?_
  simp [execOp,hop,C3g,Instr.slice,C3e,run_underlying ht,r.evalVal hx,r.evalVal hlo,r.evalVal hhi,r.evalVal hmx,O1 h1.1 h1.2,O1 h2.1 h2.2,O1 h3.1 h3.2,J8 hi,K0]
 ·exact hv.elim
theorem Rj(r:Rel s0 n θ st h a W){o:Oper}{t:TypeId}{x i:Operand}(hop:o.op= .indexAddr t x i){C:AVal->Prop}
 (hv:N6 P t (D3 st x) (D3 st i) C):QOut P θ st a W o C:=by
 unfold N6 at hv
 split at hv
 ·rename_i len e k off _ m ht hx hi
  obtain ⟨hs,hv⟩:=hv.both
  by_cases hm:0<=m/\m<(len:Int)
  ·have hv:C (.own k (off+m.toNat*P.cellsOf e)):=by
    have:decide (0<=m/\m<(len:Int))=true:=decide_eq_true hm
    rw [this] at hv;exact hv
   refine ⟨_,.pointer (some ⟨θ k,off+m.toNat*P.cellsOf e,none⟩),hv,rfl,(fun k' off' e'=>by cases e';exact r.evalWf _ _ hx),?_⟩
   have:=Ep (θ k) off (m.toNat*P.cellsOf e)
   simp [execOp,hop,Instr.indexAt,run_underlying ht,r.evalOwn hx,r.evalVal hi,asIntOf,C35,J8 hs,hm.1,hm.2,this]
  ·have:decide (0<=m/\m<(len:Int))=false:=decide_eq_false hm
   rw [this] at hv;exact hv.elim
 ·rename_i len e ad _ m ht hx hi
  obtain ⟨hs,hm,hv⟩:=hv.both
  refine QOut.val hv ?_
  simp [execOp,hop,Instr.indexAt,run_underlying ht,r.evalVal hx,r.evalVal hi,asIntOf,C35,J8 hs,hm.1,hm.2]
 ·rename_i e A m c _ j ht hx hi
  obtain ⟨hs,ad,rfl,h0,h1,hv⟩:=hv.both
  refine QOut.val hv ?_
  simp [execOp,hop,Instr.indexAt,run_underlying ht,r.evalVal hx,r.evalVal hi,asIntOf,J8 hs,h0,h1]
 ·exact hv.elim
theorem B28{W:World}{xs ys:Array Value}{f:Field}{b:Bool}{d:Nat}(h:C0u P f xs ys=some b):
 f.name ≠ "_" /\∃ a c,(part f.type xs f.offset).run P W= .ok a W/\(part f.type ys f.offset).run P W= .ok c W/\(C3h (d+1) f.type a c).run P W= .ok b W:=by
 unfold C0u at h
 split at h
 ·rename_i a c hu hx hy
  split at h
  ·cases h
  ·rename_i hname
   cases h
   refine ⟨by simpa using hname,.string a,.string c,?_,?_,?_⟩
   ·simp [part,isAgg,Sem.run_bind,run_underlying hu,hx]
   ·simp [part,isAgg,Sem.run_bind,run_underlying hu,hy]
   ·unfold C3h
    simp [Sem.run_bind,run_underlying hu]
    exact beq_toListBytes a c
 ·cases h
theorem A7o{W:World}{xs ys:Array Value}{dep:Nat}(l:List Field):∀ {b:Bool},B27 P l xs ys=some b->
 (forIn (m:=Sem) l ((none,()):Option Bool × PUnit) (fun f _=>
          if f.name ≠ "_" then do
           let x<-part f.type xs f.offset
           let y<-part f.type ys f.offset
           let e<-C3h (dep+1) f.type x y
           if (!e)=true then pure (ForInStep.done (some false,()))
            else pure (ForInStep.yield (none,()))
          else pure (ForInStep.yield (none,())))).run P W= .ok (if b then (none,()) else (some false,())) W:=by
 induction l with
 | nil=>intro b h;cases h;simp
 | cons f l ih=>
  intro b h
  unfold B27 at h
  split at h
  ·rename_i u v hu hv
   cases h
   obtain ⟨hname,p,q,h1,h2,h3⟩:=B28 (W:=W) (d:=dep) hu
   rw [List.forIn_cons]
   simp only [if_pos hname,Sem.run_bind,h1,h2,h3,C34]
   cases u with
   | false=>simp
   | true=>
    have:=ih hv
    simp only [Bool.not_true,C3d,if_false,Sem.run_pure,C34,Bool.true_and]
    exact this
  ·cases h
theorem A99{t:TypeId}{xs ys:Array Value}{C:Bool->Prop}(hv:Zn P t xs ys C):∃ b,(∀ W,(Op.equal t (.agg xs) (.agg ys)).run P W= .ok b W)/\P.eqGuardType P.depth t=false/\C b:=by
 unfold Zn at hv
 split at hv
 ·rename_i fs hu
  obtain ⟨hn,hv⟩:=hv.both
  simp only [C36,Bool.not_eq_true'] at hn
  split at hv
  ·rename_i b hb
   refine ⟨b,fun W=>?_,hn.2,hv⟩
   have hm:C3f=(C3f-2)+1+1:=rfl
   unfold Op.equal
   rw [hm]
   generalize C3f-2=dep
   unfold C3h
   simp only [Sem.run_bind,run_underlying hu,C34]
   simp only [program,Sem.run,C34,hn.1,C3d,if_false]
   rw [<- Array.forIn_toList,Sem.run_bind,A7o fs.toList hb,C34]
   cases b<;>simp
  ·exact hv.elim
 ·exact hv.elim
theorem A9v(r:Rel s0 n θ st h a W){o:Oper}{op:BinOp}{t t':TypeId}{x y:Operand}(hop:o.op= .binOp op t x y t'){C:AVal->Prop}
 (hv:Ic P o st op t (D3 st x) (D3 st y) C):QOut P θ st a W o C:=by
 have hsel:∀ cs b,o.op ≠ .select cs b:=by rw [hop];intro _ _ e;cases e
 unfold Ic at hv
 have hsl:∀ {A:Option Addr} {n1 n2 n3 n4:Nat},Hq P t=true->(Op.equal t (.slice A n1 n2) (.slice none n3 n4)).run P W= .ok A.isNone W:=by
  intro A n1 n2 n3 n4 ht
  unfold Hq at ht
  cases hu:P.underlying t with
  | none=>rw [hu] at ht;cases ht
  | some d=>
   rw [hu] at ht
   cases d<;>first|(cases ht;done)|skip
   have hm:C3f=(C3f-1)+1:=rfl
   unfold Op.equal
   rw [hm]
   generalize C3f-1=dep
   cases A<;>(unfold C3h;simp [run_underlying hu])
 split at hv
 ·rename_i xs ys hx hy
  obtain ⟨b,g1,g2,hv2⟩:=A99 hv
  refine QOut.val hv2 ?_
  simp [execOp,hop,eqGuard,binOp,r.evalVal hx,r.evalVal hy,g1,g2]
 ·rename_i xs ys hx hy
  obtain ⟨b,g1,g2,hv2⟩:=A99 hv
  refine QOut.val hv2 ?_
  simp [execOp,hop,eqGuard,binOp,r.evalVal hx,r.evalVal hy,g1,g2]
 ·rename_i A n1 n2 n3 n4 hx hy
  obtain ⟨hk,hv2⟩:=hv.both
  refine QOut.val hv2 ?_
  simp [execOp,hop,eqGuard,binOp,r.evalVal hx,r.evalVal hy,hsl hk]
 ·rename_i A n1 n2 n3 n4 hx hy
  obtain ⟨hk,hv2⟩:=hv.both
  refine QOut.val hv2 ?_
  simp [execOp,hop,eqGuard,binOp,r.evalVal hx,r.evalVal hy,hsl hk]
 ·rename_i k u k' v hx hy
  obtain ⟨hk,hv2⟩:=hv.both
  have hk:=eq_of_beq hk;subst hk
  by_cases hz:v=0
  ·rw [decide_eq_true hz] at hv2;exact hv2.elim
  ·rw [decide_eq_false hz] at hv2
   refine QOut.val hv2 ?_
   simp [execOp,hop,eqGuard,binOp,Op.intDiv,hz,r.evalVal hx,r.evalVal hy]
 ·rename_i k u k' v hx hy
  obtain ⟨hk,hv2⟩:=hv.both
  have hk:=eq_of_beq hk;subst hk
  by_cases hz:v=0
  ·rw [decide_eq_true hz] at hv2;exact hv2.elim
  ·rw [decide_eq_false hz] at hv2
   refine QOut.val hv2 ?_
   simp [execOp,hop,eqGuard,binOp,Op.intDiv,hz,r.evalVal hx,r.evalVal hy]
 ·rename_i k u k' v hx hy
  by_cases hz:v<0
  ·rw [decide_eq_true hz] at hv;exact hv.elim
  ·rw [decide_eq_false hz] at hv
   refine QOut.val hv ?_
   simp [execOp,hop,eqGuard,binOp,Op.shift,hz,r.evalVal hx,r.evalVal hy]
 ·rename_i k u k' v hx hy
  by_cases hz:v<0
  ·rw [decide_eq_true hz] at hv;exact hv.elim
  ·rw [decide_eq_false hz] at hv
   refine QOut.val hv ?_
   simp [execOp,hop,eqGuard,binOp,Op.shift,hz,r.evalVal hx,r.evalVal hy]
 ·rename_i u v hx hy
  refine QOut.val hv.2 ?_
  have:¬ ((u.size+v.size:Nat):Int)>IntKind.i64.max:=by
   have:=hv.1
   simp only [IntKind.max,IntKind.signed,IntKind.bits]
   omega
  simp only [execOp,hop,eqGuard,binOp,Op.stringOp,r.evalVal hx,r.evalVal hy,if_neg this]
  simp
 ·exact Mv r hsel hv
theorem B6a(r:Rel s0 n θ st h a W){o:Oper}{C:AVal->Prop}(hsel:∀ cs b,o.op ≠ .select cs b)(hv:vcQ P o st h C):QOut P θ st a W o C:=by
 unfold vcQ at hv
 split at hv
 ·rename_i x hop
  exact ⟨D3 st x,a.eval x,hv,r.eval x,r.evalWf,by simp [execOp,hop]⟩
 ·rename_i x hop
  exact ⟨D3 st x,a.eval x,hv,r.eval x,r.evalWf,by simp [execOp,hop]⟩
 ·rename_i c x y hop
  split at hv
  ·rename_i t hc
   cases t
   ·exact ⟨D3 st y,a.eval y,hv,r.eval y,r.evalWf,by simp [execOp,hop,r.evalVal hc,asBool]⟩
   ·exact ⟨D3 st x,a.eval x,hv,r.eval x,r.evalWf,by simp [execOp,hop,r.evalVal hc,asBool]⟩
  ·exact hv.elim
 ·rename_i t x hop
  split at hv
  ·rename_i k off hx
   split at hv
   ·rename_i cs hk
    obtain ⟨v,hC,hr⟩:=Kh r hk hv
    exact QOut.val hC (by simp [execOp,hop,r.evalOwn hx,hr])
   ·exact hv.elim
  ·rename_i ad hx
   obtain ⟨v,hC,hr⟩:=Tw r.sim hv
   exact QOut.val hC (by simp [execOp,hop,r.evalVal hx,hr])
  ·exact hv.elim
 ·rename_i s x f hop
  split at hv
  ·rename_i k off hx
   split at hv
   ·rename_i fs hu
    split at hv
    ·rename_i fd hf
     obtain ⟨hb,hv⟩:=hv.both
     simp only [C36] at hb
     have hpos:P.cellsOf fd.type≠0:=by have:=C37 hb.2;omega
     refine ⟨_,.pointer (some ⟨θ k,off+fd.offset,none⟩),hv,rfl,(fun k' off' e'=>by cases e';exact r.evalWf _ _ hx),?_⟩
     simp [execOp,hop,Instr.fieldAt,run_underlying hu,hf,r.evalOwn hx,C35,fieldPlace,J8 hb.1,hpos,Ep]
    ·exact hv.elim
   ·exact hv.elim
  ·rename_i ad hx
   split at hv
   ·rename_i fs hu
    split at hv
    ·rename_i fd hf
     obtain ⟨hb,hv⟩:=hv.both
     simp only [C36] at hb
     have hpos:P.cellsOf fd.type≠0:=by have:=C37 hb.2;omega
     refine QOut.val hv ?_
     simp [execOp,hop,Instr.fieldAt,run_underlying hu,hf,r.evalVal hx,C35,fieldPlace,J8 hb.1,hpos]
    ·exact hv.elim
   ·exact hv.elim
  ·exact hv.elim
 ·rename_i x hop
  split at hv
  ·rename_i k off hx
   exact ⟨_,_,hv,rfl,(fun k' off' e'=>by cases e';exact r.evalWf _ _ hx),by simp [execOp,hop,r.evalOwn hx]⟩
  ·rename_i p hx
   obtain ⟨ad,rfl,hv⟩:=hv
   exact QOut.val hv (by simp [execOp,hop,r.evalVal hx])
  ·exact hv.elim
 ·rename_i t x i hop
  exact Rj r hop hv
 ·rename_i t x i hop
  split at hv
  ·rename_i s _ j ht hx hi
   obtain ⟨c,⟨h0,hc⟩,hv⟩:=hv
   refine QOut.val hv ?_
   simp [execOp,hop,Instr.index,run_underlying ht,r.evalVal hx,r.evalVal hi,asIntOf,h0,hc]
  ·exact Mv r hsel hv
 ·rename_i t x lo hi hop
  exact A2a r hop hv
 ·rename_i t x lo hi mx hop
  exact Zy r hop hv
 ·rename_i op t x y t' hop
  exact A9v r hop hv
 ·exact hv.elim
 ·exact Mv r hsel hv
theorem B2p(a:Act)(d i:Nat)(u:Value)(hd:d<a.tmps.size):(a.put (some d) u).tmps.getD i undef=if i=d then u else a.tmps.getD i undef:=by
 simp only [Act.put,C3l,Array.size_setIfInBounds]
 by_cases h:i=d
 ·subst h;simp [hd]
 ·by_cases hi:i<a.tmps.size
  ·simp [hi,h,Ne.symm h]
  ·simp [hi,h]
theorem Rel.put(r:Rel s0 n θ st h a W){d:Nat}(hd:d<n){v:AVal}{u:Value}(hv:rel θ v u)(hw:∀ k off,v= .own k off->(st.own k).isSome=true):Rel s0 n θ (st.put d v) h (a.put (some d) u) W:=by
 have hd':d<a.tmps.size:=by rw [r.size];exact hd
 have env:∀ i,(st.put d v).env i=if i=d then v else st.env i:=by
  intro i
  by_cases e:i=d
  ·subst e;simp [VS.put]
  ·have:C3j i d=false:=by cases x:C3j i d with
    | false=>rfl
    | true=>exact absurd (C38 x) e
   simp [VS.put,this,e]
 refine ⟨r.defers,by simpa [Act.put] using r.size,fun i hi=>?_,r.sim,r.own,r.inj,fun i k off e=>?_,fun i hi=>?_⟩
 ·rw [env,B2p a d i u hd']
  by_cases e:i=d
  ·simp only [e,if_true];exact hv
  ·simp only [e,if_false];exact r.slot i hi
 ·rw [env] at e
  by_cases e':i=d
  ·rw [if_pos e'] at e;exact hw k off e
  ·rw [if_neg e'] at e;exact r.wf i k off e
 ·rw [env,if_neg (by omega)];exact r.out i hi
theorem N8(st:VS)(d:Option Nat)(v:AVal):(st.putO d v).own=st.own:=by cases d<;>rfl
theorem Rel.putO(r:Rel s0 n θ st h a W){cfg:Cfg}(hn:cfg.n=n){d:Option Nat}(hd:O9 cfg d=true){v:AVal}{u:Value}(hv:rel θ v u)(hw:∀ k off,v= .own k off->(st.own k).isSome=true):
 Rel s0 n θ (st.putO d v) h (a.put d u) W:=by
 cases d with
 | none=>exact r
 | some d=>
  simp only [O9,A0f,C36] at hd
  exact r.put (by rw [<- hn];exact C37 hd.1) hv hw
theorem Agree.putO{cfg:Cfg}{st:VS}{d:Option Nat}{v:AVal}(hd:O9 cfg d=true):Agree cfg.lim st (st.putO d v):=by
 cases d with
 | none=>exact Agree.refl _ _
 | some d=>
  simp only [O9,A0f,C36] at hd
  refine ⟨fun i hi=>?_,fun _ _=>rfl⟩
  have:C3j i d=false:=by cases x:C3j i d with
   | false=>rfl
   | true=>have:=C38 x;subst this;rw [hd.2] at hi;cases hi
  simp [VS.putO,VS.put,this]
theorem Rel.world(r:Rel s0 n θ st h a W){h':Heap}{W':World}(f:Fr h W h' W'):Rel s0 n θ st h' a W':=by
 refine ⟨r.defers.world f,r.size,r.slot,f.sim,fun k cs e=>?_,r.inj,r.wf,r.out⟩
 obtain ⟨t,hb,hn⟩:=r.own k cs e
 have hlt:θ k<W.heap.size:=by
  rcases C3b (θ k) W.heap.size with x|x
  ·exact x
  ·rw [C39 x] at hb;cases hb
 refine ⟨t,(f.keep _ hlt hn).trans hb,?_⟩
 cases x:h' (θ k) with
 | none=>rfl
 | some o=>have:=f.new _ o hn x;omega
theorem Good.quiet{cfg:Cfg}(hn:cfg.n=n){h0:Heap}{W0:World}{o:Oper}(g:Good n h0 W0 st h a W)(hd:O9 cfg o.dst=true)(hsel:∀ cs b,o.op ≠ .select cs b){K:VS->Heap->Prop}
 (hv:vcQ P o st h fun v=>K (st.putO o.dst v) h) {Q:Exit->Act->World->Prop}:
 Oper.wpX F fu P o a W (fun a' W'=>∃ st' h',K st' h'/\Good n h0 W0 st' h' a' W'/\Agree cfg.lim st st') Q:=by
 obtain ⟨θ,r,f,hB⟩:=g
 obtain ⟨v,u,hK,hvu,hw,hr⟩:=B6a r hsel hv
 unfold Oper.wpX
 rw [hr,Oper.uponIn_value]
 refine ⟨_,h,hK,⟨θ,r.putO hn hd hvu hw,f,?_⟩,Agree.putO hd⟩
 exact fun k hk=>hB k (by rwa [N8] at hk)
theorem Grow.out{gr:Bool}{h h':Heap}{X:Prop}(x:Grow gr h h' X):X:=by
 cases gr
 ·exact x
 ·exact x.2
theorem Good.effV{cfg:Cfg}(hn:cfg.n=n){h0:Heap}{W0:World}{o:Oper}(g:Good n h0 W0 st h a W)(hd:O9 cfg o.dst=true){s:Sem Value}{gr:Bool}{K:VS->Heap->Prop}
 (hv:effV P s o gr st h K) (hex:∀ θ,Rel W0.heap.size n θ st h a W->(execOp a.eval o).run P W=(s.run P W).andThen fun v w=>.ok (.value v) w) {Q:Exit->Act->World->Prop}:
 Oper.wpX F fu P o a W (fun a' W'=>∃ st' h',K st' h'/\Good n h0 W0 st' h' a' W'/\Agree cfg.lim st st') Q:=by
 obtain ⟨θ,r,f,hB⟩:=g
 obtain ⟨v,W',h',hr,hK,fr⟩:=A20 s _ h W hv r.sim
 obtain ⟨u,rfl,hK⟩:=exT.out hK
 unfold Oper.wpX
 rw [hex θ r,hr,C34,Oper.uponIn_value]
 refine ⟨_,h',hK.out,⟨θ,(r.world fr).putO hn hd (v:=.val v) rfl (fun _ _ e=>by cases e),f.trans fr,?_⟩,Agree.putO hd⟩
 exact fun k hk=>hB k (by rwa [N8] at hk)
theorem Good.effP{cfg:Cfg}(hn:cfg.n=n){h0:Heap}{W0:World}{o:Oper}(g:Good n h0 W0 st h a W)(hd:O9 cfg o.dst=true){s:Sem Value}{gr:Bool}{K:VS->Heap->Prop}
 (hv:effP P s o gr st h K) (hex:∀ θ,Rel W0.heap.size n θ st h a W->(execOp a.eval o).run P W=(s.run P W).andThen fun v w=>.ok (.value v) w) {Q:Exit->Act->World->Prop}:
 Oper.wpX F fu P o a W (fun a' W'=>∃ st' h',K st' h'/\Good n h0 W0 st' h' a' W'/\Agree cfg.lim st st') Q:=by
 obtain ⟨θ,r,f,hB⟩:=g
 obtain ⟨v,W',h',hr,hK,fr⟩:=A20 s _ h W hv r.sim
 obtain ⟨u,rfl,hK⟩:=hK
 unfold Oper.wpX
 rw [hex θ r,hr,C34,Oper.uponIn_value]
 refine ⟨_,h',hK.out,⟨θ,(r.world fr).putO hn hd (v:=.val (.pointer (some u))) rfl (fun _ _ e=>by cases e),f.trans fr,?_⟩,Agree.putO hd⟩
 exact fun k hk=>hB k (by rwa [N8] at hk)
theorem Good.effU{cfg:Cfg}(hn:cfg.n=n){h0:Heap}{W0:World}{o:Oper}(g:Good n h0 W0 st h a W)(hd:O9 cfg o.dst=true){s:Sem Unit}{gr:Bool}{K:VS->Heap->Prop}
 (hv:effU P s o gr st h K) (hex:∀ θ,Rel W0.heap.size n θ st h a W->(execOp a.eval o).run P W=(s.run P W).andThen fun _ w=>.ok .skip w) {Q:Exit->Act->World->Prop}:
 Oper.wpX F fu P o a W (fun a' W'=>∃ st' h',K st' h'/\Good n h0 W0 st' h' a' W'/\Agree cfg.lim st st') Q:=by
 obtain ⟨θ,r,f,hB⟩:=g
 obtain ⟨v,W',h',hr,hK,fr⟩:=A20 s _ h W hv r.sim
 unfold Oper.wpX
 rw [hex θ r,hr,C34,Oper.uponIn_skip]
 refine ⟨_,h',hK.out,⟨θ,(r.world fr).putO hn hd (v:=.val undef) rfl (fun _ _ e=>by cases e),f.trans fr,?_⟩,Agree.putO hd⟩
 exact fun k hk=>hB k (by rwa [N8] at hk)
theorem U4{l:List Nat}{d:Nat}:has l d=true↔d∈l:=by
 simp only [has,List.any_eq_true]
 constructor
 ·rintro ⟨x,hx,e⟩;rw [C38 e];exact hx
 ·exact fun h=>⟨d,h,Nat.beq_refl d⟩
theorem Bw{i d:Nat}(h:i≠d):C3j i d=false:=by
 cases x:C3j i d with
 | false=>rfl
 | true=>exact absurd (C38 x) h
theorem U1(st:VS)(k:Nat)(cs:List Value):(st.setOwn k cs).own k=some cs:=by simp [VS.setOwn]
theorem F3(st:VS){k i:Nat}(cs:List Value)(h:i≠k):(st.setOwn k cs).own i=st.own i:=by simp [VS.setOwn,Bw h]
theorem B39(hs:Sim h W)(o:Obj):Fr h W h { W with heap:=W.heap.push o }:=by
 have lt:∀ {b:Nat} {o':Obj},W.heap[b]? = some o'->b<W.heap.size:=by
  intro b o' e
  rcases C3b b W.heap.size with x|x
  ·exact x
  ·rw [C39 x] at e;cases e
 refine ⟨fun b o' e=>?_,rfl,rfl,rfl,by simp,fun b hb _=>?_,fun b o' e e'=>?_⟩
 ·have:=hs b o' e
  simp only [Array.getElem?_push];rw [if_neg (by have:=lt this;omega)];exact this
 ·simp only [Array.getElem?_push];rw [if_neg (by omega)]
 ·rw [e] at e';cases e'
theorem Good.own{cfg:Cfg}(hn:cfg.n=n){h0:Heap}{W0:World}{o:Oper}(g:Good n h0 W0 st h a W){cells:Array Value}{t:TypeId}{K:VS->Heap->Prop}
 (hv:Fj cfg o.dst cells.toList st h K) (hex:∀ θ,Rel W0.heap.size n θ st h a W->(execOp a.eval o).run P W= .ok (.value (.pointer (some ⟨W.heap.size,0,none⟩))) { W with heap:=W.heap.push (.cells cells t) }) {Q:Exit->Act->World->Prop}:
 Oper.wpX F fu P o a W (fun a' W'=>∃ st' h',K st' h'/\Good n h0 W0 st' h' a' W'/\Agree cfg.lim st st') Q:=by
 obtain ⟨θ,r,f,hB⟩:=g
 unfold Fj at hv
 split at hv
 ·rename_i d hd
  obtain ⟨hok,hK⟩:=hv.both
  simp only [A0f,C36,Option.isNone_iff_eq_none] at hok
  obtain ⟨⟨⟨hdn,hlim⟩,hkey⟩,hfree⟩:=hok
  have hdn:d<n:=by rw [<- hn];exact C37 hdn
  have fr:=B39 r.sim (.cells cells t)
  unfold Oper.wpX
  rw [hex θ r,Oper.uponIn_value]
  have hfresh:∀ k,(st.own k).isSome=true->θ k<W.heap.size:=by
   intro k hk
   obtain ⟨cs,e⟩:=Option.isSome_iff_exists.1 hk
   obtain ⟨t',hb,_⟩:=r.own k cs e
   rcases C3b (θ k) W.heap.size with x|x
   ·exact x
   ·rw [C39 x] at hb;cases hb
  let θ':Nat->Nat:=fun k=>if k=d then W.heap.size else θ k
  have hθ:∀ k,(st.own k).isSome=true->θ' k=θ k:=by
   intro k hk
   have:k≠d:=by rintro rfl;rw [hfree] at hk;cases hk
   simp [θ',this]
  have hrel:∀ v u,(∀ k off,v= .own k off->(st.own k).isSome=true)->rel θ v u->rel θ' v u:=by
   intro v u hw hvu
   cases v with
   | own k off=>simp only [rel,hθ k (hw k off rfl)];exact hvu
   | _=>exact hvu
  have hnone:h W.heap.size=none:=by
   cases x:h W.heap.size with
   | none=>rfl
   | some o'=>have:=r.sim _ _ x;simp at this
  have r1:Rel W0.heap.size n θ' (st.setOwn d cells.toList) h a { W with heap:=W.heap.push (.cells cells t) }:=by
   refine ⟨r.defers.world fr,r.size,fun i hi=>hrel _ _ (fun k off e=>r.wf i k off e) (r.slot i hi),fr.sim,fun k cs e=>?_,fun k k' hk hk' e=>?_,fun i k off e=>?_,r.out⟩
   ·by_cases hkd:k=d
    ·subst hkd
     rw [U1] at e
     injection e with e;subst e
     exact ⟨t,by simp [θ'],by simpa [θ'] using hnone⟩
    ·rw [F3 _ _ hkd] at e
     obtain ⟨t',hb,hno⟩:=r.own k cs e
     have hs:(st.own k).isSome=true:=by rw [e];rfl
     refine ⟨t',?_,by rw [hθ k hs];exact hno⟩
     rw [hθ k hs,fr.keep _ (hfresh k hs) hno];exact hb
   ·by_cases hkd:k=d<;>by_cases hkd':k'=d
    ·rw [hkd,hkd']
    ·rw [F3 _ _ hkd'] at hk'
     have h1:=hfresh k' hk'
     have h2:=hθ k' hk'
     rw [h2,hkd] at e;simp [θ'] at e;omega
    ·rw [F3 _ _ hkd] at hk
     have h1:=hfresh k hk
     have h2:=hθ k hk
     rw [h2,hkd'] at e;simp [θ'] at e;omega
    ·rw [F3 _ _ hkd] at hk
     rw [F3 _ _ hkd'] at hk'
     rw [hθ k hk,hθ k' hk'] at e
     exact r.inj k k' hk hk' e
   ·have:=r.wf i k off e
    have hkd:k≠d:=by rintro rfl;rw [hfree] at this;cases this
    rw [F3 _ _ hkd];exact this
  have r2:=r1.put hdn (v:=.own d 0) (u:=.pointer (some ⟨W.heap.size,0,none⟩)) (by simp [rel,θ']) (fun k off e=>by cases e;rw [U1];rfl)
  refine ⟨_,h,hK,⟨θ',by rw [hd];exact r2,f.trans fr,fun k hk=>?_⟩,fun i hi=>?_,fun i hi=>?_⟩
  ·by_cases hkd:k=d
   ·simp only [θ',hkd,if_true];exact f.size
   ·have hk:(st.own k).isSome=true:=by
     have:((st.put d (.own d 0)).setOwn d cells.toList).own k=st.own k:=F3 _ _ hkd
     rwa [this] at hk
    rw [hθ k hk];exact hB k hk
  ·have hid:i≠d:=by rintro rfl;rw [hlim] at hi;cases hi
   simp [VS.setOwn,VS.put,Bw hid]
  ·have hid:i≠d:=by rintro rfl;rw [hkey] at hi;cases hi
   exact F3 _ _ hid
 ·exact hv.elim
theorem Uu(cur:List Value)(p:Nat)(v:Value)(vs:List Value)(hp:p<cur.length):J7 (cur.set p v) (p+1) vs=J7 cur p (v::vs):=by
 have hl:(cur.take p).length=p:=by simp;omega
 have e:cur.set p v=cur.take p++v::cur.drop (p+1):=by rw [List.set_eq_take_append_cons_drop,if_pos hp]
 have e1:(cur.set p v).take (p+1)=cur.take p++[v]:=by
  rw [e,List.take_append,hl];simp [List.take_take]
 have e2:(cur.set p v).drop (p+1+vs.length)=cur.drop (p+(v::vs).length):=by
  rw [List.drop_set_of_lt (by omega)];congr 1;simp;omega
 unfold J7
 rw [e1,e2];simp
theorem Kb(b:Nat)(t:TypeId):∀ (vs:List Value) (i:Nat) (cur:List Value) (W:World) (off:Nat),W.heap[b]? = some (.cells cur.toArray t (0,0))->off+i+vs.length<=cur.length->(∀ v∈vs,A1v v=true)->
 ∃ W',(storeCells ⟨b,off,none⟩ vs i).run P W= .ok () W'/\W'.heap[b]? = some (.cells (J7 cur (off+i) vs).toArray t (0,0))/\W'.os=W.os/\W'.tape=W.tape/\W'.output=W.output/\W'.heap.size=W.heap.size/\∀ k,k≠b->W'.heap[k]? = W.heap[k]? :=by
 intro vs
 induction vs with
 | nil=>
  intro i cur W off hb hl _
  refine ⟨W,by simp [storeCells],?_,rfl,rfl,rfl,rfl,fun _ _=>rfl⟩
  rw [hb];simp [J7]
 | cons v vs ih=>
  intro i cur W off hb hl h1
  simp only [List.length_cons] at hl
  have hcell:W.cell? ⟨b,off+i,none⟩=some (cur[off+i]'(by omega)):=by
   simp [World.cell?,hb,List.getElem?_eq_getElem (show off+i<cur.length by omega)]
  have hfz:W.frozen? ⟨b,off+i,none⟩=false:=by simp [World.frozen?,hb]
  have hset:(W.setCell ⟨b,off+i,none⟩ v).heap[b]? = some (.cells ((cur.set (off+i) v).toArray) t (0,0)):=by
   simp [World.setCell,Array.getElem?_modify,hb]
  obtain ⟨W',hr,hb',h2,h3,h4,h5,h6⟩:=ih (i+1) (cur.set (off+i) v) (W.setCell ⟨b,off+i,none⟩ v) off hset (by simp;omega) (fun u hu=>h1 u (by simp [hu]))
  refine ⟨W',?_,?_,h2,h3,h4,by rw [h5];simp [World.setCell],fun k hk=>(h6 k hk).trans (Fo W _ v k hk)⟩
  ·have h1v:=h1 v (by simp)
   have hst:(store (Addr.add ⟨b,off,none⟩ i) v).run P W= .ok () (W.setCell ⟨b,off+i,none⟩ v):=by
    rw [Ep]
    cases v<;>first|(simp [A1v] at h1v;done)|simp [store,Sem.run,hcell,hfz]
   simp only [storeCells,Sem.run_bind,hst,C34,hr]
  ·rw [hb']
   congr 2
   apply congrArg
   exact Uu cur (off+i) v vs (by omega)
theorem Good.ownStore{cfg:Cfg}(hn:cfg.n=n){h0:Heap}{W0:World}{o:Oper}{t:TypeId}{x y:Operand}(hop:o.op= .store t x y)(g:Good n h0 W0 st h a W)(hd:O9 cfg o.dst=true){k off:Nat}(hx:D3 st x= .own k off){cs:List Value}(hk:st.own k=some cs){K:VS->Heap->Prop}
 (hv:When ((D3 st y).isVal&&A0h cfg.lim k&&(P.info? t).isSome&&C3j (rho st y).cells.size (P.cellsOf t)&&Nat.ble (off+P.cellsOf t) cs.length&&B8k (rho st y).cells.toList)
    (K ((st.setOwn k (J7 cs off (rho st y).cells.toList)).putO o.dst (.val undef)) h)) {Q:Exit->Act->World->Prop}:
 Oper.wpX F fu P o a W (fun a' W'=>∃ st' h',K st' h'/\Good n h0 W0 st' h' a' W'/\Agree cfg.lim st st') Q:=by
 obtain ⟨θ,r,f,hB⟩:=g
 obtain ⟨hb,hK⟩:=hv.both
 simp only [C36] at hb
 obtain ⟨⟨⟨⟨⟨hy,hlim⟩,hinfo⟩,hsz⟩,hle⟩,hone⟩:=hb
 have hsz:=C38 hsz
 have hle:=C37 hle
 obtain ⟨tb,hbk,hno⟩:=r.own k cs hk
 obtain ⟨W',hr,hb',h2,h3,h4,h5,h6⟩:=Kb (P:=P) (θ k) tb (rho st y).cells.toList 0 cs W off hbk (by simp [hsz];omega) (fun v hv=>List.all_eq_true.1 hone v hv)
 have hrun:(execOp a.eval o).run P W= .ok .skip W':=by
  simp [execOp,hop,Instr.storeAt,r.evalOwn hx,C35,storeVar,r.evalRho hy,J8 hinfo,hsz,hr]
 unfold Oper.wpX
 rw [hrun,Oper.uponIn_skip]
 have hsim:Sim h W':=fun b o' e=>by
  have hbne:b≠θ k:=by rintro rfl;rw [hno] at e;cases e
  rw [h6 b hbne];exact r.sim b o' e
 have r1:Rel W0.heap.size n θ (st.setOwn k (J7 cs off (rho st y).cells.toList)) h a W':=by
  have hown:∀ j,((st.setOwn k (J7 cs off (rho st y).cells.toList)).own j).isSome=(st.own j).isSome:=by
   intro j
   by_cases e:j=k
   ·subst e;rw [U1,hk];rfl
   ·rw [F3 _ _ e]
  refine ⟨r.defers.turn fun r' hr e=>⟨hr,by rw [h6 r' (by rintro rfl;rw [hbk] at e;cases e)];exact e⟩,r.size,r.slot,hsim,fun j cs' e=>?_,fun j j' h1 h2 e=>?_,fun i j o' e=>by rw [hown];exact r.wf i j o' e,r.out⟩
  ·by_cases ej:j=k
   ·subst ej
    rw [U1] at e;injection e with e;subst e
    exact ⟨tb,by simpa using hb',hno⟩
   ·rw [F3 _ _ ej] at e
    obtain ⟨t',hbj,hnj⟩:=r.own j cs' e
    refine ⟨t',?_,hnj⟩
    rw [h6 _ (fun e'=>ej (r.inj j k (by rw [e];rfl) (by rw [hk];rfl) e'))];exact hbj
  ·rw [hown] at h1 h2;exact r.inj j j' h1 h2 e
 have hfr:Fr h0 W0 h W':=by
  refine ⟨hsim,h2.trans f.os,h3.trans f.tape,h4.trans f.output,by rw [h5];exact f.size,fun b hb e=>?_,f.new⟩
  have:=hB k (by rw [hk];rfl)
  rw [h6 b (by omega)];exact f.keep b hb e
 refine ⟨_,h,hK,⟨θ,r1.putO hn hd (v:=.val undef) rfl (fun _ _ e=>by cases e),hfr,fun j hj=>?_⟩,Agree.trans (b:=st.setOwn k (J7 cs off (rho st y).cells.toList)) ⟨fun _ _=>rfl,fun i hi=>?_⟩ (Agree.putO hd)⟩
 ·rw [N8] at hj
  by_cases e:j=k
  ·subst e;exact hB j (by rw [hk];rfl)
  ·rw [F3 _ _ e] at hj;exact hB j hj
 ·exact F3 _ _ (fun e=>by subst e;rw [hlim] at hi;cases hi)
def Bodies(P:Program)(fns:List Nat):Prop:=∀ g,g∈fns->∀ args W,(callFunc g args).run P W= .ok (.enter g args) W
theorem exRt.out{t:TypeId}{K:Value->Prop}(x:exRt P t K):∃ v,K v:=by
 unfold exRt at x
 split at x
 ·obtain ⟨vs,hvs⟩:=exTs.out x;exact ⟨_,hvs⟩
 ·exact exT.out x
theorem Rd(r:Rel s0 n θ st h a W){xs:Array Operand}(e:O4 st xs.toList=true):xs.map a.eval=xs.map (rho st):=by
 apply Array.ext
 ·simp
 ·intro i h1 h2
  simp only [Array.getElem_map]
  exact r.evalAll e _ (by simp)
theorem Good.call[FOk F]{cfg:Cfg}(hn:cfg.n=n)(hfn:Bodies P cfg.fns){h0:Heap}{W0:World}{o:Oper}{c:Call}{x:Operand}(hop:o.op= .call c)(hcl:c.callee= .value x)(g:Good n h0 W0 st h a W)(hd:O9 cfg o.dst=true){gr:Bool}{K:VS->Heap->Prop}
 (hv:A3u P cfg o c (D3 st x) gr st h K) {Q:Exit->Act->World->Prop}:
 Oper.wpX F fu P o a W (fun a' W'=>∃ st' h',K st' h'/\Good n h0 W0 st' h' a' W'/\Agree cfg.lim st st') Q:=by
 obtain ⟨θ,r,f,hB⟩:=g
 unfold A3u at hv
 split at hv
 ·rename_i gf first captured hx
  split at hv
  ·rename_i hhas
   obtain ⟨hb,hv⟩:=hv.both
   have hrun:(execOp a.eval o).run P W= .ok (.enter gf (first++c.args.map (rho st)++captured)) W:=by
    simp [execOp,hop,resolve,hcl,r.evalVal hx,Deferred.ofValue,invoke,hfn gf (U4.1 hhas),Rd r hb]
   unfold Oper.wpX
   rw [hrun,Oper.uponIn_enter]
   refine ⟨fun hdp=>(by rw [FOk.depth] at hdp;cases hdp),(B1d (hv W r.sim)).mono fun e W' ⟨v,h',he,hK,fr⟩=>?_⟩
   subst he
   obtain ⟨u,rfl,hK⟩:=hK.out
   refine ⟨_,h',hK.out,⟨θ,(r.world fr).putO hn hd (v:=.val v) rfl (fun _ _ e=>by cases e),f.trans fr,?_⟩,Agree.putO hd⟩
   exact fun k hk=>hB k (by rwa [N8] at hk)
  ·obtain ⟨hb,hv⟩:=hv.both
   obtain ⟨v,W',h',hr,hK,fr⟩:=hv W r.sim
   have hrun:(execOp a.eval o).run P W= .ok (.value v) W':=by
    rw [<- hr]
    simp [execOp,hop,resolve,hcl,r.evalVal hx,Deferred.ofValue,invoke,Rd r hb]
   obtain ⟨u,rfl,hK⟩:=hK.out
   unfold Oper.wpX
   rw [hrun,Oper.uponIn_value]
   refine ⟨_,h',hK.out,⟨θ,(r.world fr).putO hn hd (v:=.val v) rfl (fun _ _ e=>by cases e),f.trans fr,?_⟩,Agree.putO hd⟩
   exact fun k hk=>hB k (by rwa [N8] at hk)
 ·rename_i l first captured hx
  obtain ⟨hb,hv⟩:=hv.both
  obtain ⟨fn,tmps,asg,body,hy,hround⟩:=hv W r.sim
  have hrun:(execOp a.eval o).run P W= .ok (.round l fn tmps asg body) W:=by
   rw [<- hy]
   simp [execOp,hop,resolve,hcl,r.evalVal hx,Deferred.ofValue,invoke,Rd r hb]
  unfold Oper.wpX
  rw [hrun,Oper.uponIn_round]
  refine ⟨fun hdp=>(by rw [FOk.depth] at hdp;cases hdp),(FOk.round (hround _)).mono fun e W' ⟨v,h',he,hK,fr⟩=>?_⟩
  subst he
  obtain ⟨u,rfl,hK⟩:=hK.out
  refine ⟨_,h',hK.out,⟨θ,(r.world fr).putO hn hd (v:=.val v) rfl (fun _ _ e=>by cases e),f.trans fr,?_⟩,Agree.putO hd⟩
  exact fun k hk=>hB k (by rwa [N8] at hk)
 ·exact hv.elim
theorem Tt{t:TypeId}(hz:A74 P t=true)(W:World):(zeroValue t).run P W= .ok (Od P t) W:=by
 unfold A74 at hz
 cases hi:P.info? t with
 | none=>rw [hi] at hz;cases hz
 | some i=>
  rw [hi] at hz
  obtain ⟨z,e⟩:=Option.isSome_iff_exists.1 hz
  simp [zeroValue,typeInfo,program,hi,Sem.run_bind,Sem.run,e,Od]
theorem Good.core[FOk F]{cfg:Cfg}(hn:cfg.n=n)(hfn:Bodies P cfg.fns){h0:Heap}{W0:World}{o:Oper}(g:Good n h0 W0 st h a W){gr:Bool}{K:VS->Heap->Prop}
 (hv:Q8 P cfg o gr st h K) {Q:Exit->Act->World->Prop}:
 Oper.wpX F fu P o a W (fun a' W'=>∃ st' h',K st' h'/\Good n h0 W0 st' h' a' W'/\Agree cfg.lim st st') Q:=by
 unfold Q8 at hv
 obtain ⟨hd,hv⟩:=hv.both
 split at hv
 ·rename_i hq
  have hsel:∀ cs b,o.op ≠ .select cs b:=fun cs b e=>by simp [Qv,e] at hq
  exact g.quiet hn hd hsel hv
 ·split at hv
  ·rename_i t hop
   split at hv
   ·obtain ⟨hz,hv⟩:=hv.both
    refine g.own (P:=P) (t:=t) hn hv fun θ r=>?_
    simp [execOp,hop,Instr.alloc,Tt hz,newVar,newRow,newObj,Sem.run]
   ·exact g.effP hn hd hv fun θ r=>by simp [execOp,hop]
  ·rename_i t x hop
   obtain ⟨hx,hv⟩:=hv.both
   split at hv
   ·refine g.own (P:=P) (t:=t) hn hv fun θ r=>?_
    simp [execOp,hop,Instr.box,r.evalRho hx,newVar,newRow,newObj,Sem.run]
   ·exact g.effP hn hd hv fun θ r=>by simp [execOp,hop,r.evalRho hx]
  ·rename_i t x y hop
   unfold A21 at hv
   split at hv
   ·rename_i k off hx
    split at hv
    ·rename_i cs hk
     exact g.ownStore hn hop hd hx hk hv
    ·exact hv.elim
   ·rename_i p hx
    obtain ⟨hy,hv⟩:=hv.both
    exact g.effU hn hd hv fun θ r=>by simp [execOp,hop,r.evalVal hx,r.evalRho hy]
   ·exact hv.elim
  ·rename_i t l c hop
   obtain ⟨hx,hv⟩:=hv.both
   refine g.effV hn hd hv fun θ r=>?_
   have h1:=r.evalAll hx l (by simp)
   have h2:=r.evalAll hx c (by simp)
   simp [execOp,hop,h1,h2]
  ·rename_i t m ps hop
   obtain ⟨hx,hv⟩:=hv.both
   refine g.effV hn hd hv fun θ r=>?_
   have e:(ps.map fun (i,x)=>(i,a.eval x))=ps.map fun (i,x)=>(i,rho st x):=by
    apply Array.ext
    ·simp
    ·intro i h1 h2
     simp only [Array.getElem_map]
     have:=r.evalAll hx (ps[i]'(by simpa using h1)).2 (by simp only [List.mem_map];exact ⟨ps[i]'(by simpa using h1),by simp,rfl⟩)
     rw [this]
   simp [execOp,hop,e]
  ·rename_i s d x hop
   obtain ⟨hx,hv⟩:=hv.both
   refine g.effV hn hd hv fun θ r=>?_
   have h1:=r.evalAll hx x (by simp)
   simp [execOp,hop,h1]
  ·rename_i c hop
   split at hv
   ·rename_i x hcl
    exact g.call hn hfn hop hcl hd hv
   ·rename_i hcl
    obtain ⟨hx,hv⟩:=hv.both
    exact g.effV hn hd hv fun θ r=>by simp [execOp,hop,resolve,hcl,invoke,builtin,Rd r hx]
   ·rename_i hcl
    obtain ⟨hx,hv⟩:=hv.both
    exact g.effV hn hd hv fun θ r=>by simp [execOp,hop,resolve,hcl,invoke,builtin,Rd r hx]
   ·exact hv.elim
  ·exact hv.elim
theorem put_self(st:VS){g:Nat}{v:AVal}(e:st.env g=v):st.put g v=st:=by
 unfold VS.put
 congr 1
 funext i
 by_cases h:i=g
 ·subst h;simp [e]
 ·simp [Bw h]
theorem Gm{cfg:Cfg}{o:Oper}{gr:Bool}{K:VS->Heap->Prop}(hv:Q8 P cfg o gr st h K):∀ c,o.op ≠ .defer c:=by
 intro c e
 unfold Q8 at hv
 obtain ⟨_,hv⟩:=hv.both
 simp [Qv,e] at hv
theorem Good.op[FOk F]{cfg:Cfg}(hn:cfg.n=n)(hfn:Bodies P cfg.fns){h0:Heap}{W0:World}{ops:Array Oper}{i:Nat}{o:Oper}(hi:ops[i]? = some o)(g:Good n h0 W0 st h a W){gr:Bool}{K:VS->Heap->Prop}
 (hv:Of P cfg ops o gr st h K) {Q:Exit->Act->World->Prop}:
 wpOpIn F fu P ops Q i (fun a' W'=>∃ st' h',K st' h'/\Good n h0 W0 st' h' a' W'/\Agree cfg.lim st st') a W:=by
 unfold wpOpIn
 simp only [hi]
 unfold Of at hv
 have skip:∀ {u:AVal},O9 cfg o.dst=true->K (st.putO o.dst (.val undef)) h->∃ st' h',K st' h'/\Good n h0 W0 st' h' (a.put o.dst undef) W/\Agree cfg.lim st st':=by
  intro _ hd hK
  obtain ⟨θ,r,f,hB⟩:=g
  exact ⟨_,h,hK,⟨θ,r.putO hn hd (v:=.val undef) rfl (fun _ _ e=>by cases e),f,fun k hk=>hB k (by rwa [N8] at hk)⟩,Agree.putO hd⟩
 split at hv
 ·rename_i hg
  rw [if_pos (by simp [Region.wanted,hg])]
  exact (g.core hn hfn hv).toIn (Gm hv)
 ·rename_i j want hg
  split at hv
  ·exact hv.elim
  ·rename_i gs hgs
   split at hv
   ·rename_i b hb
    have hy:yielded ops a.tmps j=some b:=by
     obtain ⟨θ,r,f,hB⟩:=g
     have h1:a.tmps.getD gs undef= .bool b:=by have:=r.slot' gs;rw [hb] at this;exact this
     have hlt:gs<a.tmps.size:=by
      rcases C3b gs a.tmps.size with x|x
      ·exact x
      ·rw [r.out gs (by rw [<- r.size];exact x)] at hb;cases hb
     have h2:a.tmps[gs]? = some (.bool b):=by
      rw [C3k hlt];simp [C3l,hlt] at h1;rw [h1]
     simp [yielded,hgs,h2]
    have hw:Region.wanted o (yielded ops a.tmps)=(b==want):=by
     simp only [Region.wanted,hg,hy]
     cases b<;>cases want<;>rfl
    rw [hw]
    cases b<;>cases want
    ·have hv2:Q8 P cfg o gr (st.put gs (.val (.bool false))) h K:=hv
     rw [put_self st hb] at hv2
     rw [if_pos (by decide)];exact (g.core hn hfn hv2).toIn (Gm hv2)
    ·have hv2:When (O9 cfg o.dst) (K ((st.put gs (.val (.bool false))).putO o.dst (.val undef)) h):=hv
     rw [put_self st hb] at hv2
     rw [if_neg (by decide)];exact ⟨fun f _=>FOk.fn f,skip (u:=.any) hv2.both.1 hv2.both.2⟩
    ·have hv2:When (O9 cfg o.dst) (K ((st.put gs (.val (.bool true))).putO o.dst (.val undef)) h):=hv
     rw [put_self st hb] at hv2
     rw [if_neg (by decide)];exact ⟨fun f _=>FOk.fn f,skip (u:=.any) hv2.both.1 hv2.both.2⟩
    ·have hv2:Q8 P cfg o gr (st.put gs (.val (.bool true))) h K:=hv
     rw [put_self st hb] at hv2
     rw [if_pos (by decide)];exact (g.core hn hfn hv2).toIn (Gm hv2)
   ·rename_i tv hb
    have hw:Region.wanted o (yielded ops a.tmps)=false:=by
     obtain ⟨θ,r,f,hB⟩:=g
     have h1:a.tmps.getD gs undef= .tuple tv:=by have:=r.slot' gs;rw [hb] at this;exact this
     have h2:yielded ops a.tmps j=none:=by
      unfold yielded
      rw [hgs]
      simp only [Option.bind_some]
      rcases C3b gs a.tmps.size with x|x
      ·rw [C3k x];simp [C3l,x] at h1;rw [h1]
      ·rw [C39 x]
     simp [Region.wanted,hg,h2]
    rw [if_neg (by rw [hw];decide)]
    exact ⟨fun f _=>FOk.fn f,skip (u:=.any) hv.both.1 hv.both.2⟩
   ·exact hv.elim
theorem B3y[FOk F]{cfg:Cfg}(hn:cfg.n=n)(hfn:Bodies P cfg.fns){h0:Heap}{W0:World}{ops:Array Oper}{gr:Bool}{Q:Exit->Act->World->Prop}{K:VS->Heap->Prop}: ∀ (l:List Nat) (st:VS) (h:Heap) (a:Act) (W:World),
 Good n h0 W0 st h a W->B1s P cfg ops gr l st h K->
 (∀ st' h' a' W',K st' h'->Good n h0 W0 st' h' a' W'->Agree cfg.lim st st'->Q .normal a' W')->wpOpsIn F fu P ops Q l a W:=by
 intro l
 induction l with
 | nil=>exact fun st h a W g hv hQ=>hQ st h a W hv g (Agree.refl _ _)
 | cons i l ih=>
  intro st h a W g hv hQ
  unfold B1s at hv
  split at hv
  ·exact hv.elim
  ·rename_i o ho
   rw [wpOpsIn_cons]
   refine wpOpIn_mono (fun a' W' ⟨st',h',hK,g',ag⟩=>?_) (g.op hn hfn ho hv)
   exact ih st' h' a' W' g' hK fun st2 h2 a2 W2 k g2 ag2=>hQ st2 h2 a2 W2 k g2 (ag.trans ag2)
end
end Go.Proofs.YtajkakhfcokljaaGreatDoor
