/- A part. -/
import Derived.Test.YteppbhimdjmabaaGreatDoorG01
import Derived.OrdersIn
import Derived.RangeFuncCalls
set_option linter.all false
open Bool renaming and_eq_true->aH,false_eq_true->aU
open _root_.Go.Instr renaming sureAddr->aF,loadAt->aN,sliceBounds->aP,sliceAt->aS,sliceBound->aY,indexAt->aZ
open Nat renaming le_of_ble_eq_true->aM,beq->aW,lt_or_ge->bC
open _root_.Go.Op renaming maxDepth->aO,equalIn->aT
open Option renaming map_some->aR
open _root_.Go.Result renaming andThen_ok->aC
open _root_ renaming Nat->J,List->Z
open _root_.Go renaming World->aE,Value->aI,Operand->aJ,TypeId->aL,Oper->aQ,Program->aX
open _root_.Go.Proofs.YteppbhimdjmabaaGreatDoor renaming Heap->aK,AVal->aV
namespace Go.Proofs.YteppbhimdjmabaaGreatDoor
open Go
def rel(θ:J->J):aV->aI->Prop
 |.val v,u=>u=v
 |.own k off,u=>u= .pointer (some ⟨θ k,off,none⟩)
 |.any,_=>True
structure FOkS (F:Fence):Prop where
 ok:F=Fence.wide\/∃ l,F=Fence.wide.inRound l
abbrev FOk(F:Fence):=Inhabited (PLift (FOkS F))
instance:FOk Fence.wide:=⟨⟨⟨.inl rfl⟩⟩⟩
instance {l:J}:FOk (Fence.wide.inRound l):=⟨⟨⟨.inr ⟨l,rfl⟩⟩⟩⟩
def FOk.fn{F:Fence}[x:FOk F](f:FuncId):F.fn f:=by rcases x.default.down.ok with rfl|⟨l,rfl⟩<;>trivial
def FOk.depth{F:Fence}[x:FOk F]:F.depth=none:=by rcases x.default.down.ok with rfl|⟨l,rfl⟩<;>rfl
def B5f{F:Fence}[x:FOk F]{k:J}{P:aX}{f:FuncId}{args:Array aI}{W:aE}{R:Ending->aE->Prop}(h:Calls P f args W R):CallsIn F k P f args W R:=by rcases x.default.down.ok with rfl|⟨l,rfl⟩;{exact callsIn_wide.2 h};·exact CallsIn.inRound l (callsIn_wide.2 h)
def FOk.round{F:Fence}[x:FOk F]{k:J}{P:aX}{l:J}{f:FuncId}{tmps:Array aI}{asg body:Code}{W:aE}{R:Ending->aE->Prop}(h:RoundIn Fence.wide k P l f tmps asg body W R):RoundIn F k P l f tmps asg body W R:=by rcases x.default.down.ok with rfl|⟨l,rfl⟩;{exact h};·exact h
def Oper.wpX(F:Fence)(fu:J)(P:aX)(o:aQ)(a:Act)(W:aE)(next:Act->aE->Prop)(Q:Exit->Act->aE->Prop):Prop:=o.uponIn F fu P a next Q ((execOp a.eval o).run P W)
def Oper.wpX.toIn{F:Fence}[FOk F]{fu:J}{P:aX}{o:aQ}{a:Act}{W:aE}{next:Act->aE->Prop}{Q:Exit->Act->aE->Prop}(h:Oper.wpX F fu P o a W next Q)(hd:∀c,o.op ≠ .defer c):o.wpIn F fu P a W next Q:=⟨fun f _=>FOk.fn f,by rw[Oper.semAt_eq _ _ _ hd];exact h⟩
def MarksOk(s0:J)(h:aK)(W:aE)(ds:Z Deferred):Prop:=∃rs:Z J,rs.Nodup/\ds.map (·.target)=rs.map Target.collected/\∀r∈rs,s0<=r/\h r=none/\W.heap[r]? = some (.deferred (some []))
def MarksOk.nil{s0:J}{h:aK}{W:aE}:MarksOk s0 h W []:=⟨[],List.nodup_nil,rfl,fun r a=>by cases a⟩
def MarksOk.turn{s0:J}{h h':aK}{W W':aE}{ds:Z Deferred}(m:MarksOk s0 h W ds)(x:∀r,h r=none->W.heap[r]? = some (.deferred (some []))->h' r=none/\W'.heap[r]? = some (.deferred (some []))):MarksOk s0 h' W' ds:=by obtain⟨c,e,d,b⟩:=m;exact⟨c,e,d,fun r a=>⟨(b r a).1,x r (b r a).2.1 (b r a).2.2⟩⟩
def Fw{W:aE}{r:J}{o:Obj}(e:W.heap[r]? = some o):r<W.heap.size:=by grind
def MarksOk.world{s0:J}{h h':aK}{W W':aE}{ds:Z Deferred}(m:MarksOk s0 h W ds)(f:Fr h W h' W'):MarksOk s0 h' W' ds:=
 m.turn fun r b e=>by
  have a:=Fw e;refine⟨?_,(f.keep r a b).trans e⟩
  cases x:h' r with
  |none=>rfl
  |some o=>have:=f.new r o b x;omega
structure Rel (s0:J) (n:J) (θ:J->J) (st:VS) (h:aK) (a:Act) (W:aE):Prop where
 defers:MarksOk s0 h W a.defers
 size:a.tmps.size=n
 slot:∀ i,i<n->rel θ (st.env i) (a.tmps.getD i undef)
 sim:Sim h W
 own:∀ k cs,st.own k=some cs->∃ t,W.heap[θ k]? = some (.cells cs.toArray t (0,0))/\h (θ k)=none
 inj:∀ k k',(st.own k).isSome=true->(st.own k').isSome=true->θ k=θ k'->k=k'
 wf:∀ i k off,st.env i= .own k off->(st.own k).isSome=true
 out:∀ i,n<=i->st.env i= .val undef
def Good(n:J)(h0:aK)(W0:aE)(st:VS)(h:aK)(a:Act)(W:aE):Prop:=∃θ,Rel W0.heap.size n θ st h a W/\Fr h0 W0 h W/\∀k,(st.own k).isSome=true->W0.heap.size<=θ k
structure Agree (lim:Option Lim) (st st':VS):Prop where
 env:∀ i,C56 lim i=false->st'.env i=st.env i
 own:∀ i,A4j lim i=false->st'.own i=st.own i
def Agree.refl(lim:Option Lim)(st:VS):Agree lim st st:=⟨fun _ _=>rfl,fun _ _=>rfl⟩
def Agree.trans{lim:Option Lim}{a b c:VS}(x:Agree lim a b)(y:Agree lim b c):Agree lim a c:=⟨fun i h=>(y.env i h).trans (x.env i h),fun i h=>(y.own i h).trans (x.own i h)⟩
def When.both{b:Bool}{A:Prop}(h:When b A):b=true/\A:=by cases b;{exact h.elim};·exact⟨rfl,h⟩
section
variable {P:aX} {s0:J} {F:Fence} {fu:J} {n:J} {θ:J->J} {st:VS} {h:aK} {a:Act} {W:aE}
def Rel.slot'(r:Rel s0 n θ st h a W)(i:J):rel θ (st.env i) (a.tmps.getD i undef):=by rcases bC i n with b|b;{exact r.slot i b};·rw[r.out i b];show _=undef;have:a.tmps.size<=i:=by{rw[r.size];exact b};grind
def Rel.eval(r:Rel s0 n θ st h a W)(x:aJ):rel θ (D6 st x) (a.eval x):=by
 cases x with
 |tmp t=>exact r.slot' t
 |const v=>exact rfl
 |global g=>exact rfl
 |func f=>exact rfl
def Rel.evalVal(r:Rel s0 n θ st h a W){x:aJ}{v:aI}(e:D6 st x= .val v):a.eval x=v:=by have:=r.eval x;rw[e]at this;exact this
def Rel.evalOwn(r:Rel s0 n θ st h a W){x:aJ}{k off:J}(e:D6 st x= .own k off):a.eval x= .pointer (some ⟨θ k,off,none⟩):=by have:=r.eval x;rw[e]at this;exact this
def Rel.evalRho(r:Rel s0 n θ st h a W){x:aJ}(e:(D6 st x).isVal=true):a.eval x=rho st x:=by
 unfold rho
 cases y:D6 st x with
 |val v=>exact r.evalVal y
 |own k off=>rw[y]at e;cases e
 |any=>rw[y]at e;cases e
def Rel.evalAll(r:Rel s0 n θ st h a W){xs:Z aJ}(e:T9 st xs=true):∀x∈xs,a.eval x=rho st x:=fun x b=>r.evalRho (List.all_eq_true.1 e x b)
def Rel.exec(r:Rel s0 n θ st h a W){o:aQ}(hs:∀cs b,o.op ≠ .select cs b)(e:T9 st o.op.operands.toList=true):execOp a.eval o=execOp (rho st) o:=execOp_congr o hs fun x c=>r.evalAll e x gz0
def Ra(r:Rel s0 n θ st h a W){o:aQ}{C:aV->Prop}(hs:∀cs b,o.op ≠ .select cs b)(hv:Nt P o st C):∃v u,C v/\rel θ v u/\(∀k off,v= .own k off->(st.own k).isSome=true)/\(execOp a.eval o).run P W= .ok (.value u) W:=by unfold Nt at hv;split at hv;{rename_i e;split at hv;{rename_i v c;refine⟨.val v,v,hv,rfl,(fun _ _ e=>by cases e),?_⟩;rw[r.exec hs e];exact Vp _ c W};grind};grind
def Oj{t:aL}{b:Bool}(h:Pj P t=some b)(W:aE):(isAgg t).run P W= .ok b W:=by
 unfold Pj at h;unfold isAgg
 cases hu:P.underlying t with
 |none=>grind
 |some d=>
  rw[hu]at h;simp only[Sem.run_bind,run_underlying hu,aC];cases d<;>simp at h<;>subst h<;>rfl
def O3{t:aL}(h:(P.info? t).isSome=true)(W:aE):(sizeOf t).run P W= .ok (P.cellsOf t) W:=by obtain⟨i,a⟩:=Option.isSome_iff_exists.1 h;simp[sizeOf,typeInfo,program,Program.cellsOf,a,Sem.run_bind,Sem.run]
def A1q{t:aL}{d:TypeDesc}(h:P.underlying t=some d):(P.info? t).isSome=true:=by unfold Program.underlying at h;grind
def Ng{t:aL}{b:Bool}(h:Pj P t=some b):(P.info? t).isSome=true:=by
 unfold Pj at h
 cases hu:P.underlying t with
 |none=>grind
 |some d=>exact A1q hu
def cellsAt.out{a:Addr}{X:Prop}:∀{vs:Z aI} {j:J},cellsAt h a j vs X->X/\∀i v,vs[i]? = some v->h.cell? (a.add (j+i))=some v:=by
 intro vs
 induction vs with
 |nil=>exact fun x=>⟨x,fun i v e=>by simp at e⟩
 |cons u vs ih=>
  intro j ⟨h1,h2⟩;obtain⟨b,c⟩:=ih h2;refine⟨b,fun i v e=>?_⟩
  cases i with
  |zero=>grind
  |succ i=>grind
def Lu(hs:Sim h W){t:aL}{ad:Addr}{C:aV->Prop}(hv:Aj P t ad h C):∃v,C (.val v)/\(aN t (.pointer (some ad))).run P W= .ok v W:=by unfold Aj at hv;split at hv;{rename_i a;split at hv;{obtain⟨g,hv⟩:=hv.both;obtain⟨f,hl,hv⟩:=exL.out hv;obtain⟨c,d⟩:=hv.out;refine⟨_,c,?_⟩;have b:f.length=P.cellsOf t:=by{simp_all};have:=run_loadCells_list (P:=P) (w:=W) ad f (fun j v e=>hs.cell gz0);simp only[aN,aF,loadVar,Sem.run_bind,Sem.run_pure,Oj a,aC,if_true,O3 (Ng a),<- b,this]};grind};{rename_i a;obtain⟨v,c,hv⟩:=exV.out hv;refine⟨v,hv,?_⟩;simp only[aN,aF,loadVar,Sem.run_bind,Sem.run_pure,Oj a,aC,if_false,aU];simp only[load,Sem.run,hs.cell c]};grind
def Rel.ownCell(r:Rel s0 n θ st h a W){k:J}{cs:Z aI}(e:st.own k=some cs){off:J}{v:aI}(hv:cs[off]? = some v):W.cell? ⟨θ k,off,none⟩=some v:=by obtain⟨t,b,_⟩:=r.own k cs e;simp[World.cell?,b,hv]
def Cf(b off j:J):(Addr.add ⟨b,off,none⟩ j)=⟨b,off+j,none⟩:=by unfold Addr.add;grind
def Hg(r:Rel s0 n θ st h a W){t:aL}{k off:J}{cs:Z aI}(e:st.own k=some cs){C:aV->Prop}(hv:Af P t cs off C):∃v,C (.val v)/\(aN t (.pointer (some ⟨θ k,off,none⟩))).run P W= .ok v W:=by unfold Af at hv;split at hv;{rename_i b;obtain⟨c,hv⟩:=hv.both;simp only[aH]at c;have d:=aM c.2;refine⟨_,hv,?_⟩;have hl:((cs.drop off).take (P.cellsOf t)).length=P.cellsOf t:=gz0;have:=run_loadCells_list (P:=P) (w:=W) ⟨θ k,off,none⟩ ((cs.drop off).take (P.cellsOf t)) (fun j v g=>by rw[Cf];refine r.ownCell e ?_;grind);rw[hl]at this;simp only[aN,aF,loadVar,Sem.run_bind,Sem.run_pure,Oj b,aC,if_true,O3 (Ng b),this]};{rename_i b;split at hv;{rename_i v f;refine⟨v,hv,?_⟩;simp only[aN,aF,loadVar,Sem.run_bind,Sem.run_pure,Oj b,aC,if_false,aU];simp only[load,Sem.run,r.ownCell e f]};grind};grind
def Rel.evalWf(r:Rel s0 n θ st h a W){x:aJ}:∀k off,D6 st x= .own k off->(st.own k).isSome=true:=by
 intro k off e
 cases x with
 |tmp t=>exact r.wf t k off e
 |_=>cases e
def QOut(P:aX)(θ:J->J)(st:VS)(a:Act)(W:aE)(o:aQ)(C:aV->Prop):Prop:=∃v u,C v/\rel θ v u/\(∀k off,v= .own k off->(st.own k).isSome=true)/\(execOp a.eval o).run P W= .ok (.value u) W
def QOut.val{o:aQ}{C:aV->Prop}{v:aI}(hc:C (.val v))(hr:(execOp a.eval o).run P W= .ok (.value v) W):QOut P θ st a W o C:=⟨.val v,v,hc,rfl,(fun _ _ e=>by cases e),hr⟩
def slBound.out{v:Option aV}{dflt y:J}{C:J->Prop}(hb:slBound v dflt y C): (v=none/\C dflt)\/∃k i,v=some (.val (.int k i))/\0<=i/\i<=(y:Int)/\C i.toNat:=by unfold slBound at hb;grind
def T2{k:IntKind}{i:Int}{y:J}(h0:0<=i)(h1:i<=(y:Int))(c:BoundsCode)(W:aE):(aY (.int k i) y c).run P W= .ok i.toNat W:=by simp[aY,asIntOf,h0,h1]
def Dm(r:Rel s0 n θ st h a W){isS:Bool}{len cap:J}{lo hi:Option aJ}{C:J->J->Prop}
 (hb:slBound (hi.map (D6 st)) len cap fun h=>slBound (lo.map (D6 st)) 0 h fun l=>C l h):
 ∃l h',C l h'/\(aP isS len cap (lo.map a.eval) (hi.map a.eval) none).run P W= .ok (l,h',cap) W:=by
 have b:∀h',(slBound (lo.map (D6 st)) 0 h' fun l=>C l h')->∃l,C l h'/\
  (match lo.map a.eval with
   |some v=>aY v h' .sliceB
   |none=>(pure 0:Sem J)).run P W= .ok l W:=by
  intro h' hb;rcases hb.out with⟨e,c⟩|⟨k,i,e,g,f,c⟩;·simp_all
  ·cases lo with
   |none=>simp at e
   |some x=>
    simp only[aR,Option.some.injEq]at e;exact⟨_,c,by simp only[aR,r.evalVal e];exact T2 g f _ W⟩
 rcases hb.out with⟨e,c⟩|⟨k,i,e,g,f,c⟩
 ·cases hi with
  |none=>
   obtain⟨l,j,d⟩:=b _ c;refine⟨l,len,j,?_⟩;unfold aP
   cases lo with
   |none=>simp_all
   |some y=>simp_all
  |some x=>simp at e
 ·cases hi with
  |none=>simp at e
  |some x=>
   simp only[aR,Option.some.injEq]at e;obtain⟨l,j,d⟩:=b _ c;refine⟨l,i.toNat,j,?_⟩;unfold aP
   cases lo with
   |none=>simp at d;simp[r.evalVal e,T2 g f,d]
   |some y=>simp only[aR]at d;simp[r.evalVal e,T2 g f,d]
def A69(r:Rel s0 n θ st h a W){o:aQ}{t:aL}{x:aJ}{lo hi:Option aJ}(hop:o.op= .slice t x lo hi none){C:aV->Prop} (hv:Gu P t (D6 st x) (lo.map (D6 st)) (hi.map (D6 st)) C):QOut P θ st a W o C:=by unfold Gu at hv;split at hv;{rename_i s g i;obtain⟨l,b,d,f⟩:=Dm (P:=P) (isS:=false) r (C:=fun l b=>C (.val (.string (s.extract l b)))) hv;refine QOut.val d ?_;simp[execOp,hop,aS,Instr.slice,run_underlying g,r.evalVal i,f]};{rename_i e A m c g i;obtain⟨hi,hv⟩:=hv.both;obtain⟨l,b,d,f⟩:=Dm (P:=P) (isS:=true) r (C:=fun l b=>C (.val (.slice (X9 A c l (P.cellsOf e)) (b-l) (c-l)))) hv;refine QOut.val d ?_;simp[execOp,hop,aS,Instr.slice,run_underlying g,r.evalVal i,f,O3 hi,X9]};{rename_i m e j g i;obtain⟨hi,hv⟩:=hv.both;obtain⟨l,b,d,f⟩:=Dm (P:=P) (isS:=false) r (C:=fun l b=>C (.val (.slice (X9 (some j) m l (P.cellsOf e)) (b-l) (m-l)))) hv;refine QOut.val d ?_;simp[execOp,hop,aS,run_underlying g,r.evalVal i,f,O3 hi,X9,aF];grind};grind
def A3a(r:Rel s0 n θ st h a W){o:aQ}{t:aL}{x lo hi mx:aJ}(hop:o.op= .slice t x (some lo) (some hi) (some mx)){C:aV->Prop} (hv:Ns P t (D6 st x) (D6 st lo) (D6 st hi) (D6 st mx) C):QOut P θ st a W o C:=by unfold Ns at hv;split at hv;{rename_i e A m c s l u w y b p q d g f;obtain⟨hi,j,i,k,hv⟩:=hv.both;refine QOut.val hv ?_;simp[execOp,hop,aS,Instr.slice,aP,run_underlying p,r.evalVal q,r.evalVal d,r.evalVal g,r.evalVal f,T2 j.1 j.2,T2 i.1 i.2,T2 k.1 k.2,O3 hi,X9]};grind
def Wl(r:Rel s0 n θ st h a W){o:aQ}{t:aL}{x i:aJ}(hop:o.op= .indexAddr t x i){C:aV->Prop} (hv:S5 P t (D6 st x) (D6 st i) C):QOut P θ st a W o C:=by unfold S5 at hv;split at hv;{rename_i len e k off _ m f d g;obtain⟨hs,hv⟩:=hv.both;by_cases b:0<=m/\m<(len:Int);{have hv:C (.own k (off+m.toNat*P.cellsOf e)):=by{have:decide (0<=m/\m<(len:Int))=true:=decide_eq_true b;rw[this]at hv;exact hv};refine⟨_,.pointer (some ⟨θ k,off+m.toNat*P.cellsOf e,none⟩),hv,rfl,(fun w l s=>by cases s;exact r.evalWf _ _ d),?_⟩;have:=Cf (θ k) off (m.toNat*P.cellsOf e);simp[execOp,hop,aZ,run_underlying f,r.evalOwn d,r.evalVal g,asIntOf,aF,O3 hs,b.1,b.2,this]};·have:decide (0<=m/\m<(len:Int))=false:=decide_eq_false b;rw[this]at hv;exact hv.elim};{rename_i len e u _ m f d g;obtain⟨hs,b,hv⟩:=hv.both;refine QOut.val hv ?_;simp[execOp,hop,aZ,run_underlying f,r.evalVal d,r.evalVal g,asIntOf,aF,O3 hs,b.1,b.2]};{rename_i e A m c _ j f d g;obtain⟨hs,u,rfl,q,p,hv⟩:=hv.both;refine QOut.val hv ?_;simp[execOp,hop,aZ,run_underlying f,r.evalVal d,r.evalVal g,asIntOf,O3 hs,q,p]};grind
def B64{W:aE}{xs ys:Array aI}{f:Field}{b:Bool}{d:J}(h:C6f P f xs ys=some b): f.name ≠ "_" /\∃a c,(part f.type xs f.offset).run P W= .ok a W/\(part f.type ys f.offset).run P W= .ok c W/\(aT (d+1) f.type a c).run P W= .ok b W:=by unfold C6f at h;split at h;{rename_i a c e i g;split at h;{cases h};·cases h;refine⟨gz0,.string a,.string c,?_,?_,?_⟩;{simp[part,isAgg,Sem.run_bind,run_underlying e,i]};{simp[part,isAgg,Sem.run_bind,run_underlying e,g]};·unfold aT;simp[Sem.run_bind,run_underlying e];exact beq_toListBytes a c};·cases h
def B1y{W:aE}{xs ys:Array aI}{dep:J}(l:Z Field):∀{b:Bool},B63 P l xs ys=some b->
 (forIn (m:=Sem) l ((none,()):Option Bool×PUnit) (fun f _=>
          if f.name ≠ "_" then do
           let x<-part f.type xs f.offset
           let y<-part f.type ys f.offset
           let e<-aT (dep+1) f.type x y
           if(!e)=true then pure (ForInStep.done (some false,()))
            else pure (ForInStep.yield (none,()))
          else pure (ForInStep.yield (none,())))).run P W= .ok (if b then(none,())else(some false,())) W:=by
 induction l with
 |nil=>intro b h;cases h;simp
 |cons f l ih=>
  intro b h;unfold B63 at h;split at h
  ·rename_i u v i k;cases h;obtain⟨a,p,q,g,c,j⟩:=B64 (W:=W) (d:=dep) i;rw[List.forIn_cons];simp only[iP a,Sem.run_bind,g,c,j,aC]
   cases u with
   |false=>simp
   |true=>
    simp_all
  ·cases h
def B3z{t:aL}{xs ys:Array aI}{C:Bool->Prop}(hv:A2r P t xs ys C):∃b,(∀W,(Op.equal t (.agg xs) (.agg ys)).run P W= .ok b W)/\P.eqGuardType P.depth t=false/\C b:=by unfold A2r at hv;split at hv;{rename_i e d;obtain⟨a,hv⟩:=hv.both;simp only[aH,Bool.not_eq_true']at a;split at hv;{rename_i b f;refine⟨b,fun W=>?_,a.2,hv⟩;have c:aO=(aO-2)+1+1:=rfl;unfold Op.equal;rw[c];generalize aO-2=dep;unfold aT;simp only[Sem.run_bind,run_underlying d,aC];simp only[program,Sem.run,aC,a.1,aU,if_false];rw[<- Array.forIn_toList,Sem.run_bind,B1y e.toList f,aC];cases b<;>simp};grind};grind
def B4y(r:Rel s0 n θ st h a W){o:aQ}{op:BinOp}{t t':aL}{x y:aJ}(hop:o.op= .binOp op t x y t'){C:aV->Prop}
 (hv:Ky P o st op t (D6 st x) (D6 st y) C):QOut P θ st a W o C:=by
 have j:∀cs b,o.op ≠ .select cs b:=gz0;unfold Ky at hv
 have l:∀{A:Option Addr} {m p q s:J},Ku P t=true->(Op.equal t (.slice A m p) (.slice none q s)).run P W= .ok A.isNone W:=by
  intro A m p q s F;unfold Ku at F
  cases hu:P.underlying t with
  |none=>grind
  |some d=>
   cases d<;>first|grind|skip
   have D:aO=(aO-1)+1:=rfl;unfold Op.equal;rw[D];generalize aO-1=dep;cases A<;>(unfold aT;simp[run_underlying hu])
 split at hv
 ·rename_i xs E f e;obtain⟨b,z,w,c⟩:=B3z hv;refine QOut.val c ?_;simp[execOp,hop,eqGuard,binOp,r.evalVal f,r.evalVal e,z,w]
 ·rename_i xs E f e;obtain⟨b,z,w,c⟩:=B3z hv;refine QOut.val c ?_;simp[execOp,hop,eqGuard,binOp,r.evalVal f,r.evalVal e,z,w]
 ·rename_i A m p q s f e;obtain⟨i,c⟩:=hv.both;refine QOut.val c ?_;simp[execOp,hop,eqGuard,binOp,r.evalVal f,r.evalVal e,l i]
 ·rename_i A m p q s f e;obtain⟨i,c⟩:=hv.both;refine QOut.val c ?_;simp[execOp,hop,eqGuard,binOp,r.evalVal f,r.evalVal e,l i]
 ·rename_i k u B v f e;obtain⟨i,c⟩:=hv.both;have i:=eq_of_beq i;subst i;by_cases g:v=0;·rw[decide_eq_true g]at c;exact c.elim
  ·rw[decide_eq_false g]at c;refine QOut.val c ?_;simp[execOp,hop,eqGuard,binOp,Op.intDiv,g,r.evalVal f,r.evalVal e]
 ·rename_i k u B v f e;obtain⟨i,c⟩:=hv.both;have i:=eq_of_beq i;subst i;by_cases g:v=0;·rw[decide_eq_true g]at c;exact c.elim
  ·rw[decide_eq_false g]at c;refine QOut.val c ?_;simp[execOp,hop,eqGuard,binOp,Op.intDiv,g,r.evalVal f,r.evalVal e]
 ·rename_i k u B v f e;by_cases g:v<0;·rw[decide_eq_true g]at hv;exact hv.elim
  ·rw[decide_eq_false g]at hv;refine QOut.val hv ?_;simp[execOp,hop,eqGuard,binOp,Op.shift,g,r.evalVal f,r.evalVal e]
 ·rename_i k u B v f e;by_cases g:v<0;·rw[decide_eq_true g]at hv;exact hv.elim
  ·rw[decide_eq_false g]at hv;refine QOut.val hv ?_;simp[execOp,hop,eqGuard,binOp,Op.shift,g,r.evalVal f,r.evalVal e]
 ·rename_i u v f e;refine QOut.val hv.2 ?_
  have:¬((u.size+v.size:J):Int)>IntKind.i64.max:=by
   simp_all
  simp only[execOp,hop,eqGuard,binOp,Op.stringOp,r.evalVal f,r.evalVal e,iN this];simp
 ·exact Ra r j hv
def C09(r:Rel s0 n θ st h a W){o:aQ}{C:aV->Prop}(hsel:∀cs b,o.op ≠ .select cs b)(hv:vcQ P o st h C):QOut P θ st a W o C:=by unfold vcQ at hv;split at hv;{rename_i x d;exact⟨D6 st x,a.eval x,hv,r.eval x,r.evalWf,by simp[execOp,d]⟩};{rename_i x d;exact⟨D6 st x,a.eval x,hv,r.eval x,r.evalWf,by simp[execOp,d]⟩};{rename_i c x y d;split at hv;{rename_i t u;cases t;{exact⟨D6 st y,a.eval y,hv,r.eval y,r.evalWf,by simp[execOp,d,r.evalVal u,asBool]⟩};·exact⟨D6 st x,a.eval x,hv,r.eval x,r.evalWf,by simp[execOp,d,r.evalVal u,asBool]⟩};grind};{rename_i t x d;split at hv;{rename_i k off e;split at hv;{rename_i cs L;obtain⟨v,w,B⟩:=Hg r L hv;exact QOut.val w (by simp[execOp,d,r.evalOwn e,B])};grind};{rename_i F e;obtain⟨v,w,B⟩:=Lu r.sim hv;exact QOut.val w (by simp[execOp,d,r.evalVal e,B])};grind};{rename_i s x f d;split at hv;{rename_i k off e;split at hv;{rename_i N D;split at hv;{rename_i q A;obtain⟨l,hv⟩:=hv.both;simp only[aH]at l;have g:P.cellsOf q.type≠0:=by{have:=aM l.2;omega};refine⟨_,.pointer (some ⟨θ k,off+q.offset,none⟩),hv,rfl,(fun M m z=>by cases z;exact r.evalWf _ _ e),?_⟩;simp[execOp,d,Instr.fieldAt,run_underlying D,A,r.evalOwn e,aF,fieldPlace,O3 l.1,g,Cf]};grind};grind};{rename_i F e;split at hv;{rename_i N D;split at hv;{rename_i q A;obtain⟨l,hv⟩:=hv.both;simp only[aH]at l;have g:P.cellsOf q.type≠0:=by{have:=aM l.2;omega};refine QOut.val hv ?_;simp[execOp,d,Instr.fieldAt,run_underlying D,A,r.evalVal e,aF,fieldPlace,O3 l.1,g]};grind};grind};grind};{rename_i x d;split at hv;{rename_i k off e;exact⟨_,_,hv,rfl,(fun M m z=>by cases z;exact r.evalWf _ _ e),by simp[execOp,d,r.evalOwn e]⟩};{rename_i p e;obtain⟨F,rfl,hv⟩:=hv;exact QOut.val hv (by simp[execOp,d,r.evalVal e])};grind};{rename_i t x i d;exact Wl r d hv};{rename_i t x i d;split at hv;{rename_i s _ j G e E;obtain⟨c,⟨H,u⟩,hv⟩:=hv;refine QOut.val hv ?_;simp[execOp,d,Instr.index,run_underlying G,r.evalVal e,r.evalVal E,asIntOf,H,u]};·exact Ra r hsel hv};{rename_i t x O E d;exact A69 r d hv};{rename_i t x O E mx d;exact A3a r d hv};{rename_i op t x y Q d;exact B4y r d hv};{exact hv.elim};·exact Ra r hsel hv
def B7b(a:Act)(d i:J)(u:aI)(hd:d<a.tmps.size):(a.put (some d) u).tmps.getD i undef=if i=d then u else a.tmps.getD i undef:=by simp only[Act.put,Array.getD,Array.size_setIfInBounds];by_cases h:i=d;{simp_all};·by_cases b:i<a.tmps.size;{simp[b,h,Ne.symm h]};grind
def Rel.put(r:Rel s0 n θ st h a W){d:J}(hd:d<n){v:aV}{u:aI}(hv:rel θ v u)(hw:∀k off,v= .own k off->(st.own k).isSome=true):Rel s0 n θ (st.put d v) h (a.put (some d) u) W:=by
 have f:d<a.tmps.size:=by rw[r.size];exact hd
 have b:∀i,(st.put d v).env i=if i=d then v else st.env i:=by
  intro i;by_cases e:i=d;·simp[VS.put]
  ·have:aW i d=false:=by cases x:aW i d with
    |false=>rfl
    |true=>simp_all
   simp[VS.put,this,e]
 refine⟨r.defers,by simpa[Act.put]using r.size,fun i c=>?_,r.sim,r.own,r.inj,fun i k off e=>?_,fun i c=>?_⟩
 ·rw[b,B7b a d i u f];by_cases e:i=d;·grind
  ·simp only[e,if_false];exact r.slot i c
 ·rw[b]at e;by_cases g:i=d;·rw[iP g]at e;exact hw k off e
  ·rw[iN g]at e;exact r.wf i k off e
 ·rw[b,iN o];exact r.out i c
def S7(st:VS)(d:Option J)(v:aV):(st.putO d v).own=st.own:=by cases d<;>rfl
def Rel.putO(r:Rel s0 n θ st h a W){cfg:Cfg}(hn:cfg.n=n){d:Option J}(hd:V4 cfg d=true){v:aV}{u:aI}(hv:rel θ v u)(hw:∀k off,v= .own k off->(st.own k).isSome=true):
 Rel s0 n θ (st.putO d v) h (a.put d u) W:=by
 cases d with
 |none=>exact r
 |some d=>
  simp only[V4,A4h,aH]at hd;exact r.put (by simp_all) hv hw
def Agree.putO{cfg:Cfg}{st:VS}{d:Option J}{v:aV}(hd:V4 cfg d=true):Agree cfg.lim st (st.putO d v):=by
 cases d with
 |none=>exact Agree.refl _ _
 |some d=>
  simp only[V4,A4h,aH]at hd;refine⟨fun i a=>?_,fun _ _=>rfl⟩
  have:aW i d=false:=by cases x:aW i d with
   |false=>rfl
   |true=>simp_all
  simp[VS.putO,VS.put,this]
def Rel.world(r:Rel s0 n θ st h a W){h':aK}{W':aE}(f:Fr h W h' W'):Rel s0 n θ st h' a W':=by
 refine⟨r.defers.world f,r.size,r.slot,f.sim,fun k cs e=>?_,r.inj,r.wf,r.out⟩;obtain⟨t,d,c⟩:=r.own k cs e
 have b:θ k<W.heap.size:=by
  grind
 refine⟨t,(f.keep _ b c).trans d,?_⟩
 cases x:h' (θ k)with
 |none=>rfl
 |some o=>have:=f.new _ o c x;omega
def Good.quiet{cfg:Cfg}(hn:cfg.n=n){h0:aK}{W0:aE}{o:aQ}(g:Good n h0 W0 st h a W)(hd:V4 cfg o.dst=true)(hsel:∀cs b,o.op ≠ .select cs b){K:VS->aK->Prop} (hv:vcQ P o st h fun v=>K (st.putO o.dst v) h) {Q:Exit->Act->aE->Prop}: Oper.wpX F fu P o a W (fun a' W'=>∃st' h',K st' h'/\Good n h0 W0 st' h' a' W'/\Agree cfg.lim st st') Q:=by obtain⟨θ,r,f,l⟩:=g;obtain⟨v,u,j,c,d,i⟩:=C09 r hsel hv;unfold Oper.wpX;rw[i,Oper.uponIn_value];refine⟨_,h,j,⟨θ,r.putO hn hd c d,f,?_⟩,Agree.putO hd⟩;exact fun k e=>l k (by rwa [S7]at e)
def Grow.out{gr:Bool}{h h':aK}{X:Prop}(x:Grow gr h h' X):X:=by cases gr;{exact x};·exact x.2
def Good.effV{cfg:Cfg}(hn:cfg.n=n){h0:aK}{W0:aE}{o:aQ}(g:Good n h0 W0 st h a W)(hd:V4 cfg o.dst=true){s:Sem aI}{gr:Bool}{K:VS->aK->Prop} (hv:effV P s o gr st h K) (hex:∀θ,Rel W0.heap.size n θ st h a W->(execOp a.eval o).run P W=(s.run P W).andThen fun v w=>.ok (.value v) w) {Q:Exit->Act->aE->Prop}: Oper.wpX F fu P o a W (fun a' W'=>∃st' h',K st' h'/\Good n h0 W0 st' h' a' W'/\Agree cfg.lim st st') Q:=by obtain⟨θ,r,f,j⟩:=g;obtain⟨v,W',h',i,b,c⟩:=A5w s _ h W hv r.sim;obtain⟨u,rfl,b⟩:=exT.out b;unfold Oper.wpX;rw[hex θ r,i,aC,Oper.uponIn_value];refine⟨_,h',b.out,⟨θ,(r.world c).putO hn hd (v:=.val v) rfl (fun _ _ e=>by cases e),f.trans c,?_⟩,Agree.putO hd⟩;exact fun k d=>j k (by rwa [S7]at d)
def Good.effP{cfg:Cfg}(hn:cfg.n=n){h0:aK}{W0:aE}{o:aQ}(g:Good n h0 W0 st h a W)(hd:V4 cfg o.dst=true){s:Sem aI}{gr:Bool}{K:VS->aK->Prop} (hv:effP P s o gr st h K) (hex:∀θ,Rel W0.heap.size n θ st h a W->(execOp a.eval o).run P W=(s.run P W).andThen fun v w=>.ok (.value v) w) {Q:Exit->Act->aE->Prop}: Oper.wpX F fu P o a W (fun a' W'=>∃st' h',K st' h'/\Good n h0 W0 st' h' a' W'/\Agree cfg.lim st st') Q:=by obtain⟨θ,r,f,j⟩:=g;obtain⟨v,W',h',i,b,c⟩:=A5w s _ h W hv r.sim;obtain⟨u,rfl,b⟩:=b;unfold Oper.wpX;rw[hex θ r,i,aC,Oper.uponIn_value];refine⟨_,h',b.out,⟨θ,(r.world c).putO hn hd (v:=.val (.pointer (some u))) rfl (fun _ _ e=>by cases e),f.trans c,?_⟩,Agree.putO hd⟩;exact fun k d=>j k (by rwa [S7]at d)
def Good.effU{cfg:Cfg}(hn:cfg.n=n){h0:aK}{W0:aE}{o:aQ}(g:Good n h0 W0 st h a W)(hd:V4 cfg o.dst=true){s:Sem Unit}{gr:Bool}{K:VS->aK->Prop} (hv:effU P s o gr st h K) (hex:∀θ,Rel W0.heap.size n θ st h a W->(execOp a.eval o).run P W=(s.run P W).andThen fun _ w=>.ok .skip w) {Q:Exit->Act->aE->Prop}: Oper.wpX F fu P o a W (fun a' W'=>∃st' h',K st' h'/\Good n h0 W0 st' h' a' W'/\Agree cfg.lim st st') Q:=by obtain⟨θ,r,f,j⟩:=g;obtain⟨v,W',h',d,i,b⟩:=A5w s _ h W hv r.sim;unfold Oper.wpX;rw[hex θ r,d,aC,Oper.uponIn_skip];refine⟨_,h',i.out,⟨θ,(r.world b).putO hn hd (v:=.val undef) rfl (fun _ _ e=>by cases e),f.trans b,?_⟩,Agree.putO hd⟩;exact fun k c=>j k (by rwa [S7]at c)
def Be{l:Z J}{d:J}:has l d=true↔d∈l:=by simp only[has,List.any_eq_true];simp_all
def Gg{i d:J}(h:i≠d):aW i d=false:=by
 cases x:aW i d with
 |false=>rfl
 |true=>simp_all
def Ba(st:VS)(k:J)(cs:Z aI):(st.setOwn k cs).own k=some cs:=by simp[VS.setOwn]
def H1(st:VS){k i:J}(cs:Z aI)(h:i≠k):(st.setOwn k cs).own i=st.own i:=by simp[VS.setOwn,Gg h]
def B7z(hs:Sim h W)(o:Obj):Fr h W h {W with heap:=W.heap.push o }:=by refine⟨fun b a e=>?_,rfl,rfl,rfl,by simp,fun b d _=>?_,fun b a e c=>?_⟩;{have:=hs b a e;grind};{grind};grind
def Good.own{cfg:Cfg}(hn:cfg.n=n){h0:aK}{W0:aE}{o:aQ}(g:Good n h0 W0 st h a W){cells:Array aI}{t:aL}{K:VS->aK->Prop}
 (hv:Ir cfg o.dst cells.toList st h K) (hex:∀θ,Rel W0.heap.size n θ st h a W->(execOp a.eval o).run P W= .ok (.value (.pointer (some ⟨W.heap.size,0,none⟩))) { W with heap:=W.heap.push (.cells cells t) }) {Q:Exit->Act->aE->Prop}:
 Oper.wpX F fu P o a W (fun a' W'=>∃st' h',K st' h'/\Good n h0 W0 st' h' a' W'/\Agree cfg.lim st st') Q:=by
 obtain⟨θ,r,f,X⟩:=g;unfold Ir at hv;split at hv
 ·rename_i d L;obtain⟨s,S⟩:=hv.both;simp only[A4h,aH,Option.isNone_iff_eq_none]at s;obtain⟨⟨⟨q,H⟩,G⟩,z⟩:=s;have q:d<n:=by simp_all
  have C:=B7z r.sim (.cells cells t);unfold Oper.wpX;rw[hex θ r,Oper.uponIn_value]
  have y:∀k,(st.own k).isSome=true->θ k<W.heap.size:=by
   intro k j;obtain⟨cs,e⟩:=Option.isSome_iff_exists.1 j;obtain⟨O,R,_⟩:=r.own k cs e;grind
  let θ':J->J:=fun k=>if k=d then W.heap.size else θ k
  have hθ:∀k,(st.own k).isSome=true->θ' k=θ k:=by
   grind
  have p:∀v u,(∀k off,v= .own k off->(st.own k).isSome=true)->rel θ v u->rel θ' v u:=by
   intro v u T w
   cases v with
   |own k off=>simp only[rel,hθ k (T k off rfl)];exact w
   |_=>exact w
  have A:h W.heap.size=none:=by
   cases x:h W.heap.size with
   |none=>rfl
   |some o'=>have:=r.sim _ _ x;grind
  have N:Rel W0.heap.size n θ' (st.setOwn d cells.toList) h a { W with heap:=W.heap.push (.cells cells t) }:=by
   refine⟨r.defers.world C,r.size,fun i E=>p _ _ (fun k off e=>r.wf i k off e) (r.slot i E),C.sim,fun k cs e=>?_,fun k B j c e=>?_,fun i k off e=>?_,r.out⟩
   ·by_cases b:k=d
    ·subst b;rw[Ba]at e;injection e with e;subst e;exact⟨t,by simp[θ'],gz0⟩
    ·rw[H1 _ _ b]at e;obtain⟨O,R,M⟩:=r.own k cs e;grind
   ·by_cases b:k=d<;>by_cases l:B=d;·omega
    ·rw[H1 _ _ l]at c;grind
    ·rw[H1 _ _ b]at j;grind
    ·rw[H1 _ _ b]at j;rw[H1 _ _ l]at c;rw[hθ k j,hθ B c]at e;exact r.inj k B j c e
   ·have:=r.wf i k off e;have b:k≠d:=gz0;rw[H1 _ _ b];exact this
  have V:=N.put q (v:=.own d 0) (u:=.pointer (some ⟨W.heap.size,0,none⟩)) (by simp[rel,θ']) (fun k off e=>by cases e;rw[Ba];rfl);refine⟨_,h,S,⟨θ',by rw[L];exact V,f.trans C,fun k j=>?_⟩,fun i E=>?_,fun i E=>?_⟩
  ·by_cases b:k=d;·simp only[θ',b,if_true];exact f.size
   ·have j:(st.own k).isSome=true:=by
     have:((st.put d (.own d 0)).setOwn d cells.toList).own k=st.own k:=H1 _ _ b;grind
    grind
  ·have m:i≠d:=gz0;simp[VS.setOwn,VS.put,Gg m]
  ·have m:i≠d:=gz0;exact H1 _ _ m
 grind
def Yz(cur:Z aI)(p:J)(v:aI)(vs:Z aI)(hp:p<cur.length):J0 (cur.set p v) (p+1) vs=J0 cur p (v::vs):=by have e:cur.set p v=cur.take p++v::cur.drop (p+1):=by{rw[List.set_eq_take_append_cons_drop,iP hp]};have a:(cur.set p v).drop (p+1+vs.length)=cur.drop (p+(v::vs).length):=by{rw[List.drop_set_of_lt o];congr 1;grind};unfold J0;grind
def Oi(b:J)(t:aL):∀(vs:Z aI) (i:J) (cur:Z aI) (W:aE) (off:J),W.heap[b]? = some (.cells cur.toArray t (0,0))->off+i+vs.length<=cur.length->(∀v∈vs,Qj v=true)->
 ∃W',(storeCells ⟨b,off,none⟩ vs i).run P W= .ok () W'/\W'.heap[b]? = some (.cells (J0 cur (off+i) vs).toArray t (0,0))/\W'.os=W.os/\W'.tape=W.tape/\W'.output=W.output/\W'.heap.size=W.heap.size/\∀k,k≠b->W'.heap[k]? = W.heap[k]? :=by
 intro vs
 induction vs with
 |nil=>
  intro i cur W off c hl _;refine⟨W,by rfl,?_,rfl,rfl,rfl,rfl,fun _ _=>rfl⟩;rw[c];simp[J0]
 |cons v vs ih=>
  intro i cur W off c hl m;simp only[List.length_cons]at hl
  have a:W.cell? ⟨b,off+i,none⟩=some (cur[off+i]'o):=by
   simp[World.cell?,c,List.getElem?_eq_getElem (show off+i<cur.length from o)]
  have g:W.frozen? ⟨b,off+i,none⟩=false:=by simp[World.frozen?,c]
  have d:(W.setCell ⟨b,off+i,none⟩ v).heap[b]? = some (.cells ((cur.set (off+i) v).toArray) t (0,0)):=by
   simp[World.setCell,Array.getElem?_modify,c]
  obtain⟨W',r,f,p,y,q,s,n⟩:=ih (i+1) (cur.set (off+i) v) (W.setCell ⟨b,off+i,none⟩ v) off d gz0 (fun u w=>m u (by simp[w]));refine⟨W',?_,?_,p,y,q,by rw[s];simp[World.setCell],fun k l=>(n k l).trans (Iy W _ v k l)⟩
  ·have j:=m v (by simp)
   have e:(store (Addr.add ⟨b,off,none⟩ i) v).run P W= .ok () (W.setCell ⟨b,off+i,none⟩ v):=by
    rw[Cf];cases v<;>first|(simp[Qj]at j;done)|simp[store,Sem.run,a,g]
   simp only[storeCells,Sem.run_bind,e,aC,r]
  ·rw[f];congr 2;apply congrArg;exact Yz cur (off+i) v vs o
def Good.ownStore{cfg:Cfg}(hn:cfg.n=n){h0:aK}{W0:aE}{o:aQ}{t:aL}{x y:aJ}(hop:o.op= .store t x y)(g:Good n h0 W0 st h a W)(hd:V4 cfg o.dst=true){k off:J}(hx:D6 st x= .own k off){cs:Z aI}(hk:st.own k=some cs){K:VS->aK->Prop} (hv:When ((D6 st y).isVal&&A4j cfg.lim k&&(P.info? t).isSome&&aW (rho st y).cells.size (P.cellsOf t)&&Nat.ble (off+P.cellsOf t) cs.length&&C4t (rho st y).cells.toList) (K ((st.setOwn k (J0 cs off (rho st y).cells.toList)).putO o.dst (.val undef)) h)) {Q:Exit->Act->aE->Prop}: Oper.wpX F fu P o a W (fun a' W'=>∃st' h',K st' h'/\Good n h0 W0 st' h' a' W'/\Agree cfg.lim st st') Q:=by obtain⟨θ,r,f,hB⟩:=g;obtain⟨z,hK⟩:=hv.both;simp only[aH]at z;obtain⟨⟨⟨⟨⟨hy,O⟩,l⟩,m⟩,u⟩,s⟩:=z;have m:=Nat.eq_of_beq_eq_true m;have u:=aM u;obtain⟨tb,E,S⟩:=r.own k cs hk;obtain⟨W',D,aa,w,h3,h4,h5,H⟩:=Oi (P:=P) (θ k) tb (rho st y).cells.toList 0 cs W off E gz0 (fun v hv=>List.all_eq_true.1 s v hv);have q:(execOp a.eval o).run P W= .ok .skip W':=by{simp[execOp,hop,Instr.storeAt,r.evalOwn hx,aF,storeVar,r.evalRho hy,O3 l,m,D]};unfold Oper.wpX;rw[q,Oper.uponIn_skip];have d:Sim h W':=fun b G e=>by{have p:b≠θ k:=gz0;rw[H b p];exact r.sim b G e};have V:Rel W0.heap.size n θ (st.setOwn k (J0 cs off (rho st y).cells.toList)) h a W':=by{have c:∀j,((st.setOwn k (J0 cs off (rho st y).cells.toList)).own j).isSome=(st.own j).isSome:=by{intro j;by_cases e:j=k;{subst e;rw[Ba,hk];rfl};·rw[H1 _ _ e]};refine⟨r.defers.turn fun r' D e=>⟨D,gz0⟩,r.size,r.slot,d,fun j C e=>?_,fun j T N w e=>?_,fun i j G e=>by rw[c];exact r.wf i j G e,r.out⟩;{by_cases B:j=k;{subst B;rw[Ba]at e;grind};·rw[H1 _ _ B]at e;obtain⟨X,M,L⟩:=r.own j C e;refine⟨X,?_,L⟩;rw[H _ (fun e'=>B (r.inj j k gz0 gz0 e'))];exact M};·rw[c]at N w;exact r.inj j T N w e};have A:Fr h0 W0 h W':=by{refine⟨d,w.trans f.os,h3.trans f.tape,h4.trans f.output,gz0,fun b z e=>?_,f.new⟩;have:=hB k gz0;rw[H b oo];exact f.keep b z e};refine⟨_,h,hK,⟨θ,V.putO hn hd (v:=.val undef) rfl (fun _ _ e=>by cases e),A,fun j R=>?_⟩,Agree.trans (b:=st.setOwn k (J0 cs off (rho st y).cells.toList)) ⟨fun _ _=>rfl,fun i hi=>?_⟩ (Agree.putO hd)⟩;{rw[S7]at R;by_cases e:j=k;{grind};·rw[H1 _ _ e]at R;grind};·exact H1 _ _ (fun e=>gz0)
def Bodies(P:aX)(fns:Z J):Prop:=∀g,g∈fns->∀args W,(callFunc g args).run P W= .ok (.enter g args) W
def exRt.out{t:aL}{K:aI->Prop}(x:exRt P t K):∃v,K v:=by unfold exRt at x;split at x;{obtain⟨b,a⟩:=exTs.out x;grind};·exact exT.out x
def Wg(r:Rel s0 n θ st h a W){xs:Array aJ}(e:T9 st xs.toList=true):xs.map a.eval=xs.map (rho st):=by apply Array.ext;{simp};·intro i b c;simp only[Array.getElem_map];exact r.evalAll e _ (by simp)
def Good.call[FOk F]{cfg:Cfg}(hn:cfg.n=n)(hfn:Bodies P cfg.fns){h0:aK}{W0:aE}{o:aQ}{c:Call}{x:aJ}(hop:o.op= .call c)(hcl:c.callee= .value x)(g:Good n h0 W0 st h a W)(hd:V4 cfg o.dst=true){gr:Bool}{K:VS->aK->Prop} (hv:A7s P cfg o c (D6 st x) gr st h K) {Q:Exit->Act->aE->Prop}: Oper.wpX F fu P o a W (fun a' W'=>∃st' h',K st' h'/\Good n h0 W0 st' h' a' W'/\Agree cfg.lim st st') Q:=by obtain⟨θ,r,f,C⟩:=g;unfold A7s at hv;split at hv;{rename_i D first b z;split at hv;{rename_i s;obtain⟨w,hv⟩:=hv.both;have d:(execOp a.eval o).run P W= .ok (.enter D (first++c.args.map (rho st)++b)) W:=by{simp[execOp,hop,resolve,hcl,r.evalVal z,Deferred.ofValue,invoke,hfn D (Be.1 s),Wg r w]};unfold Oper.wpX;rw[d,Oper.uponIn_enter];refine⟨fun i=>(by rw[FOk.depth]at i;cases i),(B5f (hv W r.sim)).mono fun e W' ⟨v,h',B,j,p⟩=>?_⟩;subst B;obtain⟨u,rfl,j⟩:=j.out;refine⟨_,h',j.out,⟨θ,(r.world p).putO hn hd (v:=.val v) rfl (fun _ _ e=>by cases e),f.trans p,?_⟩,Agree.putO hd⟩;exact fun k q=>C k (by rwa [S7]at q)};·obtain⟨w,hv⟩:=hv.both;obtain⟨v,W',h',G,j,p⟩:=hv W r.sim;have d:(execOp a.eval o).run P W= .ok (.value v) W':=by{rw[<- G];simp[execOp,hop,resolve,hcl,r.evalVal z,Deferred.ofValue,invoke,Wg r w]};obtain⟨u,rfl,j⟩:=j.out;unfold Oper.wpX;rw[d,Oper.uponIn_value];refine⟨_,h',j.out,⟨θ,(r.world p).putO hn hd (v:=.val v) rfl (fun _ _ e=>by cases e),f.trans p,?_⟩,Agree.putO hd⟩;exact fun k q=>C k (by rwa [S7]at q)};{rename_i l first b z;obtain⟨w,hv⟩:=hv.both;obtain⟨fn,y,A,t,E,m⟩:=hv W r.sim;have d:(execOp a.eval o).run P W= .ok (.round l fn y A t) W:=by{rw[<- E];simp[execOp,hop,resolve,hcl,r.evalVal z,Deferred.ofValue,invoke,Wg r w]};unfold Oper.wpX;rw[d,Oper.uponIn_round];refine⟨fun i=>(by rw[FOk.depth]at i;cases i),(FOk.round (m _)).mono fun e W' ⟨v,h',B,j,p⟩=>?_⟩;subst B;obtain⟨u,rfl,j⟩:=j.out;refine⟨_,h',j.out,⟨θ,(r.world p).putO hn hd (v:=.val v) rfl (fun _ _ e=>by cases e),f.trans p,?_⟩,Agree.putO hd⟩;exact fun k q=>C k (by rwa [S7]at q)};grind
def Xz{t:aL}(hz:B1e P t=true)(W:aE):(zeroValue t).run P W= .ok (Sh P t) W:=by
 unfold B1e at hz
 cases hi:P.info? t with
 |none=>grind
 |some i=>
  rw[hi]at hz;obtain⟨z,e⟩:=Option.isSome_iff_exists.1 hz;simp[zeroValue,typeInfo,program,hi,Sem.run_bind,Sem.run,e,Sh]
def Good.core[FOk F]{cfg:Cfg}(hn:cfg.n=n)(hfn:Bodies P cfg.fns){h0:aK}{W0:aE}{o:aQ}(g:Good n h0 W0 st h a W){gr:Bool}{K:VS->aK->Prop} (hv:Ab P cfg o gr st h K) {Q:Exit->Act->aE->Prop}: Oper.wpX F fu P o a W (fun a' W'=>∃st' h',K st' h'/\Good n h0 W0 st' h' a' W'/\Agree cfg.lim st st') Q:=by obtain⟨q,hv⟩:=hv.both;split at hv;{rename_i C;have w:∀cs b,o.op ≠ .select cs b:=fun cs b e=>by{simp[Vk,e]at C};exact g.quiet hn q w hv};·split at hv;{rename_i t f;split at hv;{obtain⟨E,hv⟩:=hv.both;refine g.own (P:=P) (t:=t) hn hv fun θ r=>?_;simp[execOp,f,Instr.alloc,Xz E,newVar,newRow,newObj,Sem.run]};·exact g.effP hn q hv fun θ r=>by simp[execOp,f]};{rename_i t x f;obtain⟨j,hv⟩:=hv.both;split at hv;{refine g.own (P:=P) (t:=t) hn hv fun θ r=>?_;simp[execOp,f,Instr.box,r.evalRho j,newVar,newRow,newObj,Sem.run]};·exact g.effP hn q hv fun θ r=>by simp[execOp,f,r.evalRho j]};{rename_i t x y f;unfold A5x at hv;split at hv;{rename_i k off j;split at hv;{rename_i cs B;exact g.ownStore hn f q j B hv};grind};{rename_i p j;obtain⟨D,hv⟩:=hv.both;exact g.effU hn q hv fun θ r=>by simp[execOp,f,r.evalVal j,r.evalRho D]};grind};{rename_i t l c f;obtain⟨j,hv⟩:=hv.both;refine g.effV hn q hv fun θ r=>?_;have z:=r.evalAll j l (by simp);have A:=r.evalAll j c (by simp);simp[execOp,f,z,A]};{rename_i t m ps f;obtain⟨j,hv⟩:=hv.both;refine g.effV hn q hv fun θ r=>?_;have e:(ps.map fun(i,x)=>(i,a.eval x))=ps.map fun(i,x)=>(i,rho st x):=by{apply Array.ext;{simp};·intro i z A;simp only[Array.getElem_map];have:=r.evalAll j (ps[i]'gz0).2 gz0;rw[this]};simp[execOp,f,e]};{rename_i s d x f;obtain⟨j,hv⟩:=hv.both;refine g.effV hn q hv fun θ r=>?_;have z:=r.evalAll j x (by simp);simp[execOp,f,z]};{rename_i c f;split at hv;{rename_i x u;exact g.call hn hfn f u q hv};{rename_i u;obtain⟨j,hv⟩:=hv.both;exact g.effV hn q hv fun θ r=>by simp[execOp,f,resolve,u,invoke,builtin,Wg r j]};{rename_i u;obtain⟨j,hv⟩:=hv.both;exact g.effV hn q hv fun θ r=>by simp[execOp,f,resolve,u,invoke,builtin,Wg r j]};grind};grind
def put_self(st:VS){g:J}{v:aV}(e:st.env g=v):st.put g v=st:=by unfold VS.put;congr 1;funext i;by_cases h:i=g;{grind};·simp[Gg h]
def Jq{cfg:Cfg}{o:aQ}{gr:Bool}{K:VS->aK->Prop}(hv:Ab P cfg o gr st h K):∀c,o.op ≠ .defer c:=by intro c e;obtain⟨_,hv⟩:=hv.both;simp[Vk,e]at hv
def Good.op[FOk F]{cfg:Cfg}(hn:cfg.n=n)(hfn:Bodies P cfg.fns){h0:aK}{W0:aE}{ops:Array aQ}{i:J}{o:aQ}(hi:ops[i]? = some o)(g:Good n h0 W0 st h a W){gr:Bool}{K:VS->aK->Prop} (hv:Sj P cfg ops o gr st h K) {Q:Exit->Act->aE->Prop}: wpOpIn F fu P ops Q i (fun a' W'=>∃st' h',K st' h'/\Good n h0 W0 st' h' a' W'/\Agree cfg.lim st st') a W:=by unfold wpOpIn;simp only[hi];unfold Sj at hv;have skip:∀{u:aV},V4 cfg o.dst=true->K (st.putO o.dst (.val undef)) h->∃st' h',K st' h'/\Good n h0 W0 st' h' (a.put o.dst undef) W/\Agree cfg.lim st st':=by{intro _ w E;obtain⟨θ,r,f,t⟩:=g;exact⟨_,h,E,⟨θ,r.putO hn w (v:=.val undef) rfl (fun _ _ e=>by cases e),f,fun k A=>t k (by rwa [S7]at A)⟩,Agree.putO w⟩};split at hv;{rename_i p;rw[iP (by simp[Region.wanted,p])];exact(g.core hn hfn hv).toIn (Jq hv)};·rename_i j m p;split at hv;{exact hv.elim};·rename_i d q;split at hv;{rename_i b l;have C:yielded ops a.tmps j=some b:=by{obtain⟨θ,r,f,t⟩:=g;have D:a.tmps.getD d undef= .bool b:=by{have:=r.slot' d;rw[l]at this;exact this};have B:d<a.tmps.size:=by{rcases bC d a.tmps.size with x|x;{exact x};·rw[r.out d (by rw[<- r.size];exact x)]at l;cases l};have s:a.tmps[d]? = some (.bool b):=by{simp_all};simp[yielded,q,s]};have y:Region.wanted o (yielded ops a.tmps)=(b==m):=by{simp only[Region.wanted,p,C];rfl};rw[y];cases b<;>cases m;{have c:Ab P cfg o gr (st.put d (.val (.bool false))) h K:=hv;rw[put_self st l]at c;exact(g.core hn hfn c).toIn (Jq c)};{have c:When (V4 cfg o.dst) (K ((st.put d (.val (.bool false))).putO o.dst (.val undef)) h):=hv;rw[put_self st l]at c;exact⟨fun f _=>FOk.fn f,skip (u:=.any) c.both.1 c.both.2⟩};{have c:When (V4 cfg o.dst) (K ((st.put d (.val (.bool true))).putO o.dst (.val undef)) h):=hv;rw[put_self st l]at c;exact⟨fun f _=>FOk.fn f,skip (u:=.any) c.both.1 c.both.2⟩};·have c:Ab P cfg o gr (st.put d (.val (.bool true))) h K:=hv;rw[put_self st l]at c;exact(g.core hn hfn c).toIn (Jq c)};{rename_i z l;have y:Region.wanted o (yielded ops a.tmps)=false:=by{obtain⟨θ,r,f,t⟩:=g;have D:a.tmps.getD d undef= .tuple z:=by{have:=r.slot' d;rw[l]at this;exact this};have s:yielded ops a.tmps j=none:=by{unfold yielded;rcases bC d a.tmps.size with x|x;{simp_all};grind};simp[Region.wanted,p,s]};rw[iN gz0];exact⟨fun f _=>FOk.fn f,skip (u:=.any) hv.both.1 hv.both.2⟩};grind
def B87[FOk F]{cfg:Cfg}(hn:cfg.n=n)(hfn:Bodies P cfg.fns){h0:aK}{W0:aE}{ops:Array aQ}{gr:Bool}{Q:Exit->Act->aE->Prop}{K:VS->aK->Prop}:∀(l:Z J) (st:VS) (h:aK) (a:Act) (W:aE),
 Good n h0 W0 st h a W->B5p P cfg ops gr l st h K->
 (∀st' h' a' W',K st' h'->Good n h0 W0 st' h' a' W'->Agree cfg.lim st st'->Q .normal a' W')->wpOpsIn F fu P ops Q l a W:=by
 intro l
 induction l with
 |nil=>exact fun st h a W g b d=>d st h a W b g (Agree.refl _ _)
 |cons i l ih=>
  intro st h a W g b d;unfold B5p at b;split at b;·exact b.elim
  ·rename_i o j;refine wpOpIn_mono (fun a' W' ⟨st',h',q,s,r⟩=>?_) (g.op hn hfn j b);exact ih st' h' a' W' s q fun e p m W2 k f c=>d e p m W2 k f (r.trans c)
end
