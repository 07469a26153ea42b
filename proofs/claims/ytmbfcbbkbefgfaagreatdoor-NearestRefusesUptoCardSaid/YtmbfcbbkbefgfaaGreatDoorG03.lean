/- A part. -/
import Derived.Test.YtmbfcbbkbefgfaaGreatDoorG02
set_option linter.all false
open _root_.Array renaming getD->aS
open Bool renaming and_eq_true->aD,or_eq_true->aN
open List renaming cons_append->aJ,mem_append_left->aK,append_of_mem->aL,mem_cons->aM
open Nat renaming eq_of_beq_eq_true->aH,beq->aP
open _root_.Go.Op renaming operands->aC
open _root_.Go renaming Oper->aE,Value->aI,Program->aQ,Operand->aR,TypeId->aT
open _root_.Go.Proofs.YtmbfcbbkbefgfaaGreatDoor renaming Heap->aF,put_self->aG,AVal->aO
namespace Go.Proofs.YtmbfcbbkbefgfaaGreatDoor
open Go
def R6(cfg:Cfg)(o:aE):Bool:=
 match o.op with
 | .alloc _ | .box _ _=>Nw cfg o.dst
 | _=>false
def Bj(P:aQ)(cfg:Cfg)(o:aE):Bool:=Uq P o||R6 cfg o
def B3l(ops:Array aE)(rem:List Nat)(y:Nat):Bool:=rem.all fun i=>match ops[i]? with
 | some o=>(match o.dst with
  | some d=> !aP d y
  | none=>true)
 | none=>true
def B1h(cfg:Cfg)(o:aE):Bool:=
 match o.op with
 | .call c=>
  match c.callee with
  | .value (.func g)=>has cfg.wr g
  | .value (.tmp _)=>true
  | .builtin .copy=>true
  | .builtin .append=>has cfg.wr 1000000000
  | _=>false
 | _=>false
def Ie(o:aE)(st:VS):Bool:=
 match o.op with
 | .load _ a=>(match C9 st a with
  | .own _ _=>false
  | _=>true)
 | _=>false
def Rc(cfg:Cfg)(ops:Array aE)(rem:List Nat)(oj oi:aE)(st:VS):Bool:=
 !(B1h cfg oi&&Ie oj st) &&
 match oi.op with
 | .store _ (.tmp y) _=>
  match oj.op with
  | .load _ a=>B3l ops rem y&&(match C9 st a,st.env y with
   | .own k _,.own k' _=> !aP k k'
   | .val _,.own _ _=>true
   | _,_=>false)
  | _=>true
 | .store _ _ _=>false
 | _=>true
def B6z(P:aQ)(cfg:Cfg)(al:Nat->List Nat)(oj:aE)(j:Nat):Bool:=Bj P cfg oj&&(al j).isEmpty
def B2u(P:aQ)(cfg:Cfg)(ops:Array aE)(anc:List (List Nat))(al:Nat->List Nat)(rem:List Nat)(st:VS)(oj:aE)(j i:Nat):Bool:=
 has (anc.getD i []) j ||
 match ops[i]? with
 | some oi=>B6z P cfg al oj j&&oj.apart ops oi&&Rc cfg ops rem oj oi st
 | none=>false
def Lh(cfg:Cfg)(o:aE):Bool:=
 match o.op with
 | .store _ _ _=>false
 | _=> !B1h cfg o
def A0m(P:aQ)(cfg:Cfg)(ops:Array aE)(anc:List (List Nat))(al:Nat->List Nat)(rem:List Nat)(st:VS)(oj:aE)(j i:Nat):Bool:=
 B2u P cfg ops anc al rem st oj j i||(!B6z P cfg al oj j&&has (al j) i)
def C2x(i:Nat):List Nat->List Nat
 | []=>[]
 | x::L=>bif aP x i then [] else x::C2x i L
def del(i:Nat):List Nat->List Nat
 | []=>[]
 | x::L=>bif aP x i then L else x::del i L
def A4l(P:aQ)(cfg:Cfg)(anc:List (List Nat))(al:Nat->List Nat)(oj:aE)(j:Nat)(L:List Nat):List Nat:=
 match B6z P cfg al oj j with
 | true=>[]
 | false=>(al j).filter fun i=>has L i&&(C2x i L).all (fun x=> !has (anc.getD i []) x) && !has (anc.getD i []) j
def C5q(f:Nat->Prop):Nat->List Nat->Prop
 | i,[]=>f i
 | i,k::r=>f i/\C5q f k r
def C5r(A:Prop)(f:Nat->Prop):List Nat->Prop
 | []=>A
 | i::r=>A/\C5q f i r
def Ee(P:aQ)(cfg:Cfg)(ops:Array aE)(anc:List (List Nat))(al:Nat->List Nat):Nat->List Nat->VS->aF->(VS->aF->Prop)->Prop
 | _,[],st,h,K=>K st h
 | 0,_::_,_,_,_=>False
 | n+1,j::L,st,h,K=>
  match ops[j]? with
  | none=>False
  | some o=>When (L.all (A0m P cfg ops anc al L st o j))
   (C5r (Rp P cfg ops o (Lh cfg o) st h fun st' h'=>Ee P cfg ops anc al n L st' h' K)
    (fun i=>
     match ops[i]? with
     | none=>False
     | some oi=>Rp P cfg ops oi (Lh cfg oi) st h fun st' h'=>Ee P cfg ops anc al n (j::del i L) st' h' K)
    (A4l P cfg anc al o j L))
def B4n{f:Nat->Prop}{i:Nat}: ∀ {k:Nat} {r:List Nat},C5q f k r->i∈k::r->f i
 | k,[],x,h=>by rw [List.mem_singleton.1 h];exact x
 | k,m::r,x,h=>by
  rcases List.mem_cons.1 h with rfl|h
  ·exact x.1
  ·exact B4n x.2 h
def A90{A:Prop}{f:Nat->Prop}: ∀ {r:List Nat},C5r A f r->A
 | [],x=>x
 | _::_,x=>x.1
def C1v{A:Prop}{f:Nat->Prop}{i:Nat}: ∀ {r:List Nat},C5r A f r->i∈r->f i
 | [],_,h=>by cases h
 | _::_,x,h=>B4n x.2 h
def A7v{i:Nat}{L2:List Nat}: ∀ {L1:List Nat},i∉L1->C2x i (L1++i::L2)=L1/\del i (L1++i::L2)=L1++L2
 | [],_=>by simp [C2x,del]
 | x::L1,h=>by
  have hx:aP x i=false:=by
   cases e:aP x i with
   | false=>rfl
   | true=>
    have c:=aH e
    subst c
    exact absurd List.mem_cons_self h
  obtain ⟨a,d⟩:=A7v (L2:=L2) (L1:=L1) (i:=i) (fun b=>h (List.mem_cons_of_mem _ b))
  simp only [aJ,C2x,del,hx,a,d,cond_false,and_self]
def C3z(ops:Array aE)(anc:List (List Nat)):Bool:=
 (List.range ops.size).all fun i=>(anc.getD i []).all fun j=>
  match ops[i]? with
  | some o=>o.after.toList.any fun e=>Region.binds .any e&&(aP e.on j||has (anc.getD e.on []) j)
  | none=>false
def B2x(ops:Array aE):List Nat->List Nat->Bool
 | _,[]=>true
 | done,i::L=>
  (match ops[i]? with
   | some o=>o.after.toList.all fun e=> !Region.binds .any e||has done e.on
   | none=>false) && !has done i&&B2x ops (i::done) L
def B45(P:aQ)(ops:Array aE)(ord:List Nat)(anc:List (List Nat)):Bool:=
 P.follows .mixedOrders&&C3z ops anc&&B2x ops [] ord&&(List.range ops.size).all (has ord)&&aP ord.length ops.size
section
variable {P:aQ} {cfg:Cfg} {ops:Array aE}
structure AgreeOn (cfg:Cfg) (ops:Array aE) (o:aE) (st st':VS):Prop where
 env:∀ x∈o.looksAt ops,st'.env x=st.env x
 load:∀ t a k off,o.op= .load t a->C9 st a= .own k off->st'.own k=st.own k
 alloc:∀ d,R6 cfg o=true->o.dst=some d->st.own d=none->st'.own d=none
def AgreeOn.eval{o:aE}{st st':VS}(ag:AgreeOn cfg ops o st st'){x:aR}(hx:x∈o.op.operands):C9 st' x=C9 st x:=by
 cases x with
 | tmp t=>
  refine ag.env t ?_
  unfold Oper.looksAt
  exact aK _ (List.mem_filterMap.2 ⟨.tmp t,by simpa using hx,rfl⟩)
 | _=>rfl
def AgreeOn.rho{o:aE}{st st':VS}(ag:AgreeOn cfg ops o st st'){x:aR}(hx:x∈o.op.operands):rho st' x=rho st x:=by
 unfold Go.Proofs.YtmbfcbbkbefgfaaGreatDoor.rho;rw [ag.eval hx]
def A8v{z:aI}{K K':aI->Prop}(x:exV z K)(hk:∀ v,K v->K' v):exV z K':=by
 cases z<;>(unfold exV at x ⊢)<;>first
  | (obtain ⟨n,a⟩:=x;exact ⟨n,hk _ a⟩)
  | (obtain ⟨p,n,c,a⟩:=x;exact ⟨p,n,c,hk _ a⟩)
def B7j{zs:List aI}: ∀ {K K':List aI->Prop},exL zs K->(∀ v,K v->K' v)->exL zs K':=by
 induction zs with
 | nil=>exact fun x a=>a _ x
 | cons z zs ih=>exact fun x a=>A8v x fun v y=>ih y fun b=>a _
def B3w{z:aI}{K:aI->Prop}(x:exV z K):∃ v,K v/\∀ K':aI->Prop,K' v->exV z K':=by
 cases z<;>(unfold exV at x)<;>first
  | (obtain ⟨n,a⟩:=x;exact ⟨_,a,fun K' y=>⟨_,y⟩⟩)
  | (obtain ⟨p,n,c,a⟩:=x;exact ⟨_,a,fun K' y=>⟨_,_,_,y⟩⟩)
def C1e{zs:List aI}: ∀ {K:List aI->Prop},exL zs K->∃ vs,K vs/\∀ K':List aI->Prop,K' vs->exL zs K':=by
 induction zs with
 | nil=>exact fun x=>⟨[],x,fun _ y=>y⟩
 | cons z zs ih=>
  intro K x
  obtain ⟨v,c,b⟩:=B3w x
  obtain ⟨vs,a,d⟩:=ih c
  exact ⟨v::vs,a,fun K' y=>b _ (d _ y)⟩
def A6x{h:aF}{a:Addr}: ∀ {vs:List aI} {j:Nat} {X:Prop},cellsAt h a j vs X->X/\∀ h' (Y:Prop),h.le h'->Y->cellsAt h' a j vs Y:=by
 intro vs
 induction vs with
 | nil=>exact fun x=>⟨x,fun _ _ _ y=>y⟩
 | cons v vs ih=>
  intro j X ⟨h1,h2⟩
  obtain ⟨d,c⟩:=ih h2
  exact ⟨d,fun h' Y b y=>⟨B5 b h1,c h' Y b y⟩⟩
def A3w{h:aF}{t:aT}{a:Addr}{C:aO->Prop}(x:Z2 P t a h C):∃ u,C (.val u)/\∀ h' (C':aO->Prop),h.le h'->C' (.val u)->Z2 P t a h' C':=by
 cases hag:Nx P t with
 | none=>simp only [Z2,hag] at x
 | some b=>
  cases b with
  | true=>
   simp only [Z2,hag] at x
   split at x
   ·rename_i zs k
    obtain ⟨i,x⟩:=x.both
    obtain ⟨m,e,d⟩:=C1e x
    obtain ⟨g,f⟩:=A6x e
    refine ⟨_,g,fun h' C' c y=>?_⟩
    simp only [Z2,hag,k,i]
    exact d _ (f h' _ c y)
   ·exact x.elim
  | false=>
   simp only [Z2,hag] at x
   obtain ⟨v,⟨j,l⟩,d⟩:=B3w x
   refine ⟨_,l,fun h' C' c y=>?_⟩
   simp only [Z2,hag]
   exact d _ ⟨B5 c j,y⟩
def A6e{t:aT}{cs:List aI}{off:Nat}{C:aO->Prop}(x:W9 P t cs off C):∃ u,C (.val u)/\∀ C':aO->Prop,C' (.val u)->W9 P t cs off C':=by
 cases hag:Nx P t with
 | none=>simp only [W9,hag] at x
 | some b=>
  cases b with
  | true=>
   simp only [W9,hag] at x
   obtain ⟨a,x⟩:=x.both
   exact ⟨_,x,fun C' y=>by simp only [W9,hag,a];exact y⟩
  | false=>
   simp only [W9,hag] at x
   split at x
   ·rename_i v c
    exact ⟨_,x,fun C' y=>by simp only [W9,hag,c];exact y⟩
   ·exact x.elim
def W6{v:Option aO}{dflt y:Nat}{C:Nat->Prop}(x:slBound v dflt y C):∃ m,C m/\∀ C':Nat->Prop,C' m->slBound v dflt y C':=by
 rcases x.out with ⟨rfl,a⟩|⟨k,i,rfl,c,b,a⟩
 ·exact ⟨_,a,fun _ z=>z⟩
 ·exact ⟨_,a,fun _ z=>⟨⟨c,b⟩,z⟩⟩
def A5p{t:aT}{x:aO}{lo hi:Option aO}{C:aO->Prop}(hv:Fj P t x lo hi C):∃ u,C (.val u)/\∀ C':aO->Prop,C' (.val u)->Fj P t x lo hi C':=by
 unfold Fj at hv
 split at hv
 ·rename_i s b
  obtain ⟨m,f,i⟩:=W6 hv
  obtain ⟨l,d,g⟩:=W6 f
  exact ⟨_,d,fun C' y=>by simp only [Fj,b];exact i (fun h=>slBound lo 0 h fun l=>C' (.val (.string (s.extract l h)))) (g (fun l=>C' (.val (.string (s.extract l m)))) y)⟩
 ·rename_i e A n c b
  obtain ⟨j,hv⟩:=hv.both
  obtain ⟨m,f,i⟩:=W6 hv
  obtain ⟨l,d,g⟩:=W6 f
  exact ⟨_,d,fun C' y=>by simp only [Fj,b,j];exact i (fun h=>slBound lo 0 h fun l=>C' (.val (.slice (J9 A c l (P.cellsOf e)) (h-l) (c-l)))) (g (fun l=>C' (.val (.slice (J9 A c l (P.cellsOf e)) (m-l) (c-l)))) y)⟩
 ·rename_i n e a b
  obtain ⟨j,hv⟩:=hv.both
  obtain ⟨m,f,i⟩:=W6 hv
  obtain ⟨l,d,g⟩:=W6 f
  exact ⟨_,d,fun C' y=>by simp only [Fj,b,j];exact i (fun h=>slBound lo 0 h fun l=>C' (.val (.slice (J9 (some a) n l (P.cellsOf e)) (h-l) (n-l)))) (g (fun l=>C' (.val (.slice (J9 (some a) n l (P.cellsOf e)) (m-l) (n-l)))) y)⟩
 ·exact hv.elim
def A00{b:Bool}{X Y:Prop}(x:Br b X Y):(b=true/\X)\/(b=false/\Y):=by
 cases b
 ·exact .inr ⟨rfl,x⟩
 ·exact .inl ⟨rfl,x⟩
def Uc{t:aT}{x i:aO}{C:aO->Prop}(hv:O2 P t x i C):
 ∃ v,C v/\(∀ k off,v= .own k off->∃ off',x= .own k off')/\∀ C':aO->Prop,C' v->O2 P t x i C':=by
 unfold O2 at hv
 split at hv
 ·rename_i len e k off _ n d
  obtain ⟨f,hv⟩:=hv.both
  rcases A00 hv with ⟨e,hv⟩|⟨_,hv⟩
  ·exact ⟨_,hv,(fun j off' b=>by cases b;exact ⟨off,rfl⟩),fun C' y=>by simp only [O2,d,f,e];exact y⟩
  ·exact hv.elim
 ·rename_i len e a _ n d
  obtain ⟨f,g,hv⟩:=hv.both
  exact ⟨_,hv,(fun j off' b=>by cases b),fun C' y=>by simp only [O2,d,f];exact ⟨g,y⟩⟩
 ·rename_i e A n c _ i d
  obtain ⟨f,a,g,m,l,hv⟩:=hv.both
  exact ⟨_,hv,(fun j off' b=>by cases b),fun C' y=>by simp only [O2,d,f];exact ⟨a,g,m,l,y⟩⟩
 ·exact hv.elim
def Al{st st':VS}{xs:List aR}(h:∀ x∈xs,C9 st' x=C9 st x):Q0 st' xs=Q0 st xs:=by
 unfold Q0
 induction xs with
 | nil=>rfl
 | cons x xs ih=>simp only [List.all_cons,h x (by simp),ih (fun y a=>h y (by simp [a]))]
def Ps{o:aE}{st:VS}(hsel:∀ cs b,o.op ≠ .select cs b){C:aO->Prop}(hv:Mm P o st C):∃ u,C (.val u)/\∀ st' (C':aO->Prop),AgreeOn cfg ops o st st'->C' (.val u)->Mm P o st' C':=by
 unfold Mm at hv
 split at hv
 ·rename_i e
  split at hv
  ·rename_i v f
   refine ⟨_,hv,fun st' C' c y=>?_⟩
   unfold Mm
   have d:Q0 st' o.op.operands.toList=true:=by rw [Al (fun x a=>c.eval (by simpa using a))];exact e
   have g:execOp (rho st') o=execOp (rho st) o:=execOp_congr o hsel fun x a=>c.rho a
   rw [d]
   simp only [g,f]
   exact y
  ·exact hv.elim
 ·exact hv.elim
def A2m{t:aT}{xs ys:Array aI}{C:Bool->Prop}(hv:A2n P t xs ys C):∃ b,C b/\∀ C':Bool->Prop,C' b->A2n P t xs ys C':=by
 unfold A2n at hv
 split at hv
 ·rename_i e d
  obtain ⟨a,hv⟩:=hv.both
  split at hv
  ·rename_i b c
   exact ⟨b,hv,fun C' y=>by simp only [A2n,d,a,c];exact y⟩
  ·exact hv.elim
 ·exact hv.elim
def B1j{o:aE}{st:VS}{op:BinOp}{t t':aT}{x z:aR}(hop:o.op= .binOp op t x z t'){C:aO->Prop}(hv:Kf P o st op t (C9 st x) (C9 st z) C):
 ∃ u,C (.val u)/\∀ st' (C':aO->Prop),AgreeOn cfg ops o st st'->C' (.val u)->Kf P o st' op t (C9 st' x) (C9 st' z) C':=by
 have i:∀ cs b,o.op ≠ .select cs b:=by rw [hop];intro _ _ e;cases e
 have f:∀ st',AgreeOn cfg ops o st st'->C9 st' x=C9 st x/\C9 st' z=C9 st z:=fun st' d=>⟨d.eval (by rw [hop];simp [aC]),d.eval (by rw [hop];simp [aC])⟩
 unfold Kf at hv
 split at hv
 ·rename_i a c
  obtain ⟨b,k,j⟩:=A2m hv
  exact ⟨_,k,fun st' C' d y=>by rw [(f st' d).1,(f st' d).2];simp only [Kf,a,c];exact j (fun b=>C' (.val (.bool b))) y⟩
 ·rename_i a c
  obtain ⟨b,k,j⟩:=A2m hv
  exact ⟨_,k,fun st' C' d y=>by rw [(f st' d).1,(f st' d).2];simp only [Kf,a,c];exact j (fun b=>C' (.val (.bool (!b)))) y⟩
 ·rename_i a c
  obtain ⟨g,hv⟩:=hv.both
  exact ⟨_,hv,fun st' C' d y=>by rw [(f st' d).1,(f st' d).2];simp only [Kf,a,c,g];exact y⟩
 ·rename_i a c
  obtain ⟨g,hv⟩:=hv.both
  exact ⟨_,hv,fun st' C' d y=>by rw [(f st' d).1,(f st' d).2];simp only [Kf,a,c,g];exact y⟩
 ·rename_i a c
  obtain ⟨g,hv⟩:=hv.both
  rcases A00 hv with ⟨e,hv⟩|⟨e,hv⟩
  ·exact hv.elim
  ·exact ⟨_,hv,fun st' C' d y=>by rw [(f st' d).1,(f st' d).2];simp only [Kf,a,c,g,e];exact y⟩
 ·rename_i a c
  obtain ⟨g,hv⟩:=hv.both
  rcases A00 hv with ⟨e,hv⟩|⟨e,hv⟩
  ·exact hv.elim
  ·exact ⟨_,hv,fun st' C' d y=>by rw [(f st' d).1,(f st' d).2];simp only [Kf,a,c,g,e];exact y⟩
 ·rename_i a c
  rcases A00 hv with ⟨e,hv⟩|⟨e,hv⟩
  ·exact hv.elim
  ·exact ⟨_,hv,fun st' C' d y=>by rw [(f st' d).1,(f st' d).2];simp only [Kf,a,c,e];exact y⟩
 ·rename_i a c
  rcases A00 hv with ⟨e,hv⟩|⟨e,hv⟩
  ·exact hv.elim
  ·exact ⟨_,hv,fun st' C' d y=>by rw [(f st' d).1,(f st' d).2];simp only [Kf,a,c,e];exact y⟩
 ·rename_i a c
  exact ⟨_,hv.2,fun st' C' d y=>by rw [(f st' d).1,(f st' d).2];simp only [Kf,a,c];exact ⟨hv.1,y⟩⟩
 ·rename_i A l w B q m p r n
  obtain ⟨u,s,j⟩:=Ps (cfg:=cfg) (ops:=ops) i hv
  refine ⟨u,s,fun st' C' d y=>?_⟩
  rw [(f st' d).1,(f st' d).2]
  unfold Kf
  split
  ·rename_i a c;exact (A _ _ rfl a c).elim
  ·rename_i a c;exact (l _ _ rfl a c).elim
  ·rename_i a c;exact (w _ _ _ _ _ rfl a c).elim
  ·rename_i a c;exact (B _ _ _ _ _ rfl a c).elim
  ·rename_i a c;exact (q _ _ _ _ rfl a c).elim
  ·rename_i a c;exact (m _ _ _ _ rfl a c).elim
  ·rename_i a c;exact (p _ _ _ _ rfl a c).elim
  ·rename_i a c;exact (r _ _ _ _ rfl a c).elim
  ·rename_i a c;exact (n _ _ rfl a c).elim
  ·exact j st' C' d y
def C0h{o:aE}{st:VS}{h:aF}(hsel:∀ cs b,o.op ≠ .select cs b){C:aO->Prop}(hv:vcQ P o st h C):
 ∃ v,C v/\(∀ k off,v= .own k off->∃ x off',x∈o.op.operands/\C9 st x= .own k off')/\∀ st' h' C',(Ie o st=true->h.le h')->AgreeOn cfg ops o st st'->C' v->vcQ P o st' h' C':=by
 unfold vcQ at hv
 split at hv
 ·rename_i x a
  refine ⟨_,hv,(fun k off e=>⟨x,off,(by rw [a];simp [aC]),e⟩),fun st' h' C' n d y=>?_⟩
  unfold vcQ;simp only [a,d.eval (x:=x) (by rw [a];simp [aC])];exact y
 ·rename_i x a
  refine ⟨_,hv,(fun k off e=>⟨x,off,(by rw [a];simp [aC]),e⟩),fun st' h' C' n d y=>?_⟩
  unfold vcQ;simp only [a,d.eval (x:=x) (by rw [a];simp [aC])];exact y
 ·rename_i c x z a
  split at hv
  ·rename_i b F
   have hc:∀ st',AgreeOn cfg ops o st st'->C9 st' c= .val (.bool b)/\C9 st' x=C9 st x/\C9 st' z=C9 st z:=fun st' d=>
    ⟨by rw [d.eval (x:=c) (by rw [a];simp [aC])];exact F,d.eval (by rw [a];simp [aC]),d.eval (by rw [a];simp [aC])⟩
   rcases A00 hv with ⟨e,hv⟩|⟨e,hv⟩
   ·refine ⟨_,hv,(fun k off e=>⟨x,off,(by rw [a];simp [aC]),e⟩),fun st' h' C' n d y=>?_⟩
    obtain ⟨B,G,L⟩:=hc st' d
    unfold vcQ;simp only [a,B,G,L,e];exact y
   ·refine ⟨_,hv,(fun k off e=>⟨z,off,(by rw [a];simp [aC]),e⟩),fun st' h' C' n d y=>?_⟩
    obtain ⟨B,G,L⟩:=hc st' d
    unfold vcQ;simp only [a,B,G,L,e];exact y
  ·exact hv.elim
 ·rename_i t x a
  have g:∀ st',AgreeOn cfg ops o st st'->C9 st' x=C9 st x:=fun st' d=>d.eval (by rw [a];simp [aC])
  split at hv
  ·rename_i k off q
   split at hv
   ·rename_i cs Q
    obtain ⟨u,r,w⟩:=A6e hv
    refine ⟨_,r,(fun k off e=>by cases e),fun st' h' C' n d y=>?_⟩
    unfold vcQ;simp only [a,g st' d,q,d.load t x k off a q,Q];exact w C' y
   ·exact hv.elim
  ·rename_i V q
   obtain ⟨u,r,w⟩:=A3w hv
   refine ⟨_,r,(fun k off e=>by cases e),fun st' h' C' n d y=>?_⟩
   unfold vcQ;simp only [a,g st' d,q];exact w h' C' (n (by simp only [Ie,a,q])) y
  ·exact hv.elim
 ·rename_i s x f a
  have g:∀ st',AgreeOn cfg ops o st st'->C9 st' x=C9 st x:=fun st' d=>d.eval (by rw [a];simp [aC])
  split at hv
  ·rename_i k off q
   split at hv
   ·rename_i fs O
    split at hv
    ·rename_i fd W
     obtain ⟨F,hv⟩:=hv.both
     refine ⟨_,hv,(fun X off' e=>by cases e;exact ⟨x,off,(by rw [a];simp [aC]),q⟩),fun st' h' C' n d y=>?_⟩
     unfold vcQ;simp only [a,g st' d,q,O,W,F];exact y
    ·exact hv.elim
   ·exact hv.elim
  ·rename_i V q
   split at hv
   ·rename_i fs O
    split at hv
    ·rename_i fd W
     obtain ⟨F,hv⟩:=hv.both
     refine ⟨_,hv,(fun X off' e=>by cases e),fun st' h' C' n d y=>?_⟩
     unfold vcQ;simp only [a,g st' d,q,O,W,F];exact y
    ·exact hv.elim
   ·exact hv.elim
  ·exact hv.elim
 ·rename_i x a
  have g:∀ st',AgreeOn cfg ops o st st'->C9 st' x=C9 st x:=fun st' d=>d.eval (by rw [a];simp [aC])
  split at hv
  ·rename_i k off q
   refine ⟨_,hv,(fun X off' e=>by cases e;exact ⟨x,off,(by rw [a];simp [aC]),q⟩),fun st' h' C' n d y=>?_⟩
   unfold vcQ;simp only [a,g st' d,q];exact y
  ·rename_i p q
   obtain ⟨V,hp,hv⟩:=hv
   refine ⟨_,hv,(fun X off' e=>by cases e),fun st' h' C' n d y=>?_⟩
   unfold vcQ;simp only [a,g st' d,q];exact ⟨V,hp,y⟩
  ·exact hv.elim
 ·rename_i t x i a
  obtain ⟨v,r,hw,w⟩:=Uc hv
  refine ⟨_,r,(fun k off e=>let ⟨off',e'⟩:=hw k off e;⟨x,off',(by rw [a];simp [aC]),e'⟩),fun st' h' C' n d y=>?_⟩
  unfold vcQ;simp only [a,d.eval (x:=x) (by rw [a];simp [aC]),d.eval (x:=i) (by rw [a];simp [aC])];exact w C' y
 ·rename_i t x i a
  have g:∀ st',AgreeOn cfg ops o st st'->C9 st' x=C9 st x/\C9 st' i=C9 st i:=fun st' d=>⟨d.eval (by rw [a];simp [aC]),d.eval (by rw [a];simp [aC])⟩
  split at hv
  ·rename_i s _ j M B G
   obtain ⟨c,h0,hv⟩:=hv
   refine ⟨_,hv,(fun k off e=>by cases e),fun st' h' C' n d y=>?_⟩
   unfold vcQ;simp only [a,(g st' d).1,(g st' d).2,M,B,G];exact ⟨c,h0,y⟩
  ·rename_i n1
   obtain ⟨u,r,w⟩:=Ps (cfg:=cfg) (ops:=ops) hsel hv
   refine ⟨_,r,(fun k off e=>by cases e),fun st' h' C' n d y=>?_⟩
   unfold vcQ;simp only [a,(g st' d).1,(g st' d).2]
   exact w st' C' d y
 ·rename_i t x J H a
  obtain ⟨u,r,w⟩:=A5p hv
  refine ⟨_,r,(fun k off e=>by cases e),fun st' h' C' n d y=>?_⟩
  have g:C9 st' x=C9 st x:=d.eval (by rw [a];simp [aC])
  have D:J.map (C9 st')=J.map (C9 st):=by
   cases J with
   | none=>rfl
   | some z=>simp only [Option.map_some];rw [d.eval (x:=z) (by rw [a];simp [aC])]
  have E:H.map (C9 st')=H.map (C9 st):=by
   cases H with
   | none=>rfl
   | some z=>simp only [Option.map_some];rw [d.eval (x:=z) (by rw [a];simp [aC])]
  unfold vcQ;simp only [a,g,D,E];exact w C' y
 ·rename_i t x J H Z a
  have ev:∀ st',AgreeOn cfg ops o st st'->C9 st' x=C9 st x/\C9 st' J=C9 st J/\C9 st' H=C9 st H/\C9 st' Z=C9 st Z:=fun st' d=>⟨d.eval (by rw [a];simp [aC]),d.eval (by rw [a];simp [aC]),d.eval (by rw [a];simp [aC]),d.eval (by rw [a];simp [aC])⟩
  unfold Ml at hv
  split at hv
  ·rename_i e A m c k1 l k2 h' k3 b M g D E T
   obtain ⟨F,B,G,L,hv⟩:=hv.both
   refine ⟨_,hv,(fun k off e=>by cases e),fun st' h' C' n d y=>?_⟩
   unfold vcQ;simp only [a,(ev st' d).1,(ev st' d).2.1,(ev st' d).2.2.1,(ev st' d).2.2.2,g,D,E,T,Ml,M,F]
   exact ⟨B,G,L,y⟩
  ·exact hv.elim
 ·rename_i op t x z t' a
  obtain ⟨u,r,w⟩:=B1j (cfg:=cfg) (ops:=ops) a hv
  refine ⟨_,r,(fun k off e=>by cases e),fun st' h' C' n d y=>?_⟩
  unfold vcQ;simp only [a];exact w st' C' d y
 ·exact hv.elim
 ·rename_i n1 n2 n3 n4 n5 n6 n7 n8 n9 S N R
  obtain ⟨u,r,w⟩:=Ps (cfg:=cfg) (ops:=ops) hsel hv
  refine ⟨_,r,(fun k off e=>by cases e),fun st' h' C' n d y=>?_⟩
  unfold vcQ
  split
  ·rename_i e;exact (n1 _ e).elim
  ·rename_i e;exact (n2 _ e).elim
  ·rename_i e;exact (n3 _ _ _ e).elim
  ·rename_i e;exact (n4 _ _ e).elim
  ·rename_i e;exact (n5 _ _ _ e).elim
  ·rename_i e;exact (n6 _ e).elim
  ·rename_i e;exact (n7 _ _ _ e).elim
  ·rename_i e;exact (n8 _ _ _ e).elim
  ·rename_i e;exact (n9 _ _ _ _ e).elim
  ·rename_i e;exact (S _ _ _ _ _ e).elim
  ·rename_i e;exact (N _ _ _ _ _ e).elim
  ·rename_i e;exact (R _ e).elim
  ·exact w st' C' d y
inductive Upd where
 | put (d:Option Nat) (v:aO)
 | own (d:Nat) (cs:List aI)
def Upd.app:Upd->VS->VS
 | .put d v,s=>s.putO d v
 | .own d cs,s=>(s.put d (.own d 0)).setOwn d cs
def Upd.dst:Upd->Option Nat
 | .put d _=>d
 | .own d _=>some d
def Lg{o:aE}{j:Nat}{want:Bool}{g:Nat}(hg:o.guard=some (j,want))(hd:(ops[j]?).bind (·.dst)=some g):g∈o.looksAt ops:=by
 unfold Oper.looksAt
 refine List.mem_append_right _ ?_
 simp only [hg,hd,Option.toList_some,List.mem_singleton]
def A1r{o:aE}{st:VS}{h:aF}{gr:Bool}{K:VS->aF->Prop}(hs:Bj P cfg o=true)(hv:S1 P cfg o gr st h K):
 ∃ u:Upd,u.dst=o.dst/\K (u.app st) h/\(∀ d cs,u= .own d cs->st.own d=none)/\(∀ d v k off,u= .put d v->v= .own k off->∃ x off',x∈o.op.operands/\C9 st x= .own k off')/\(∀ d cs,u= .own d cs->R6 cfg o=true)/\
  ∀ st' h' (K':VS->aF->Prop),(Ie o st=true->h.le h')->AgreeOn cfg ops o st st'->K' (u.app st') h'->S1 P cfg o gr st' h' K':=by
 unfold S1 at hv
 obtain ⟨w,hv⟩:=hv.both
 split at hv
 ·rename_i j
  have n:∀ cs b,o.op ≠ .select cs b:=fun cs b e=>by simp [Uq,e] at j
  obtain ⟨v,M,H,r⟩:=C0h (cfg:=cfg) (ops:=ops) n hv
  refine ⟨.put o.dst v,rfl,M,(fun d cs e=>by cases e),(fun d N k off e J=>by cases e;exact H k off J),(fun d cs e=>by cases e),fun st' h' K' l g y=>?_⟩
  unfold S1;rw [w];simp only [When,j];exact r st' h' _ l g y
 ·rename_i j
  have a:R6 cfg o=true:=by simpa [Bj,j] using hs
  have m:∀ cells:List aI,Hu cfg o.dst cells st h K->∃ u:Upd,u.dst=o.dst/\K (u.app st) h/\(∀ d cs,u= .own d cs->st.own d=none)/\(∀ d v k off,u= .put d v->v= .own k off->∃ x off',x∈o.op.operands/\C9 st x= .own k off')/\(∀ d cs,u= .own d cs->R6 cfg o=true)/\
   ∀ st' h' (K':VS->aF->Prop),(Ie o st=true->h.le h')->AgreeOn cfg ops o st st'->K' (u.app st') h'->Hu cfg o.dst cells st' h' K':=by
   intro cells hv
   unfold Hu at hv
   split at hv
   ·rename_i d i
    obtain ⟨f,hv⟩:=hv.both
    simp only [aD,Option.isNone_iff_eq_none] at f
    refine ⟨.own d cells,i.symm,hv,(fun G cs e=>by cases e;exact f.2),(fun G v k off e _=>by cases e),(fun _ _ _=>a),fun st' h' K' l g y=>?_⟩
    have L:st'.own d=none:=g.alloc d a i f.2
    rw [i]
    simp only [Hu,f.1.1,f.1.2,L,Option.isNone_none,Bool.and_self,When]
    exact y
   ·exact hv.elim
  have B:=a
  unfold R6 at a
  split at hv
  ·rename_i t c
   rw [c] at a
   simp only [a] at hv
   obtain ⟨F,hv⟩:=hv.both
   obtain ⟨u,C,D,p,q,s,z⟩:=m _ hv
   refine ⟨u,C,D,p,q,s,fun st' h' K' l g y=>?_⟩
   unfold S1;rw [w];simp only [When,j,c,a,F];exact z st' h' K' l g y
  ·rename_i t x c
   rw [c] at a
   obtain ⟨E,hv⟩:=hv.both
   simp only [a] at hv
   obtain ⟨u,C,D,p,q,s,z⟩:=m _ hv
   refine ⟨u,C,D,p,q,s,fun st' h' K' l g y=>?_⟩
   have A:=g.eval (x:=x) (by rw [c];simp [aC])
   unfold S1;rw [w];simp only [When,j,c,a,A,E,g.rho (x:=x) (by rw [c];simp [aC])];exact z st' h' K' l g y
  all_goals (rename_i c;simp [c] at a)
def B95{o:aE}{st:VS}{h:aF}{gr:Bool}{K:VS->aF->Prop}(hs:Bj P cfg o=true)(hv:Rp P cfg ops o gr st h K):
 ∃ u:Upd,u.dst=o.dst/\K (u.app st) h/\(∀ d cs,u= .own d cs->st.own d=none)/\(∀ d v k off,u= .put d v->v= .own k off->∃ x off',x∈o.op.operands/\C9 st x= .own k off')/\(∀ d cs,u= .own d cs->R6 cfg o=true)/\
  ∀ st' h' (K':VS->aF->Prop),(Ie o st=true->h.le h')->AgreeOn cfg ops o st st'->K' (u.app st') h'->Rp P cfg ops o gr st' h' K':=by
 unfold Rp at hv
 split at hv
 ·rename_i m
  obtain ⟨u,A,D,q,r,s,w⟩:=A1r (ops:=ops) hs hv
  exact ⟨u,A,D,q,r,s,fun st' h' K' p i y=>by unfold Rp;simp only [m];exact w st' h' K' p i y⟩
 ·rename_i j z m
  split at hv
  ·exact hv.elim
  ·rename_i g f
   split at hv
   ·rename_i b n
    have c:=Lg m f
    have skip:∀ E:Bool,b=E->When (Q6 cfg o.dst) (K ((st.put g (.val (.bool E))).putO o.dst (.val undef)) h)->Q6 cfg o.dst=true/\K (st.putO o.dst (.val undef)) h:=by
     intro E e x
     subst e
     rw [aG st n] at x
     exact x.both
    cases b<;>cases z
    ·have l:S1 P cfg o gr (st.put g (.val (.bool false))) h K:=hv
     rw [aG st n] at l
     obtain ⟨u,A,D,q,r,s,w⟩:=A1r (ops:=ops) hs l
     refine ⟨u,A,D,q,r,s,fun st' h' K' p i y=>?_⟩
     have a:st'.env g= .val (.bool false):=by rw [i.env g c];exact n
     unfold Rp;simp only [m,f,a,Br]
     rw [aG st' a];exact w st' h' K' p i y
    ·obtain ⟨t,C⟩:=skip false rfl hv
     refine ⟨.put o.dst (.val undef),rfl,C,(fun d cs e=>by cases e),(fun d v k off e B=>by cases e;cases B),(fun d cs e=>by cases e),fun st' h' K' p i y=>?_⟩
     have a:st'.env g= .val (.bool false):=by rw [i.env g c];exact n
     unfold Rp;simp only [m,f,a,Br]
     rw [aG st' a,t];exact y
    ·obtain ⟨t,C⟩:=skip true rfl hv
     refine ⟨.put o.dst (.val undef),rfl,C,(fun d cs e=>by cases e),(fun d v k off e B=>by cases e;cases B),(fun d cs e=>by cases e),fun st' h' K' p i y=>?_⟩
     have a:st'.env g= .val (.bool true):=by rw [i.env g c];exact n
     unfold Rp;simp only [m,f,a,Br]
     rw [aG st' a,t];exact y
    ·have l:S1 P cfg o gr (st.put g (.val (.bool true))) h K:=hv
     rw [aG st n] at l
     obtain ⟨u,A,D,q,r,s,w⟩:=A1r (ops:=ops) hs l
     refine ⟨u,A,D,q,r,s,fun st' h' K' p i y=>?_⟩
     have a:st'.env g= .val (.bool true):=by rw [i.env g c];exact n
     unfold Rp;simp only [m,f,a,Br]
     rw [aG st' a];exact w st' h' K' p i y
   ·rename_i F n
    have c:=Lg m f
    obtain ⟨t,C⟩:=hv.both
    refine ⟨.put o.dst (.val undef),rfl,C,(fun d cs e=>by cases e),(fun d v k off e B=>by cases e;cases B),(fun d cs e=>by cases e),fun st' h' K' p i y=>?_⟩
    have a:st'.env g= .val (.tuple F):=by rw [i.env g c];exact n
    unfold Rp;simp only [m,f,a]
    rw [t];exact y
   ·exact hv.elim
def Ty{z:aI}{K K':aI->Prop}(x:exT z K)(hk:∀ v,K v->K' v):exT z K':=by
 unfold exT at x ⊢
 split at x
 ·exact B7j x fun a=>hk _
 ·exact A8v x hk
def B3x{zs:List aI}: ∀ {K K':List aI->Prop},exTs zs K->(∀ v,K v->K' v)->exTs zs K':=by
 induction zs with
 | nil=>exact fun x a=>a _ x
 | cons z zs ih=>exact fun x a=>Ty x fun v y=>ih y fun b=>a _
def Vn{t:aT}{K K':aI->Prop}(x:exRt P t K)(hk:∀ v,K v->K' v):exRt P t K':=by
 unfold exRt at x ⊢
 split at x
 ·exact B3x x fun a=>hk _
 ·exact Ty x hk
def WFs(st:VS):Prop:=∀ i k off,st.env i= .own k off->(st.own k).isSome=true
structure Frm (o:aE) (st st':VS):Prop where
 env:∀ x,o.dst≠some x->st'.env x=st.env x
 own:∀ k,(o.dst=some k->(st.own k).isSome=true)->(∀ t a b off,o.op= .store t a b->C9 st a ≠ .own k off)->st'.own k=st.own k
 wf:WFs st'
def A1k{st:VS}(wf:WFs st){x:aR}{k off:Nat}(e:C9 st x= .own k off):(st.own k).isSome=true:=by
 cases x with
 | tmp t=>exact wf t k off e
 | _=>cases e
def Qc(st:VS)(d:Option Nat)(v:aO)(x:Nat):(st.putO d v).env x=if d=some x then v else st.env x:=by
 cases d with
 | none=>simp [VS.putO]
 | some d=>
  by_cases h:x=d
  ·subst h;simp [VS.putO,VS.put]
  ·have:¬ d=x:=fun e=>h e.symm
   simp [VS.putO,VS.put,Dm h,this]
def S0{o:aE}{st:VS}(wf:WFs st)(u:aI):Frm o st (st.putO o.dst (.val u)):=by
 refine ⟨fun x b=>by rw [Qc,iN b],fun k _ _=>by rw [O5],fun i k a e=>?_⟩
 rw [Qc] at e
 rw [O5]
 split at e
 ·cases e
 ·exact wf i k a e
def Ff{u:Upd}{st:VS}{x:Nat}(h:u.dst≠some x):(u.app st).env x=st.env x:=by
 cases u with
 | put d v=>simp only [Upd.app,Qc];rw [iN (show d≠some x from h)]
 | own d cs=>
  have:x≠d:=fun e=>h (by rw [e];rfl)
  simp [Upd.app,VS.setOwn,VS.put,Dm this]
def Ch{u:Upd}{st:VS}{k:Nat}(h:∀ d cs,u= .own d cs->k≠d):(u.app st).own k=st.own k:=by
 cases u with
 | put d v=>simp only [Upd.app,O5]
 | own d cs=>exact F5 _ _ (h d cs rfl)
def Rs(st:VS){d e:Nat}(v u:aO)(h:d≠e):(st.put d v).put e u=(st.put e u).put d v:=by
 unfold VS.put
 congr 1
 funext i
 by_cases a:i=d
 ·subst a;simp [Dm h]
 ·by_cases b:i=e
  ·subst b;simp [Dm a]
  ·simp [Dm a,Dm b]
def I6{u:Upd}{st:VS}{d:Option Nat}{v:aO}(h:∀ x,u.dst=some x->d≠some x):(u.app st).putO d v=u.app (st.putO d v):=by
 cases d with
 | none=>rfl
 | some d=>
  cases u with
  | put e w=>
   cases e with
   | none=>rfl
   | some e=>exact Rs st w v (fun x=>h e rfl (congrArg some x.symm))
  | own e cs=>
   have:=Rs st (.own e 0) v (fun x=>h e rfl (congrArg some x.symm))
   show ((st.put e (.own e 0)).setOwn e cs).put d v=((st.put d v).put e (.own e 0)).setOwn e cs
   rw [<- this];rfl
def Jg{u:Upd}{st:VS}{k:Nat}{cs:List aI}(h:∀ d c,u= .own d c->k≠d):(u.app st).setOwn k cs=u.app (st.setOwn k cs):=by
 cases u with
 | put d v=>cases d<;>rfl
 | own d c=>
  have e:=h d c rfl
  show ((st.put d (.own d 0)).setOwn d c).setOwn k cs=((st.setOwn k cs).put d (.own d 0)).setOwn d c
  unfold VS.setOwn VS.put
  congr 1
  funext i
  by_cases a:i=d
  ·subst a;simp [Dm (Ne.symm e)]
  ·by_cases b:i=k
   ·subst b;simp [Dm a]
   ·simp [Dm a,Dm b]
def B86{u v:Upd}{st:VS}(h:∀ x,u.dst=some x->v.dst≠some x):v.app (u.app st)=u.app (v.app st):=by
 cases v with
 | put d w=>exact I6 h
 | own d cs=>
  have a:(u.app st).put d (.own d 0)=u.app (st.put d (.own d 0)):=I6 (d:=some d) h
  show ((u.app st).put d (.own d 0)).setOwn d cs=_
  rw [a,Jg (fun e c eq=>by subst eq;exact fun x=>h e rfl (by rw [<- x];rfl))];rfl
def Frm.upd{o:aE}{u:Upd}{st:VS}(hd:u.dst=o.dst)(wf:WFs st)(hv:∀ d v k off,u= .put d v->v= .own k off->∃ x off',C9 st x= .own k off')(hn:∀ d cs,u= .own d cs->st.own d=none):Frm o st (u.app st):=by
 refine ⟨fun x a=>Ff (by rw [hd];exact a),fun k j _=>Ch (fun d cs e=>?_),fun i k off e=>?_⟩
 ·rintro rfl
  have:=j (by rw [<- hd,e];rfl)
  rw [hn k cs e] at this;cases this
 cases u with
 | put d v=>
  simp only [Upd.app,O5] at e ⊢
  rw [Qc] at e
  split at e
  ·obtain ⟨x,off',a⟩:=hv d v k off rfl e
   exact A1k wf a
  ·exact wf i k off e
 | own d cs=>
  have b:=hn d cs rfl
  by_cases c:i=d
  ·subst c
   have:((st.put i (.own i 0)).setOwn i cs).env i= .own i 0:=by simp [VS.setOwn,VS.put]
   simp only [Upd.app] at e ⊢
   rw [this] at e
   injection e with e1 e2;subst e1
   rw [W7];rfl
  ·rw [Ff (u:=.own d cs) (fun x=>c (by cases x;rfl))] at e
   have:=wf i k off e
   have g:k≠d:=by rintro rfl;rw [b] at this;cases this
   rw [Ch (u:=.own d cs) (fun l m f=>by cases f;exact g)];exact this
structure Before (cfg:Cfg) (ops:Array aE) (u:Upd) (o:aE) (st:VS):Prop where
 look:∀ x,u.dst=some x->x∉o.looksAt ops
 dst:∀ x,u.dst=some x->o.dst≠some x
 free:∀ d cs,u= .own d cs->st.own d=none
 wf:WFs st
def Before.eval{u:Upd}{o:aE}{st:VS}(b:Before cfg ops u o st){x:aR}(hx:x∈o.op.operands):C9 (u.app st) x=C9 st x:=by
 cases x with
 | tmp t=>
  refine Ff fun e=>b.look t e ?_
  unfold Oper.looksAt
  exact aK _ (List.mem_filterMap.2 ⟨.tmp t,by simpa using hx,rfl⟩)
 | _=>rfl
def Before.rho{u:Upd}{o:aE}{st:VS}(b:Before cfg ops u o st){x:aR}(hx:x∈o.op.operands):rho (u.app st) x=rho st x:=by
 unfold Go.Proofs.YtmbfcbbkbefgfaaGreatDoor.rho;rw [b.eval hx]
def Before.key{u:Upd}{o:aE}{st:VS}(b:Before cfg ops u o st){x:aR}{k off:Nat}(e:C9 st x= .own k off):∀ d cs,u= .own d cs->k≠d:=by
 rintro d cs a rfl
 have:=A1k b.wf e
 rw [b.free k cs a] at this;cases this
def Grw(cfg:Cfg)(o:aE)(st:VS)(h h':aF):Prop:=B1h cfg o=false->(∀ t a b,o.op= .store t a b->∃ k off,C9 st a= .own k off)->h.le h'
def Grw.of{cfg:Cfg}{o:aE}{st:VS}{h h':aF}(x:h.le h'):Grw cfg o st h h':=fun _ _=>x
def Grow.map{gr:Bool}{h h':aF}{X Y:Prop}(x:Grow gr h h' X)(f:X->(gr=true->h.le h')->Y):Grow gr h h' Y:=by
 cases gr
 ·exact f x (fun e=>by cases e)
 ·exact ⟨x.1,f x.2 (fun _=>x.1)⟩
def Vp{u:Upd}{o:aE}{st:VS}(b:Before cfg ops u o st){s:Sem aI}{h:aF}{K:VS->aF->Prop}{K':VS->aF->Prop}(hk:∀ st' h',K (u.app st') h'->Grw cfg o st h h'->Frm o st st'->K' st' h')(x:effV P s o true (u.app st) h K):
 effV P s o true st h K':=by
 refine Jl s x fun v h' y=>Ty y fun w ⟨c,a,e⟩=>⟨c,a,hk _ _ ?_ (Grw.of a) (S0 b.wf w)⟩
 rwa [I6 (fun z d=>b.dst z d)] at e
def Yu{u:Upd}{o:aE}{st:VS}{gr:Bool}(b:Before cfg ops u o st)(hgw:B1h cfg o=false->gr=true){s:Sem aI}{h:aF}{K:VS->aF->Prop}{K':VS->aF->Prop}(hk:∀ st' h',K (u.app st') h'->Grw cfg o st h h'->Frm o st st'->K' st' h')(x:effV P s o gr (u.app st) h K):
 effV P s o gr st h K':=by
 refine Jl s x fun v h' y=>Ty y fun w ⟨c,g⟩=>⟨c,g.map fun a f=>hk _ _ ?_ (fun e _=>f (hgw e)) (S0 b.wf w)⟩
 rwa [I6 (fun z d=>b.dst z d)] at a
def A4a{u:Upd}{o:aE}{st:VS}(b:Before cfg ops u o st){s:Sem aI}{h:aF}{K:VS->aF->Prop}{K':VS->aF->Prop}(hk:∀ st' h',K (u.app st') h'->Grw cfg o st h h'->Frm o st st'->K' st' h')(x:effP P s o true (u.app st) h K):
 effP P s o true st h K':=by
 refine Jl s x fun v h' ⟨w,c,a,e⟩=>⟨w,c,a,hk _ _ ?_ (Grw.of a) (S0 b.wf _)⟩
 rwa [I6 (fun z d=>b.dst z d)] at e
def B40{u:Upd}{o:aE}{st:VS}(b:Before cfg ops u o st){s:Sem Unit}{h:aF}{K:VS->aF->Prop}{K':VS->aF->Prop}(hno:¬ (∀ t a b,o.op= .store t a b->∃ k off,C9 st a= .own k off))(hk:∀ st' h',K (u.app st') h'->Grw cfg o st h h'->Frm o st st'->K' st' h')(x:effU P s o false (u.app st) h K):
 effU P s o false st h K':=by
 refine Jl s x fun v h' c=>?_
 have c:K ((u.app st).putO o.dst (.val undef)) h':=c
 rw [I6 (fun z d=>b.dst z d)] at c
 exact hk _ _ c (fun _ e=>absurd e hno) (S0 b.wf _)
def Vx{u:Upd}{o:aE}{st:VS}(b:Before cfg ops u o st)(hs:Bj P cfg o=false){h:aF}{K:VS->aF->Prop}{K':VS->aF->Prop}(hk:∀ st' h',K (u.app st') h'->Grw cfg o st h h'->Frm o st st'->K' st' h')(hv:S1 P cfg o (Lh cfg o) (u.app st) h K):S1 P cfg o (Lh cfg o) st h K':=by
 unfold S1 at hv ⊢
 obtain ⟨hd,hv⟩:=hv.both
 rw [hd]
 simp only [Bj,Bool.or_eq_false_iff] at hs
 simp only [hs.1] at hv ⊢
 show (match o.op with
  | .alloc t=>_
  | .box t x=>_
  | .store t a x=>_
  | .makeSlice t l c=>_
  | .buildSlice t n T=>_
  | .convert s d x=>_
  | .call c=>_
  | _=>_)
 split at hv
 ·rename_i t j
  have m:Lh cfg o=true:=by simp [Lh,B1h,j]
  rw [m] at hv ⊢
  have:Nw cfg o.dst=false:=by simpa [R6,j] using hs.2
  simp only [j,this] at hv ⊢
  exact A4a b hk hv
 ·rename_i t x j
  have m:Lh cfg o=true:=by simp [Lh,B1h,j]
  rw [m] at hv ⊢
  have:Nw cfg o.dst=false:=by simpa [R6,j] using hs.2
  have E:x∈o.op.operands:=by rw [j];simp [aC]
  simp only [j,this,b.eval E,b.rho E] at hv ⊢
  obtain ⟨q,hv⟩:=hv.both
  rw [q]
  exact A4a b hk hv
 ·rename_i t a x j
  have m:Lh cfg o=false:=by simp [Lh,j]
  rw [m] at hv ⊢
  have D:a∈o.op.operands:=by rw [j];simp [aC]
  have E:x∈o.op.operands:=by rw [j];simp [aC]
  simp only [j]
  unfold A5o at hv ⊢
  rw [b.eval D] at hv
  split at hv
  ·rename_i k Z R
   have J:=b.key R
   rw [Ch J] at hv
   try simp only [R]
   split at hv
   ·rename_i cs ac
    try simp only [ac]
    rw [b.eval E,b.rho E] at hv
    obtain ⟨q,hv⟩:=hv.both
    rw [q]
    rw [Jg J,I6 (fun z M=>b.dst z M)] at hv
    refine hk _ _ hv (Grw.of (B3 h)) (⟨fun y A=>by rw [Qc,iN A];rfl,fun k' _ S=>?_,fun i k' X e=>?_⟩)
    ·rw [O5,F5]
     rintro rfl;exact S t a x Z j R
    ·rw [Qc] at e
     rw [O5]
     split at e
     ·cases e
     ·have:=b.wf i k' X e
      by_cases aa:k'=k
      ·subst aa;rw [W7];rfl
      ·rw [F5 _ _ aa];exact this
   ·exact hv.elim
  ·rename_i p N
   try simp only [N]
   rw [b.eval E,b.rho E] at hv
   obtain ⟨q,hv⟩:=hv.both
   rw [q]
   exact B40 b (fun E=>by obtain ⟨k,Z,e⟩:=E _ _ _ j;rw [N] at e;cases e) hk hv
  ·exact hv.elim
 ·rename_i t l c j
  have m:Lh cfg o=true:=by simp [Lh,B1h,j]
  rw [m] at hv ⊢
  have hl:l∈o.op.operands:=by rw [j];simp [aC]
  have hc:c∈o.op.operands:=by rw [j];simp [aC]
  have D:Q0 (u.app st) [l,c]=Q0 st [l,c]:=Al fun y A=>by
   simp only [aM,List.not_mem_nil,or_false] at A
   rcases A with rfl|rfl
   ·exact b.eval hl
   ·exact b.eval hc
  simp only [j]
  rw [D,b.rho hl,b.rho hc] at hv
  obtain ⟨q,hv⟩:=hv.both
  rw [q]
  exact Vp b hk hv
 ·rename_i t n T j
  have m:Lh cfg o=true:=by simp [Lh,B1h,j]
  rw [m] at hv ⊢
  have N:∀ p∈T,p.2∈o.op.operands:=fun p N=>by
   rw [j];simp only [aC,List.mem_toArray,List.mem_map,Array.mem_toList_iff]
   exact ⟨p,N,rfl⟩
  have D:Q0 (u.app st) (T.toList.map (·.2))=Q0 st (T.toList.map (·.2)):=Al fun y A=>by
   obtain ⟨p,L,rfl⟩:=List.mem_map.1 A
   exact b.eval (N p (by simpa using L))
  have Q:(T.map fun (i,x)=>(i,rho (u.app st) x))=T.map fun (i,x)=>(i,rho st x):=by
   apply Array.map_congr_left
   intro p L
   simp only [b.rho (N p L)]
  simp only [j]
  rw [D,Q] at hv
  obtain ⟨q,hv⟩:=hv.both
  rw [q]
  exact Vp b hk hv
 ·rename_i s d x j
  have m:Lh cfg o=true:=by simp [Lh,B1h,j]
  rw [m] at hv ⊢
  have E:x∈o.op.operands:=by rw [j];simp [aC]
  have D:Q0 (u.app st) [x]=Q0 st [x]:=Al fun y A=>by
   simp only [aM,List.not_mem_nil,or_false] at A
   rw [A];exact b.eval E
  simp only [j]
  rw [D,b.rho E] at hv
  obtain ⟨q,hv⟩:=hv.both
  rw [q]
  exact Vp b hk hv
 ·rename_i c j
  generalize m:Lh cfg o=gr at hv ⊢
  have H:B1h cfg o=false->gr=true:=fun e=>by rw [<- m];simp [Lh,j,e]
  have F:∀ y∈c.args,y∈o.op.operands:=fun y A=>by
   rw [j];simp only [aC,Call.operands];exact Array.mem_append.2 (.inr A)
  have D:Q0 (u.app st) c.args.toList=Q0 st c.args.toList:=Al fun y A=>b.eval (F y (by simpa using A))
  have Q:c.args.map (rho (u.app st))=c.args.map (rho st):=Array.map_congr_left fun y A=>b.rho (F y A)
  simp only [j]
  split at hv
  ·rename_i f C
   try simp only [C]
   unfold A7u at hv ⊢
   have hf:f∈o.op.operands:=by rw [j];simp [aC,Call.operands,C]
   rw [b.eval hf] at hv
   split at hv
   ·rename_i g first B O
    try simp only [O]
    split at hv
    ·rename_i G
     rw [D,Q] at hv
     obtain ⟨q,hv⟩:=hv.both
     try simp only [G]
     rw [q]
     refine FCall.mono hv fun r h' y=>Vn y fun w ⟨q,S⟩=>⟨q,S.map fun V W=>hk _ _ ?_ (fun e _=>W (H e)) (S0 b.wf w)⟩
     rwa [I6 (fun z M=>b.dst z M)] at V
    ·rename_i G
     rw [D,Q] at hv
     obtain ⟨q,hv⟩:=hv.both
     try simp only [G]
     rw [q]
     refine ECall.mono hv fun r h' y=>Vn y fun w ⟨q,S⟩=>⟨q,S.map fun V W=>hk _ _ ?_ (fun e _=>W (H e)) (S0 b.wf w)⟩
     rwa [I6 (fun z M=>b.dst z M)] at V
   ·rename_i l first B O
    try simp only [O]
    rw [D,Q] at hv
    obtain ⟨q,hv⟩:=hv.both
    rw [q]
    refine YCall.mono hv fun r h' y=>Vn y fun w ⟨q,S⟩=>⟨q,S.map fun V W=>hk _ _ ?_ (fun e _=>W (H e)) (S0 b.wf w)⟩
    rwa [I6 (fun z M=>b.dst z M)] at V
   ·exact hv.elim
  ·rename_i C
   try simp only [C]
   rw [D,Q] at hv
   obtain ⟨q,hv⟩:=hv.both
   rw [q]
   exact Yu b H hk hv
  ·rename_i C
   try simp only [C]
   rw [D,Q] at hv
   obtain ⟨q,hv⟩:=hv.both
   rw [q]
   exact Yu b H hk hv
  ·exact hv.elim
 ·exact hv.elim
def B30{u:Upd}{o:aE}{st:VS}(b:Before cfg ops u o st){h:aF}{K:VS->aF->Prop}{K':VS->aF->Prop}(hk:∀ st' h',K (u.app st') h'->Grw cfg o st h h'->Frm o st st'->K' st' h')(hv:Rp P cfg ops o (Lh cfg o) (u.app st) h K):Rp P cfg ops o (Lh cfg o) st h K':=by
 cases hs:Bj P cfg o with
 | true=>
  obtain ⟨v,l,m,L,M,T,R⟩:=B95 (ops:=ops) hs hv
  have Q:AgreeOn cfg ops o (u.app st) st:=by
   refine ⟨fun x n=>(Ff fun e=>b.look x e n).symm,fun t a k s B e=>?_,fun d _ O E=>(Ch fun N G e=>?_).symm.trans E⟩
   ·rw [b.eval (by rw [B];simp [aC])] at e
    exact (Ch (b.key e)).symm
   ·rintro rfl
    exact b.dst d (by rw [e];rfl) O
  refine R st h _ (fun _=>B3 h) Q (hk _ _ ?_ (Grw.of (B3 h)) (Frm.upd l b.wf (fun d w k s e D=>?_) (fun d G e=>?_)))
  ·rw [<- B86 (fun x n=>by rw [l];exact b.dst x n)];exact m
  ·obtain ⟨x,r,n,y⟩:=M d w k s e D
   exact ⟨x,r,by rw [<- b.eval n];exact y⟩
  ·have:=L d G e
   rwa [Ch (fun N J D=>by
    rintro rfl
    exact b.dst d (by rw [D];rfl) (by rw [<- l,e];rfl))] at this
 | false=>
  unfold Rp at hv ⊢
  split at hv
  ·rename_i F
   exact Vx b hs hk hv
  ·rename_i j q F
   split at hv
   ·exact hv.elim
   ·rename_i g A
    have p:=Lg (o:=o) F A
    have y:(u.app st).env g=st.env g:=Ff fun e=>b.look g e p
    rw [y] at hv
    split at hv
    ·rename_i H i
     have f:(u.app st).env g= .val (.bool H):=by rw [y];exact i
     have skip:Q6 cfg o.dst=true/\K ((u.app st).putO o.dst (.val undef)) h->When (Q6 cfg o.dst) (K' (st.putO o.dst (.val undef)) h):=by
      rintro ⟨l,m⟩
      rw [l]
      rw [I6 (fun z C=>b.dst z C)] at m
      exact hk _ _ m (Grw.of (B3 h)) (S0 b.wf _)
     try simp only [i]
     cases H<;>cases q
     ·have c:S1 P cfg o (Lh cfg o) ((u.app st).put g (.val (.bool false))) h K:=hv
      rw [aG _ f] at c
      simp only [Br];rw [aG st i]
      exact Vx b hs hk c
     ·have c:When (Q6 cfg o.dst) (K (((u.app st).put g (.val (.bool false))).putO o.dst (.val undef)) h):=hv
      rw [aG _ f] at c
      simp only [Br];rw [aG st i]
      exact skip c.both
     ·have c:When (Q6 cfg o.dst) (K (((u.app st).put g (.val (.bool true))).putO o.dst (.val undef)) h):=hv
      rw [aG _ f] at c
      simp only [Br];rw [aG st i]
      exact skip c.both
     ·have c:S1 P cfg o (Lh cfg o) ((u.app st).put g (.val (.bool true))) h K:=hv
      rw [aG _ f] at c
      simp only [Br];rw [aG st i]
      exact Vx b hs hk c
    ·rename_i S i
     try simp only [i]
     obtain ⟨l,m⟩:=hv.both
     rw [l]
     rw [I6 (fun z C=>b.dst z C)] at m
     exact hk _ _ m (Grw.of (B3 h)) (S0 b.wf _)
    ·exact hv.elim
def Uv{o:aE}{st:VS}(wf:WFs st){h:aF}{K K':VS->aF->Prop}(hv:Rp P cfg ops o (Lh cfg o) st h K)(hk:∀ st' h',K st' h'->Grw cfg o st h h'->Frm o st st'->K' st' h'):Rp P cfg ops o (Lh cfg o) st h K':=
 B30 (u:=.put none (.val undef)) ⟨(fun x e=>by cases e),(fun x e=>by cases e),(fun d a e=>by cases e),wf⟩ hk hv
def B7t{oj oi x:aE}{st st':VS}{rem rem':List Nat}(hsub:∀ i∈rem',i∈rem)(hfr:Frm oi st st')(hap:oj.apart ops oi=true)(hmem:∃ i:Nat,i∈rem/\ops[i]? = some oi)(h:Rc cfg ops rem oj x st=true):Rc cfg ops rem' oj x st'=true:=by
 obtain ⟨_,_,k⟩:=Oper.apart_spec hap
 unfold Rc at h ⊢
 simp only [aD] at h ⊢
 obtain ⟨n,h⟩:=h
 have c:Ie oj st'=Ie oj st:=by
  unfold Ie
  split
  ·rename_i m a j
   have f:C9 st' a=C9 st a:=by
    cases a with
    | tmp z=>
     refine hfr.env z fun e=>k z e ?_
     unfold Oper.looksAt
     exact aK _ (List.mem_filterMap.2 ⟨.tmp z,by rw [j];simp [aC],rfl⟩)
    | _=>rfl
   rw [f]
  ·rfl
 refine ⟨by rw [c];exact n,?_⟩
 split at h
 ·rename_i t y b o
  split at h
  ·rename_i m a j
   simp only [aD] at h ⊢
   refine ⟨List.all_eq_true.2 fun i g=>List.all_eq_true.1 h.1 i (hsub i g),?_⟩
   have f:C9 st' a=C9 st a:=by
    cases a with
    | tmp z=>
     refine hfr.env z fun e=>k z e ?_
     unfold Oper.looksAt
     exact aK _ (List.mem_filterMap.2 ⟨.tmp z,by rw [j];simp [aC],rfl⟩)
    | _=>rfl
   have l:st'.env y=st.env y:=by
    refine hfr.env y fun e=>?_
    obtain ⟨i,g,d⟩:=hmem
    have:=List.all_eq_true.1 h.1 i g
    simp only [d,e] at this
    simp [Nat.beq_refl] at this
   rw [f,l];exact h.2
  ·exact h
 ·exact h
 ·exact h
def swap{oj oi:aE}{st:VS}{rem:List Nat}(wf:WFs st)(hs:Bj P cfg oj=true)(hap:oj.apart ops oi=true)(hc:Rc cfg ops rem oj oi st=true){h:aF}{K:VS->aF->Prop}
 (hv:Rp P cfg ops oj (Lh cfg oj) st h fun st1 h1=>Rp P cfg ops oi (Lh cfg oi) st1 h1 K):Rp P cfg ops oi (Lh cfg oi) st h fun st1 h1=>Frm oi st st1/\Rp P cfg ops oj (Lh cfg oj) st1 h1 K:=by
 obtain ⟨z,r,F⟩:=Oper.apart_spec hap
 obtain ⟨u,h1,L,B,O,Q,D⟩:=B95 (ops:=ops) hs hv
 have b:Before cfg ops u oi st:=⟨fun x e=>z x (by rw [<- h1];exact e),fun x e=>r x (by rw [<- h1];exact e),B,wf⟩
 have g:=hc
 unfold Rc at g
 simp only [aD] at g
 have hc:=g.2
 have G:Ie oj st=true->B1h cfg oi=false:=fun e=>by
  have:=g.1
  rw [e] at this
  simpa using this
 refine B30 b (fun q E J M o=>⟨o,D q E K (fun c=>M (G c) fun w n s i=>?_) ?_ J⟩) L
 ·obtain ⟨t,x,hld⟩:∃ t x,oj.op= .load t x:=by
   unfold Ie at c
   split at c
   ·exact ⟨_,_,by assumption⟩
   ·cases c
  rw [i] at hc
  cases n with
  | tmp y=>
   simp only [hld,aD] at hc
   show ∃ k l,st.env y= .own k l
   revert hc
   cases C9 st x<;>cases st.env y<;>simp
  | _=>simp at hc
 refine ⟨fun x A=>o.env x fun e=>F x e A,fun t a k l p e=>o.own k (fun _=>A1k wf e) (fun w n s j i f=>?_),fun d N C m=>(o.own d (fun e=>absurd e (r d C)) (fun w n s j i f=>?_)).trans m⟩
 ·rw [i] at hc
  cases n with
  | tmp y=>
   simp only [p,aD] at hc
   have H:st.env y= .own k j:=f
   rw [e,H] at hc
   simp [Nat.beq_refl] at hc
  | _=>simp at hc
 ·have:=A1k wf f
  rw [m] at this;cases this
def C3t{anc:List (List Nat)}{al:Nat->List Nat}{i:Nat}{oi:aE}(hi:ops[i]? = some oi){L2:List Nat}{K:VS->aF->Prop}: ∀ (L1:List Nat) (n:Nat) (st:VS) (h:aF),n=L1.length+L2.length->WFs st->(∀ j∈L1,has (anc.getD i []) j=false)->i∉L1->
 Ee P cfg ops anc al (n+1) (L1++i::L2) st h K->Rp P cfg ops oi (Lh cfg oi) st h fun st' h'=>WFs st'/\Ee P cfg ops anc al n (L1++L2) st' h' K:=by
 intro L1
 induction L1 with
 | nil=>
  intro n st h _ wf _ _ g
  simp only [List.nil_append,Ee,hi] at g
  exact Uv wf (A90 g.both.2) fun st' h' l _ m=>⟨m.wf,l⟩
 | cons j L1 ih=>
  intro n st h D wf d z g
  obtain ⟨n,rfl⟩:∃ n',n=n'+1:=⟨L1.length+L2.length,by simp at D;omega⟩
  have B:n=L1.length+L2.length:=by simp at D;omega
  have p:i∉L1:=fun A=>z (by simp [A])
  simp only [aJ,Ee] at g
  split at g
  ·exact g.elim
  ·rename_i t C
   obtain ⟨c,g⟩:=g.both
   have c:=List.all_eq_true.1 c
   have b:=c i (by simp)
   unfold A0m at b
   rw [aN] at b
   rcases b with b|b
   ·unfold B2u at b
    rw [d j (by simp),hi] at b
    simp only [Bool.false_or,aD] at b
    obtain ⟨⟨e,u⟩,J⟩:=b
    have F:Bj P cfg t=true:=by
     unfold B6z at e
     rw [aD] at e
     exact e.1
    have r:Rp P cfg ops t (Lh cfg t) st h fun f r=>Rp P cfg ops oi (Lh cfg oi) f r fun q E=>WFs q/\Ee P cfg ops anc al n (L1++L2) q E K:=
     Uv wf (A90 g) fun f r l _ m=>ih n f r B m.wf (fun k N=>d k (by simp [N])) p l
    refine Uv wf (swap wf F u J r) fun f r ⟨m,l⟩ _ _=>⟨m.wf,?_⟩
    simp only [aJ,Ee,C]
    have w:(L1++L2).all (A0m P cfg ops anc al (L1++L2) f t j)=true:=by
     refine List.all_eq_true.2 fun x o=>?_
     have a:=c x (by
      simp only [List.mem_append,aM] at o ⊢
      rcases o with o|o
      ·exact .inl o
      ·exact .inr (.inr o))
     unfold A0m at a ⊢
     rw [e] at a ⊢
     simp only [Bool.not_true,Bool.false_and,Bool.or_false] at a ⊢
     unfold B2u at a ⊢
     simp only [aN] at a ⊢
     rcases a with a|a
     ·exact .inl a
     ·refine .inr ?_
      split at a
      ·rename_i O H
       simp only [aD] at a ⊢
       exact ⟨a.1,B7t (rem:=L1++i::L2) (fun y s=>by
        simp only [List.mem_append,aM] at s ⊢
        rcases s with s|s
        ·exact .inl s
        ·exact .inr (.inr s)) m u ⟨i,by simp,hi⟩ a.2⟩
      ·cases a
    rw [w]
    have M:A4l P cfg anc al t j (L1++L2)=[]:=by unfold A4l;rw [e]
    rw [M]
    exact Uv m.wf l fun q E ⟨_,l⟩ _ _=>l
   ·simp only [aD,Bool.not_eq_true'] at b
    obtain ⟨G,L⟩:=A7v (L2:=L2) p
    have A:i∈A4l P cfg anc al t j (L1++i::L2):=by
     unfold A4l
     rw [b.1]
     refine List.mem_filter.2 ⟨X4.1 b.2,?_⟩
     rw [G,X4.2 (show i∈L1++i::L2 by simp),d j (by simp)]
     simp only [Bool.true_and,Bool.not_false,Bool.and_true]
     exact List.all_eq_true.2 fun x o=>by rw [d x (by simp [o])];rfl
    have:=C1v g A
    simp only [hi] at this
    rw [L] at this
    exact Uv wf this fun st' h' l _ m=>⟨m.wf,by simp only [aJ,Ee,C] at l ⊢;exact l⟩
def B04:∀ {L done:List Nat},B2x ops done L=true->L.Nodup/\(∀ i∈L,i∉done)/\∀ L1 i L2,L=L1++i::L2->∃ o,ops[i]? = some o/\∀ e∈o.after,Region.binds .any e=true->e.on∈done\/e.on∈L1:=by
 intro L
 induction L with
 | nil=>exact fun _=>⟨List.nodup_nil,(fun i d=>by cases d),(fun L1 i L2 e=>by simp at e)⟩
 | cons x L ih=>
  intro done h
  simp only [B2x,aD,Bool.not_eq_true'] at h
  obtain ⟨⟨k,m⟩,p⟩:=h
  obtain ⟨q,l,r⟩:=ih p
  have n:x∉done:=fun c=>by rw [X4.2 c] at m;cases m
  refine ⟨List.nodup_cons.2 ⟨fun c=>l x c (by simp),q⟩,fun i d=>?_,fun L1 i L2 e=>?_⟩
  ·cases d with
   | head=>exact n
   | tail _ d=>exact fun c=>l i d (by simp [c])
  ·cases L1 with
   | nil=>
    simp only [List.nil_append,List.cons.injEq] at e
    obtain ⟨rfl,rfl⟩:=e
    split at k
    ·rename_i o f
     refine ⟨o,f,fun e g j=>.inl ?_⟩
     have:=List.all_eq_true.1 k e (by simpa using g)
     rw [j] at this
     exact X4.1 (by simpa using this)
    ·cases k
   | cons y L1=>
    simp only [aJ,List.cons.injEq] at e
    obtain ⟨rfl,rfl⟩:=e
    obtain ⟨o,f,b⟩:=r L1 i L2 rfl
    refine ⟨o,f,fun e g j=>?_⟩
    rcases b e g j with a|a
    ·simp only [aM] at a
     rcases a with a|a
     ·exact .inr (by simp [a])
     ·exact .inl a
    ·exact .inr (by simp [a])
def A0u{listed:Array Bool}{i:Nat}(d:Bool)(h:i<listed.size):(listed.setIfInBounds i true).getD i d=true:=by
 simp [h]
def B4m{al:Nat->List Nat}{F:Fence}{fu:Nat}[FOk F]{n:Nat}{h0:aF}{W0:World}(hn:cfg.n=n)(hfn:Bodies P cfg.fns){anc:List (List Nat)}(hanc:C3z ops anc=true){Q:Exit->Act->World->Prop}{K:VS->aF->Prop}{ord:List Nat}(hord:B2x ops [] ord=true)(_hall:∀ i,i<ops.size->i∈ord):
 ∀ (m:Nat) (L:List Nat) (listed:Array Bool) (st:VS) (h:aF) (a:Act) (W:World),L.length=m->L.Sublist ord->listed.size=ops.size->(∀ i,i<ops.size->(listed.getD i true=false↔i∈L))->(∀ i j,listed.getD i false=true->has (anc.getD i []) j=true->listed.getD j false=true)->
  Good n h0 W0 st h a W->Ee P cfg ops anc al m L st h K->(∀ st' h' a' W',K st' h'->Good n h0 W0 st' h' a' W'->Agree cfg.lim st st'->Q .normal a' W')->wpAnyIn F fu P .any ops Q m listed a W:=by
 obtain ⟨T,_,u⟩:=B04 hord
 intro m
 induction m with
 | zero=>
  intro L listed st h a W R f B b A g hv hQ
  have:L=[]:=List.eq_nil_of_length_eq_zero R
  subst this
  simp only [Ee] at hv
  refine ⟨?_,hQ st h a W hv g (Agree.refl _ _)⟩
  apply List.eq_nil_iff_forall_not_mem.2
  intro i G
  obtain ⟨h1,o,X,_⟩:=mem_ready.1 G
  have:=(b i (Array.getElem?_eq_some_iff.1 X).1).1 h1
  cases this
 | succ m ih=>
  intro L listed st h a W R f B b A g hv hQ
  have wf:WFs st:=by obtain ⟨θ,r,_,_⟩:=g;exact r.wf
  have inl:∀ i,i∈L->i<ops.size:=by
   intro i G
   obtain ⟨L1,L2,e⟩:=aL (f.subset G)
   obtain ⟨o,X,_⟩:=u L1 i L2 e
   exact (Array.getElem?_eq_some_iff.1 X).1
  constructor
  ·-- somebody can always go on: the first that is left
   intro p
   exfalso
   cases L with
   | nil=>simp at R
   | cons i L=>
    have G:=inl i (by simp)
    obtain ⟨L1,L2,e⟩:=aL (f.subset (show i∈i::L by simp))
    obtain ⟨o,X,hp⟩:=u L1 i L2 e
    have:i∈Region.ready .any ops listed:=by
     refine mem_ready.2 ⟨(b i G).2 (by simp),o,X,fun t S C=>?_⟩
     rcases hp t S C with h'|h'
     ·cases h'
     ·have ac:t.on<ops.size:=by
       obtain ⟨M1,M2,e'⟩:=aL h'
       obtain ⟨o',ak,_⟩:=u M1 t.on (M2++i::L2) (by rw [e,e'];simp)
       exact (Array.getElem?_eq_some_iff.1 ak).1
      have aa:t.on∉i::L:=by
       intro hm
       have N:(i::L).Sublist (L1++i::L2):=by rw [<- e];exact f
       have x:(L1++i::L2).Nodup:=by rw [<- e];exact T
       have q:i∉L1:=fun D=>(List.nodup_append.1 x).2.2 i D i (by simp) rfl
       have aj:(i::L).Sublist (i::L2):=by
        clear p b A hQ hv g ih hp S C
        revert N q
        clear x e h'
        induction L1 with
        | nil=>exact fun h _=>h
        | cons y L1 ihL=>
         intro N q
         refine ihL ?_ (fun D=>q (by simp [D]))
         cases N with
         | cons _ h=>exact h
         | cons_cons _ h=>exact absurd (by simp) q
       have:=aj.subset hm
       exact (List.nodup_append.1 x).2.2 t.on h' t.on this rfl
      cases hg:listed.getD t.on false with
      | true=>rfl
      | false=>
       have:listed.getD t.on true=false:=by
        have J:t.on<listed.size:=by rw [B];exact ac
        simp [aS,J] at hg ⊢;exact hg
       exact absurd ((b _ ac).1 this) aa
    rw [p] at this;cases this
  ·intro i G
   obtain ⟨h1,oi,w,ad⟩:=mem_ready.1 G
   have s:=(Array.getElem?_eq_some_iff.1 w).1
   have ah:=(b i s).1 h1
   obtain ⟨L1,L2,e⟩:=aL ah
   have l:L.Nodup:=f.nodup T
   have ai:∀ j∈L1,has (anc.getD i []) j=false:=by
    intro j H
    cases D:has (anc.getD i []) j with
    | false=>rfl
    | true=>
     exfalso
     have M:j∈L:=by rw [e];simp [H]
     have V:=(b j (inl j M)).2 M
     have hA:=List.all_eq_true.1 (List.all_eq_true.1 hanc i (List.mem_range.2 s)) j (X4.1 D)
     simp only [w] at hA
     obtain ⟨t,S,C⟩:=List.any_eq_true.1 hA
     simp only [aD,aN] at C
     have z:=ad t (by simpa using S) C.1
     have O:listed.getD j false=true:=by
      rcases C.2 with h'|h'
      ·rw [<- aH h'];exact z
      ·exact A _ j z h'
     have J:j<listed.size:=by rw [B];exact inl j M
     simp [aS,J] at V O
     rw [V] at O;cases O
   have Z:i∉L1:=by
    rw [e] at l
    exact fun D=>(List.nodup_append.1 l).2.2 i D i (by simp) rfl
   have an:=C3t w (L2:=L2) L1 m st h (by have:=R;rw [e,List.length_append,List.length_cons] at this;omega) wf ai Z (by rw [<- e];exact hv)
   refine wpOpIn_mono (fun a' W' ⟨st',h',⟨_,hK⟩,g',ag⟩=>?_) (g.op hn hfn w an)
   have E:∀ j d,(listed.setIfInBounds i true).getD j d=if j=i then true else listed.getD j d:=by
    intro j d
    by_cases c:j=i
    ·subst c;rw [iP rfl];exact A0u d (by rw [B];exact s)
    ·rw [iN c];exact getD_set_ne d (Ne.symm c)
   rw [e] at l
   have am:i∉L1:=fun D=>(List.nodup_append.1 l).2.2 i D i (by simp) rfl
   have af:i∉L2:=(List.nodup_cons.1 (List.nodup_append.1 l).2.1).1
   refine ih (L1++L2) _ st' h' a' W' (by rw [e] at R;simp at R ⊢;omega) ?_ (by simpa using B) (fun j H=>?_) (fun j k H hk=>?_) g' hK fun ao h2 a2 W2 k g2 ap=>hQ ao h2 a2 W2 k g2 (ag.trans ap)
   ·refine List.Sublist.trans ?_ f
    rw [e]
    exact List.Sublist.append (List.Sublist.refl _) (List.sublist_cons_self _ _)
   ·rw [E]
    by_cases c:j=i
    ·subst c;simp [am,af]
    ·rw [iN c,b j H,e];simp [c]
   ·rw [E] at H ⊢
    by_cases ae:k=i
    ·rw [iP ae]
    ·rw [iN ae]
     by_cases c:j=i
     ·subst c
      have hA:=List.all_eq_true.1 (List.all_eq_true.1 hanc j (List.mem_range.2 s)) k (X4.1 hk)
      simp only [w] at hA
      obtain ⟨t,S,C⟩:=List.any_eq_true.1 hA
      simp only [aD,aN] at C
      have z:=ad t (by simpa using S) C.1
      rcases C.2 with h'|h'
      ·rw [<- aH h'];exact z
      ·exact A _ k z h'
     ·rw [iN c] at H;exact A j k H hk
def B0e{al:Nat->List Nat}{F:Fence}{fu:Nat}[FOk F]{n:Nat}{h0:aF}{W0:World}(hn:cfg.n=n)(hfn:Bodies P cfg.fns){id:Nat}{ord:List Nat}{anc:List (List Nat)}(hok:B45 P ops ord anc=true){Q:Exit->Act->World->Prop}{K:VS->aF->Prop}{st:VS}{h:aF}{a:Act}{W:World}
 (g:Good n h0 W0 st h a W) (hv:Ee P cfg ops anc al ord.length ord st h K) (hQ:∀ st' h' a' W',K st' h'->Good n h0 W0 st' h' a' W'->Agree cfg.lim st st'->Q .normal a' W'):(Code.region id ops true).wpIn F fu P Q a W:=by
 simp only [B45,aD] at hok
 obtain ⟨⟨⟨⟨m,o⟩,l⟩,q⟩,e⟩:=hok
 refine wpIn_region_any m ?_
 have k:Good n h0 W0 st h a { W with drawn:=W.drawn+1 }:=by
  obtain ⟨θ,r,f,p⟩:=g
  exact ⟨θ,⟨r.defers,r.size,r.slot,r.sim,r.own,r.inj,r.wf,r.out⟩,⟨f.sim,f.os,f.tape,f.output,f.size,f.keep,f.new⟩,p⟩
 have b:∀ i,i<ops.size->i∈ord:=fun i c=>X4.1 (List.all_eq_true.1 q i (List.mem_range.2 c))
 rw [aH e] at hv
 refine B4m hn hfn o l b ops.size ord _ st h a _ (aH e) (List.Sublist.refl _) (by simp) (fun i c=>?_) (fun i j c _=>?_) k hv hQ
 ·simp [aS,c,b i c]
 ·by_cases d:i<ops.size<;>simp [aS,d] at c
end
