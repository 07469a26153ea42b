/- A part. -/
import Derived.Test.YtdphgbjaijlckaaGreatDoorG02
set_option linter.all false
open Bool renaming and_eq_true->aD,or_eq_true->aM
open List renaming mem_append_left->aJ,append_of_mem->aK,cons_append->aL
open Nat renaming eq_of_beq_eq_true->aI,beq->aO
open _root_.Go.Op renaming operands->aC
open _root_.Go renaming Oper->aE,Value->aH,Program->aP,Operand->aQ,TypeId->aR
open _root_.Go.Proofs.YtdphgbjaijlckaaGreatDoor renaming Heap->aF,put_self->aG,AVal->aN
namespace Go.Proofs.YtdphgbjaijlckaaGreatDoor
open Go
def L4(cfg:Cfg)(o:aE):Bool:=
 match o.op with
 | .alloc _ | .box _ _=>Ep cfg o.dst
 | _=>false
def R9(P:aP)(cfg:Cfg)(o:aE):Bool:=Hz P o||L4 cfg o
def Yo(ops:Array aE)(rem:List Nat)(y:Nat):Bool:=rem.all fun i=>match ops[i]? with
 | some o=>(match o.dst with
  | some d=> !aO d y
  | none=>true)
 | none=>true
def Vv(cfg:Cfg)(o:aE):Bool:=
 match o.op with
 | .call c=>
  match c.callee with
  | .value (.func g)=>has cfg.wr g
  | .value (.tmp _)=>true
  | .builtin .copy=>true
  | .builtin .append=>has cfg.wr 1000000000
  | _=>false
 | _=>false
def Aj(o:aE)(st:VS):Bool:=
 match o.op with
 | .load _ a=>(match C6 st a with
  | .own _ _=>false
  | _=>true)
 | _=>false
def Ga(cfg:Cfg)(ops:Array aE)(rem:List Nat)(oj oi:aE)(st:VS):Bool:=
 !(Vv cfg oi&&Aj oj st) &&
 match oi.op with
 | .store _ (.tmp y) _=>
  match oj.op with
  | .load _ a=>Yo ops rem y&&(match C6 st a,st.env y with
   | .own k _,.own k' _=> !aO k k'
   | .val _,.own _ _=>true
   | .own _ _,.val _=>true
   | _,_=>false)
  | _=>true
 | .store _ _ _=>false
 | _=>true
def A0r(P:aP)(cfg:Cfg)(al:Nat->List Nat)(oj:aE)(j:Nat):Bool:=R9 P cfg oj&&(al j).isEmpty
def Xh(P:aP)(cfg:Cfg)(ops:Array aE)(anc:List (List Nat))(al:Nat->List Nat)(rem:List Nat)(st:VS)(oj:aE)(j i:Nat):Bool:=
 has (anc.getD i []) j ||
 match ops[i]? with
 | some oi=>A0r P cfg al oj j&&oj.apart ops oi&&Ga cfg ops rem oj oi st
 | none=>false
def Dl(cfg:Cfg)(o:aE):Bool:=
 match o.op with
 | .store _ _ _=>false
 | _=> !Vv cfg o
def Li(P:aP)(cfg:Cfg)(ops:Array aE)(anc:List (List Nat))(al:Nat->List Nat)(rem:List Nat)(st:VS)(oj:aE)(j i:Nat):Bool:=
 Xh P cfg ops anc al rem st oj j i||(!A0r P cfg al oj j&&has (al j) i)
def A56(i:Nat):List Nat->List Nat
 | []=>[]
 | x::L=>bif aO x i then [] else x::A56 i L
def del(i:Nat):List Nat->List Nat
 | []=>[]
 | x::L=>bif aO x i then L else x::del i L
def Pi(P:aP)(cfg:Cfg)(anc:List (List Nat))(al:Nat->List Nat)(oj:aE)(j:Nat)(L:List Nat):List Nat:=
 match A0r P cfg al oj j with
 | true=>[]
 | false=>(al j).filter fun i=>has L i&&(A56 i L).all (fun x=> !has (anc.getD i []) x) && !has (anc.getD i []) j
def A8v(f:Nat->Prop):Nat->List Nat->Prop
 | i,[]=>f i
 | i,k::r=>f i/\A8v f k r
def A8w(A:Prop)(f:Nat->Prop):List Nat->Prop
 | []=>A
 | i::r=>A/\A8v f i r
def Ag(P:aP)(cfg:Cfg)(ops:Array aE)(anc:List (List Nat))(al:Nat->List Nat):Nat->List Nat->VS->aF->(VS->aF->Prop)->Prop
 | _,[],st,h,K=>K st h
 | 0,_::_,_,_,_=>False
 | n+1,j::L,st,h,K=>
  match ops[j]? with
  | none=>False
  | some o=>When (L.all (Li P cfg ops anc al L st o j))
   (A8w (Gk P cfg ops o (Dl cfg o) st h fun st' h'=>Ag P cfg ops anc al n L st' h' K)
    (fun i=>
     match ops[i]? with
     | none=>False
     | some oi=>Gk P cfg ops oi (Dl cfg oi) st h fun st' h'=>Ag P cfg ops anc al n (j::del i L) st' h' K)
    (Pi P cfg anc al o j L))
def Zq{f:Nat->Prop}{i:Nat}: ∀ {k:Nat} {r:List Nat},A8v f k r->i∈k::r->f i
 | k,[],x,h=>by rw [List.mem_singleton.1 h];exact x
 | k,m::r,x,h=>by
  rcases List.mem_cons.1 h with rfl|h
  ·exact x.1
  ·exact Zq x.2 h
def To{A:Prop}{f:Nat->Prop}: ∀ {r:List Nat},A8w A f r->A
 | [],x=>x
 | _::_,x=>x.1
def A4o{A:Prop}{f:Nat->Prop}{i:Nat}: ∀ {r:List Nat},A8w A f r->i∈r->f i
 | [],_,h=>by cases h
 | _::_,x,h=>Zq x.2 h
def Sd{i:Nat}{L2:List Nat}: ∀ {L1:List Nat},i∉L1->A56 i (L1++i::L2)=L1/\del i (L1++i::L2)=L1++L2
 | [],_=>by simp [A56,del]
 | x::L1,h=>by
  have hx:aO x i=false:=by
   cases e:aO x i with
   | false=>rfl
   | true=>
    simp_all
  obtain ⟨a,c⟩:=Sd (L2:=L2) (L1:=L1) (i:=i) (fun b=>h (List.mem_cons_of_mem _ b))
  simp only [aL,A56,del,hx,a,c,cond_false,and_self]
def A7c(ops:Array aE)(anc:List (List Nat)):Bool:=
 (List.range ops.size).all fun i=>(anc.getD i []).all fun j=>
  match ops[i]? with
  | some o=>o.after.toList.any fun e=>Region.binds .any e&&(aO e.on j||has (anc.getD e.on []) j)
  | none=>false
def Xk(ops:Array aE):List Nat->List Nat->Bool
 | _,[]=>true
 | done,i::L=>
  (match ops[i]? with
   | some o=>o.after.toList.all fun e=> !Region.binds .any e||has done e.on
   | none=>false) && !has done i&&Xk ops (i::done) L
def Yz(P:aP)(ops:Array aE)(ord:List Nat)(anc:List (List Nat)):Bool:=
 P.follows .mixedOrders&&A7c ops anc&&Xk ops [] ord&&(List.range ops.size).all (has ord)&&aO ord.length ops.size
section
variable {P:aP} {cfg:Cfg} {ops:Array aE}
structure AgreeOn (cfg:Cfg) (ops:Array aE) (o:aE) (st st':VS):Prop where
 env:∀ x∈o.looksAt ops,st'.env x=st.env x
 load:∀ t a k off,o.op= .load t a->C6 st a= .own k off->st'.own k=st.own k
 alloc:∀ d,L4 cfg o=true->o.dst=some d->st.own d=none->st'.own d=none
def AgreeOn.eval{o:aE}{st st':VS}(ag:AgreeOn cfg ops o st st'){x:aQ}(hx:x∈o.op.operands):C6 st' x=C6 st x:=by
 cases x with
 | tmp t=>
  refine ag.env t ?_
  exact aJ _ (List.mem_filterMap.2 ⟨.tmp t,gz0,rfl⟩)
 | _=>rfl
def AgreeOn.rho{o:aE}{st st':VS}(ag:AgreeOn cfg ops o st st'){x:aQ}(hx:x∈o.op.operands):rho st' x=rho st x:=by
 unfold Go.Proofs.YtdphgbjaijlckaaGreatDoor.rho;rw [ag.eval hx]
def Tj{z:aH}{K K':aH->Prop}(x:exV z K)(hk:∀ v,K v->K' v):exV z K':=by
 cases z<;>(unfold exV at x ⊢)<;>first
  | grind
  | grind
def A1h{zs:List aH}: ∀ {K K':List aH->Prop},exL zs K->(∀ v,K v->K' v)->exL zs K':=by
 induction zs with
 | nil=>exact fun x a=>a _ x
 | cons z zs ih=>exact fun x a=>Tj x fun v y=>ih y fun b=>a _
def Ys{z:aH}{K:aH->Prop}(x:exV z K):∃ v,K v/\∀ K':aH->Prop,K' v->exV z K':=by
 cases z<;>(unfold exV at x)<;>first
  | (obtain ⟨n,a⟩:=x;exact ⟨_,a,fun K' y=>⟨_,y⟩⟩)
  | (obtain ⟨p,n,c,a⟩:=x;exact ⟨_,a,fun K' y=>⟨_,_,_,y⟩⟩)
def A4a{zs:List aH}: ∀ {K:List aH->Prop},exL zs K->∃ vs,K vs/\∀ K':List aH->Prop,K' vs->exL zs K':=by
 induction zs with
 | nil=>exact fun x=>⟨[],x,fun _ y=>y⟩
 | cons z zs ih=>
  intro K x
  obtain ⟨v,c,b⟩:=Ys x
  obtain ⟨vs,a,d⟩:=ih c
  exact ⟨v::vs,a,fun K' y=>b _ (d _ y)⟩
def Rl{h:aF}{a:Addr}: ∀ {vs:List aH} {j:Nat} {X:Prop},cellsAt h a j vs X->X/\∀ h' (Y:Prop),h.le h'->Y->cellsAt h' a j vs Y:=by
 intro vs
 induction vs with
 | nil=>exact fun x=>⟨x,fun _ _ _ y=>y⟩
 | cons v vs ih=>
  intro j X ⟨h1,h2⟩
  obtain ⟨c,d⟩:=ih h2
  exact ⟨c,fun h' Y b y=>⟨C4 b h1,d h' Y b y⟩⟩
def Ol{h:aF}{t:aR}{a:Addr}{C:aN->Prop}(x:O0 P t a h C):∃ u,C (.val u)/\∀ h' (C':aN->Prop),h.le h'->C' (.val u)->O0 P t a h' C':=by
 cases hag:Er P t with
 | none=>simp only [O0,hag] at x
 | some b=>
  cases b with
  | true=>
   simp only [O0,hag] at x
   split at x
   ·rename_i zs k
    obtain ⟨j,x⟩:=x.both
    obtain ⟨l,c,e⟩:=A4a x
    obtain ⟨f,m⟩:=Rl c
    refine ⟨_,f,fun h' C' d y=>?_⟩
    simp only [O0,hag,k,j]
    grind
   grind
  | false=>
   simp only [O0,hag] at x
   obtain ⟨v,⟨i,g⟩,e⟩:=Ys x
   refine ⟨_,g,fun h' C' d y=>?_⟩
   simp only [O0,hag]
   exact e _ ⟨C4 d i,y⟩
def Qu{t:aR}{cs:List aH}{off:Nat}{C:aN->Prop}(x:N8 P t cs off C):∃ u,C (.val u)/\∀ C':aN->Prop,C' (.val u)->N8 P t cs off C':=by
 cases hag:Er P t with
 | none=>simp only [N8,hag] at x
 | some b=>
  cases b with
  | true=>
   simp only [N8,hag] at x
   obtain ⟨c,x⟩:=x.both
   exact ⟨_,x,fun C' y=>by simp only [N8,hag,c];exact y⟩
  | false=>
   simp only [N8,hag] at x
   split at x
   ·rename_i v a
    exact ⟨_,x,fun C' y=>by simp only [N8,hag,a];exact y⟩
   grind
def O8{v:Option aN}{dflt y:Nat}{C:Nat->Prop}(x:slBound v dflt y C):∃ m,C m/\∀ C':Nat->Prop,C' m->slBound v dflt y C':=by
 rcases x.out with ⟨rfl,a⟩|⟨k,i,rfl,c,b,a⟩
 ·exact ⟨_,a,fun _ z=>z⟩
 ·exact ⟨_,a,fun _ z=>⟨⟨c,b⟩,z⟩⟩
def Qb{t:aR}{x:aN}{lo hi:Option aN}{C:aN->Prop}(hv:Y9 P t x lo hi C):∃ u,C (.val u)/\∀ C':aN->Prop,C' (.val u)->Y9 P t x lo hi C':=by
 unfold Y9 at hv
 split at hv
 ·rename_i s d
  obtain ⟨m,b,i⟩:=O8 hv
  obtain ⟨l,f,j⟩:=O8 b
  exact ⟨_,f,fun C' y=>by simp only [Y9,d];grind⟩
 ·rename_i e A n c d
  obtain ⟨g,hv⟩:=hv.both
  obtain ⟨m,b,i⟩:=O8 hv
  obtain ⟨l,f,j⟩:=O8 b
  exact ⟨_,f,fun C' y=>by simp only [Y9,d,g];grind⟩
 ·rename_i n e a d
  obtain ⟨g,hv⟩:=hv.both
  obtain ⟨m,b,i⟩:=O8 hv
  obtain ⟨l,f,j⟩:=O8 b
  exact ⟨_,f,fun C' y=>by simp only [Y9,d,g];grind⟩
 grind
def Ko{b:Bool}{X Y:Prop}(x:Br b X Y):(b=true/\X)\/(b=false/\Y):=by
 cases b
 ·exact .inr ⟨rfl,x⟩
 ·exact .inl ⟨rfl,x⟩
def Hr{t:aR}{x i:aN}{C:aN->Prop}(hv:I9 P t x i C):
 ∃ v,C v/\(∀ k off,v= .own k off->∃ off',x= .own k off')/\∀ C':aN->Prop,C' v->I9 P t x i C':=by
 unfold I9 at hv
 split at hv
 ·rename_i len e k off _ n b
  obtain ⟨d,hv⟩:=hv.both
  rcases Ko hv with ⟨e,hv⟩|⟨_,hv⟩
  ·exact ⟨_,hv,(fun g off' f=>gz0),fun C' y=>by simp only [I9,b,d,e];exact y⟩
  grind
 ·rename_i len e a _ n b
  obtain ⟨d,j,hv⟩:=hv.both
  exact ⟨_,hv,(fun g off' f=>by cases f),fun C' y=>by simp only [I9,b,d];grind⟩
 ·rename_i e A n c _ i b
  obtain ⟨d,a,j,l,m,hv⟩:=hv.both
  exact ⟨_,hv,(fun g off' f=>by cases f),fun C' y=>by simp only [I9,b,d];simp_all⟩
 grind
def Q8{st st':VS}{xs:List aQ}(h:∀ x∈xs,C6 st' x=C6 st x):J9 st' xs=J9 st xs:=by
 unfold J9
 grind
def Fj{o:aE}{st:VS}(hsel:∀ cs b,o.op ≠ .select cs b){C:aN->Prop}(hv:Dt P o st C):∃ u,C (.val u)/\∀ st' (C':aN->Prop),AgreeOn cfg ops o st st'->C' (.val u)->Dt P o st' C':=by
 unfold Dt at hv
 split at hv
 ·rename_i e
  split at hv
  ·refine ⟨_,hv,fun st' C' a y=>?_⟩
   unfold Dt
   have d:J9 st' o.op.operands.toList=true:=by rw [Q8 (fun x c=>a.eval gz0)];exact e
   have f:execOp (rho st') o=execOp (rho st) o:=execOp_congr o hsel fun x c=>a.rho c
   grind
  grind
 grind
def Nc{t:aR}{xs ys:Array aH}{C:Bool->Prop}(hv:Nd P t xs ys C):∃ b,C b/\∀ C':Bool->Prop,C' b->Nd P t xs ys C':=by
 unfold Nd at hv
 split at hv
 ·rename_i e a
  obtain ⟨c,hv⟩:=hv.both
  split at hv
  ·rename_i b d
   exact ⟨b,hv,fun C' y=>by simp only [Nd,a,c,d];exact y⟩
  grind
 grind
def Vx{o:aE}{st:VS}{op:BinOp}{t t':aR}{x z:aQ}(hop:o.op= .binOp op t x z t'){C:aN->Prop}(hv:Cr P o st op t (C6 st x) (C6 st z) C):
 ∃ u,C (.val u)/\∀ st' (C':aN->Prop),AgreeOn cfg ops o st st'->C' (.val u)->Cr P o st' op t (C6 st' x) (C6 st' z) C':=by
 have i:∀ cs b,o.op ≠ .select cs b:=gz0
 have f:∀ st',AgreeOn cfg ops o st st'->C6 st' x=C6 st x/\C6 st' z=C6 st z:=fun st' a=>⟨a.eval (by rw [hop];simp [aC]),a.eval (by rw [hop];simp [aC])⟩
 unfold Cr at hv
 split at hv
 ·rename_i d c
  obtain ⟨b,j,k⟩:=Nc hv
  exact ⟨_,j,fun st' C' a y=>by simp only [Cr,d,c];grind⟩
 ·rename_i d c
  obtain ⟨b,j,k⟩:=Nc hv
  exact ⟨_,j,fun st' C' a y=>by simp only [Cr,d,c];grind⟩
 ·rename_i d c
  obtain ⟨g,hv⟩:=hv.both
  exact ⟨_,hv,fun st' C' a y=>by rw [(f st' a).1,(f st' a).2];simp only [Cr,d,c,g];exact y⟩
 ·rename_i d c
  obtain ⟨g,hv⟩:=hv.both
  exact ⟨_,hv,fun st' C' a y=>by rw [(f st' a).1,(f st' a).2];simp only [Cr,d,c,g];exact y⟩
 ·rename_i d c
  obtain ⟨g,hv⟩:=hv.both
  rcases Ko hv with ⟨e,hv⟩|⟨e,hv⟩
  ·exact hv.elim
  ·exact ⟨_,hv,fun st' C' a y=>by rw [(f st' a).1,(f st' a).2];simp only [Cr,d,c,g,e];exact y⟩
 ·rename_i d c
  obtain ⟨g,hv⟩:=hv.both
  rcases Ko hv with ⟨e,hv⟩|⟨e,hv⟩
  ·exact hv.elim
  ·exact ⟨_,hv,fun st' C' a y=>by rw [(f st' a).1,(f st' a).2];simp only [Cr,d,c,g,e];exact y⟩
 ·rename_i d c
  rcases Ko hv with ⟨e,hv⟩|⟨e,hv⟩
  ·exact hv.elim
  ·exact ⟨_,hv,fun st' C' a y=>by rw [(f st' a).1,(f st' a).2];simp only [Cr,d,c,e];exact y⟩
 ·rename_i d c
  rcases Ko hv with ⟨e,hv⟩|⟨e,hv⟩
  ·exact hv.elim
  ·exact ⟨_,hv,fun st' C' a y=>by rw [(f st' a).1,(f st' a).2];simp only [Cr,d,c,e];exact y⟩
 ·rename_i d c
  exact ⟨_,hv.2,fun st' C' a y=>by simp only [Cr,d,c];grind⟩
 ·obtain ⟨u,l,k⟩:=Fj (cfg:=cfg) (ops:=ops) i hv
  refine ⟨u,l,fun st' C' a y=>?_⟩
  unfold Cr
  grind
def A31{o:aE}{st:VS}{h:aF}(hsel:∀ cs b,o.op ≠ .select cs b){C:aN->Prop}(hv:vcQ P o st h C):
 ∃ v,C v/\(∀ k off,v= .own k off->∃ x off',x∈o.op.operands/\C6 st x= .own k off')/\∀ st' h' C',(Aj o st=true->h.le h')->AgreeOn cfg ops o st st'->C' v->vcQ P o st' h' C':=by
 unfold vcQ at hv
 split at hv
 ·rename_i x a
  refine ⟨_,hv,(fun k off e=>⟨x,off,(by rw [a];simp [aC]),e⟩),fun st' h' C' g d y=>?_⟩
  unfold vcQ;simp only [a,d.eval (x:=x) (by rw [a];simp [aC])];exact y
 ·rename_i x a
  refine ⟨_,hv,(fun k off e=>⟨x,off,(by rw [a];simp [aC]),e⟩),fun st' h' C' g d y=>?_⟩
  unfold vcQ;simp only [a,d.eval (x:=x) (by rw [a];simp [aC])];exact y
 ·rename_i c x z a
  split at hv
  ·rename_i b B
   have Q:∀ st',AgreeOn cfg ops o st st'->C6 st' c= .val (.bool b)/\C6 st' x=C6 st x/\C6 st' z=C6 st z:=fun st' d=>
    ⟨by rw [d.eval (x:=c) (by rw [a];simp [aC])];exact B,d.eval (by rw [a];simp [aC]),d.eval (by rw [a];simp [aC])⟩
   rcases Ko hv with ⟨e,hv⟩|⟨e,hv⟩
   ·refine ⟨_,hv,(fun k off e=>⟨x,off,(by rw [a];simp [aC]),e⟩),fun st' h' C' g d y=>?_⟩
    obtain ⟨H,F,L⟩:=Q st' d
    unfold vcQ;simp only [a,H,F,L,e];exact y
   ·refine ⟨_,hv,(fun k off e=>⟨z,off,(by rw [a];simp [aC]),e⟩),fun st' h' C' g d y=>?_⟩
    obtain ⟨H,F,L⟩:=Q st' d
    unfold vcQ;simp only [a,H,F,L,e];exact y
  grind
 ·rename_i t x a
  have p:∀ st',AgreeOn cfg ops o st st'->C6 st' x=C6 st x:=fun st' d=>d.eval (by rw [a];simp [aC])
  split at hv
  ·rename_i k off n
   split at hv
   ·rename_i cs O
    obtain ⟨u,j,q⟩:=Qu hv
    refine ⟨_,j,(fun k off e=>by cases e),fun st' h' C' g d y=>?_⟩
    unfold vcQ;simp only [a,p st' d,n,d.load t x k off a n,O];grind
   grind
  ·rename_i T n
   obtain ⟨u,j,q⟩:=Ol hv
   refine ⟨_,j,(fun k off e=>by cases e),fun st' h' C' g d y=>?_⟩
   unfold vcQ;simp only [a,p st' d,n];exact q h' C' (g (by simp only [Aj,a,n])) y
  grind
 ·rename_i s x f a
  have p:∀ st',AgreeOn cfg ops o st st'->C6 st' x=C6 st x:=fun st' d=>d.eval (by rw [a];simp [aC])
  split at hv
  ·rename_i k off n
   split at hv
   ·split at hv
    ·obtain ⟨B,hv⟩:=hv.both
     refine ⟨_,hv,(fun N off' e=>by cases e;exact ⟨x,off,(by rw [a];simp [aC]),n⟩),fun st' h' C' g d y=>?_⟩
     unfold vcQ;grind
    grind
   grind
  ·split at hv
   ·split at hv
    ·obtain ⟨B,hv⟩:=hv.both
     refine ⟨_,hv,(fun N off' e=>by cases e),fun st' h' C' g d y=>?_⟩
     unfold vcQ;grind
    grind
   grind
  grind
 ·rename_i x a
  have p:∀ st',AgreeOn cfg ops o st st'->C6 st' x=C6 st x:=fun st' d=>d.eval (by rw [a];simp [aC])
  split at hv
  ·rename_i k off n
   refine ⟨_,hv,(fun N off' e=>by cases e;exact ⟨x,off,(by rw [a];simp [aC]),n⟩),fun st' h' C' g d y=>?_⟩
   unfold vcQ;grind
  ·obtain ⟨T,hp,hv⟩:=hv
   refine ⟨_,hv,(fun N off' e=>by cases e),fun st' h' C' g d y=>?_⟩
   unfold vcQ;grind
  grind
 ·rename_i t x i a
  obtain ⟨v,j,V,q⟩:=Hr hv
  refine ⟨_,j,(fun k off e=>let ⟨off',e'⟩:=V k off e;⟨x,off',(by rw [a];simp [aC]),e'⟩),fun st' h' C' g d y=>?_⟩
  unfold vcQ;simp only [a,d.eval (x:=x) (by rw [a];simp [aC]),d.eval (x:=i) (by rw [a];simp [aC])];grind
 ·rename_i t x i a
  have p:∀ st',AgreeOn cfg ops o st st'->C6 st' x=C6 st x/\C6 st' i=C6 st i:=fun st' d=>⟨d.eval (by rw [a];simp [aC]),d.eval (by rw [a];simp [aC])⟩
  split at hv
  ·obtain ⟨c,h0,hv⟩:=hv
   refine ⟨_,hv,(fun k off e=>by cases e),fun st' h' C' g d y=>?_⟩
   unfold vcQ;grind
  ·obtain ⟨u,j,q⟩:=Fj (cfg:=cfg) (ops:=ops) hsel hv
   refine ⟨_,j,(fun k off e=>by cases e),fun st' h' C' g d y=>?_⟩
   unfold vcQ;grind
 ·rename_i t x w r a
  obtain ⟨u,j,q⟩:=Qb hv
  refine ⟨_,j,(fun k off e=>by cases e),fun st' h' C' g d y=>?_⟩
  have p:C6 st' x=C6 st x:=d.eval (by rw [a];simp [aC])
  have E:w.map (C6 st')=w.map (C6 st):=by
   cases w with
   | none=>rfl
   | some z=>simp only [Option.map_some];rw [d.eval (x:=z) (by rw [a];simp [aC])]
  have D:r.map (C6 st')=r.map (C6 st):=by
   cases r with
   | none=>rfl
   | some z=>simp only [Option.map_some];rw [d.eval (x:=z) (by rw [a];simp [aC])]
  unfold vcQ;grind
 ·rename_i t x w r R a
  have G:∀ st',AgreeOn cfg ops o st st'->C6 st' x=C6 st x/\C6 st' w=C6 st w/\C6 st' r=C6 st r/\C6 st' R=C6 st R:=fun st' d=>⟨d.eval (by rw [a];simp [aC]),d.eval (by rw [a];simp [aC]),d.eval (by rw [a];simp [aC]),d.eval (by rw [a];simp [aC])⟩
  unfold Ds at hv
  split at hv
  ·rename_i e A m c W l k2 h' k3 b S p E D M
   obtain ⟨B,H,F,L,hv⟩:=hv.both
   refine ⟨_,hv,(fun k off e=>by cases e),fun st' h' C' g d y=>?_⟩
   unfold vcQ;simp only [a,(G st' d).1,(G st' d).2.1,(G st' d).2.2.1,(G st' d).2.2.2,p,E,D,M,Ds,S,B]
   grind
  grind
 ·rename_i op t x z X a
  obtain ⟨u,j,q⟩:=Vx (cfg:=cfg) (ops:=ops) a hv
  refine ⟨_,j,(fun k off e=>by cases e),fun st' h' C' g d y=>?_⟩
  unfold vcQ;grind
 ·exact hv.elim
 ·obtain ⟨u,j,q⟩:=Fj (cfg:=cfg) (ops:=ops) hsel hv
  refine ⟨_,j,(fun k off e=>by cases e),fun st' h' C' g d y=>?_⟩
  unfold vcQ
  grind
inductive Upd where
 | put (d:Option Nat) (v:aN)
 | own (d:Nat) (cs:List aH)
def Upd.app:Upd->VS->VS
 | .put d v,s=>s.putO d v
 | .own d cs,s=>(s.put d (.own d 0)).setOwn d cs
def Upd.dst:Upd->Option Nat
 | .put d _=>d
 | .own d _=>some d
def Dk{o:aE}{j:Nat}{want:Bool}{g:Nat}(hg:o.guard=some (j,want))(hd:(ops[j]?).bind (·.dst)=some g):g∈o.looksAt ops:=by
 unfold Oper.looksAt
 grind
def Lw{o:aE}{st:VS}{h:aF}{gr:Bool}{K:VS->aF->Prop}(hs:R9 P cfg o=true)(hv:N7 P cfg o gr st h K):
 ∃ u:Upd,u.dst=o.dst/\K (u.app st) h/\(∀ d cs,u= .own d cs->st.own d=none)/\(∀ d v k off,u= .put d v->v= .own k off->∃ x off',x∈o.op.operands/\C6 st x= .own k off')/\(∀ d cs,u= .own d cs->L4 cfg o=true)/\
  ∀ st' h' (K':VS->aF->Prop),(Aj o st=true->h.le h')->AgreeOn cfg ops o st st'->K' (u.app st') h'->N7 P cfg o gr st' h' K':=by
 obtain ⟨B,hv⟩:=hv.both
 split at hv
 ·rename_i l
  have m:∀ cs b,o.op ≠ .select cs b:=fun cs b e=>by simp [Hz,e] at l
  obtain ⟨v,C,N,r⟩:=A31 (cfg:=cfg) (ops:=ops) m hv
  refine ⟨.put o.dst v,rfl,C,(fun d cs e=>by cases e),(fun d H k off e L=>gz0),(fun d cs e=>by cases e),fun st' h' K' n i y=>?_⟩
  unfold N7;rw [B];simp only [When,l];exact r st' h' _ n i y
 ·rename_i l
  have a:L4 cfg o=true:=by simpa [R9,l] using hs
  have j:∀ cells:List aH,Bk cfg o.dst cells st h K->∃ u:Upd,u.dst=o.dst/\K (u.app st) h/\(∀ d cs,u= .own d cs->st.own d=none)/\(∀ d v k off,u= .put d v->v= .own k off->∃ x off',x∈o.op.operands/\C6 st x= .own k off')/\(∀ d cs,u= .own d cs->L4 cfg o=true)/\
   ∀ st' h' (K':VS->aF->Prop),(Aj o st=true->h.le h')->AgreeOn cfg ops o st st'->K' (u.app st') h'->Bk cfg o.dst cells st' h' K':=by
   intro cells hv
   unfold Bk at hv
   split at hv
   ·rename_i d g
    obtain ⟨f,hv⟩:=hv.both
    simp only [aD,Option.isNone_iff_eq_none] at f
    refine ⟨.own d cells,g.symm,hv,(fun E cs e=>gz0),(fun E v k off e _=>by cases e),(fun _ _ _=>a),fun st' h' K' n i y=>?_⟩
    have G:st'.own d=none:=i.alloc d a g f.2
    rw [g]
    simp only [Bk,f.1.1,f.1.2,G,Option.isNone_none,Bool.and_self,When]
    exact y
   grind
  unfold L4 at a
  split at hv
  ·rename_i t c
   rw [c] at a
   simp only [a] at hv
   obtain ⟨M,hv⟩:=hv.both
   obtain ⟨u,w,q,z,s,A,D⟩:=j _ hv
   refine ⟨u,w,q,z,s,A,fun st' h' K' n i y=>?_⟩
   unfold N7;grind
  ·rename_i t x c
   rw [c] at a
   obtain ⟨F,hv⟩:=hv.both
   simp only [a] at hv
   obtain ⟨u,w,q,z,s,A,D⟩:=j _ hv
   refine ⟨u,w,q,z,s,A,fun st' h' K' n i y=>?_⟩
   have p:=i.eval (x:=x) (by rw [c];simp [aC])
   unfold N7;simp only [When,l,c,a,p,F,i.rho (x:=x) (by rw [c];simp [aC])];grind
  all_goals grind
def A2e{o:aE}{st:VS}{h:aF}{gr:Bool}{K:VS->aF->Prop}(hs:R9 P cfg o=true)(hv:Gk P cfg ops o gr st h K):
 ∃ u:Upd,u.dst=o.dst/\K (u.app st) h/\(∀ d cs,u= .own d cs->st.own d=none)/\(∀ d v k off,u= .put d v->v= .own k off->∃ x off',x∈o.op.operands/\C6 st x= .own k off')/\(∀ d cs,u= .own d cs->L4 cfg o=true)/\
  ∀ st' h' (K':VS->aF->Prop),(Aj o st=true->h.le h')->AgreeOn cfg ops o st st'->K' (u.app st') h'->Gk P cfg ops o gr st' h' K':=by
 unfold Gk at hv
 split at hv
 ·obtain ⟨u,w,r,B,t,C,E⟩:=Lw (ops:=ops) hs hv
  exact ⟨u,w,r,B,t,C,fun st' h' K' A l y=>by unfold Gk;grind⟩
 ·rename_i j s p
  split at hv
  ·exact hv.elim
  ·rename_i g f
   split at hv
   ·rename_i b m
    have c:=Dk p f
    have n:∀ D:Bool,b=D->When (K6 cfg o.dst) (K ((st.put g (.val (.bool D))).putO o.dst (.val undef)) h)->K6 cfg o.dst=true/\K (st.putO o.dst (.val undef)) h:=by
     intro D e x
     subst e
     rw [aG st m] at x
     exact x.both
    cases b<;>cases s
    ·have i:N7 P cfg o gr (st.put g (.val (.bool false))) h K:=hv
     rw [aG st m] at i
     obtain ⟨u,w,r,B,t,C,E⟩:=Lw (ops:=ops) hs i
     refine ⟨u,w,r,B,t,C,fun st' h' K' A l y=>?_⟩
     have a:st'.env g= .val (.bool false):=by rw [l.env g c];exact m
     unfold Gk;simp only [p,f,a,Br]
     rw [aG st' a];grind
    ·obtain ⟨q,z⟩:=n false rfl hv
     refine ⟨.put o.dst (.val undef),rfl,z,(fun d cs e=>by cases e),(fun d v k off e F=>gz0),(fun d cs e=>by cases e),fun st' h' K' A l y=>?_⟩
     have a:st'.env g= .val (.bool false):=by rw [l.env g c];exact m
     unfold Gk;simp only [p,f,a,Br]
     rw [aG st' a,q];exact y
    ·obtain ⟨q,z⟩:=n true rfl hv
     refine ⟨.put o.dst (.val undef),rfl,z,(fun d cs e=>by cases e),(fun d v k off e F=>gz0),(fun d cs e=>by cases e),fun st' h' K' A l y=>?_⟩
     have a:st'.env g= .val (.bool true):=by rw [l.env g c];exact m
     unfold Gk;simp only [p,f,a,Br]
     rw [aG st' a,q];exact y
    ·have i:N7 P cfg o gr (st.put g (.val (.bool true))) h K:=hv
     rw [aG st m] at i
     obtain ⟨u,w,r,B,t,C,E⟩:=Lw (ops:=ops) hs i
     refine ⟨u,w,r,B,t,C,fun st' h' K' A l y=>?_⟩
     have a:st'.env g= .val (.bool true):=by rw [l.env g c];exact m
     unfold Gk;simp only [p,f,a,Br]
     rw [aG st' a];grind
   ·rename_i G m
    have c:=Dk p f
    obtain ⟨q,z⟩:=hv.both
    refine ⟨.put o.dst (.val undef),rfl,z,(fun d cs e=>by cases e),(fun d v k off e F=>gz0),(fun d cs e=>by cases e),fun st' h' K' A l y=>?_⟩
    have a:st'.env g= .val (.tuple G):=by rw [l.env g c];exact m
    unfold Gk;simp only [p,f,a]
    rw [q];exact y
   grind
def Hm{z:aH}{K K':aH->Prop}(x:exT z K)(hk:∀ v,K v->K' v):exT z K':=by
 unfold exT at x ⊢
 split at x
 ·exact A1h x fun a=>hk _
 ·exact Tj x hk
def Yt{zs:List aH}: ∀ {K K':List aH->Prop},exTs zs K->(∀ v,K v->K' v)->exTs zs K':=by
 induction zs with
 | nil=>exact fun x a=>a _ x
 | cons z zs ih=>exact fun x a=>Hm x fun v y=>ih y fun b=>a _
def Im{t:aR}{K K':aH->Prop}(x:exRt P t K)(hk:∀ v,K v->K' v):exRt P t K':=by
 unfold exRt at x ⊢
 split at x
 ·exact Yt x fun a=>hk _
 ·exact Hm x hk
def WFs(st:VS):Prop:=∀ i k off,st.env i= .own k off->(st.own k).isSome=true
structure Frm (o:aE) (st st':VS):Prop where
 env:∀ x,o.dst≠some x->st'.env x=st.env x
 own:∀ k,(o.dst=some k->(st.own k).isSome=true)->(∀ t a b off,o.op= .store t a b->C6 st a ≠ .own k off)->st'.own k=st.own k
 wf:WFs st'
def Lr{st:VS}(wf:WFs st){x:aQ}{k off:Nat}(e:C6 st x= .own k off):(st.own k).isSome=true:=by
 cases x with
 | tmp t=>exact wf t k off e
 | _=>cases e
def Fo(st:VS)(d:Option Nat)(v:aN)(x:Nat):(st.putO d v).env x=if d=some x then v else st.env x:=by
 cases d with
 | none=>rfl
 | some d=>
  by_cases h:x=d
  ·subst h;simp [VS.putO,VS.put]
  ·have:¬ d=x:=fun e=>h e.symm
   simp [VS.putO,VS.put,Y3 h,this]
def L5{o:aE}{st:VS}(wf:WFs st)(u:aH):Frm o st (st.putO o.dst (.val u)):=by
 refine ⟨fun x b=>by rw [Fo,iN b],fun k _ _=>by rw [J1],fun i k a e=>?_⟩
 rw [Fo] at e
 rw [J1]
 split at e
 ·cases e
 ·exact wf i k a e
def Y7{u:Upd}{st:VS}{x:Nat}(h:u.dst≠some x):(u.app st).env x=st.env x:=by
 cases u with
 | put d v=>simp only [Upd.app,Fo];rw [iN (show d≠some x from h)]
 | own d cs=>
  have:x≠d:=fun e=>h (by rw [e];rfl)
  simp [Upd.app,VS.setOwn,VS.put,Y3 this]
def S5{u:Upd}{st:VS}{k:Nat}(h:∀ d cs,u= .own d cs->k≠d):(u.app st).own k=st.own k:=by
 cases u with
 | put d v=>simp only [Upd.app,J1]
 | own d cs=>exact E7 _ _ (h d cs rfl)
def Gn(st:VS){d e:Nat}(v u:aN)(h:d≠e):(st.put d v).put e u=(st.put e u).put d v:=by
 unfold VS.put
 congr 1
 funext i
 by_cases a:i=d
 ·subst a;simp [Y3 h]
 ·by_cases b:i=e
  ·simp [Y3 a]
  ·simp [Y3 a,Y3 b]
def F8{u:Upd}{st:VS}{d:Option Nat}{v:aN}(h:∀ x,u.dst=some x->d≠some x):(u.app st).putO d v=u.app (st.putO d v):=by
 cases d with
 | none=>rfl
 | some d=>
  cases u with
  | put e w=>
   cases e with
   | none=>rfl
   | some e=>exact Gn st w v (fun x=>h e rfl (congrArg some x.symm))
  | own e cs=>
   have:=Gn st (.own e 0) v (fun x=>h e rfl (congrArg some x.symm))
   show ((st.put e (.own e 0)).setOwn e cs).put d v=((st.put d v).put e (.own e 0)).setOwn e cs
   rw [<- this];rfl
def Cf{u:Upd}{st:VS}{k:Nat}{cs:List aH}(h:∀ d c,u= .own d c->k≠d):(u.app st).setOwn k cs=u.app (st.setOwn k cs):=by
 cases u with
 | put d v=>cases d<;>rfl
 | own d c=>
  have b:=h d c rfl
  show ((st.put d (.own d 0)).setOwn d c).setOwn k cs=((st.setOwn k cs).put d (.own d 0)).setOwn d c
  unfold VS.setOwn VS.put
  congr 1
  funext i
  by_cases a:i=d
  ·subst a;simp [Y3 (Ne.symm b)]
  ·by_cases e:i=k
   ·simp [Y3 a]
   ·simp [Y3 a,Y3 e]
def A1y{u v:Upd}{st:VS}(h:∀ x,u.dst=some x->v.dst≠some x):v.app (u.app st)=u.app (v.app st):=by
 cases v with
 | put d w=>exact F8 h
 | own d cs=>
  have a:(u.app st).put d (.own d 0)=u.app (st.put d (.own d 0)):=F8 (d:=some d) h
  show ((u.app st).put d (.own d 0)).setOwn d cs=_
  rw [a,Cf (fun e c eq=>by subst eq;exact fun x=>h e rfl (by rw [<- x];rfl))];rfl
def Frm.upd{o:aE}{u:Upd}{st:VS}(hd:u.dst=o.dst)(wf:WFs st)(hv:∀ d v k off,u= .put d v->v= .own k off->∃ x off',C6 st x= .own k off')(hn:∀ d cs,u= .own d cs->st.own d=none):Frm o st (u.app st):=by
 refine ⟨fun x b=>Y7 gz0,fun k c _=>S5 (fun d cs e=>?_),fun i k off e=>?_⟩
 ·rintro rfl
  have:=c (by rw [<- hd,e];rfl)
  grind
 cases u with
 | put d v=>
  simp only [Upd.app,J1] at e ⊢
  rw [Fo] at e
  split at e
  ·obtain ⟨x,off',b⟩:=hv d v k off rfl e
   exact Lr wf b
  ·exact wf i k off e
 | own d cs=>
  by_cases a:i=d
  ·subst a
   have:((st.put i (.own i 0)).setOwn i cs).env i= .own i 0:=by simp [VS.setOwn,VS.put]
   simp only [Upd.app] at e ⊢
   rw [this] at e
   injection e with e1 e2;subst e1
   rw [P0];rfl
  ·rw [Y7 (u:=.own d cs) (fun x=>a (by cases x;rfl))] at e
   have:=wf i k off e
   rw [S5 (u:=.own d cs) (fun g f j=>gz0)];exact this
structure Before (cfg:Cfg) (ops:Array aE) (u:Upd) (o:aE) (st:VS):Prop where
 look:∀ x,u.dst=some x->x∉o.looksAt ops
 dst:∀ x,u.dst=some x->o.dst≠some x
 free:∀ d cs,u= .own d cs->st.own d=none
 wf:WFs st
def Before.eval{u:Upd}{o:aE}{st:VS}(b:Before cfg ops u o st){x:aQ}(hx:x∈o.op.operands):C6 (u.app st) x=C6 st x:=by
 cases x with
 | tmp t=>
  refine Y7 fun e=>b.look t e ?_
  exact aJ _ (List.mem_filterMap.2 ⟨.tmp t,gz0,rfl⟩)
 | _=>rfl
def Before.rho{u:Upd}{o:aE}{st:VS}(b:Before cfg ops u o st){x:aQ}(hx:x∈o.op.operands):rho (u.app st) x=rho st x:=by
 unfold Go.Proofs.YtdphgbjaijlckaaGreatDoor.rho;rw [b.eval hx]
def Before.key{u:Upd}{o:aE}{st:VS}(b:Before cfg ops u o st){x:aQ}{k off:Nat}(e:C6 st x= .own k off):∀ d cs,u= .own d cs->k≠d:=by
 rintro d cs a rfl
 have:=Lr b.wf e
 rw [b.free k cs a] at this;cases this
def Grw(cfg:Cfg)(o:aE)(st:VS)(h h':aF):Prop:=Vv cfg o=false->(∀ t a b,o.op= .store t a b->∃ k off,C6 st a= .own k off)->h.le h'
def Grw.of{cfg:Cfg}{o:aE}{st:VS}{h h':aF}(x:h.le h'):Grw cfg o st h h':=fun _ _=>x
def Grow.map{gr:Bool}{h h':aF}{X Y:Prop}(x:Grow gr h h' X)(f:X->(gr=true->h.le h')->Y):Grow gr h h' Y:=by
 cases gr
 ·exact f x (fun e=>by cases e)
 ·exact ⟨x.1,f x.2 (fun _=>x.1)⟩
def In{u:Upd}{o:aE}{st:VS}(b:Before cfg ops u o st){s:Sem aH}{h:aF}{K:VS->aF->Prop}{K':VS->aF->Prop}(hk:∀ st' h',K (u.app st') h'->Grw cfg o st h h'->Frm o st st'->K' st' h')(x:effV P s o true (u.app st) h K):
 effV P s o true st h K':=by
 refine Cg s x fun v h' y=>Hm y fun w ⟨c,a,d⟩=>⟨c,a,hk _ _ ?_ (Grw.of a) (L5 b.wf w)⟩
 rwa [F8 (fun z e=>b.dst z e)] at d
def Ke{u:Upd}{o:aE}{st:VS}{gr:Bool}(b:Before cfg ops u o st)(hgw:Vv cfg o=false->gr=true){s:Sem aH}{h:aF}{K:VS->aF->Prop}{K':VS->aF->Prop}(hk:∀ st' h',K (u.app st') h'->Grw cfg o st h h'->Frm o st st'->K' st' h')(x:effV P s o gr (u.app st) h K):
 effV P s o gr st h K':=by
 refine Cg s x fun v h' y=>Hm y fun w ⟨d,a⟩=>⟨d,a.map fun f c=>hk _ _ ?_ (fun e _=>c (hgw e)) (L5 b.wf w)⟩
 rwa [F8 (fun z g=>b.dst z g)] at f
def Ox{u:Upd}{o:aE}{st:VS}(b:Before cfg ops u o st){s:Sem aH}{h:aF}{K:VS->aF->Prop}{K':VS->aF->Prop}(hk:∀ st' h',K (u.app st') h'->Grw cfg o st h h'->Frm o st st'->K' st' h')(x:effP P s o true (u.app st) h K):
 effP P s o true st h K':=by
 refine Cg s x fun v h' ⟨w,c,a,d⟩=>⟨w,c,a,hk _ _ ?_ (Grw.of a) (L5 b.wf _)⟩
 rwa [F8 (fun z e=>b.dst z e)] at d
def Yv{u:Upd}{o:aE}{st:VS}(b:Before cfg ops u o st){s:Sem Unit}{h:aF}{K:VS->aF->Prop}{K':VS->aF->Prop}(hno:¬ (∀ t a b,o.op= .store t a b->∃ k off,C6 st a= .own k off))(hk:∀ st' h',K (u.app st') h'->Grw cfg o st h h'->Frm o st st'->K' st' h')(x:effU P s o false (u.app st) h K):
 effU P s o false st h K':=by
 refine Cg s x fun v h' c=>?_
 rw [F8 (fun z e=>b.dst z e)] at c
 exact hk _ _ c (fun _ d=>absurd d hno) (L5 b.wf _)
def Iw{u:Upd}{o:aE}{st:VS}(b:Before cfg ops u o st)(hs:R9 P cfg o=false){h:aF}{K:VS->aF->Prop}{K':VS->aF->Prop}(hk:∀ st' h',K (u.app st') h'->Grw cfg o st h h'->Frm o st st'->K' st' h')(hv:N7 P cfg o (Dl cfg o) (u.app st) h K):N7 P cfg o (Dl cfg o) st h K':=by
 unfold N7 at hv ⊢
 obtain ⟨hd,hv⟩:=hv.both
 rw [hd]
 simp only [R9,Bool.or_eq_false_iff] at hs
 simp only [hs.1] at hv ⊢
 show (match o.op with
  | .alloc t=>_
  | .box t x=>_
  | .store t a x=>_
  | .makeSlice t l c=>_
  | .buildSlice t n M=>_
  | .convert s d x=>_
  | .call c=>_
  | _=>_)
 split at hv
 ·rename_i t g
  have m:Dl cfg o=true:=by simp [Dl,Vv,g]
  rw [m] at hv ⊢
  have:Ep cfg o.dst=false:=by simpa [L4,g] using hs.2
  simp only [g,this] at hv ⊢
  exact Ox b hk hv
 ·rename_i t x g
  have m:Dl cfg o=true:=by simp [Dl,Vv,g]
  rw [m] at hv ⊢
  have:Ep cfg o.dst=false:=by simpa [L4,g] using hs.2
  have D:x∈o.op.operands:=by rw [g];simp [aC]
  simp only [g,this,b.eval D,b.rho D] at hv ⊢
  obtain ⟨j,hv⟩:=hv.both
  rw [j]
  exact Ox b hk hv
 ·rename_i t a x g
  have m:Dl cfg o=false:=by simp [Dl,g]
  rw [m] at hv ⊢
  have A:a∈o.op.operands:=by rw [g];simp [aC]
  have D:x∈o.op.operands:=by rw [g];simp [aC]
  simp only [g]
  unfold Qa at hv ⊢
  rw [b.eval A] at hv
  split at hv
  ·rename_i k aa T
   have F:=b.key T
   rw [S5 F] at hv
   try simp only [T]
   split at hv
   ·try simp only [hcs]
    rw [b.eval D,b.rho D] at hv
    obtain ⟨j,hv⟩:=hv.both
    rw [j]
    rw [Cf F,F8 (fun z G=>b.dst z G)] at hv
    refine hk _ _ hv (Grw.of (B3 h)) (⟨fun y q=>by rw [Fo,iN q];rfl,fun W _ L=>?_,fun i W N e=>?_⟩)
    ·rw [J1,E7]
     grind
    ·rw [Fo] at e
     rw [J1]
     split at e
     ·cases e
     ·have:=b.wf i W N e
      by_cases O:W=k
      ·subst O;rw [P0];rfl
      ·rw [E7 _ _ O];exact this
   omega
  ·try simp only [V]
   rw [b.eval D,b.rho D] at hv
   obtain ⟨j,hv⟩:=hv.both
   rw [j]
   exact Yv b (fun D=>gz0) hk hv
  omega
 ·rename_i t l c g
  have m:Dl cfg o=true:=by simp [Dl,Vv,g]
  rw [m] at hv ⊢
  have X:l∈o.op.operands:=by rw [g];simp [aC]
  have hc:c∈o.op.operands:=by rw [g];simp [aC]
  have A:J9 (u.app st) [l,c]=J9 st [l,c]:=Q8 fun y q=>by
   simp only [List.mem_cons,List.not_mem_nil,or_false] at q
   rcases q with rfl|rfl
   ·exact b.eval X
   ·exact b.eval hc
  simp only [g]
  rw [A,b.rho X,b.rho hc] at hv
  obtain ⟨j,hv⟩:=hv.both
  rw [j]
  exact In b hk hv
 ·rename_i t n M g
  have m:Dl cfg o=true:=by simp [Dl,Vv,g]
  rw [m] at hv ⊢
  have V:∀ p∈M,p.2∈o.op.operands:=fun p V=>by
   simp only [aC,List.mem_toArray,List.mem_map,Array.mem_toList_iff]
   grind
  have A:J9 (u.app st) (M.toList.map (·.2))=J9 st (M.toList.map (·.2)):=Q8 fun y q=>by
   obtain ⟨p,Q,rfl⟩:=List.mem_map.1 q
   exact b.eval (V p gz0)
  have H:(M.map fun (i,x)=>(i,rho (u.app st) x))=M.map fun (i,x)=>(i,rho st x):=by
   apply Array.map_congr_left
   intro p Q
   simp only [b.rho (V p Q)]
  simp only [g]
  rw [A,H] at hv
  obtain ⟨j,hv⟩:=hv.both
  rw [j]
  exact In b hk hv
 ·rename_i s d x g
  have m:Dl cfg o=true:=by simp [Dl,Vv,g]
  rw [m] at hv ⊢
  have D:x∈o.op.operands:=by rw [g];simp [aC]
  have A:J9 (u.app st) [x]=J9 st [x]:=Q8 fun y q=>by
   simp only [List.mem_cons,List.not_mem_nil,or_false] at q
   rw [q];exact b.eval D
  simp only [g]
  rw [A,b.rho D] at hv
  obtain ⟨j,hv⟩:=hv.both
  rw [j]
  exact In b hk hv
 ·rename_i c g
  generalize m:Dl cfg o=gr at hv ⊢
  have B:Vv cfg o=false->gr=true:=fun e=>by rw [<- m];simp [Dl,g,e]
  have C:∀ y∈c.args,y∈o.op.operands:=fun y q=>by
   simp only [aC,Call.operands];grind
  have A:J9 (u.app st) c.args.toList=J9 st c.args.toList:=Q8 fun y q=>b.eval (C y gz0)
  have H:c.args.map (rho (u.app st))=c.args.map (rho st):=Array.map_congr_left fun y q=>b.rho (C y q)
  simp only [g]
  split at hv
  ·rename_i f E
   try simp only [E]
   unfold Sc at hv ⊢
   have hf:f∈o.op.operands:=by rw [g];simp [aC,Call.operands,E]
   rw [b.eval hf] at hv
   split at hv
   ·try simp only [hfe]
    split at hv
    ·rw [A,H] at hv
     obtain ⟨j,hv⟩:=hv.both
     try simp only [hhas]
     rw [j]
     refine FCall.mono hv fun r h' y=>Im y fun w ⟨j,L⟩=>⟨j,L.map fun S R=>hk _ _ ?_ (fun e _=>R (B e)) (L5 b.wf w)⟩
     rwa [F8 (fun z G=>b.dst z G)] at S
    ·rw [A,H] at hv
     obtain ⟨j,hv⟩:=hv.both
     try simp only [hhas]
     rw [j]
     refine ECall.mono hv fun r h' y=>Im y fun w ⟨j,L⟩=>⟨j,L.map fun S R=>hk _ _ ?_ (fun e _=>R (B e)) (L5 b.wf w)⟩
     rwa [F8 (fun z G=>b.dst z G)] at S
   ·try simp only [hfe]
    rw [A,H] at hv
    obtain ⟨j,hv⟩:=hv.both
    rw [j]
    refine YCall.mono hv fun r h' y=>Im y fun w ⟨j,L⟩=>⟨j,L.map fun S R=>hk _ _ ?_ (fun e _=>R (B e)) (L5 b.wf w)⟩
    rwa [F8 (fun z G=>b.dst z G)] at S
   omega
  ·try simp only [E]
   rw [A,H] at hv
   obtain ⟨j,hv⟩:=hv.both
   rw [j]
   exact Ke b B hk hv
  ·try simp only [E]
   rw [A,H] at hv
   obtain ⟨j,hv⟩:=hv.both
   rw [j]
   exact Ke b B hk hv
  omega
 grind
def Xo{u:Upd}{o:aE}{st:VS}(b:Before cfg ops u o st){h:aF}{K:VS->aF->Prop}{K':VS->aF->Prop}(hk:∀ st' h',K (u.app st') h'->Grw cfg o st h h'->Frm o st st'->K' st' h')(hv:Gk P cfg ops o (Dl cfg o) (u.app st) h K):Gk P cfg ops o (Dl cfg o) st h K':=by
 cases hs:R9 P cfg o with
 | true=>
  obtain ⟨v,m,l,S,N,V,O⟩:=A2e (ops:=ops) hs hv
  have T:AgreeOn cfg ops o (u.app st) st:=by
   refine ⟨fun x y=>(Y7 fun e=>b.look x e y).symm,fun t a k s A e=>?_,fun d _ L F=>(S5 fun R H e=>?_).symm.trans F⟩
   ·rw [b.eval (by rw [A];simp [aC])] at e
    exact (S5 (b.key e)).symm
   ·rintro rfl
    exact b.dst d (by rw [e];rfl) L
  refine O st h _ (fun _=>B3 h) T (hk _ _ ?_ (Grw.of (B3 h)) (Frm.upd m b.wf (fun d w k s e B=>?_) (fun d H e=>?_)))
  ·rw [<- A1y (fun x y=>by rw [m];exact b.dst x y)];exact l
  ·obtain ⟨x,p,y,E⟩:=N d w k s e B
   exact ⟨x,p,by rw [<- b.eval y];exact E⟩
  ·have:=S d H e
   rwa [S5 (fun R Q B=>by
    rintro rfl
    exact b.dst d (by rw [B];rfl) (by rw [<- m,e];rfl))] at this
 | false=>
  unfold Gk at hv ⊢
  split at hv
  ·exact Iw b hs hk hv
  ·rename_i j r M
   split at hv
   ·exact hv.elim
   ·rename_i g D
    have q:=Dk (o:=o) M D
    have E:(u.app st).env g=st.env g:=Y7 fun e=>b.look g e q
    rw [E] at hv
    split at hv
    ·rename_i G n
     have f:(u.app st).env g= .val (.bool G):=gz0
     have i:K6 cfg o.dst=true/\K ((u.app st).putO o.dst (.val undef)) h->When (K6 cfg o.dst) (K' (st.putO o.dst (.val undef)) h):=by
      rintro ⟨m,l⟩
      rw [m]
      rw [F8 (fun z C=>b.dst z C)] at l
      exact hk _ _ l (Grw.of (B3 h)) (L5 b.wf _)
     try simp only [n]
     cases G<;>cases r
     ·have c:N7 P cfg o (Dl cfg o) ((u.app st).put g (.val (.bool false))) h K:=hv
      rw [aG _ f] at c
      rw [aG st n]
      exact Iw b hs hk c
     ·have c:When (K6 cfg o.dst) (K (((u.app st).put g (.val (.bool false))).putO o.dst (.val undef)) h):=hv
      rw [aG _ f] at c
      rw [aG st n]
      exact i c.both
     ·have c:When (K6 cfg o.dst) (K (((u.app st).put g (.val (.bool true))).putO o.dst (.val undef)) h):=hv
      rw [aG _ f] at c
      rw [aG st n]
      exact i c.both
     ·have c:N7 P cfg o (Dl cfg o) ((u.app st).put g (.val (.bool true))) h K:=hv
      rw [aG _ f] at c
      rw [aG st n]
      exact Iw b hs hk c
    ·try simp only [n]
     obtain ⟨m,l⟩:=hv.both
     rw [m]
     rw [F8 (fun z C=>b.dst z C)] at l
     exact hk _ _ l (Grw.of (B3 h)) (L5 b.wf _)
    omega
def Id{o:aE}{st:VS}(wf:WFs st){h:aF}{K K':VS->aF->Prop}(hv:Gk P cfg ops o (Dl cfg o) st h K)(hk:∀ st' h',K st' h'->Grw cfg o st h h'->Frm o st st'->K' st' h'):Gk P cfg ops o (Dl cfg o) st h K':=
 Xo (u:=.put none (.val undef)) ⟨(fun x e=>by cases e),(fun x e=>by cases e),(fun d a e=>by cases e),wf⟩ hk hv
def A1p{oj oi x:aE}{st st':VS}{rem rem':List Nat}(hsub:∀ i∈rem',i∈rem)(hfr:Frm oi st st')(hap:oj.apart ops oi=true)(hmem:∃ i:Nat,i∈rem/\ops[i]? = some oi)(h:Ga cfg ops rem oj x st=true):Ga cfg ops rem' oj x st'=true:=by
 obtain ⟨_,_,j⟩:=Oper.apart_spec hap
 unfold Ga at h ⊢
 simp only [aD] at h ⊢
 obtain ⟨n,h⟩:=h
 have d:Aj oj st'=Aj oj st:=by
  unfold Aj
  split
  ·rename_i k a c
   have g:C6 st' a=C6 st a:=by
    cases a with
    | tmp z=>
     refine hfr.env z fun e=>j z e ?_
     exact aJ _ (List.mem_filterMap.2 ⟨.tmp z,by rw [c];simp [aC],rfl⟩)
    | _=>rfl
   rw [g]
  ·rfl
 refine ⟨gz0,?_⟩
 split at h
 ·rename_i t y b p
  split at h
  ·rename_i k a c
   simp only [aD] at h ⊢
   refine ⟨List.all_eq_true.2 fun i f=>List.all_eq_true.1 h.1 i (hsub i f),?_⟩
   have g:C6 st' a=C6 st a:=by
    cases a with
    | tmp z=>
     refine hfr.env z fun e=>j z e ?_
     exact aJ _ (List.mem_filterMap.2 ⟨.tmp z,by rw [c];simp [aC],rfl⟩)
    | _=>rfl
   have m:st'.env y=st.env y:=by
    refine hfr.env y fun e=>?_
    obtain ⟨i,f,l⟩:=hmem
    have:=List.all_eq_true.1 h.1 i f
    simp_all
   grind
  ·exact h
 ·exact h
 ·exact h
def swap{oj oi:aE}{st:VS}{rem:List Nat}(wf:WFs st)(hs:R9 P cfg oj=true)(hap:oj.apart ops oi=true)(hc:Ga cfg ops rem oj oi st=true){h:aF}{K:VS->aF->Prop}
 (hv:Gk P cfg ops oj (Dl cfg oj) st h fun st1 h1=>Gk P cfg ops oi (Dl cfg oi) st1 h1 K):Gk P cfg ops oi (Dl cfg oi) st h fun st1 h1=>Frm oi st st1/\Gk P cfg ops oj (Dl cfg oj) st1 h1 K:=by
 obtain ⟨O,w,G⟩:=Oper.apart_spec hap
 obtain ⟨u,h1,B,M,Q,T,F⟩:=A2e (ops:=ops) hs hv
 have b:Before cfg ops u oi st:=⟨fun x e=>O x gz0,fun x e=>w x gz0,M,wf⟩
 have n:=hc
 unfold Ga at n
 have H:Aj oj st=true->Vv cfg oi=false:=fun e=>by
  grind
 refine Xo b (fun p D E L m=>⟨m,F p D K (fun c=>L (H c) fun r l s j=>?_) ?_ E⟩) B
 ·obtain ⟨t,x,hld⟩:∃ t x,oj.op= .load t x:=by
   unfold Aj at c
   grind
  cases l with
  | tmp y=>
   show ∃ k f,st.env y= .own k f
   have A:∀ k f,C6 st x ≠ .own k f:=by
    intro k f e
    unfold Aj at c
    grind
   grind
  | _=>grind
 refine ⟨fun x N=>m.env x fun e=>G x e N,fun t a k f C e=>m.own k (fun _=>Lr wf e) (fun r l s i j g=>?_),fun d R z q=>(m.own d (fun e=>absurd e (w d z)) (fun r l s i j g=>?_)).trans q⟩
 ·cases l with
  | tmp y=>
   have S:st.env y= .own k i:=g
   simp_all
  | _=>grind
 ·have:=Lr wf g
  grind
def A78{anc:List (List Nat)}{al:Nat->List Nat}{i:Nat}{oi:aE}(hi:ops[i]? = some oi){L2:List Nat}{K:VS->aF->Prop}: ∀ (L1:List Nat) (n:Nat) (st:VS) (h:aF),n=L1.length+L2.length->WFs st->(∀ j∈L1,has (anc.getD i []) j=false)->i∉L1->
 Ag P cfg ops anc al (n+1) (L1++i::L2) st h K->Gk P cfg ops oi (Dl cfg oi) st h fun st' h'=>WFs st'/\Ag P cfg ops anc al n (L1++L2) st' h' K:=by
 intro L1
 induction L1 with
 | nil=>
  intro n st h _ wf _ _ g
  simp only [List.nil_append,Ag,hi] at g
  exact Id wf (To g.both.2) fun st' h' f _ l=>⟨l.wf,f⟩
 | cons j L1 ih=>
  intro n st h O wf e z g
  obtain ⟨n,rfl⟩:∃ n',n=n'+1:=⟨L1.length+L2.length,gz0⟩
  have w:n=L1.length+L2.length:=gz0
  have m:i∉L1:=fun A=>z (by simp [A])
  simp only [aL,Ag] at g
  split at g
  ·exact g.elim
  ·rename_i s C
   obtain ⟨c,g⟩:=g.both
   have c:=List.all_eq_true.1 c
   have b:=c i (by simp)
   unfold Li at b
   rw [aM] at b
   rcases b with b|b
   ·unfold Xh at b
    rw [e j (by simp),hi] at b
    simp only [Bool.false_or,aD] at b
    obtain ⟨⟨p,t⟩,L⟩:=b
    have G:R9 P cfg s=true:=by
     unfold A0r at p
     grind
    have r:Gk P cfg ops s (Dl cfg s) st h fun d r=>Gk P cfg ops oi (Dl cfg oi) d r fun q B=>WFs q/\Ag P cfg ops anc al n (L1++L2) q B K:=
     Id wf (To g) fun d r f _ l=>ih n d r w l.wf (fun k D=>e k (by simp [D])) m f
    refine Id wf (swap wf G t L r) fun d r ⟨l,f⟩ _ _=>⟨l.wf,?_⟩
    simp only [aL,Ag,C]
    have u:(L1++L2).all (Li P cfg ops anc al (L1++L2) d s j)=true:=by
     refine List.all_eq_true.2 fun x N=>?_
     have a:=c x (by
      grind)
     unfold Li at a ⊢
     rw [p] at a ⊢
     simp only [Bool.not_true,Bool.false_and,Bool.or_false] at a ⊢
     unfold Xh at a ⊢
     simp only [aM] at a ⊢
     rcases a with a|a
     ·grind
     ·refine .inr ?_
      split at a
      ·simp only [aD] at a ⊢
       exact ⟨a.1,A1p (rem:=L1++i::L2) (fun y M=>by
        grind) l t ⟨i,by simp,hi⟩ a.2⟩
      omega
    rw [u]
    have H:Pi P cfg anc al s j (L1++L2)=[]:=by unfold Pi;rw [p]
    rw [H]
    exact Id l.wf f fun q B ⟨_,f⟩ _ _=>f
   ·simp only [aD,Bool.not_eq_true'] at b
    obtain ⟨F,E⟩:=Sd (L2:=L2) m
    have A:i∈Pi P cfg anc al s j (L1++i::L2):=by
     unfold Pi
     rw [b.1]
     refine List.mem_filter.2 ⟨Q0.1 b.2,?_⟩
     rw [F,Q0.2 (show i∈L1++i::L2 by simp),e j (by simp)]
     grind
    have:=A4o g A
    simp only [hi] at this
    rw [E] at this
    exact Id wf this fun st' h' f _ l=>⟨l.wf,by simp only [aL,Ag,C] at f ⊢;exact f⟩
def Un:∀ {L done:List Nat},Xk ops done L=true->L.Nodup/\(∀ i∈L,i∉done)/\∀ L1 i L2,L=L1++i::L2->∃ o,ops[i]? = some o/\∀ e∈o.after,Region.binds .any e=true->e.on∈done\/e.on∈L1:=by
 intro L
 induction L with
 | nil=>simp_all
 | cons x L ih=>
  intro done h
  simp only [Xk,aD,Bool.not_eq_true'] at h
  obtain ⟨⟨b,c⟩,g⟩:=h
  obtain ⟨k,d,l⟩:=ih g
  have p:x∉done:=fun a=>by rw [Q0.2 a] at c;cases c
  refine ⟨List.nodup_cons.2 ⟨fun a=>d x a (by simp),k⟩,fun i n=>?_,fun L1 i L2 e=>?_⟩
  ·grind
  ·cases L1 with
   | nil=>
    obtain ⟨rfl,rfl⟩:=e
    split at b
    ·rename_i o f
     refine ⟨o,f,fun e m j=>.inl ?_⟩
     have:=List.all_eq_true.1 b e gz0
     rw [j] at this
     exact Q0.1 (by assumption)
    ·cases b
   | cons y L1=>
    grind
def Lo{listed:Array Bool}{i:Nat}(d:Bool)(h:i<listed.size):(listed.setIfInBounds i true).getD i d=true:=by
 simp [h]
def Zp{al:Nat->List Nat}{F:Fence}{fu:Nat}[FOk F]{n:Nat}{h0:aF}{W0:World}(hn:cfg.n=n)(hfn:Bodies P cfg.fns){anc:List (List Nat)}(hanc:A7c ops anc=true){Q:Exit->Act->World->Prop}{K:VS->aF->Prop}{ord:List Nat}(hord:Xk ops [] ord=true)(_hall:∀ i,i<ops.size->i∈ord):
 ∀ (m:Nat) (L:List Nat) (listed:Array Bool) (st:VS) (h:aF) (a:Act) (W:World),L.length=m->L.Sublist ord->listed.size=ops.size->(∀ i,i<ops.size->(listed.getD i true=false↔i∈L))->(∀ i j,listed.getD i false=true->has (anc.getD i []) j=true->listed.getD j false=true)->
  Good n h0 W0 st h a W->Ag P cfg ops anc al m L st h K->(∀ st' h' a' W',K st' h'->Good n h0 W0 st' h' a' W'->Agree cfg.lim st st'->Q .normal a' W')->wpAnyIn F fu P .any ops Q m listed a W:=by
 obtain ⟨ah,_,p⟩:=Un hord
 intro m
 induction m with
 | zero=>
  intro L listed st h a W hl c ac b H g O N
  have:L=[]:=List.eq_nil_of_length_eq_zero hl
  subst this
  refine ⟨?_,N st h a W O g (Agree.refl _ _)⟩
  apply List.eq_nil_iff_forall_not_mem.2
  intro i C
  obtain ⟨h1,o,ho,_⟩:=mem_ready.1 C
  grind
 | succ m ih=>
  intro L listed st h a W hl c ac b H g O N
  have wf:WFs st:=by obtain ⟨θ,r,_,_⟩:=g;exact r.wf
  have inl:∀ i,i∈L->i<ops.size:=by
   intro i C
   obtain ⟨L1,L2,e⟩:=aK (c.subset C)
   obtain ⟨o,ho,_⟩:=p L1 i L2 e
   grind
  constructor
  ·
   intro u
   exfalso
   cases L with
   | nil=>grind
   | cons i L=>
    have C:=inl i (by simp)
    obtain ⟨L1,L2,e⟩:=aK (c.subset (show i∈i::L by simp))
    obtain ⟨o,ho,hp⟩:=p L1 i L2 e
    have:i∈Region.ready .any ops listed:=by
     refine mem_ready.2 ⟨(b i C).2 (by simp),o,ho,fun z R t=>?_⟩
     rcases hp z R t with h'|h'
     ·cases h'
     ·have aj:z.on<ops.size:=by
       obtain ⟨M1,M2,e'⟩:=aK h'
       obtain ⟨o',ai,_⟩:=p M1 z.on (M2++i::L2) gz0
       grind
      have ad:z.on∉i::L:=by
       intro hm
       have B:(i::L).Sublist (L1++i::L2):=gz0
       have w:(L1++i::L2).Nodup:=gz0
       have s:i∉L1:=fun E=>(List.nodup_append.1 w).2.2 i E i (by simp) rfl
       have ae:(i::L).Sublist (i::L2):=by
        clear u b H N O g ih hp R t
        revert B s
        clear w e h'
        induction L1 with
        | nil=>grind
        | cons y L1 ihL=>
         intro B s
         refine ihL ?_ (fun E=>s (by simp [E]))
         cases B with
         | cons _ h=>exact h
         | cons_cons _ h=>grind
       grind
      grind
    grind
  ·intro i C
   obtain ⟨h1,oi,q,G⟩:=mem_ready.1 C
   have l:=(Array.getElem?_eq_some_iff.1 q).1
   have ab:=(b i l).1 h1
   obtain ⟨L1,L2,e⟩:=aK ab
   have S:∀ j∈L1,has (anc.getD i []) j=false:=by
    intro j hj
    cases E:has (anc.getD i []) j with
    | false=>rfl
    | true=>
     exfalso
     have D:=List.all_eq_true.1 (List.all_eq_true.1 hanc i (List.mem_range.2 l)) j (Q0.1 E)
     simp only [q] at D
     obtain ⟨z,R,t⟩:=List.any_eq_true.1 D
     simp only [aD,aM] at t
     have A:=G z gz0 t.1
     have af:listed.getD j false=true:=by
      rcases t.2 with h'|h'
      ·rw [<- aI h'];exact A
      grind
     grind
   have M:i∉L1:=by
    grind
   have aa:=A78 q (L2:=L2) L1 m st h gz0 wf S M (by rw [<- e];exact O)
   refine wpOpIn_mono (fun a' W' ⟨st',h',⟨_,hK⟩,g',ag⟩=>?_) (g.op hn hfn q aa)
   have x:∀ j d,(listed.setIfInBounds i true).getD j d=if j=i then true else listed.getD j d:=by
    intro j d
    by_cases f:j=i
    ·subst f;rw [iP rfl];exact Lo d oo
    ·rw [iN f];exact getD_set_ne d (Ne.symm f)
   refine ih (L1++L2) _ st' h' a' W' gz0 ?_ gz0 (fun j hj=>?_) (fun j k hj hk=>?_) g' hK fun X h2 a2 W2 k g2 V=>N X h2 a2 W2 k g2 (ag.trans V)
   ·refine List.Sublist.trans ?_ c
    grind
   ·rw [x]
    by_cases f:j=i
    ·grind
    ·grind
   ·rw [x] at hj ⊢
    by_cases T:k=i
    ·grind
    ·rw [iN T]
     by_cases f:j=i
     ·subst f
      have D:=List.all_eq_true.1 (List.all_eq_true.1 hanc j (List.mem_range.2 l)) k (Q0.1 hk)
      simp only [q] at D
      obtain ⟨z,R,t⟩:=List.any_eq_true.1 D
      simp only [aD,aM] at t
      have A:=G z gz0 t.1
      rcases t.2 with h'|h'
      ·rw [<- aI h'];exact A
      grind
     grind
def Uz{al:Nat->List Nat}{F:Fence}{fu:Nat}[FOk F]{n:Nat}{h0:aF}{W0:World}(hn:cfg.n=n)(hfn:Bodies P cfg.fns){id:Nat}{ord:List Nat}{anc:List (List Nat)}(hok:Yz P ops ord anc=true){Q:Exit->Act->World->Prop}{K:VS->aF->Prop}{st:VS}{h:aF}{a:Act}{W:World}
 (g:Good n h0 W0 st h a W) (hv:Ag P cfg ops anc al ord.length ord st h K) (hQ:∀ st' h' a' W',K st' h'->Good n h0 W0 st' h' a' W'->Agree cfg.lim st st'->Q .normal a' W'):(Code.region id ops true).wpIn F fu P Q a W:=by
 simp only [Yz,aD] at hok
 obtain ⟨⟨⟨⟨m,k⟩,q⟩,l⟩,e⟩:=hok
 refine wpIn_region_any m ?_
 have s:Good n h0 W0 st h a { W with drawn:=W.drawn+1 }:=by
  obtain ⟨θ,r,f,p⟩:=g
  exact ⟨θ,⟨r.defers,r.size,r.slot,r.sim,r.own,r.inj,r.wf,r.out⟩,⟨f.sim,f.os,f.tape,f.output,f.size,f.keep,f.new⟩,p⟩
 have b:∀ i,i<ops.size->i∈ord:=fun i c=>Q0.1 (List.all_eq_true.1 l i (List.mem_range.2 c))
 rw [aI e] at hv
 refine Zp hn hfn k q b ops.size ord _ st h a _ (aI e) (List.Sublist.refl _) (by simp) (fun i c=>?_) (fun i j c _=>?_) s hv hQ
 ·simp_all
 ·by_cases d:i<ops.size<;>simp [Array.getD,d] at c
end
