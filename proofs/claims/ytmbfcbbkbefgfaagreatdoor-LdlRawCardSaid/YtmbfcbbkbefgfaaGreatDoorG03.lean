/- A part. -/
import Derived.Test.YtmbfcbbkbefgfaaGreatDoorG02
set_option linter.all false
open _root_.Array renaming getD->aS
open Bool renaming and_eq_true->aD,or_eq_true->aN
open List renaming cons_append->aJ,mem_append_left->aK,append_of_mem->aL,mem_cons->aM
open Nat renaming eq_of_beq_eq_true->aH,beq->aP
open _root_.Go.Op renaming operands->aC
open _root_.Go renaming Oper->aE,Value->aI,Program->aQ,Operand->aR,TypeId->aT
open _root_.Go.Proofs.YtmbfcbbkbefgfaaGreatDoor renaming Heap->aF,put_self->aG,AVal->aO
namespace Go.Proofs.YtmbfcbbkbefgfaaGreatDoor
open Go
def T3(cfg:Cfg)(o:aE):Bool:=
 match o.op with
 | .alloc _ | .box _ _=>Oh cfg o.dst
 | _=>false
def Cf(P:aQ)(cfg:Cfg)(o:aE):Bool:=Up P o||T3 cfg o
def B3s(ops:Array aE)(rem:List Nat)(y:Nat):Bool:=rem.all fun i=>match ops[i]? with
 | some o=>(match o.dst with
  | some d=> !aP d y
  | none=>true)
 | none=>true
def B1r(cfg:Cfg)(o:aE):Bool:=
 match o.op with
 | .call c=>
  match c.callee with
  | .value (.func g)=>has cfg.wr g
  | .value (.tmp _)=>true
  | .builtin .copy=>true
  | .builtin .append=>has cfg.wr 1000000000
  | _=>false
 | _=>false
def It(o:aE)(st:VS):Bool:=
 match o.op with
 | .load _ a=>(match D5 st a with
  | .own _ _=>false
  | _=>true)
 | _=>false
def Rb(cfg:Cfg)(ops:Array aE)(rem:List Nat)(oj oi:aE)(st:VS):Bool:=
 !(B1r cfg oi&&It oj st) &&
 match oi.op with
 | .store _ (.tmp y) _=>
  match oj.op with
  | .load _ a=>B3s ops rem y&&(match D5 st a,st.env y with
   | .own k _,.own k' _=> !aP k k'
   | .val _,.own _ _=>true
   | _,_=>false)
  | _=>true
 | .store _ _ _=>false
 | _=>true
def B7e(P:aQ)(cfg:Cfg)(al:Nat->List Nat)(oj:aE)(j:Nat):Bool:=Cf P cfg oj&&(al j).isEmpty
def B2s(P:aQ)(cfg:Cfg)(ops:Array aE)(anc:List (List Nat))(al:Nat->List Nat)(rem:List Nat)(st:VS)(oj:aE)(j i:Nat):Bool:=
 has (anc.getD i []) j ||
 match ops[i]? with
 | some oi=>B7e P cfg al oj j&&oj.apart ops oi&&Rb cfg ops rem oj oi st
 | none=>false
def Mc(cfg:Cfg)(o:aE):Bool:=
 match o.op with
 | .store _ _ _=>false
 | _=> !B1r cfg o
def A0v(P:aQ)(cfg:Cfg)(ops:Array aE)(anc:List (List Nat))(al:Nat->List Nat)(rem:List Nat)(st:VS)(oj:aE)(j i:Nat):Bool:=
 B2s P cfg ops anc al rem st oj j i||(!B7e P cfg al oj j&&has (al j) i)
def C3i(i:Nat):List Nat->List Nat
 | []=>[]
 | x::L=>bif aP x i then [] else x::C3i i L
def del(i:Nat):List Nat->List Nat
 | []=>[]
 | x::L=>bif aP x i then L else x::del i L
def A4r(P:aQ)(cfg:Cfg)(anc:List (List Nat))(al:Nat->List Nat)(oj:aE)(j:Nat)(L:List Nat):List Nat:=
 match B7e P cfg al oj j with
 | true=>[]
 | false=>(al j).filter fun i=>has L i&&(C3i i L).all (fun x=> !has (anc.getD i []) x) && !has (anc.getD i []) j
def C6p(f:Nat->Prop):Nat->List Nat->Prop
 | i,[]=>f i
 | i,k::r=>f i/\C6p f k r
def C6q(A:Prop)(f:Nat->Prop):List Nat->Prop
 | []=>A
 | i::r=>A/\C6p f i r
def Eu(P:aQ)(cfg:Cfg)(ops:Array aE)(anc:List (List Nat))(al:Nat->List Nat):Nat->List Nat->VS->aF->(VS->aF->Prop)->Prop
 | _,[],st,h,K=>K st h
 | 0,_::_,_,_,_=>False
 | n+1,j::L,st,h,K=>
  match ops[j]? with
  | none=>False
  | some o=>When (L.all (A0v P cfg ops anc al L st o j))
   (C6q (Ro P cfg ops o (Mc cfg o) st h fun st' h'=>Eu P cfg ops anc al n L st' h' K)
    (fun i=>
     match ops[i]? with
     | none=>False
     | some oi=>Ro P cfg ops oi (Mc cfg oi) st h fun st' h'=>Eu P cfg ops anc al n (j::del i L) st' h' K)
    (A4r P cfg anc al o j L))
def B4v{f:Nat->Prop}{i:Nat}: ∀ {k:Nat} {r:List Nat},C6p f k r->i∈k::r->f i
 | k,[],x,h=>by rw [List.mem_singleton.1 h];exact x
 | k,m::r,x,h=>by
  rcases List.mem_cons.1 h with rfl|h
  ·exact x.1
  ·exact B4v x.2 h
def A94{A:Prop}{f:Nat->Prop}: ∀ {r:List Nat},C6q A f r->A
 | [],x=>x
 | _::_,x=>x.1
def C2h{A:Prop}{f:Nat->Prop}{i:Nat}: ∀ {r:List Nat},C6q A f r->i∈r->f i
 | [],_,h=>by cases h
 | _::_,x,h=>B4v x.2 h
def A7y{i:Nat}{L2:List Nat}: ∀ {L1:List Nat},i∉L1->C3i i (L1++i::L2)=L1/\del i (L1++i::L2)=L1++L2
 | [],_=>by simp [C3i,del]
 | x::L1,h=>by
  have hx:aP x i=false:=by
   cases e:aP x i with
   | false=>rfl
   | true=>
    have b:=aH e
    subst b
    exact absurd List.mem_cons_self h
  obtain ⟨d,a⟩:=A7y (L2:=L2) (L1:=L1) (i:=i) (fun c=>h (List.mem_cons_of_mem _ c))
  simp only [aJ,C3i,del,hx,d,a,cond_false,and_self]
def C4k(ops:Array aE)(anc:List (List Nat)):Bool:=
 (List.range ops.size).all fun i=>(anc.getD i []).all fun j=>
  match ops[i]? with
  | some o=>o.after.toList.any fun e=>Region.binds .any e&&(aP e.on j||has (anc.getD e.on []) j)
  | none=>false
def B2v(ops:Array aE):List Nat->List Nat->Bool
 | _,[]=>true
 | done,i::L=>
  (match ops[i]? with
   | some o=>o.after.toList.all fun e=> !Region.binds .any e||has done e.on
   | none=>false) && !has done i&&B2v ops (i::done) L
def B4c(P:aQ)(ops:Array aE)(ord:List Nat)(anc:List (List Nat)):Bool:=
 P.follows .mixedOrders&&C4k ops anc&&B2v ops [] ord&&(List.range ops.size).all (has ord)&&aP ord.length ops.size
section
variable {P:aQ} {cfg:Cfg} {ops:Array aE}
structure AgreeOn (cfg:Cfg) (ops:Array aE) (o:aE) (st st':VS):Prop where
 env:∀ x∈o.looksAt ops,st'.env x=st.env x
 load:∀ t a k off,o.op= .load t a->D5 st a= .own k off->st'.own k=st.own k
 alloc:∀ d,T3 cfg o=true->o.dst=some d->st.own d=none->st'.own d=none
def AgreeOn.eval{o:aE}{st st':VS}(ag:AgreeOn cfg ops o st st'){x:aR}(hx:x∈o.op.operands):D5 st' x=D5 st x:=by
 cases x with
 | tmp t=>
  refine ag.env t ?_
  unfold Oper.looksAt
  exact aK _ (List.mem_filterMap.2 ⟨.tmp t,by simpa using hx,rfl⟩)
 | _=>rfl
def AgreeOn.rho{o:aE}{st st':VS}(ag:AgreeOn cfg ops o st st'){x:aR}(hx:x∈o.op.operands):rho st' x=rho st x:=by
 unfold Go.Proofs.YtmbfcbbkbefgfaaGreatDoor.rho;rw [ag.eval hx]
def A8v{z:aI}{K K':aI->Prop}(x:exV z K)(hk:∀ v,K v->K' v):exV z K':=by
 cases z<;>(unfold exV at x ⊢)<;>first
  | (obtain ⟨n,a⟩:=x;exact ⟨n,hk _ a⟩)
  | (obtain ⟨p,n,c,a⟩:=x;exact ⟨p,n,c,hk _ a⟩)
def B82{zs:List aI}: ∀ {K K':List aI->Prop},exL zs K->(∀ v,K v->K' v)->exL zs K':=by
 induction zs with
 | nil=>exact fun x a=>a _ x
 | cons z zs ih=>exact fun x a=>A8v x fun v y=>ih y fun b=>a _
def B41{z:aI}{K:aI->Prop}(x:exV z K):∃ v,K v/\∀ K':aI->Prop,K' v->exV z K':=by
 cases z<;>(unfold exV at x)<;>first
  | (obtain ⟨n,a⟩:=x;exact ⟨_,a,fun K' y=>⟨_,y⟩⟩)
  | (obtain ⟨p,n,c,a⟩:=x;exact ⟨_,a,fun K' y=>⟨_,_,_,y⟩⟩)
def C26{zs:List aI}: ∀ {K:List aI->Prop},exL zs K->∃ vs,K vs/\∀ K':List aI->Prop,K' vs->exL zs K':=by
 induction zs with
 | nil=>exact fun x=>⟨[],x,fun _ y=>y⟩
 | cons z zs ih=>
  intro K x
  obtain ⟨v,c,d⟩:=B41 x
  obtain ⟨vs,a,b⟩:=ih c
  exact ⟨v::vs,a,fun K' y=>d _ (b _ y)⟩
def A75{h:aF}{a:Addr}: ∀ {vs:List aI} {j:Nat} {X:Prop},cellsAt h a j vs X->X/\∀ h' (Y:Prop),h.le h'->Y->cellsAt h' a j vs Y:=by
 intro vs
 induction vs with
 | nil=>exact fun x=>⟨x,fun _ _ _ y=>y⟩
 | cons v vs ih=>
  intro j X ⟨h1,h2⟩
  obtain ⟨d,c⟩:=ih h2
  exact ⟨d,fun h' Y b y=>⟨B9 b h1,c h' Y b y⟩⟩
def A46{h:aF}{t:aT}{a:Addr}{C:aO->Prop}(x:At P t a h C):∃ u,C (.val u)/\∀ h' (C':aO->Prop),h.le h'->C' (.val u)->At P t a h' C':=by
 cases hag:Oi P t with
 | none=>simp only [At,hag] at x
 | some b=>
  cases b with
  | true=>
   simp only [At,hag] at x
   split at x
   ·rename_i zs g
    obtain ⟨k,x⟩:=x.both
    obtain ⟨m,d,e⟩:=C26 x
    obtain ⟨l,i⟩:=A75 d
    refine ⟨_,l,fun h' C' c y=>?_⟩
    simp only [At,hag,g,k]
    exact e _ (i h' _ c y)
   ·exact x.elim
  | false=>
   simp only [At,hag] at x
   obtain ⟨v,⟨f,j⟩,e⟩:=B41 x
   refine ⟨_,j,fun h' C' c y=>?_⟩
   simp only [At,hag]
   exact e _ ⟨B9 c f,y⟩
def A6k{t:aT}{cs:List aI}{off:Nat}{C:aO->Prop}(x:Ab P t cs off C):∃ u,C (.val u)/\∀ C':aO->Prop,C' (.val u)->Ab P t cs off C':=by
 cases hag:Oi P t with
 | none=>simp only [Ab,hag] at x
 | some b=>
  cases b with
  | true=>
   simp only [Ab,hag] at x
   obtain ⟨a,x⟩:=x.both
   exact ⟨_,x,fun C' y=>by simp only [Ab,hag,a];exact y⟩
  | false=>
   simp only [Ab,hag] at x
   split at x
   ·rename_i v c
    exact ⟨_,x,fun C' y=>by simp only [Ab,hag,c];exact y⟩
   ·exact x.elim
def Z9{v:Option aO}{dflt y:Nat}{C:Nat->Prop}(x:slBound v dflt y C):∃ m,C m/\∀ C':Nat->Prop,C' m->slBound v dflt y C':=by
 rcases x.out with ⟨rfl,a⟩|⟨k,i,rfl,b,c,a⟩
 ·exact ⟨_,a,fun _ z=>z⟩
 ·exact ⟨_,a,fun _ z=>⟨⟨b,c⟩,z⟩⟩
def A5y{t:aT}{x:aO}{lo hi:Option aO}{C:aO->Prop}(hv:Fy P t x lo hi C):∃ u,C (.val u)/\∀ C':aO->Prop,C' (.val u)->Fy P t x lo hi C':=by
 unfold Fy at hv
 split at hv
 ·rename_i s g
  obtain ⟨m,b,i⟩:=Z9 hv
  obtain ⟨l,f,d⟩:=Z9 b
  exact ⟨_,f,fun C' y=>by simp only [Fy,g];exact i (fun h=>slBound lo 0 h fun l=>C' (.val (.string (s.extract l h)))) (d (fun l=>C' (.val (.string (s.extract l m)))) y)⟩
 ·rename_i e A n c g
  obtain ⟨j,hv⟩:=hv.both
  obtain ⟨m,b,i⟩:=Z9 hv
  obtain ⟨l,f,d⟩:=Z9 b
  exact ⟨_,f,fun C' y=>by simp only [Fy,g,j];exact i (fun h=>slBound lo 0 h fun l=>C' (.val (.slice (I5 A c l (P.cellsOf e)) (h-l) (c-l)))) (d (fun l=>C' (.val (.slice (I5 A c l (P.cellsOf e)) (m-l) (c-l)))) y)⟩
 ·rename_i n e a g
  obtain ⟨j,hv⟩:=hv.both
  obtain ⟨m,b,i⟩:=Z9 hv
  obtain ⟨l,f,d⟩:=Z9 b
  exact ⟨_,f,fun C' y=>by simp only [Fy,g,j];exact i (fun h=>slBound lo 0 h fun l=>C' (.val (.slice (I5 (some a) n l (P.cellsOf e)) (h-l) (n-l)))) (d (fun l=>C' (.val (.slice (I5 (some a) n l (P.cellsOf e)) (m-l) (n-l)))) y)⟩
 ·exact hv.elim
def A0b{b:Bool}{X Y:Prop}(x:Br b X Y):(b=true/\X)\/(b=false/\Y):=by
 cases b
 ·exact .inr ⟨rfl,x⟩
 ·exact .inl ⟨rfl,x⟩
def Ty{t:aT}{x i:aO}{C:aO->Prop}(hv:P8 P t x i C):
 ∃ v,C v/\(∀ k off,v= .own k off->∃ off',x= .own k off')/\∀ C':aO->Prop,C' v->P8 P t x i C':=by
 unfold P8 at hv
 split at hv
 ·rename_i len e k off _ n d
  obtain ⟨f,hv⟩:=hv.both
  rcases A0b hv with ⟨e,hv⟩|⟨_,hv⟩
  ·exact ⟨_,hv,(fun j off' b=>by cases b;exact ⟨off,rfl⟩),fun C' y=>by simp only [P8,d,f,e];exact y⟩
  ·exact hv.elim
 ·rename_i len e a _ n d
  obtain ⟨f,g,hv⟩:=hv.both
  exact ⟨_,hv,(fun j off' b=>by cases b),fun C' y=>by simp only [P8,d,f];exact ⟨g,y⟩⟩
 ·rename_i e A n c _ i d
  obtain ⟨f,a,g,m,l,hv⟩:=hv.both
  exact ⟨_,hv,(fun j off' b=>by cases b),fun C' y=>by simp only [P8,d,f];exact ⟨a,g,m,l,y⟩⟩
 ·exact hv.elim
def Bk{st st':VS}{xs:List aR}(h:∀ x∈xs,D5 st' x=D5 st x):R4 st' xs=R4 st xs:=by
 unfold R4
 induction xs with
 | nil=>rfl
 | cons x xs ih=>simp only [List.all_cons,h x (by simp),ih (fun y a=>h y (by simp [a]))]
def Qc{o:aE}{st:VS}(hsel:∀ cs b,o.op ≠ .select cs b){C:aO->Prop}(hv:Ng P o st C):∃ u,C (.val u)/\∀ st' (C':aO->Prop),AgreeOn cfg ops o st st'->C' (.val u)->Ng P o st' C':=by
 unfold Ng at hv
 split at hv
 ·rename_i e
  split at hv
  ·rename_i v f
   refine ⟨_,hv,fun st' C' c y=>?_⟩
   unfold Ng
   have d:R4 st' o.op.operands.toList=true:=by rw [Bk (fun x a=>c.eval (by simpa using a))];exact e
   have g:execOp (rho st') o=execOp (rho st) o:=execOp_congr o hsel fun x a=>c.rho a
   rw [d]
   simp only [g,f]
   exact y
  ·exact hv.elim
 ·exact hv.elim
def A35{t:aT}{xs ys:Array aI}{C:Bool->Prop}(hv:A36 P t xs ys C):∃ b,C b/\∀ C':Bool->Prop,C' b->A36 P t xs ys C':=by
 unfold A36 at hv
 split at hv
 ·rename_i e d
  obtain ⟨a,hv⟩:=hv.both
  split at hv
  ·rename_i b c
   exact ⟨b,hv,fun C' y=>by simp only [A36,d,a,c];exact y⟩
  ·exact hv.elim
 ·exact hv.elim
def B1t{o:aE}{st:VS}{op:BinOp}{t t':aT}{x z:aR}(hop:o.op= .binOp op t x z t'){C:aO->Prop}(hv:Ku P o st op t (D5 st x) (D5 st z) C):
 ∃ u,C (.val u)/\∀ st' (C':aO->Prop),AgreeOn cfg ops o st st'->C' (.val u)->Ku P o st' op t (D5 st' x) (D5 st' z) C':=by
 have i:∀ cs b,o.op ≠ .select cs b:=by rw [hop];intro _ _ e;cases e
 have f:∀ st',AgreeOn cfg ops o st st'->D5 st' x=D5 st x/\D5 st' z=D5 st z:=fun st' d=>⟨d.eval (by rw [hop];simp [aC]),d.eval (by rw [hop];simp [aC])⟩
 unfold Ku at hv
 split at hv
 ·rename_i a c
  obtain ⟨b,k,j⟩:=A35 hv
  exact ⟨_,k,fun st' C' d y=>by rw [(f st' d).1,(f st' d).2];simp only [Ku,a,c];exact j (fun b=>C' (.val (.bool b))) y⟩
 ·rename_i a c
  obtain ⟨b,k,j⟩:=A35 hv
  exact ⟨_,k,fun st' C' d y=>by rw [(f st' d).1,(f st' d).2];simp only [Ku,a,c];exact j (fun b=>C' (.val (.bool (!b)))) y⟩
 ·rename_i a c
  obtain ⟨g,hv⟩:=hv.both
  exact ⟨_,hv,fun st' C' d y=>by rw [(f st' d).1,(f st' d).2];simp only [Ku,a,c,g];exact y⟩
 ·rename_i a c
  obtain ⟨g,hv⟩:=hv.both
  exact ⟨_,hv,fun st' C' d y=>by rw [(f st' d).1,(f st' d).2];simp only [Ku,a,c,g];exact y⟩
 ·rename_i a c
  obtain ⟨g,hv⟩:=hv.both
  rcases A0b hv with ⟨e,hv⟩|⟨e,hv⟩
  ·exact hv.elim
  ·exact ⟨_,hv,fun st' C' d y=>by rw [(f st' d).1,(f st' d).2];simp only [Ku,a,c,g,e];exact y⟩
 ·rename_i a c
  obtain ⟨g,hv⟩:=hv.both
  rcases A0b hv with ⟨e,hv⟩|⟨e,hv⟩
  ·exact hv.elim
  ·exact ⟨_,hv,fun st' C' d y=>by rw [(f st' d).1,(f st' d).2];simp only [Ku,a,c,g,e];exact y⟩
 ·rename_i a c
  rcases A0b hv with ⟨e,hv⟩|⟨e,hv⟩
  ·exact hv.elim
  ·exact ⟨_,hv,fun st' C' d y=>by rw [(f st' d).1,(f st' d).2];simp only [Ku,a,c,e];exact y⟩
 ·rename_i a c
  rcases A0b hv with ⟨e,hv⟩|⟨e,hv⟩
  ·exact hv.elim
  ·exact ⟨_,hv,fun st' C' d y=>by rw [(f st' d).1,(f st' d).2];simp only [Ku,a,c,e];exact y⟩
 ·rename_i a c
  exact ⟨_,hv.2,fun st' C' d y=>by rw [(f st' d).1,(f st' d).2];simp only [Ku,a,c];exact ⟨hv.1,y⟩⟩
 ·rename_i l w q s r B m p n
  obtain ⟨u,A,j⟩:=Qc (cfg:=cfg) (ops:=ops) i hv
  refine ⟨u,A,fun st' C' d y=>?_⟩
  rw [(f st' d).1,(f st' d).2]
  unfold Ku
  split
  ·rename_i a c;exact (l _ _ rfl a c).elim
  ·rename_i a c;exact (w _ _ rfl a c).elim
  ·rename_i a c;exact (q _ _ _ _ _ rfl a c).elim
  ·rename_i a c;exact (s _ _ _ _ _ rfl a c).elim
  ·rename_i a c;exact (r _ _ _ _ rfl a c).elim
  ·rename_i a c;exact (B _ _ _ _ rfl a c).elim
  ·rename_i a c;exact (m _ _ _ _ rfl a c).elim
  ·rename_i a c;exact (p _ _ _ _ rfl a c).elim
  ·rename_i a c;exact (n _ _ rfl a c).elim
  ·exact j st' C' d y
def C1b{o:aE}{st:VS}{h:aF}(hsel:∀ cs b,o.op ≠ .select cs b){C:aO->Prop}(hv:vcQ P o st h C):
 ∃ v,C v/\(∀ k off,v= .own k off->∃ x off',x∈o.op.operands/\D5 st x= .own k off')/\∀ st' h' C',(It o st=true->h.le h')->AgreeOn cfg ops o st st'->C' v->vcQ P o st' h' C':=by
 unfold vcQ at hv
 split at hv
 ·rename_i x a
  refine ⟨_,hv,(fun k off e=>⟨x,off,(by rw [a];simp [aC]),e⟩),fun st' h' C' g d y=>?_⟩
  unfold vcQ;simp only [a,d.eval (x:=x) (by rw [a];simp [aC])];exact y
 ·rename_i x a
  refine ⟨_,hv,(fun k off e=>⟨x,off,(by rw [a];simp [aC]),e⟩),fun st' h' C' g d y=>?_⟩
  unfold vcQ;simp only [a,d.eval (x:=x) (by rw [a];simp [aC])];exact y
 ·rename_i c x z a
  split at hv
  ·rename_i b G
   have hc:∀ st',AgreeOn cfg ops o st st'->D5 st' c= .val (.bool b)/\D5 st' x=D5 st x/\D5 st' z=D5 st z:=fun st' d=>
    ⟨by rw [d.eval (x:=c) (by rw [a];simp [aC])];exact G,d.eval (by rw [a];simp [aC]),d.eval (by rw [a];simp [aC])⟩
   rcases A0b hv with ⟨e,hv⟩|⟨e,hv⟩
   ·refine ⟨_,hv,(fun k off e=>⟨x,off,(by rw [a];simp [aC]),e⟩),fun st' h' C' g d y=>?_⟩
    obtain ⟨E,D,L⟩:=hc st' d
    unfold vcQ;simp only [a,E,D,L,e];exact y
   ·refine ⟨_,hv,(fun k off e=>⟨z,off,(by rw [a];simp [aC]),e⟩),fun st' h' C' g d y=>?_⟩
    obtain ⟨E,D,L⟩:=hc st' d
    unfold vcQ;simp only [a,E,D,L,e];exact y
  ·exact hv.elim
 ·rename_i t x a
  have n:∀ st',AgreeOn cfg ops o st st'->D5 st' x=D5 st x:=fun st' d=>d.eval (by rw [a];simp [aC])
  split at hv
  ·rename_i k off q
   split at hv
   ·rename_i cs S
    obtain ⟨u,r,w⟩:=A6k hv
    refine ⟨_,r,(fun k off e=>by cases e),fun st' h' C' g d y=>?_⟩
    unfold vcQ;simp only [a,n st' d,q,d.load t x k off a q,S];exact w C' y
   ·exact hv.elim
  ·rename_i W q
   obtain ⟨u,r,w⟩:=A46 hv
   refine ⟨_,r,(fun k off e=>by cases e),fun st' h' C' g d y=>?_⟩
   unfold vcQ;simp only [a,n st' d,q];exact w h' C' (g (by simp only [It,a,q])) y
  ·exact hv.elim
 ·rename_i s x f a
  have n:∀ st',AgreeOn cfg ops o st st'->D5 st' x=D5 st x:=fun st' d=>d.eval (by rw [a];simp [aC])
  split at hv
  ·rename_i k off q
   split at hv
   ·rename_i fs N
    split at hv
    ·rename_i fd X
     obtain ⟨G,hv⟩:=hv.both
     refine ⟨_,hv,(fun R off' e=>by cases e;exact ⟨x,off,(by rw [a];simp [aC]),q⟩),fun st' h' C' g d y=>?_⟩
     unfold vcQ;simp only [a,n st' d,q,N,X,G];exact y
    ·exact hv.elim
   ·exact hv.elim
  ·rename_i W q
   split at hv
   ·rename_i fs N
    split at hv
    ·rename_i fd X
     obtain ⟨G,hv⟩:=hv.both
     refine ⟨_,hv,(fun R off' e=>by cases e),fun st' h' C' g d y=>?_⟩
     unfold vcQ;simp only [a,n st' d,q,N,X,G];exact y
    ·exact hv.elim
   ·exact hv.elim
  ·exact hv.elim
 ·rename_i x a
  have n:∀ st',AgreeOn cfg ops o st st'->D5 st' x=D5 st x:=fun st' d=>d.eval (by rw [a];simp [aC])
  split at hv
  ·rename_i k off q
   refine ⟨_,hv,(fun R off' e=>by cases e;exact ⟨x,off,(by rw [a];simp [aC]),q⟩),fun st' h' C' g d y=>?_⟩
   unfold vcQ;simp only [a,n st' d,q];exact y
  ·rename_i p q
   obtain ⟨W,hp,hv⟩:=hv
   refine ⟨_,hv,(fun R off' e=>by cases e),fun st' h' C' g d y=>?_⟩
   unfold vcQ;simp only [a,n st' d,q];exact ⟨W,hp,y⟩
  ·exact hv.elim
 ·rename_i t x i a
  obtain ⟨v,r,hw,w⟩:=Ty hv
  refine ⟨_,r,(fun k off e=>let ⟨off',e'⟩:=hw k off e;⟨x,off',(by rw [a];simp [aC]),e'⟩),fun st' h' C' g d y=>?_⟩
  unfold vcQ;simp only [a,d.eval (x:=x) (by rw [a];simp [aC]),d.eval (x:=i) (by rw [a];simp [aC])];exact w C' y
 ·rename_i t x i a
  have n:∀ st',AgreeOn cfg ops o st st'->D5 st' x=D5 st x/\D5 st' i=D5 st i:=fun st' d=>⟨d.eval (by rw [a];simp [aC]),d.eval (by rw [a];simp [aC])⟩
  split at hv
  ·rename_i s _ j O E D
   obtain ⟨c,h0,hv⟩:=hv
   refine ⟨_,hv,(fun k off e=>by cases e),fun st' h' C' g d y=>?_⟩
   unfold vcQ;simp only [a,(n st' d).1,(n st' d).2,O,E,D];exact ⟨c,h0,y⟩
  ·rename_i Z
   obtain ⟨u,r,w⟩:=Qc (cfg:=cfg) (ops:=ops) hsel hv
   refine ⟨_,r,(fun k off e=>by cases e),fun st' h' C' g d y=>?_⟩
   unfold vcQ;simp only [a,(n st' d).1,(n st' d).2]
   exact w st' C' d y
 ·rename_i t x H J a
  obtain ⟨u,r,w⟩:=A5y hv
  refine ⟨_,r,(fun k off e=>by cases e),fun st' h' C' g d y=>?_⟩
  have n:D5 st' x=D5 st x:=d.eval (by rw [a];simp [aC])
  have F:H.map (D5 st')=H.map (D5 st):=by
   cases H with
   | none=>rfl
   | some z=>simp only [Option.map_some];rw [d.eval (x:=z) (by rw [a];simp [aC])]
  have B:J.map (D5 st')=J.map (D5 st):=by
   cases J with
   | none=>rfl
   | some z=>simp only [Option.map_some];rw [d.eval (x:=z) (by rw [a];simp [aC])]
  unfold vcQ;simp only [a,n,F,B];exact w C' y
 ·rename_i t x H J mx a
  have ev:∀ st',AgreeOn cfg ops o st st'->D5 st' x=D5 st x/\D5 st' H=D5 st H/\D5 st' J=D5 st J/\D5 st' mx=D5 st mx:=fun st' d=>⟨d.eval (by rw [a];simp [aC]),d.eval (by rw [a];simp [aC]),d.eval (by rw [a];simp [aC]),d.eval (by rw [a];simp [aC])⟩
  unfold Nf at hv
  split at hv
  ·rename_i e A m c k1 l k2 h' k3 b O n F B T
   obtain ⟨G,E,D,L,hv⟩:=hv.both
   refine ⟨_,hv,(fun k off e=>by cases e),fun st' h' C' g d y=>?_⟩
   unfold vcQ;simp only [a,(ev st' d).1,(ev st' d).2.1,(ev st' d).2.2.1,(ev st' d).2.2.2,n,F,B,T,Nf,O,G]
   exact ⟨E,D,L,y⟩
  ·exact hv.elim
 ·rename_i op t x z t' a
  obtain ⟨u,r,w⟩:=B1t (cfg:=cfg) (ops:=ops) a hv
  refine ⟨_,r,(fun k off e=>by cases e),fun st' h' C' g d y=>?_⟩
  unfold vcQ;simp only [a];exact w st' C' d y
 ·exact hv.elim
 ·rename_i Z n2 n3 n4 n5 n6 n7 n8 n9 M V Q
  obtain ⟨u,r,w⟩:=Qc (cfg:=cfg) (ops:=ops) hsel hv
  refine ⟨_,r,(fun k off e=>by cases e),fun st' h' C' g d y=>?_⟩
  unfold vcQ
  split
  ·rename_i e;exact (Z _ e).elim
  ·rename_i e;exact (n2 _ e).elim
  ·rename_i e;exact (n3 _ _ _ e).elim
  ·rename_i e;exact (n4 _ _ e).elim
  ·rename_i e;exact (n5 _ _ _ e).elim
  ·rename_i e;exact (n6 _ e).elim
  ·rename_i e;exact (n7 _ _ _ e).elim
  ·rename_i e;exact (n8 _ _ _ e).elim
  ·rename_i e;exact (n9 _ _ _ _ e).elim
  ·rename_i e;exact (M _ _ _ _ _ e).elim
  ·rename_i e;exact (V _ _ _ _ _ e).elim
  ·rename_i e;exact (Q _ e).elim
  ·exact w st' C' d y
inductive Upd where
 | put (d:Option Nat) (v:aO)
 | own (d:Nat) (cs:List aI)
def Upd.app:Upd->VS->VS
 | .put d v,s=>s.putO d v
 | .own d cs,s=>(s.put d (.own d 0)).setOwn d cs
def Upd.dst:Upd->Option Nat
 | .put d _=>d
 | .own d _=>some d
def Ly{o:aE}{j:Nat}{want:Bool}{g:Nat}(hg:o.guard=some (j,want))(hd:(ops[j]?).bind (·.dst)=some g):g∈o.looksAt ops:=by
 unfold Oper.looksAt
 refine List.mem_append_right _ ?_
 simp only [hg,hd,Option.toList_some,List.mem_singleton]
def A27{o:aE}{st:VS}{h:aF}{gr:Bool}{K:VS->aF->Prop}(hs:Cf P cfg o=true)(hv:U1 P cfg o gr st h K):
 ∃ u:Upd,u.dst=o.dst/\K (u.app st) h/\(∀ d cs,u= .own d cs->st.own d=none)/\(∀ d v k off,u= .put d v->v= .own k off->∃ x off',x∈o.op.operands/\D5 st x= .own k off')/\(∀ d cs,u= .own d cs->T3 cfg o=true)/\
  ∀ st' h' (K':VS->aF->Prop),(It o st=true->h.le h')->AgreeOn cfg ops o st st'->K' (u.app st') h'->U1 P cfg o gr st' h' K':=by
 unfold U1 at hv
 obtain ⟨A,hv⟩:=hv.both
 split at hv
 ·rename_i l
  have n:∀ cs b,o.op ≠ .select cs b:=fun cs b e=>by simp [Up,e] at l
  obtain ⟨v,E,H,C⟩:=C1b (cfg:=cfg) (ops:=ops) n hv
  refine ⟨.put o.dst v,rfl,E,(fun d cs e=>by cases e),(fun d N k off e F=>by cases e;exact H k off F),(fun d cs e=>by cases e),fun st' h' K' j g y=>?_⟩
  unfold U1;rw [A];simp only [When,l];exact C st' h' _ j g y
 ·rename_i l
  have a:T3 cfg o=true:=by simpa [Cf,l] using hs
  have m:∀ cells:List aI,Ie cfg o.dst cells st h K->∃ u:Upd,u.dst=o.dst/\K (u.app st) h/\(∀ d cs,u= .own d cs->st.own d=none)/\(∀ d v k off,u= .put d v->v= .own k off->∃ x off',x∈o.op.operands/\D5 st x= .own k off')/\(∀ d cs,u= .own d cs->T3 cfg o=true)/\
   ∀ st' h' (K':VS->aF->Prop),(It o st=true->h.le h')->AgreeOn cfg ops o st st'->K' (u.app st') h'->Ie cfg o.dst cells st' h' K':=by
   intro cells hv
   unfold Ie at hv
   split at hv
   ·rename_i d i
    obtain ⟨f,hv⟩:=hv.both
    simp only [aD,Option.isNone_iff_eq_none] at f
    refine ⟨.own d cells,i.symm,hv,(fun J cs e=>by cases e;exact f.2),(fun J v k off e _=>by cases e),(fun _ _ _=>a),fun st' h' K' j g y=>?_⟩
    have M:st'.own d=none:=g.alloc d a i f.2
    rw [i]
    simp only [Ie,f.1.1,f.1.2,M,Option.isNone_none,Bool.and_self,When]
    exact y
   ·exact hv.elim
  have B:=a
  unfold T3 at a
  split at hv
  ·rename_i t c
   rw [c] at a
   simp only [a] at hv
   obtain ⟨G,hv⟩:=hv.both
   obtain ⟨u,s,r,q,w,p,D⟩:=m _ hv
   refine ⟨u,s,r,q,w,p,fun st' h' K' j g y=>?_⟩
   unfold U1;rw [A];simp only [When,l,c,a,G];exact D st' h' K' j g y
  ·rename_i t x c
   rw [c] at a
   obtain ⟨L,hv⟩:=hv.both
   simp only [a] at hv
   obtain ⟨u,s,r,q,w,p,D⟩:=m _ hv
   refine ⟨u,s,r,q,w,p,fun st' h' K' j g y=>?_⟩
   have z:=g.eval (x:=x) (by rw [c];simp [aC])
   unfold U1;rw [A];simp only [When,l,c,a,z,L,g.rho (x:=x) (by rw [c];simp [aC])];exact D st' h' K' j g y
  all_goals (rename_i c;simp [c] at a)
def B9o{o:aE}{st:VS}{h:aF}{gr:Bool}{K:VS->aF->Prop}(hs:Cf P cfg o=true)(hv:Ro P cfg ops o gr st h K):
 ∃ u:Upd,u.dst=o.dst/\K (u.app st) h/\(∀ d cs,u= .own d cs->st.own d=none)/\(∀ d v k off,u= .put d v->v= .own k off->∃ x off',x∈o.op.operands/\D5 st x= .own k off')/\(∀ d cs,u= .own d cs->T3 cfg o=true)/\
  ∀ st' h' (K':VS->aF->Prop),(It o st=true->h.le h')->AgreeOn cfg ops o st st'->K' (u.app st') h'->Ro P cfg ops o gr st' h' K':=by
 unfold Ro at hv
 split at hv
 ·rename_i m
  obtain ⟨u,w,s,r,A,q,D⟩:=A27 (ops:=ops) hs hv
  exact ⟨u,w,s,r,A,q,fun st' h' K' p g y=>by unfold Ro;simp only [m];exact D st' h' K' p g y⟩
 ·rename_i j C m
  split at hv
  ·exact hv.elim
  ·rename_i i f
   split at hv
   ·rename_i b n
    have c:=Ly m f
    have skip:∀ E:Bool,b=E->When (S0 cfg o.dst) (K ((st.put i (.val (.bool E))).putO o.dst (.val undef)) h)->S0 cfg o.dst=true/\K (st.putO o.dst (.val undef)) h:=by
     intro E e x
     subst e
     rw [aG st n] at x
     exact x.both
    cases b<;>cases C
    ·have l:U1 P cfg o gr (st.put i (.val (.bool false))) h K:=hv
     rw [aG st n] at l
     obtain ⟨u,w,s,r,A,q,D⟩:=A27 (ops:=ops) hs l
     refine ⟨u,w,s,r,A,q,fun st' h' K' p g y=>?_⟩
     have a:st'.env i= .val (.bool false):=by rw [g.env i c];exact n
     unfold Ro;simp only [m,f,a,Br]
     rw [aG st' a];exact D st' h' K' p g y
    ·obtain ⟨B,t⟩:=skip false rfl hv
     refine ⟨.put o.dst (.val undef),rfl,t,(fun d cs e=>by cases e),(fun d v k off e z=>by cases e;cases z),(fun d cs e=>by cases e),fun st' h' K' p g y=>?_⟩
     have a:st'.env i= .val (.bool false):=by rw [g.env i c];exact n
     unfold Ro;simp only [m,f,a,Br]
     rw [aG st' a,B];exact y
    ·obtain ⟨B,t⟩:=skip true rfl hv
     refine ⟨.put o.dst (.val undef),rfl,t,(fun d cs e=>by cases e),(fun d v k off e z=>by cases e;cases z),(fun d cs e=>by cases e),fun st' h' K' p g y=>?_⟩
     have a:st'.env i= .val (.bool true):=by rw [g.env i c];exact n
     unfold Ro;simp only [m,f,a,Br]
     rw [aG st' a,B];exact y
    ·have l:U1 P cfg o gr (st.put i (.val (.bool true))) h K:=hv
     rw [aG st n] at l
     obtain ⟨u,w,s,r,A,q,D⟩:=A27 (ops:=ops) hs l
     refine ⟨u,w,s,r,A,q,fun st' h' K' p g y=>?_⟩
     have a:st'.env i= .val (.bool true):=by rw [g.env i c];exact n
     unfold Ro;simp only [m,f,a,Br]
     rw [aG st' a];exact D st' h' K' p g y
   ·rename_i F n
    have c:=Ly m f
    obtain ⟨B,t⟩:=hv.both
    refine ⟨.put o.dst (.val undef),rfl,t,(fun d cs e=>by cases e),(fun d v k off e z=>by cases e;cases z),(fun d cs e=>by cases e),fun st' h' K' p g y=>?_⟩
    have a:st'.env i= .val (.tuple F):=by rw [g.env i c];exact n
    unfold Ro;simp only [m,f,a]
    rw [B];exact y
   ·exact hv.elim
def Ts{z:aI}{K K':aI->Prop}(x:exT z K)(hk:∀ v,K v->K' v):exT z K':=by
 unfold exT at x ⊢
 split at x
 ·exact B82 x fun a=>hk _
 ·exact A8v x hk
def B42{zs:List aI}: ∀ {K K':List aI->Prop},exTs zs K->(∀ v,K v->K' v)->exTs zs K':=by
 induction zs with
 | nil=>exact fun x a=>a _ x
 | cons z zs ih=>exact fun x a=>Ts x fun v y=>ih y fun b=>a _
def Vt{t:aT}{K K':aI->Prop}(x:exRt P t K)(hk:∀ v,K v->K' v):exRt P t K':=by
 unfold exRt at x ⊢
 split at x
 ·exact B42 x fun a=>hk _
 ·exact Ts x hk
def WFs(st:VS):Prop:=∀ i k off,st.env i= .own k off->(st.own k).isSome=true
structure Frm (o:aE) (st st':VS):Prop where
 env:∀ x,o.dst≠some x->st'.env x=st.env x
 own:∀ k,(o.dst=some k->(st.own k).isSome=true)->(∀ t a b off,o.op= .store t a b->D5 st a ≠ .own k off)->st'.own k=st.own k
 wf:WFs st'
def A20{st:VS}(wf:WFs st){x:aR}{k off:Nat}(e:D5 st x= .own k off):(st.own k).isSome=true:=by
 cases x with
 | tmp t=>exact wf t k off e
 | _=>cases e
def Qf(st:VS)(d:Option Nat)(v:aO)(x:Nat):(st.putO d v).env x=if d=some x then v else st.env x:=by
 cases d with
 | none=>simp [VS.putO]
 | some d=>
  by_cases h:x=d
  ·subst h;simp [VS.putO,VS.put]
  ·have:¬ d=x:=fun e=>h e.symm
   simp [VS.putO,VS.put,Eb h,this]
def T9{o:aE}{st:VS}(wf:WFs st)(u:aI):Frm o st (st.putO o.dst (.val u)):=by
 refine ⟨fun x a=>by rw [Qf,iN a],fun k _ _=>by rw [Q4],fun i k off e=>?_⟩
 rw [Qf] at e
 rw [Q4]
 split at e
 ·cases e
 ·exact wf i k off e
def Fu{u:Upd}{st:VS}{x:Nat}(h:u.dst≠some x):(u.app st).env x=st.env x:=by
 cases u with
 | put d v=>simp only [Upd.app,Qf];rw [iN (show d≠some x from h)]
 | own d cs=>
  have:x≠d:=fun e=>h (by rw [e];rfl)
  simp [Upd.app,VS.setOwn,VS.put,Eb this]
def Cz{u:Upd}{st:VS}{k:Nat}(h:∀ d cs,u= .own d cs->k≠d):(u.app st).own k=st.own k:=by
 cases u with
 | put d v=>simp only [Upd.app,Q4]
 | own d cs=>exact G9 _ _ (h d cs rfl)
def Rs(st:VS){d e:Nat}(v u:aO)(h:d≠e):(st.put d v).put e u=(st.put e u).put d v:=by
 unfold VS.put
 congr 1
 funext i
 by_cases a:i=d
 ·subst a;simp [Eb h]
 ·by_cases b:i=e
  ·subst b;simp [Eb a]
  ·simp [Eb a,Eb b]
def J4{u:Upd}{st:VS}{d:Option Nat}{v:aO}(h:∀ x,u.dst=some x->d≠some x):(u.app st).putO d v=u.app (st.putO d v):=by
 cases d with
 | none=>rfl
 | some d=>
  cases u with
  | put e w=>
   cases e with
   | none=>rfl
   | some e=>exact Rs st w v (fun x=>h e rfl (congrArg some x.symm))
  | own e cs=>
   have:=Rs st (.own e 0) v (fun x=>h e rfl (congrArg some x.symm))
   show ((st.put e (.own e 0)).setOwn e cs).put d v=((st.put d v).put e (.own e 0)).setOwn e cs
   rw [<- this];rfl
def Jt{u:Upd}{st:VS}{k:Nat}{cs:List aI}(h:∀ d c,u= .own d c->k≠d):(u.app st).setOwn k cs=u.app (st.setOwn k cs):=by
 cases u with
 | put d v=>cases d<;>rfl
 | own d c=>
  have e:=h d c rfl
  show ((st.put d (.own d 0)).setOwn d c).setOwn k cs=((st.setOwn k cs).put d (.own d 0)).setOwn d c
  unfold VS.setOwn VS.put
  congr 1
  funext i
  by_cases a:i=d
  ·subst a;simp [Eb (Ne.symm e)]
  ·by_cases b:i=k
   ·subst b;simp [Eb a]
   ·simp [Eb a,Eb b]
def B8l{u v:Upd}{st:VS}(h:∀ x,u.dst=some x->v.dst≠some x):v.app (u.app st)=u.app (v.app st):=by
 cases v with
 | put d w=>exact J4 h
 | own d cs=>
  have a:(u.app st).put d (.own d 0)=u.app (st.put d (.own d 0)):=J4 (d:=some d) h
  show ((u.app st).put d (.own d 0)).setOwn d cs=_
  rw [a,Jt (fun e c eq=>by subst eq;exact fun x=>h e rfl (by rw [<- x];rfl))];rfl
def Frm.upd{o:aE}{u:Upd}{st:VS}(hd:u.dst=o.dst)(wf:WFs st)(hv:∀ d v k off,u= .put d v->v= .own k off->∃ x off',D5 st x= .own k off')(hn:∀ d cs,u= .own d cs->st.own d=none):Frm o st (u.app st):=by
 refine ⟨fun x a=>Fu (by rw [hd];exact a),fun k f _=>Cz (fun d cs e=>?_),fun i k off e=>?_⟩
 ·rintro rfl
  have:=f (by rw [<- hd,e];rfl)
  rw [hn k cs e] at this;cases this
 cases u with
 | put d v=>
  simp only [Upd.app,Q4] at e ⊢
  rw [Qf] at e
  split at e
  ·obtain ⟨x,off',a⟩:=hv d v k off rfl e
   exact A20 wf a
  ·exact wf i k off e
 | own d cs=>
  have b:=hn d cs rfl
  by_cases c:i=d
  ·subst c
   have:((st.put i (.own i 0)).setOwn i cs).env i= .own i 0:=by simp [VS.setOwn,VS.put]
   simp only [Upd.app] at e ⊢
   rw [this] at e
   injection e with e1 e2;subst e1
   rw [Aa];rfl
  ·rw [Fu (u:=.own d cs) (fun x=>c (by cases x;rfl))] at e
   have:=wf i k off e
   have g:k≠d:=by rintro rfl;rw [b] at this;cases this
   rw [Cz (u:=.own d cs) (fun m l j=>by cases j;exact g)];exact this
structure Before (cfg:Cfg) (ops:Array aE) (u:Upd) (o:aE) (st:VS):Prop where
 look:∀ x,u.dst=some x->x∉o.looksAt ops
 dst:∀ x,u.dst=some x->o.dst≠some x
 free:∀ d cs,u= .own d cs->st.own d=none
 wf:WFs st
def Before.eval{u:Upd}{o:aE}{st:VS}(b:Before cfg ops u o st){x:aR}(hx:x∈o.op.operands):D5 (u.app st) x=D5 st x:=by
 cases x with
 | tmp t=>
  refine Fu fun e=>b.look t e ?_
  unfold Oper.looksAt
  exact aK _ (List.mem_filterMap.2 ⟨.tmp t,by simpa using hx,rfl⟩)
 | _=>rfl
def Before.rho{u:Upd}{o:aE}{st:VS}(b:Before cfg ops u o st){x:aR}(hx:x∈o.op.operands):rho (u.app st) x=rho st x:=by
 unfold Go.Proofs.YtmbfcbbkbefgfaaGreatDoor.rho;rw [b.eval hx]
def Before.key{u:Upd}{o:aE}{st:VS}(b:Before cfg ops u o st){x:aR}{k off:Nat}(e:D5 st x= .own k off):∀ d cs,u= .own d cs->k≠d:=by
 rintro d cs a rfl
 have:=A20 b.wf e
 rw [b.free k cs a] at this;cases this
def Grw(cfg:Cfg)(o:aE)(st:VS)(h h':aF):Prop:=B1r cfg o=false->(∀ t a b,o.op= .store t a b->∃ k off,D5 st a= .own k off)->h.le h'
def Grw.of{cfg:Cfg}{o:aE}{st:VS}{h h':aF}(x:h.le h'):Grw cfg o st h h':=fun _ _=>x
def Grow.map{gr:Bool}{h h':aF}{X Y:Prop}(x:Grow gr h h' X)(f:X->(gr=true->h.le h')->Y):Grow gr h h' Y:=by
 cases gr
 ·exact f x (fun e=>by cases e)
 ·exact ⟨x.1,f x.2 (fun _=>x.1)⟩
def Vu{u:Upd}{o:aE}{st:VS}(b:Before cfg ops u o st){s:Sem aI}{h:aF}{K:VS->aF->Prop}{K':VS->aF->Prop}(hk:∀ st' h',K (u.app st') h'->Grw cfg o st h h'->Frm o st st'->K' st' h')(x:effV P s o true (u.app st) h K):
 effV P s o true st h K':=by
 refine Jx s x fun v h' y=>Ts y fun w ⟨e,a,c⟩=>⟨e,a,hk _ _ ?_ (Grw.of a) (T9 b.wf w)⟩
 rwa [J4 (fun z d=>b.dst z d)] at c
def Zj{u:Upd}{o:aE}{st:VS}{gr:Bool}(b:Before cfg ops u o st)(hgw:B1r cfg o=false->gr=true){s:Sem aI}{h:aF}{K:VS->aF->Prop}{K':VS->aF->Prop}(hk:∀ st' h',K (u.app st') h'->Grw cfg o st h h'->Frm o st st'->K' st' h')(x:effV P s o gr (u.app st) h K):
 effV P s o gr st h K':=by
 refine Jx s x fun v h' y=>Ts y fun w ⟨c,g⟩=>⟨c,g.map fun f d=>hk _ _ ?_ (fun e _=>d (hgw e)) (T9 b.wf w)⟩
 rwa [J4 (fun z a=>b.dst z a)] at f
def A4h{u:Upd}{o:aE}{st:VS}(b:Before cfg ops u o st){s:Sem aI}{h:aF}{K:VS->aF->Prop}{K':VS->aF->Prop}(hk:∀ st' h',K (u.app st') h'->Grw cfg o st h h'->Frm o st st'->K' st' h')(x:effP P s o true (u.app st) h K):
 effP P s o true st h K':=by
 refine Jx s x fun v h' ⟨w,e,a,c⟩=>⟨w,e,a,hk _ _ ?_ (Grw.of a) (T9 b.wf _)⟩
 rwa [J4 (fun z d=>b.dst z d)] at c
def B48{u:Upd}{o:aE}{st:VS}(b:Before cfg ops u o st){s:Sem Unit}{h:aF}{K:VS->aF->Prop}{K':VS->aF->Prop}(hno:¬ (∀ t a b,o.op= .store t a b->∃ k off,D5 st a= .own k off))(hk:∀ st' h',K (u.app st') h'->Grw cfg o st h h'->Frm o st st'->K' st' h')(x:effU P s o false (u.app st) h K):
 effU P s o false st h K':=by
 refine Jx s x fun v h' c=>?_
 have c:K ((u.app st).putO o.dst (.val undef)) h':=c
 rw [J4 (fun z e=>b.dst z e)] at c
 exact hk _ _ c (fun _ d=>absurd d hno) (T9 b.wf _)
def Wd{u:Upd}{o:aE}{st:VS}(b:Before cfg ops u o st)(hs:Cf P cfg o=false){h:aF}{K:VS->aF->Prop}{K':VS->aF->Prop}(hk:∀ st' h',K (u.app st') h'->Grw cfg o st h h'->Frm o st st'->K' st' h')(hv:U1 P cfg o (Mc cfg o) (u.app st) h K):U1 P cfg o (Mc cfg o) st h K':=by
 unfold U1 at hv ⊢
 obtain ⟨hd,hv⟩:=hv.both
 rw [hd]
 simp only [Cf,Bool.or_eq_false_iff] at hs
 simp only [hs.1] at hv ⊢
 show (match o.op with
  | .alloc t=>_
  | .box t x=>_
  | .store t a x=>_
  | .makeSlice t l c=>_
  | .buildSlice t n T=>_
  | .convert s d x=>_
  | .call c=>_
  | _=>_)
 split at hv
 ·rename_i t j
  have q:Mc cfg o=true:=by simp [Mc,B1r,j]
  rw [q] at hv ⊢
  have:Oh cfg o.dst=false:=by simpa [T3,j] using hs.2
  simp only [j,this] at hv ⊢
  exact A4h b hk hv
 ·rename_i t x j
  have q:Mc cfg o=true:=by simp [Mc,B1r,j]
  rw [q] at hv ⊢
  have:Oh cfg o.dst=false:=by simpa [T3,j] using hs.2
  have E:x∈o.op.operands:=by rw [j];simp [aC]
  simp only [j,this,b.eval E,b.rho E] at hv ⊢
  obtain ⟨m,hv⟩:=hv.both
  rw [m]
  exact A4h b hk hv
 ·rename_i t a x j
  have q:Mc cfg o=false:=by simp [Mc,j]
  rw [q] at hv ⊢
  have C:a∈o.op.operands:=by rw [j];simp [aC]
  have E:x∈o.op.operands:=by rw [j];simp [aC]
  simp only [j]
  unfold A5x at hv ⊢
  rw [b.eval C] at hv
  split at hv
  ·rename_i k off M
   have J:=b.key M
   rw [Cz J] at hv
   try simp only [M]
   split at hv
   ·rename_i cs aa
    try simp only [aa]
    rw [b.eval E,b.rho E] at hv
    obtain ⟨m,hv⟩:=hv.both
    rw [m]
    rw [Jt J,J4 (fun z R=>b.dst z R)] at hv
    refine hk _ _ hv (Grw.of (B5 h)) (⟨fun y A=>by rw [Qf,iN A];rfl,fun k' _ O=>?_,fun i k' W e=>?_⟩)
    ·rw [Q4,G9]
     rintro rfl;exact O t a x off j M
    ·rw [Qf] at e
     rw [Q4]
     split at e
     ·cases e
     ·have:=b.wf i k' W e
      by_cases V:k'=k
      ·subst V;rw [Aa];rfl
      ·rw [G9 _ _ V];exact this
   ·exact hv.elim
  ·rename_i p Q
   try simp only [Q]
   rw [b.eval E,b.rho E] at hv
   obtain ⟨m,hv⟩:=hv.both
   rw [m]
   exact B48 b (fun E=>by obtain ⟨k,off,e⟩:=E _ _ _ j;rw [Q] at e;cases e) hk hv
  ·exact hv.elim
 ·rename_i t l c j
  have q:Mc cfg o=true:=by simp [Mc,B1r,j]
  rw [q] at hv ⊢
  have hl:l∈o.op.operands:=by rw [j];simp [aC]
  have hc:c∈o.op.operands:=by rw [j];simp [aC]
  have C:R4 (u.app st) [l,c]=R4 st [l,c]:=Bk fun y A=>by
   simp only [aM,List.not_mem_nil,or_false] at A
   rcases A with rfl|rfl
   ·exact b.eval hl
   ·exact b.eval hc
  simp only [j]
  rw [C,b.rho hl,b.rho hc] at hv
  obtain ⟨m,hv⟩:=hv.both
  rw [m]
  exact Vu b hk hv
 ·rename_i t n T j
  have q:Mc cfg o=true:=by simp [Mc,B1r,j]
  rw [q] at hv ⊢
  have Q:∀ p∈T,p.2∈o.op.operands:=fun p Q=>by
   rw [j];simp only [aC,List.mem_toArray,List.mem_map,Array.mem_toList_iff]
   exact ⟨p,Q,rfl⟩
  have C:R4 (u.app st) (T.toList.map (·.2))=R4 st (T.toList.map (·.2)):=Bk fun y A=>by
   obtain ⟨p,L,rfl⟩:=List.mem_map.1 A
   exact b.eval (Q p (by simpa using L))
  have S:(T.map fun (i,x)=>(i,rho (u.app st) x))=T.map fun (i,x)=>(i,rho st x):=by
   apply Array.map_congr_left
   intro p L
   simp only [b.rho (Q p L)]
  simp only [j]
  rw [C,S] at hv
  obtain ⟨m,hv⟩:=hv.both
  rw [m]
  exact Vu b hk hv
 ·rename_i s d x j
  have q:Mc cfg o=true:=by simp [Mc,B1r,j]
  rw [q] at hv ⊢
  have E:x∈o.op.operands:=by rw [j];simp [aC]
  have C:R4 (u.app st) [x]=R4 st [x]:=Bk fun y A=>by
   simp only [aM,List.not_mem_nil,or_false] at A
   rw [A];exact b.eval E
  simp only [j]
  rw [C,b.rho E] at hv
  obtain ⟨m,hv⟩:=hv.both
  rw [m]
  exact Vu b hk hv
 ·rename_i c j
  generalize q:Mc cfg o=gr at hv ⊢
  have G:B1r cfg o=false->gr=true:=fun e=>by rw [<- q];simp [Mc,j,e]
  have F:∀ y∈c.args,y∈o.op.operands:=fun y A=>by
   rw [j];simp only [aC,Call.operands];exact Array.mem_append.2 (.inr A)
  have C:R4 (u.app st) c.args.toList=R4 st c.args.toList:=Bk fun y A=>b.eval (F y (by simpa using A))
  have S:c.args.map (rho (u.app st))=c.args.map (rho st):=Array.map_congr_left fun y A=>b.rho (F y A)
  simp only [j]
  split at hv
  ·rename_i f D
   try simp only [D]
   unfold A7x at hv ⊢
   have hf:f∈o.op.operands:=by rw [j];simp [aC,Call.operands,D]
   rw [b.eval hf] at hv
   split at hv
   ·rename_i g first B N
    try simp only [N]
    split at hv
    ·rename_i H
     rw [C,S] at hv
     obtain ⟨m,hv⟩:=hv.both
     try simp only [H]
     rw [m]
     refine FCall.mono hv fun r h' y=>Vt y fun w ⟨m,O⟩=>⟨m,O.map fun X Z=>hk _ _ ?_ (fun e _=>Z (G e)) (T9 b.wf w)⟩
     rwa [J4 (fun z R=>b.dst z R)] at X
    ·rename_i H
     rw [C,S] at hv
     obtain ⟨m,hv⟩:=hv.both
     try simp only [H]
     rw [m]
     refine ECall.mono hv fun r h' y=>Vt y fun w ⟨m,O⟩=>⟨m,O.map fun X Z=>hk _ _ ?_ (fun e _=>Z (G e)) (T9 b.wf w)⟩
     rwa [J4 (fun z R=>b.dst z R)] at X
   ·rename_i l first B N
    try simp only [N]
    rw [C,S] at hv
    obtain ⟨m,hv⟩:=hv.both
    rw [m]
    refine YCall.mono hv fun r h' y=>Vt y fun w ⟨m,O⟩=>⟨m,O.map fun X Z=>hk _ _ ?_ (fun e _=>Z (G e)) (T9 b.wf w)⟩
    rwa [J4 (fun z R=>b.dst z R)] at X
   ·exact hv.elim
  ·rename_i D
   try simp only [D]
   rw [C,S] at hv
   obtain ⟨m,hv⟩:=hv.both
   rw [m]
   exact Zj b G hk hv
  ·rename_i D
   try simp only [D]
   rw [C,S] at hv
   obtain ⟨m,hv⟩:=hv.both
   rw [m]
   exact Zj b G hk hv
  ·exact hv.elim
 ·exact hv.elim
def B2x{u:Upd}{o:aE}{st:VS}(b:Before cfg ops u o st){h:aF}{K:VS->aF->Prop}{K':VS->aF->Prop}(hk:∀ st' h',K (u.app st') h'->Grw cfg o st h h'->Frm o st st'->K' st' h')(hv:Ro P cfg ops o (Mc cfg o) (u.app st) h K):Ro P cfg ops o (Mc cfg o) st h K':=by
 cases hs:Cf P cfg o with
 | true=>
  obtain ⟨v,m,l,H,L,R,Q⟩:=B9o (ops:=ops) hs hv
  have J:AgreeOn cfg ops o (u.app st) st:=by
   refine ⟨fun x r=>(Fu fun e=>b.look x e r).symm,fun t a k off C e=>?_,fun d _ M y=>(Cz fun N E e=>?_).symm.trans y⟩
   ·rw [b.eval (by rw [C];simp [aC])] at e
    exact (Cz (b.key e)).symm
   ·rintro rfl
    exact b.dst d (by rw [e];rfl) M
  refine Q st h _ (fun _=>B5 h) J (hk _ _ ?_ (Grw.of (B5 h)) (Frm.upd m b.wf (fun d w k off e B=>?_) (fun d E e=>?_)))
  ·rw [<- B8l (fun x r=>by rw [m];exact b.dst x r)];exact l
  ·obtain ⟨x,n,r,s⟩:=L d w k off e B
   exact ⟨x,n,by rw [<- b.eval r];exact s⟩
  ·have:=H d E e
   rwa [Cz (fun N O B=>by
    rintro rfl
    exact b.dst d (by rw [B];rfl) (by rw [<- m,e];rfl))] at this
 | false=>
  unfold Ro at hv ⊢
  split at hv
  ·rename_i G
   exact Wd b hs hk hv
  ·rename_i j q G
   split at hv
   ·exact hv.elim
   ·rename_i g A
    have p:=Ly (o:=o) G A
    have s:(u.app st).env g=st.env g:=Fu fun e=>b.look g e p
    rw [s] at hv
    split at hv
    ·rename_i F i
     have f:(u.app st).env g= .val (.bool F):=by rw [s];exact i
     have skip:S0 cfg o.dst=true/\K ((u.app st).putO o.dst (.val undef)) h->When (S0 cfg o.dst) (K' (st.putO o.dst (.val undef)) h):=by
      rintro ⟨m,l⟩
      rw [m]
      rw [J4 (fun z D=>b.dst z D)] at l
      exact hk _ _ l (Grw.of (B5 h)) (T9 b.wf _)
     try simp only [i]
     cases F<;>cases q
     ·have c:U1 P cfg o (Mc cfg o) ((u.app st).put g (.val (.bool false))) h K:=hv
      rw [aG _ f] at c
      simp only [Br];rw [aG st i]
      exact Wd b hs hk c
     ·have c:When (S0 cfg o.dst) (K (((u.app st).put g (.val (.bool false))).putO o.dst (.val undef)) h):=hv
      rw [aG _ f] at c
      simp only [Br];rw [aG st i]
      exact skip c.both
     ·have c:When (S0 cfg o.dst) (K (((u.app st).put g (.val (.bool true))).putO o.dst (.val undef)) h):=hv
      rw [aG _ f] at c
      simp only [Br];rw [aG st i]
      exact skip c.both
     ·have c:U1 P cfg o (Mc cfg o) ((u.app st).put g (.val (.bool true))) h K:=hv
      rw [aG _ f] at c
      simp only [Br];rw [aG st i]
      exact Wd b hs hk c
    ·rename_i S i
     try simp only [i]
     obtain ⟨m,l⟩:=hv.both
     rw [m]
     rw [J4 (fun z D=>b.dst z D)] at l
     exact hk _ _ l (Grw.of (B5 h)) (T9 b.wf _)
    ·exact hv.elim
def Ut{o:aE}{st:VS}(wf:WFs st){h:aF}{K K':VS->aF->Prop}(hv:Ro P cfg ops o (Mc cfg o) st h K)(hk:∀ st' h',K st' h'->Grw cfg o st h h'->Frm o st st'->K' st' h'):Ro P cfg ops o (Mc cfg o) st h K':=
 B2x (u:=.put none (.val undef)) ⟨(fun x e=>by cases e),(fun x e=>by cases e),(fun d a e=>by cases e),wf⟩ hk hv
def B8a{oj oi x:aE}{st st':VS}{rem rem':List Nat}(hsub:∀ i∈rem',i∈rem)(hfr:Frm oi st st')(hap:oj.apart ops oi=true)(hmem:∃ i:Nat,i∈rem/\ops[i]? = some oi)(h:Rb cfg ops rem oj x st=true):Rb cfg ops rem' oj x st'=true:=by
 obtain ⟨_,_,k⟩:=Oper.apart_spec hap
 unfold Rb at h ⊢
 simp only [aD] at h ⊢
 obtain ⟨m,h⟩:=h
 have c:It oj st'=It oj st:=by
  unfold It
  split
  ·rename_i l a f
   have g:D5 st' a=D5 st a:=by
    cases a with
    | tmp z=>
     refine hfr.env z fun e=>k z e ?_
     unfold Oper.looksAt
     exact aK _ (List.mem_filterMap.2 ⟨.tmp z,by rw [f];simp [aC],rfl⟩)
    | _=>rfl
   rw [g]
  ·rfl
 refine ⟨by rw [c];exact m,?_⟩
 split at h
 ·rename_i t y b o
  split at h
  ·rename_i l a f
   simp only [aD] at h ⊢
   refine ⟨List.all_eq_true.2 fun i j=>List.all_eq_true.1 h.1 i (hsub i j),?_⟩
   have g:D5 st' a=D5 st a:=by
    cases a with
    | tmp z=>
     refine hfr.env z fun e=>k z e ?_
     unfold Oper.looksAt
     exact aK _ (List.mem_filterMap.2 ⟨.tmp z,by rw [f];simp [aC],rfl⟩)
    | _=>rfl
   have n:st'.env y=st.env y:=by
    refine hfr.env y fun e=>?_
    obtain ⟨i,j,d⟩:=hmem
    have:=List.all_eq_true.1 h.1 i j
    simp only [d,e] at this
    simp [Nat.beq_refl] at this
   rw [g,n];exact h.2
  ·exact h
 ·exact h
 ·exact h
def swap{oj oi:aE}{st:VS}{rem:List Nat}(wf:WFs st)(hs:Cf P cfg oj=true)(hap:oj.apart ops oi=true)(hc:Rb cfg ops rem oj oi st=true){h:aF}{K:VS->aF->Prop}
 (hv:Ro P cfg ops oj (Mc cfg oj) st h fun st1 h1=>Ro P cfg ops oi (Mc cfg oi) st1 h1 K):Ro P cfg ops oi (Mc cfg oi) st h fun st1 h1=>Frm oi st st1/\Ro P cfg ops oj (Mc cfg oj) st1 h1 K:=by
 obtain ⟨G,q,z⟩:=Oper.apart_spec hap
 obtain ⟨u,h1,C,A,O,M,L⟩:=B9o (ops:=ops) hs hv
 have b:Before cfg ops u oi st:=⟨fun x e=>G x (by rw [<- h1];exact e),fun x e=>q x (by rw [<- h1];exact e),A,wf⟩
 have g:=hc
 unfold Rb at g
 simp only [aD] at g
 have hc:=g.2
 have F:It oj st=true->B1r cfg oi=false:=fun e=>by
  have:=g.1
  rw [e] at this
  simpa using this
 refine B2x b (fun p B D w m=>⟨m,L p B K (fun c=>w (F c) fun r n s i=>?_) ?_ D⟩) C
 ·obtain ⟨t,x,hld⟩:∃ t x,oj.op= .load t x:=by
   unfold It at c
   split at c
   ·exact ⟨_,_,by assumption⟩
   ·cases c
  rw [i] at hc
  cases n with
  | tmp y=>
   simp only [hld,aD] at hc
   show ∃ k off,st.env y= .own k off
   revert hc
   cases D5 st x<;>cases st.env y<;>simp
  | _=>simp at hc
 refine ⟨fun x H=>m.env x fun e=>z x e H,fun t a k off o e=>m.own k (fun _=>A20 wf e) (fun r n s j i f=>?_),fun d N E l=>(m.own d (fun e=>absurd e (q d E)) (fun r n s j i f=>?_)).trans l⟩
 ·rw [i] at hc
  cases n with
  | tmp y=>
   simp only [o,aD] at hc
   have J:st.env y= .own k j:=f
   rw [e,J] at hc
   simp [Nat.beq_refl] at hc
  | _=>simp at hc
 ·have:=A20 wf f
  rw [l] at this;cases this
def C4e{anc:List (List Nat)}{al:Nat->List Nat}{i:Nat}{oi:aE}(hi:ops[i]? = some oi){L2:List Nat}{K:VS->aF->Prop}: ∀ (L1:List Nat) (n:Nat) (st:VS) (h:aF),n=L1.length+L2.length->WFs st->(∀ j∈L1,has (anc.getD i []) j=false)->i∉L1->
 Eu P cfg ops anc al (n+1) (L1++i::L2) st h K->Ro P cfg ops oi (Mc cfg oi) st h fun st' h'=>WFs st'/\Eu P cfg ops anc al n (L1++L2) st' h' K:=by
 intro L1
 induction L1 with
 | nil=>
  intro n st h _ wf _ _ g
  simp only [List.nil_append,Eu,hi] at g
  exact Ut wf (A94 g.both.2) fun st' h' l _ m=>⟨m.wf,l⟩
 | cons j L1 ih=>
  intro n st h E wf c z g
  obtain ⟨n,rfl⟩:∃ n',n=n'+1:=⟨L1.length+L2.length,by simp at E;omega⟩
  have A:n=L1.length+L2.length:=by simp at E;omega
  have o:i∉L1:=fun B=>z (by simp [B])
  simp only [aJ,Eu] at g
  split at g
  ·exact g.elim
  ·rename_i s D
   obtain ⟨d,g⟩:=g.both
   have d:=List.all_eq_true.1 d
   have b:=d i (by simp)
   unfold A0v at b
   rw [aN] at b
   rcases b with b|b
   ·unfold B2s at b
    rw [c j (by simp),hi] at b
    simp only [Bool.false_or,aD] at b
    obtain ⟨⟨e,u⟩,M⟩:=b
    have N:Cf P cfg s=true:=by
     unfold B7e at e
     rw [aD] at e
     exact e.1
    have r:Ro P cfg ops s (Mc cfg s) st h fun f r=>Ro P cfg ops oi (Mc cfg oi) f r fun q C=>WFs q/\Eu P cfg ops anc al n (L1++L2) q C K:=
     Ut wf (A94 g) fun f r l _ m=>ih n f r A m.wf (fun k G=>c k (by simp [G])) o l
    refine Ut wf (swap wf N u M r) fun f r ⟨m,l⟩ _ _=>⟨m.wf,?_⟩
    simp only [aJ,Eu,D]
    have w:(L1++L2).all (A0v P cfg ops anc al (L1++L2) f s j)=true:=by
     refine List.all_eq_true.2 fun x p=>?_
     have a:=d x (by
      simp only [List.mem_append,aM] at p ⊢
      rcases p with p|p
      ·exact .inl p
      ·exact .inr (.inr p))
     unfold A0v at a ⊢
     rw [e] at a ⊢
     simp only [Bool.not_true,Bool.false_and,Bool.or_false] at a ⊢
     unfold B2s at a ⊢
     simp only [aN] at a ⊢
     rcases a with a|a
     ·exact .inl a
     ·refine .inr ?_
      split at a
      ·rename_i O F
       simp only [aD] at a ⊢
       exact ⟨a.1,B8a (rem:=L1++i::L2) (fun y t=>by
        simp only [List.mem_append,aM] at t ⊢
        rcases t with t|t
        ·exact .inl t
        ·exact .inr (.inr t)) m u ⟨i,by simp,hi⟩ a.2⟩
      ·cases a
    rw [w]
    have H:A4r P cfg anc al s j (L1++L2)=[]:=by unfold A4r;rw [e]
    rw [H]
    exact Ut m.wf l fun q C ⟨_,l⟩ _ _=>l
   ·simp only [aD,Bool.not_eq_true'] at b
    obtain ⟨L,J⟩:=A7y (L2:=L2) o
    have B:i∈A4r P cfg anc al s j (L1++i::L2):=by
     unfold A4r
     rw [b.1]
     refine List.mem_filter.2 ⟨Ae.1 b.2,?_⟩
     rw [L,Ae.2 (show i∈L1++i::L2 by simp),c j (by simp)]
     simp only [Bool.true_and,Bool.not_false,Bool.and_true]
     exact List.all_eq_true.2 fun x p=>by rw [c x (by simp [p])];rfl
    have:=C2h g B
    simp only [hi] at this
    rw [J] at this
    exact Ut wf this fun st' h' l _ m=>⟨m.wf,by simp only [aJ,Eu,D] at l ⊢;exact l⟩
def B09:∀ {L done:List Nat},B2v ops done L=true->L.Nodup/\(∀ i∈L,i∉done)/\∀ L1 i L2,L=L1++i::L2->∃ o,ops[i]? = some o/\∀ e∈o.after,Region.binds .any e=true->e.on∈done\/e.on∈L1:=by
 intro L
 induction L with
 | nil=>exact fun _=>⟨List.nodup_nil,(fun i c=>by cases c),(fun L1 i L2 e=>by simp at e)⟩
 | cons x L ih=>
  intro done h
  simp only [B2v,aD,Bool.not_eq_true'] at h
  obtain ⟨⟨f,m⟩,p⟩:=h
  obtain ⟨r,l,q⟩:=ih p
  have n:x∉done:=fun d=>by rw [Ae.2 d] at m;cases m
  refine ⟨List.nodup_cons.2 ⟨fun d=>l x d (by simp),r⟩,fun i c=>?_,fun L1 i L2 e=>?_⟩
  ·cases c with
   | head=>exact n
   | tail _ c=>exact fun d=>l i c (by simp [d])
  ·cases L1 with
   | nil=>
    simp only [List.nil_append,List.cons.injEq] at e
    obtain ⟨rfl,rfl⟩:=e
    split at f
    ·rename_i o k
     refine ⟨o,k,fun e g j=>.inl ?_⟩
     have:=List.all_eq_true.1 f e (by simpa using g)
     rw [j] at this
     exact Ae.1 (by simpa using this)
    ·cases f
   | cons y L1=>
    simp only [aJ,List.cons.injEq] at e
    obtain ⟨rfl,rfl⟩:=e
    obtain ⟨o,k,b⟩:=q L1 i L2 rfl
    refine ⟨o,k,fun e g j=>?_⟩
    rcases b e g j with a|a
    ·simp only [aM] at a
     rcases a with a|a
     ·exact .inr (by simp [a])
     ·exact .inl a
    ·exact .inr (by simp [a])
def A1a{listed:Array Bool}{i:Nat}(d:Bool)(h:i<listed.size):(listed.setIfInBounds i true).getD i d=true:=by
 simp [h]
def B4u{al:Nat->List Nat}{F:Fence}{fu:Nat}[FOk F]{n:Nat}{h0:aF}{W0:World}(hn:cfg.n=n)(hfn:Bodies P cfg.fns){anc:List (List Nat)}(hanc:C4k ops anc=true){Q:Exit->Act->World->Prop}{K:VS->aF->Prop}{ord:List Nat}(hord:B2v ops [] ord=true)(_hall:∀ i,i<ops.size->i∈ord):
 ∀ (m:Nat) (L:List Nat) (listed:Array Bool) (st:VS) (h:aF) (a:Act) (W:World),L.length=m->L.Sublist ord->listed.size=ops.size->(∀ i,i<ops.size->(listed.getD i true=false↔i∈L))->(∀ i j,listed.getD i false=true->has (anc.getD i []) j=true->listed.getD j false=true)->
  Good n h0 W0 st h a W->Eu P cfg ops anc al m L st h K->(∀ st' h' a' W',K st' h'->Good n h0 W0 st' h' a' W'->Agree cfg.lim st st'->Q .normal a' W')->wpAnyIn F fu P .any ops Q m listed a W:=by
 obtain ⟨ac,_,A⟩:=B09 hord
 intro m
 induction m with
 | zero=>
  intro L listed st h a W S f u b C g V hQ
  have:L=[]:=List.eq_nil_of_length_eq_zero S
  subst this
  simp only [Eu] at V
  refine ⟨?_,hQ st h a W V g (Agree.refl _ _)⟩
  apply List.eq_nil_iff_forall_not_mem.2
  intro i R
  obtain ⟨h1,o,X,_⟩:=mem_ready.1 R
  have:=(b i (Array.getElem?_eq_some_iff.1 X).1).1 h1
  cases this
 | succ m ih=>
  intro L listed st h a W S f u b C g V hQ
  have wf:WFs st:=by obtain ⟨θ,r,_,_⟩:=g;exact r.wf
  have inl:∀ i,i∈L->i<ops.size:=by
   intro i R
   obtain ⟨L1,L2,e⟩:=aL (f.subset R)
   obtain ⟨o,X,_⟩:=A L1 i L2 e
   exact (Array.getElem?_eq_some_iff.1 X).1
  constructor
  ·
   intro s
   exfalso
   cases L with
   | nil=>simp at S
   | cons i L=>
    have R:=inl i (by simp)
    obtain ⟨L1,L2,e⟩:=aL (f.subset (show i∈i::L by simp))
    obtain ⟨o,X,hp⟩:=A L1 i L2 e
    have:i∈Region.ready .any ops listed:=by
     refine mem_ready.2 ⟨(b i R).2 (by simp),o,X,fun t T D=>?_⟩
     rcases hp t T D with h'|h'
     ·cases h'
     ·have aa:t.on<ops.size:=by
       obtain ⟨M1,M2,e'⟩:=aL h'
       obtain ⟨o',ap,_⟩:=A M1 t.on (M2++i::L2) (by rw [e,e'];simp)
       exact (Array.getElem?_eq_some_iff.1 ap).1
      have ab:t.on∉i::L:=by
       intro hm
       have N:(i::L).Sublist (L1++i::L2):=by rw [<- e];exact f
       have w:(L1++i::L2).Nodup:=by rw [<- e];exact ac
       have p:i∉L1:=fun E=>(List.nodup_append.1 w).2.2 i E i (by simp) rfl
       have an:(i::L).Sublist (i::L2):=by
        clear s b C hQ V g ih hp T D
        revert N p
        clear w e h'
        induction L1 with
        | nil=>exact fun h _=>h
        | cons y L1 ihL=>
         intro N p
         refine ihL ?_ (fun E=>p (by simp [E]))
         cases N with
         | cons _ h=>exact h
         | cons_cons _ h=>exact absurd (by simp) p
       have:=an.subset hm
       exact (List.nodup_append.1 w).2.2 t.on h' t.on this rfl
      cases hg:listed.getD t.on false with
      | true=>rfl
      | false=>
       have:listed.getD t.on true=false:=by
        have H:t.on<listed.size:=by rw [u];exact aa
        simp [aS,H] at hg ⊢;exact hg
       exact absurd ((b _ aa).1 this) ab
    rw [s] at this;cases this
  ·intro i R
   obtain ⟨h1,oi,z,af⟩:=mem_ready.1 R
   have q:=(Array.getElem?_eq_some_iff.1 z).1
   have ah:=(b i q).1 h1
   obtain ⟨L1,L2,e⟩:=aL ah
   have l:L.Nodup:=f.nodup ac
   have aq:∀ j∈L1,has (anc.getD i []) j=false:=by
    intro j O
    cases E:has (anc.getD i []) j with
    | false=>rfl
    | true=>
     exfalso
     have M:j∈L:=by rw [e];simp [O]
     have ae:=(b j (inl j M)).2 M
     have hA:=List.all_eq_true.1 (List.all_eq_true.1 hanc i (List.mem_range.2 q)) j (Ae.1 E)
     simp only [z] at hA
     obtain ⟨t,T,D⟩:=List.any_eq_true.1 hA
     simp only [aD,aN] at D
     have B:=af t (by simpa using T) D.1
     have J:listed.getD j false=true:=by
      rcases D.2 with h'|h'
      ·rw [<- aH h'];exact B
      ·exact C _ j B h'
     have H:j<listed.size:=by rw [u];exact inl j M
     simp [aS,H] at ae J
     rw [ae] at J;cases J
   have ad:i∉L1:=by
    rw [e] at l
    exact fun E=>(List.nodup_append.1 l).2.2 i E i (by simp) rfl
   have ak:=C4e z (L2:=L2) L1 m st h (by have:=S;rw [e,List.length_append,List.length_cons] at this;omega) wf aq ad (by rw [<- e];exact V)
   refine wpOpIn_mono (fun a' W' ⟨st',h',⟨_,hK⟩,g',ag⟩=>?_) (g.op hn hfn z ak)
   have G:∀ j d,(listed.setIfInBounds i true).getD j d=if j=i then true else listed.getD j d:=by
    intro j d
    by_cases c:j=i
    ·subst c;rw [iP rfl];exact A1a d (by rw [u];exact q)
    ·rw [iN c];exact getD_set_ne d (Ne.symm c)
   rw [e] at l
   have ai:i∉L1:=fun E=>(List.nodup_append.1 l).2.2 i E i (by simp) rfl
   have aj:i∉L2:=(List.nodup_cons.1 (List.nodup_append.1 l).2.1).1
   refine ih (L1++L2) _ st' h' a' W' (by rw [e] at S;simp at S ⊢;omega) ?_ (by simpa using u) (fun j O=>?_) (fun j k O hk=>?_) g' hK fun am h2 a2 W2 k g2 ao=>hQ am h2 a2 W2 k g2 (ag.trans ao)
   ·refine List.Sublist.trans ?_ f
    rw [e]
    exact List.Sublist.append (List.Sublist.refl _) (List.sublist_cons_self _ _)
   ·rw [G]
    by_cases c:j=i
    ·subst c;simp [ai,aj]
    ·rw [iN c,b j O,e];simp [c]
   ·rw [G] at O ⊢
    by_cases Z:k=i
    ·rw [iP Z]
    ·rw [iN Z]
     by_cases c:j=i
     ·subst c
      have hA:=List.all_eq_true.1 (List.all_eq_true.1 hanc j (List.mem_range.2 q)) k (Ae.1 hk)
      simp only [z] at hA
      obtain ⟨t,T,D⟩:=List.any_eq_true.1 hA
      simp only [aD,aN] at D
      have B:=af t (by simpa using T) D.1
      rcases D.2 with h'|h'
      ·rw [<- aH h'];exact B
      ·exact C _ k B h'
     ·rw [iN c] at O;exact C j k O hk
def B0m{al:Nat->List Nat}{F:Fence}{fu:Nat}[FOk F]{n:Nat}{h0:aF}{W0:World}(hn:cfg.n=n)(hfn:Bodies P cfg.fns){id:Nat}{ord:List Nat}{anc:List (List Nat)}(hok:B4c P ops ord anc=true){Q:Exit->Act->World->Prop}{K:VS->aF->Prop}{st:VS}{h:aF}{a:Act}{W:World}
 (g:Good n h0 W0 st h a W) (hv:Eu P cfg ops anc al ord.length ord st h K) (hQ:∀ st' h' a' W',K st' h'->Good n h0 W0 st' h' a' W'->Agree cfg.lim st st'->Q .normal a' W'):(Code.region id ops true).wpIn F fu P Q a W:=by
 simp only [B4c,aD] at hok
 obtain ⟨⟨⟨⟨l,p⟩,m⟩,o⟩,e⟩:=hok
 refine wpIn_region_any l ?_
 have k:Good n h0 W0 st h a { W with drawn:=W.drawn+1 }:=by
  obtain ⟨θ,r,f,q⟩:=g
  exact ⟨θ,⟨r.defers,r.size,r.slot,r.sim,r.own,r.inj,r.wf,r.out⟩,⟨f.sim,f.os,f.tape,f.output,f.size,f.keep,f.new⟩,q⟩
 have b:∀ i,i<ops.size->i∈ord:=fun i c=>Ae.1 (List.all_eq_true.1 o i (List.mem_range.2 c))
 rw [aH e] at hv
 refine B4u hn hfn p m b ops.size ord _ st h a _ (aH e) (List.Sublist.refl _) (by simp) (fun i c=>?_) (fun i j c _=>?_) k hv hQ
 ·simp [aS,c,b i c]
 ·by_cases d:i<ops.size<;>simp [aS,d] at c
end
