/- A part. -/
import Derived.Test.YtmbfcbbkbefgfaaGreatDoorG02
set_option linter.all false
open _root_.Array renaming getD->aS
open Bool renaming and_eq_true->aD,or_eq_true->aN
open List renaming cons_append->aJ,mem_append_left->aK,append_of_mem->aL,mem_cons->aM
open Nat renaming eq_of_beq_eq_true->aH,beq->aP
open _root_.Go.Op renaming operands->aC
open _root_.Go renaming Oper->aE,Value->aI,Program->aQ,Operand->aR,TypeId->aT
open _root_.Go.Proofs.YtmbfcbbkbefgfaaGreatDoor renaming Heap->aF,put_self->aG,AVal->aO
namespace Go.Proofs.YtmbfcbbkbefgfaaGreatDoor
open Go
def R7(cfg:Cfg)(o:aE):Bool:=
 match o.op with
 | .alloc _ | .box _ _=>Nz cfg o.dst
 | _=>false
def Bp(P:aQ)(cfg:Cfg)(o:aE):Bool:=Up P o||R7 cfg o
def B3o(ops:Array aE)(rem:List Nat)(y:Nat):Bool:=rem.all fun i=>match ops[i]? with
 | some o=>(match o.dst with
  | some d=> !aP d y
  | none=>true)
 | none=>true
def B1i(cfg:Cfg)(o:aE):Bool:=
 match o.op with
 | .call c=>
  match c.callee with
  | .value (.func g)=>has cfg.wr g
  | .value (.tmp _)=>true
  | .builtin .copy=>true
  | .builtin .append=>has cfg.wr 1000000000
  | _=>false
 | _=>false
def Ii(o:aE)(st:VS):Bool:=
 match o.op with
 | .load _ a=>(match D3 st a with
  | .own _ _=>false
  | _=>true)
 | _=>false
def Rd(cfg:Cfg)(ops:Array aE)(rem:List Nat)(oj oi:aE)(st:VS):Bool:=
 !(B1i cfg oi&&Ii oj st) &&
 match oi.op with
 | .store _ (.tmp y) _=>
  match oj.op with
  | .load _ a=>B3o ops rem y&&(match D3 st a,st.env y with
   | .own k _,.own k' _=> !aP k k'
   | .val _,.own _ _=>true
   | _,_=>false)
  | _=>true
 | .store _ _ _=>false
 | _=>true
def B73(P:aQ)(cfg:Cfg)(al:Nat->List Nat)(oj:aE)(j:Nat):Bool:=Bp P cfg oj&&(al j).isEmpty
def B2x(P:aQ)(cfg:Cfg)(ops:Array aE)(anc:List (List Nat))(al:Nat->List Nat)(rem:List Nat)(st:VS)(oj:aE)(j i:Nat):Bool:=
 has (anc.getD i []) j ||
 match ops[i]? with
 | some oi=>B73 P cfg al oj j&&oj.apart ops oi&&Rd cfg ops rem oj oi st
 | none=>false
def Lh(cfg:Cfg)(o:aE):Bool:=
 match o.op with
 | .store _ _ _=>false
 | _=> !B1i cfg o
def A0g(P:aQ)(cfg:Cfg)(ops:Array aE)(anc:List (List Nat))(al:Nat->List Nat)(rem:List Nat)(st:VS)(oj:aE)(j i:Nat):Bool:=
 B2x P cfg ops anc al rem st oj j i||(!B73 P cfg al oj j&&has (al j) i)
def C35(i:Nat):List Nat->List Nat
 | []=>[]
 | x::L=>bif aP x i then [] else x::C35 i L
def del(i:Nat):List Nat->List Nat
 | []=>[]
 | x::L=>bif aP x i then L else x::del i L
def A4f(P:aQ)(cfg:Cfg)(anc:List (List Nat))(al:Nat->List Nat)(oj:aE)(j:Nat)(L:List Nat):List Nat:=
 match B73 P cfg al oj j with
 | true=>[]
 | false=>(al j).filter fun i=>has L i&&(C35 i L).all (fun x=> !has (anc.getD i []) x) && !has (anc.getD i []) j
def C63(f:Nat->Prop):Nat->List Nat->Prop
 | i,[]=>f i
 | i,k::r=>f i/\C63 f k r
def C64(A:Prop)(f:Nat->Prop):List Nat->Prop
 | []=>A
 | i::r=>A/\C63 f i r
def Ei(P:aQ)(cfg:Cfg)(ops:Array aE)(anc:List (List Nat))(al:Nat->List Nat):Nat->List Nat->VS->aF->(VS->aF->Prop)->Prop
 | _,[],st,h,K=>K st h
 | 0,_::_,_,_,_=>False
 | n+1,j::L,st,h,K=>
  match ops[j]? with
  | none=>False
  | some o=>When (L.all (A0g P cfg ops anc al L st o j))
   (C64 (Rq P cfg ops o (Lh cfg o) st h fun st' h'=>Ei P cfg ops anc al n L st' h' K)
    (fun i=>
     match ops[i]? with
     | none=>False
     | some oi=>Rq P cfg ops oi (Lh cfg oi) st h fun st' h'=>Ei P cfg ops anc al n (j::del i L) st' h' K)
    (A4f P cfg anc al o j L))
def B4q{f:Nat->Prop}{i:Nat}: ∀ {k:Nat} {r:List Nat},C63 f k r->i∈k::r->f i
 | k,[],x,h=>by rw [List.mem_singleton.1 h];exact x
 | k,m::r,x,h=>by
  rcases List.mem_cons.1 h with rfl|h
  ·exact x.1
  ·exact B4q x.2 h
def A8z{A:Prop}{f:Nat->Prop}: ∀ {r:List Nat},C64 A f r->A
 | [],x=>x
 | _::_,x=>x.1
def C1z{A:Prop}{f:Nat->Prop}{i:Nat}: ∀ {r:List Nat},C64 A f r->i∈r->f i
 | [],_,h=>by cases h
 | _::_,x,h=>B4q x.2 h
def A7y{i:Nat}{L2:List Nat}: ∀ {L1:List Nat},i∉L1->C35 i (L1++i::L2)=L1/\del i (L1++i::L2)=L1++L2
 | [],_=>by simp [C35,del]
 | x::L1,h=>by
  have hx:aP x i=false:=by
   cases e:aP x i with
   | false=>rfl
   | true=>
    have a:=aH e
    subst a
    exact absurd List.mem_cons_self h
  obtain ⟨c,d⟩:=A7y (L2:=L2) (L1:=L1) (i:=i) (fun b=>h (List.mem_cons_of_mem _ b))
  simp only [aJ,C35,del,hx,c,d,cond_false,and_self]
def C49(ops:Array aE)(anc:List (List Nat)):Bool:=
 (List.range ops.size).all fun i=>(anc.getD i []).all fun j=>
  match ops[i]? with
  | some o=>o.after.toList.any fun e=>Region.binds .any e&&(aP e.on j||has (anc.getD e.on []) j)
  | none=>false
def B30(ops:Array aE):List Nat->List Nat->Bool
 | _,[]=>true
 | done,i::L=>
  (match ops[i]? with
   | some o=>o.after.toList.all fun e=> !Region.binds .any e||has done e.on
   | none=>false) && !has done i&&B30 ops (i::done) L
def B49(P:aQ)(ops:Array aE)(ord:List Nat)(anc:List (List Nat)):Bool:=
 P.follows .mixedOrders&&C49 ops anc&&B30 ops [] ord&&(List.range ops.size).all (has ord)&&aP ord.length ops.size
section
variable {P:aQ} {cfg:Cfg} {ops:Array aE}
structure AgreeOn (cfg:Cfg) (ops:Array aE) (o:aE) (st st':VS):Prop where
 env:∀ x∈o.looksAt ops,st'.env x=st.env x
 load:∀ t a k off,o.op= .load t a->D3 st a= .own k off->st'.own k=st.own k
 alloc:∀ d,R7 cfg o=true->o.dst=some d->st.own d=none->st'.own d=none
def AgreeOn.eval{o:aE}{st st':VS}(ag:AgreeOn cfg ops o st st'){x:aR}(hx:x∈o.op.operands):D3 st' x=D3 st x:=by
 cases x with
 | tmp t=>
  refine ag.env t ?_
  unfold Oper.looksAt
  exact aK _ (List.mem_filterMap.2 ⟨.tmp t,by simpa using hx,rfl⟩)
 | _=>rfl
def AgreeOn.rho{o:aE}{st st':VS}(ag:AgreeOn cfg ops o st st'){x:aR}(hx:x∈o.op.operands):rho st' x=rho st x:=by
 unfold Go.Proofs.YtmbfcbbkbefgfaaGreatDoor.rho;rw [ag.eval hx]
def A8t{z:aI}{K K':aI->Prop}(x:exV z K)(hk:∀ v,K v->K' v):exV z K':=by
 cases z<;>(unfold exV at x ⊢)<;>first
  | (obtain ⟨n,a⟩:=x;exact ⟨n,hk _ a⟩)
  | (obtain ⟨p,n,c,a⟩:=x;exact ⟨p,n,c,hk _ a⟩)
def B7o{zs:List aI}: ∀ {K K':List aI->Prop},exL zs K->(∀ v,K v->K' v)->exL zs K':=by
 induction zs with
 | nil=>exact fun x a=>a _ x
 | cons z zs ih=>exact fun x a=>A8t x fun v y=>ih y fun b=>a _
def B40{z:aI}{K:aI->Prop}(x:exV z K):∃ v,K v/\∀ K':aI->Prop,K' v->exV z K':=by
 cases z<;>(unfold exV at x)<;>first
  | (obtain ⟨n,a⟩:=x;exact ⟨_,a,fun K' y=>⟨_,y⟩⟩)
  | (obtain ⟨p,n,c,a⟩:=x;exact ⟨_,a,fun K' y=>⟨_,_,_,y⟩⟩)
def C1h{zs:List aI}: ∀ {K:List aI->Prop},exL zs K->∃ vs,K vs/\∀ K':List aI->Prop,K' vs->exL zs K':=by
 induction zs with
 | nil=>exact fun x=>⟨[],x,fun _ y=>y⟩
 | cons z zs ih=>
  intro K x
  obtain ⟨v,b,c⟩:=B40 x
  obtain ⟨vs,a,d⟩:=ih b
  exact ⟨v::vs,a,fun K' y=>c _ (d _ y)⟩
def A6z{h:aF}{a:Addr}: ∀ {vs:List aI} {j:Nat} {X:Prop},cellsAt h a j vs X->X/\∀ h' (Y:Prop),h.le h'->Y->cellsAt h' a j vs Y:=by
 intro vs
 induction vs with
 | nil=>exact fun x=>⟨x,fun _ _ _ y=>y⟩
 | cons v vs ih=>
  intro j X ⟨h1,h2⟩
  obtain ⟨d,c⟩:=ih h2
  exact ⟨d,fun h' Y b y=>⟨B5 b h1,c h' Y b y⟩⟩
def A3o{h:aF}{t:aT}{a:Addr}{C:aO->Prop}(x:Z7 P t a h C):∃ u,C (.val u)/\∀ h' (C':aO->Prop),h.le h'->C' (.val u)->Z7 P t a h' C':=by
 cases hag:Oa P t with
 | none=>simp only [Z7,hag] at x
 | some b=>
  cases b with
  | true=>
   simp only [Z7,hag] at x
   split at x
   ·rename_i zs f
    obtain ⟨g,x⟩:=x.both
    obtain ⟨m,e,c⟩:=C1h x
    obtain ⟨l,j⟩:=A6z e
    refine ⟨_,l,fun h' C' d y=>?_⟩
    simp only [Z7,hag,f,g]
    exact c _ (j h' _ d y)
   ·exact x.elim
  | false=>
   simp only [Z7,hag] at x
   obtain ⟨v,⟨k,i⟩,c⟩:=B40 x
   refine ⟨_,i,fun h' C' d y=>?_⟩
   simp only [Z7,hag]
   exact c _ ⟨B5 d k,y⟩
def A6a{t:aT}{cs:List aI}{off:Nat}{C:aO->Prop}(x:X7 P t cs off C):∃ u,C (.val u)/\∀ C':aO->Prop,C' (.val u)->X7 P t cs off C':=by
 cases hag:Oa P t with
 | none=>simp only [X7,hag] at x
 | some b=>
  cases b with
  | true=>
   simp only [X7,hag] at x
   obtain ⟨a,x⟩:=x.both
   exact ⟨_,x,fun C' y=>by simp only [X7,hag,a];exact y⟩
  | false=>
   simp only [X7,hag] at x
   split at x
   ·rename_i v c
    exact ⟨_,x,fun C' y=>by simp only [X7,hag,c];exact y⟩
   ·exact x.elim
def X4{v:Option aO}{dflt y:Nat}{C:Nat->Prop}(x:slBound v dflt y C):∃ m,C m/\∀ C':Nat->Prop,C' m->slBound v dflt y C':=by
 rcases x.out with ⟨rfl,a⟩|⟨k,i,rfl,b,c,a⟩
 ·exact ⟨_,a,fun _ z=>z⟩
 ·exact ⟨_,a,fun _ z=>⟨⟨b,c⟩,z⟩⟩
def A5l{t:aT}{x:aO}{lo hi:Option aO}{C:aO->Prop}(hv:Fm P t x lo hi C):∃ u,C (.val u)/\∀ C':aO->Prop,C' (.val u)->Fm P t x lo hi C':=by
 unfold Fm at hv
 split at hv
 ·rename_i s d
  obtain ⟨m,i,b⟩:=X4 hv
  obtain ⟨l,f,g⟩:=X4 i
  exact ⟨_,f,fun C' y=>by simp only [Fm,d];exact b (fun h=>slBound lo 0 h fun l=>C' (.val (.string (s.extract l h)))) (g (fun l=>C' (.val (.string (s.extract l m)))) y)⟩
 ·rename_i e A n c d
  obtain ⟨j,hv⟩:=hv.both
  obtain ⟨m,i,b⟩:=X4 hv
  obtain ⟨l,f,g⟩:=X4 i
  exact ⟨_,f,fun C' y=>by simp only [Fm,d,j];exact b (fun h=>slBound lo 0 h fun l=>C' (.val (.slice (K5 A c l (P.cellsOf e)) (h-l) (c-l)))) (g (fun l=>C' (.val (.slice (K5 A c l (P.cellsOf e)) (m-l) (c-l)))) y)⟩
 ·rename_i n e a d
  obtain ⟨j,hv⟩:=hv.both
  obtain ⟨m,i,b⟩:=X4 hv
  obtain ⟨l,f,g⟩:=X4 i
  exact ⟨_,f,fun C' y=>by simp only [Fm,d,j];exact b (fun h=>slBound lo 0 h fun l=>C' (.val (.slice (K5 (some a) n l (P.cellsOf e)) (h-l) (n-l)))) (g (fun l=>C' (.val (.slice (K5 (some a) n l (P.cellsOf e)) (m-l) (n-l)))) y)⟩
 ·exact hv.elim
def Zw{b:Bool}{X Y:Prop}(x:Br b X Y):(b=true/\X)\/(b=false/\Y):=by
 cases b
 ·exact .inr ⟨rfl,x⟩
 ·exact .inl ⟨rfl,x⟩
def Ub{t:aT}{x i:aO}{C:aO->Prop}(hv:O0 P t x i C):
 ∃ v,C v/\(∀ k off,v= .own k off->∃ off',x= .own k off')/\∀ C':aO->Prop,C' v->O0 P t x i C':=by
 unfold O0 at hv
 split at hv
 ·rename_i len e k off _ n f
  obtain ⟨d,hv⟩:=hv.both
  rcases Zw hv with ⟨e,hv⟩|⟨_,hv⟩
  ·exact ⟨_,hv,(fun j off' b=>by cases b;exact ⟨off,rfl⟩),fun C' y=>by simp only [O0,f,d,e];exact y⟩
  ·exact hv.elim
 ·rename_i len e a _ n f
  obtain ⟨d,g,hv⟩:=hv.both
  exact ⟨_,hv,(fun j off' b=>by cases b),fun C' y=>by simp only [O0,f,d];exact ⟨g,y⟩⟩
 ·rename_i e A n c _ i f
  obtain ⟨d,a,g,l,m,hv⟩:=hv.both
  exact ⟨_,hv,(fun j off' b=>by cases b),fun C' y=>by simp only [O0,f,d];exact ⟨a,g,l,m,y⟩⟩
 ·exact hv.elim
def An{st st':VS}{xs:List aR}(h:∀ x∈xs,D3 st' x=D3 st x):P8 st' xs=P8 st xs:=by
 unfold P8
 induction xs with
 | nil=>rfl
 | cons x xs ih=>simp only [List.all_cons,h x (by simp),ih (fun y a=>h y (by simp [a]))]
def Px{o:aE}{st:VS}(hsel:∀ cs b,o.op ≠ .select cs b){C:aO->Prop}(hv:Mq P o st C):∃ u,C (.val u)/\∀ st' (C':aO->Prop),AgreeOn cfg ops o st st'->C' (.val u)->Mq P o st' C':=by
 unfold Mq at hv
 split at hv
 ·rename_i e
  split at hv
  ·rename_i v f
   refine ⟨_,hv,fun st' C' c y=>?_⟩
   unfold Mq
   have g:P8 st' o.op.operands.toList=true:=by rw [An (fun x a=>c.eval (by simpa using a))];exact e
   have d:execOp (rho st') o=execOp (rho st) o:=execOp_congr o hsel fun x a=>c.rho a
   rw [g]
   simp only [d,f]
   exact y
  ·exact hv.elim
 ·exact hv.elim
def A2f{t:aT}{xs ys:Array aI}{C:Bool->Prop}(hv:A2g P t xs ys C):∃ b,C b/\∀ C':Bool->Prop,C' b->A2g P t xs ys C':=by
 unfold A2g at hv
 split at hv
 ·rename_i e d
  obtain ⟨c,hv⟩:=hv.both
  split at hv
  ·rename_i b a
   exact ⟨b,hv,fun C' y=>by simp only [A2g,d,c,a];exact y⟩
  ·exact hv.elim
 ·exact hv.elim
def B1k{o:aE}{st:VS}{op:BinOp}{t t':aT}{x z:aR}(hop:o.op= .binOp op t x z t'){C:aO->Prop}(hv:Ki P o st op t (D3 st x) (D3 st z) C):
 ∃ u,C (.val u)/\∀ st' (C':aO->Prop),AgreeOn cfg ops o st st'->C' (.val u)->Ki P o st' op t (D3 st' x) (D3 st' z) C':=by
 have j:∀ cs b,o.op ≠ .select cs b:=by rw [hop];intro _ _ e;cases e
 have f:∀ st',AgreeOn cfg ops o st st'->D3 st' x=D3 st x/\D3 st' z=D3 st z:=fun st' d=>⟨d.eval (by rw [hop];simp [aC]),d.eval (by rw [hop];simp [aC])⟩
 unfold Ki at hv
 split at hv
 ·rename_i c a
  obtain ⟨b,k,i⟩:=A2f hv
  exact ⟨_,k,fun st' C' d y=>by rw [(f st' d).1,(f st' d).2];simp only [Ki,c,a];exact i (fun b=>C' (.val (.bool b))) y⟩
 ·rename_i c a
  obtain ⟨b,k,i⟩:=A2f hv
  exact ⟨_,k,fun st' C' d y=>by rw [(f st' d).1,(f st' d).2];simp only [Ki,c,a];exact i (fun b=>C' (.val (.bool (!b)))) y⟩
 ·rename_i c a
  obtain ⟨g,hv⟩:=hv.both
  exact ⟨_,hv,fun st' C' d y=>by rw [(f st' d).1,(f st' d).2];simp only [Ki,c,a,g];exact y⟩
 ·rename_i c a
  obtain ⟨g,hv⟩:=hv.both
  exact ⟨_,hv,fun st' C' d y=>by rw [(f st' d).1,(f st' d).2];simp only [Ki,c,a,g];exact y⟩
 ·rename_i c a
  obtain ⟨g,hv⟩:=hv.both
  rcases Zw hv with ⟨e,hv⟩|⟨e,hv⟩
  ·exact hv.elim
  ·exact ⟨_,hv,fun st' C' d y=>by rw [(f st' d).1,(f st' d).2];simp only [Ki,c,a,g,e];exact y⟩
 ·rename_i c a
  obtain ⟨g,hv⟩:=hv.both
  rcases Zw hv with ⟨e,hv⟩|⟨e,hv⟩
  ·exact hv.elim
  ·exact ⟨_,hv,fun st' C' d y=>by rw [(f st' d).1,(f st' d).2];simp only [Ki,c,a,g,e];exact y⟩
 ·rename_i c a
  rcases Zw hv with ⟨e,hv⟩|⟨e,hv⟩
  ·exact hv.elim
  ·exact ⟨_,hv,fun st' C' d y=>by rw [(f st' d).1,(f st' d).2];simp only [Ki,c,a,e];exact y⟩
 ·rename_i c a
  rcases Zw hv with ⟨e,hv⟩|⟨e,hv⟩
  ·exact hv.elim
  ·exact ⟨_,hv,fun st' C' d y=>by rw [(f st' d).1,(f st' d).2];simp only [Ki,c,a,e];exact y⟩
 ·rename_i c a
  exact ⟨_,hv.2,fun st' C' d y=>by rw [(f st' d).1,(f st' d).2];simp only [Ki,c,a];exact ⟨hv.1,y⟩⟩
 ·rename_i n s l A r m p q w
  obtain ⟨u,B,i⟩:=Px (cfg:=cfg) (ops:=ops) j hv
  refine ⟨u,B,fun st' C' d y=>?_⟩
  rw [(f st' d).1,(f st' d).2]
  unfold Ki
  split
  ·rename_i c a;exact (n _ _ rfl c a).elim
  ·rename_i c a;exact (s _ _ rfl c a).elim
  ·rename_i c a;exact (l _ _ _ _ _ rfl c a).elim
  ·rename_i c a;exact (A _ _ _ _ _ rfl c a).elim
  ·rename_i c a;exact (r _ _ _ _ rfl c a).elim
  ·rename_i c a;exact (m _ _ _ _ rfl c a).elim
  ·rename_i c a;exact (p _ _ _ _ rfl c a).elim
  ·rename_i c a;exact (q _ _ _ _ rfl c a).elim
  ·rename_i c a;exact (w _ _ rfl c a).elim
  ·exact i st' C' d y
def C0m{o:aE}{st:VS}{h:aF}(hsel:∀ cs b,o.op ≠ .select cs b){C:aO->Prop}(hv:vcQ P o st h C):
 ∃ v,C v/\(∀ k off,v= .own k off->∃ x off',x∈o.op.operands/\D3 st x= .own k off')/\∀ st' h' C',(Ii o st=true->h.le h')->AgreeOn cfg ops o st st'->C' v->vcQ P o st' h' C':=by
 unfold vcQ at hv
 split at hv
 ·rename_i x a
  refine ⟨_,hv,(fun k off e=>⟨x,off,(by rw [a];simp [aC]),e⟩),fun st' h' C' n d y=>?_⟩
  unfold vcQ;simp only [a,d.eval (x:=x) (by rw [a];simp [aC])];exact y
 ·rename_i x a
  refine ⟨_,hv,(fun k off e=>⟨x,off,(by rw [a];simp [aC]),e⟩),fun st' h' C' n d y=>?_⟩
  unfold vcQ;simp only [a,d.eval (x:=x) (by rw [a];simp [aC])];exact y
 ·rename_i c x z a
  split at hv
  ·rename_i b D
   have Z:∀ st',AgreeOn cfg ops o st st'->D3 st' c= .val (.bool b)/\D3 st' x=D3 st x/\D3 st' z=D3 st z:=fun st' d=>
    ⟨by rw [d.eval (x:=c) (by rw [a];simp [aC])];exact D,d.eval (by rw [a];simp [aC]),d.eval (by rw [a];simp [aC])⟩
   rcases Zw hv with ⟨e,hv⟩|⟨e,hv⟩
   ·refine ⟨_,hv,(fun k off e=>⟨x,off,(by rw [a];simp [aC]),e⟩),fun st' h' C' n d y=>?_⟩
    obtain ⟨E,B,L⟩:=Z st' d
    unfold vcQ;simp only [a,E,B,L,e];exact y
   ·refine ⟨_,hv,(fun k off e=>⟨z,off,(by rw [a];simp [aC]),e⟩),fun st' h' C' n d y=>?_⟩
    obtain ⟨E,B,L⟩:=Z st' d
    unfold vcQ;simp only [a,E,B,L,e];exact y
  ·exact hv.elim
 ·rename_i t x a
  have g:∀ st',AgreeOn cfg ops o st st'->D3 st' x=D3 st x:=fun st' d=>d.eval (by rw [a];simp [aC])
  split at hv
  ·rename_i k off q
   split at hv
   ·rename_i cs T
    obtain ⟨u,r,w⟩:=A6a hv
    refine ⟨_,r,(fun k off e=>by cases e),fun st' h' C' n d y=>?_⟩
    unfold vcQ;simp only [a,g st' d,q,d.load t x k off a q,T];exact w C' y
   ·exact hv.elim
  ·rename_i V q
   obtain ⟨u,r,w⟩:=A3o hv
   refine ⟨_,r,(fun k off e=>by cases e),fun st' h' C' n d y=>?_⟩
   unfold vcQ;simp only [a,g st' d,q];exact w h' C' (n (by simp only [Ii,a,q])) y
  ·exact hv.elim
 ·rename_i s x f a
  have g:∀ st',AgreeOn cfg ops o st st'->D3 st' x=D3 st x:=fun st' d=>d.eval (by rw [a];simp [aC])
  split at hv
  ·rename_i k off q
   split at hv
   ·rename_i fs O
    split at hv
    ·rename_i fd N
     obtain ⟨D,hv⟩:=hv.both
     refine ⟨_,hv,(fun W off' e=>by cases e;exact ⟨x,off,(by rw [a];simp [aC]),q⟩),fun st' h' C' n d y=>?_⟩
     unfold vcQ;simp only [a,g st' d,q,O,N,D];exact y
    ·exact hv.elim
   ·exact hv.elim
  ·rename_i V q
   split at hv
   ·rename_i fs O
    split at hv
    ·rename_i fd N
     obtain ⟨D,hv⟩:=hv.both
     refine ⟨_,hv,(fun W off' e=>by cases e),fun st' h' C' n d y=>?_⟩
     unfold vcQ;simp only [a,g st' d,q,O,N,D];exact y
    ·exact hv.elim
   ·exact hv.elim
  ·exact hv.elim
 ·rename_i x a
  have g:∀ st',AgreeOn cfg ops o st st'->D3 st' x=D3 st x:=fun st' d=>d.eval (by rw [a];simp [aC])
  split at hv
  ·rename_i k off q
   refine ⟨_,hv,(fun W off' e=>by cases e;exact ⟨x,off,(by rw [a];simp [aC]),q⟩),fun st' h' C' n d y=>?_⟩
   unfold vcQ;simp only [a,g st' d,q];exact y
  ·rename_i p q
   obtain ⟨V,hp,hv⟩:=hv
   refine ⟨_,hv,(fun W off' e=>by cases e),fun st' h' C' n d y=>?_⟩
   unfold vcQ;simp only [a,g st' d,q];exact ⟨V,hp,y⟩
  ·exact hv.elim
 ·rename_i t x i a
  obtain ⟨v,r,hw,w⟩:=Ub hv
  refine ⟨_,r,(fun k off e=>let ⟨off',e'⟩:=hw k off e;⟨x,off',(by rw [a];simp [aC]),e'⟩),fun st' h' C' n d y=>?_⟩
  unfold vcQ;simp only [a,d.eval (x:=x) (by rw [a];simp [aC]),d.eval (x:=i) (by rw [a];simp [aC])];exact w C' y
 ·rename_i t x i a
  have g:∀ st',AgreeOn cfg ops o st st'->D3 st' x=D3 st x/\D3 st' i=D3 st i:=fun st' d=>⟨d.eval (by rw [a];simp [aC]),d.eval (by rw [a];simp [aC])⟩
  split at hv
  ·rename_i s _ j M E B
   obtain ⟨c,h0,hv⟩:=hv
   refine ⟨_,hv,(fun k off e=>by cases e),fun st' h' C' n d y=>?_⟩
   unfold vcQ;simp only [a,(g st' d).1,(g st' d).2,M,E,B];exact ⟨c,h0,y⟩
  ·rename_i n1
   obtain ⟨u,r,w⟩:=Px (cfg:=cfg) (ops:=ops) hsel hv
   refine ⟨_,r,(fun k off e=>by cases e),fun st' h' C' n d y=>?_⟩
   unfold vcQ;simp only [a,(g st' d).1,(g st' d).2]
   exact w st' C' d y
 ·rename_i t x H J a
  obtain ⟨u,r,w⟩:=A5l hv
  refine ⟨_,r,(fun k off e=>by cases e),fun st' h' C' n d y=>?_⟩
  have g:D3 st' x=D3 st x:=d.eval (by rw [a];simp [aC])
  have G:H.map (D3 st')=H.map (D3 st):=by
   cases H with
   | none=>rfl
   | some z=>simp only [Option.map_some];rw [d.eval (x:=z) (by rw [a];simp [aC])]
  have F:J.map (D3 st')=J.map (D3 st):=by
   cases J with
   | none=>rfl
   | some z=>simp only [Option.map_some];rw [d.eval (x:=z) (by rw [a];simp [aC])]
  unfold vcQ;simp only [a,g,G,F];exact w C' y
 ·rename_i t x H J mx a
  have ev:∀ st',AgreeOn cfg ops o st st'->D3 st' x=D3 st x/\D3 st' H=D3 st H/\D3 st' J=D3 st J/\D3 st' mx=D3 st mx:=fun st' d=>⟨d.eval (by rw [a];simp [aC]),d.eval (by rw [a];simp [aC]),d.eval (by rw [a];simp [aC]),d.eval (by rw [a];simp [aC])⟩
  unfold Mo at hv
  split at hv
  ·rename_i e A m c k1 l k2 h' k3 b M g G F R
   obtain ⟨D,E,B,L,hv⟩:=hv.both
   refine ⟨_,hv,(fun k off e=>by cases e),fun st' h' C' n d y=>?_⟩
   unfold vcQ;simp only [a,(ev st' d).1,(ev st' d).2.1,(ev st' d).2.2.1,(ev st' d).2.2.2,g,G,F,R,Mo,M,D]
   exact ⟨E,B,L,y⟩
  ·exact hv.elim
 ·rename_i op t x z t' a
  obtain ⟨u,r,w⟩:=B1k (cfg:=cfg) (ops:=ops) a hv
  refine ⟨_,r,(fun k off e=>by cases e),fun st' h' C' n d y=>?_⟩
  unfold vcQ;simp only [a];exact w st' C' d y
 ·exact hv.elim
 ·rename_i n1 n2 n3 n4 n5 n6 n7 n8 n9 X S Q
  obtain ⟨u,r,w⟩:=Px (cfg:=cfg) (ops:=ops) hsel hv
  refine ⟨_,r,(fun k off e=>by cases e),fun st' h' C' n d y=>?_⟩
  unfold vcQ
  split
  ·rename_i e;exact (n1 _ e).elim
  ·rename_i e;exact (n2 _ e).elim
  ·rename_i e;exact (n3 _ _ _ e).elim
  ·rename_i e;exact (n4 _ _ e).elim
  ·rename_i e;exact (n5 _ _ _ e).elim
  ·rename_i e;exact (n6 _ e).elim
  ·rename_i e;exact (n7 _ _ _ e).elim
  ·rename_i e;exact (n8 _ _ _ e).elim
  ·rename_i e;exact (n9 _ _ _ _ e).elim
  ·rename_i e;exact (X _ _ _ _ _ e).elim
  ·rename_i e;exact (S _ _ _ _ _ e).elim
  ·rename_i e;exact (Q _ e).elim
  ·exact w st' C' d y
inductive Upd where
 | put (d:Option Nat) (v:aO)
 | own (d:Nat) (cs:List aI)
def Upd.app:Upd->VS->VS
 | .put d v,s=>s.putO d v
 | .own d cs,s=>(s.put d (.own d 0)).setOwn d cs
def Upd.dst:Upd->Option Nat
 | .put d _=>d
 | .own d _=>some d
def Lg{o:aE}{j:Nat}{want:Bool}{g:Nat}(hg:o.guard=some (j,want))(hd:(ops[j]?).bind (·.dst)=some g):g∈o.looksAt ops:=by
 unfold Oper.looksAt
 refine List.mem_append_right _ ?_
 simp only [hg,hd,Option.toList_some,List.mem_singleton]
def A1j{o:aE}{st:VS}{h:aF}{gr:Bool}{K:VS->aF->Prop}(hs:Bp P cfg o=true)(hv:S3 P cfg o gr st h K):
 ∃ u:Upd,u.dst=o.dst/\K (u.app st) h/\(∀ d cs,u= .own d cs->st.own d=none)/\(∀ d v k off,u= .put d v->v= .own k off->∃ x off',x∈o.op.operands/\D3 st x= .own k off')/\(∀ d cs,u= .own d cs->R7 cfg o=true)/\
  ∀ st' h' (K':VS->aF->Prop),(Ii o st=true->h.le h')->AgreeOn cfg ops o st st'->K' (u.app st') h'->S3 P cfg o gr st' h' K':=by
 unfold S3 at hv
 obtain ⟨q,hv⟩:=hv.both
 split at hv
 ·rename_i l
  have m:∀ cs b,o.op ≠ .select cs b:=fun cs b e=>by simp [Up,e] at l
  obtain ⟨v,L,G,D⟩:=C0m (cfg:=cfg) (ops:=ops) m hv
  refine ⟨.put o.dst v,rfl,L,(fun d cs e=>by cases e),(fun d N k off e E=>by cases e;exact G k off E),(fun d cs e=>by cases e),fun st' h' K' j g y=>?_⟩
  unfold S3;rw [q];simp only [When,l];exact D st' h' _ j g y
 ·rename_i l
  have a:R7 cfg o=true:=by simpa [Bp,l] using hs
  have n:∀ cells:List aI,Hy cfg o.dst cells st h K->∃ u:Upd,u.dst=o.dst/\K (u.app st) h/\(∀ d cs,u= .own d cs->st.own d=none)/\(∀ d v k off,u= .put d v->v= .own k off->∃ x off',x∈o.op.operands/\D3 st x= .own k off')/\(∀ d cs,u= .own d cs->R7 cfg o=true)/\
   ∀ st' h' (K':VS->aF->Prop),(Ii o st=true->h.le h')->AgreeOn cfg ops o st st'->K' (u.app st') h'->Hy cfg o.dst cells st' h' K':=by
   intro cells hv
   unfold Hy at hv
   split at hv
   ·rename_i d i
    obtain ⟨f,hv⟩:=hv.both
    simp only [aD,Option.isNone_iff_eq_none] at f
    refine ⟨.own d cells,i.symm,hv,(fun M cs e=>by cases e;exact f.2),(fun M v k off e _=>by cases e),(fun _ _ _=>a),fun st' h' K' j g y=>?_⟩
    have F:st'.own d=none:=g.alloc d a i f.2
    rw [i]
    simp only [Hy,f.1.1,f.1.2,F,Option.isNone_none,Bool.and_self,When]
    exact y
   ·exact hv.elim
  have w:=a
  unfold R7 at a
  split at hv
  ·rename_i t c
   rw [c] at a
   simp only [a] at hv
   obtain ⟨J,hv⟩:=hv.both
   obtain ⟨u,r,p,B,A,C,z⟩:=n _ hv
   refine ⟨u,r,p,B,A,C,fun st' h' K' j g y=>?_⟩
   unfold S3;rw [q];simp only [When,l,c,a,J];exact z st' h' K' j g y
  ·rename_i t x c
   rw [c] at a
   obtain ⟨H,hv⟩:=hv.both
   simp only [a] at hv
   obtain ⟨u,r,p,B,A,C,z⟩:=n _ hv
   refine ⟨u,r,p,B,A,C,fun st' h' K' j g y=>?_⟩
   have s:=g.eval (x:=x) (by rw [c];simp [aC])
   unfold S3;rw [q];simp only [When,l,c,a,s,H,g.rho (x:=x) (by rw [c];simp [aC])];exact z st' h' K' j g y
  all_goals (rename_i c;simp [c] at a)
def B9c{o:aE}{st:VS}{h:aF}{gr:Bool}{K:VS->aF->Prop}(hs:Bp P cfg o=true)(hv:Rq P cfg ops o gr st h K):
 ∃ u:Upd,u.dst=o.dst/\K (u.app st) h/\(∀ d cs,u= .own d cs->st.own d=none)/\(∀ d v k off,u= .put d v->v= .own k off->∃ x off',x∈o.op.operands/\D3 st x= .own k off')/\(∀ d cs,u= .own d cs->R7 cfg o=true)/\
  ∀ st' h' (K':VS->aF->Prop),(Ii o st=true->h.le h')->AgreeOn cfg ops o st st'->K' (u.app st') h'->Rq P cfg ops o gr st' h' K':=by
 unfold Rq at hv
 split at hv
 ·rename_i n
  obtain ⟨u,s,r,B,A,D,w⟩:=A1j (ops:=ops) hs hv
  exact ⟨u,s,r,B,A,D,fun st' h' K' p i y=>by unfold Rq;simp only [n];exact w st' h' K' p i y⟩
 ·rename_i j z n
  split at hv
  ·exact hv.elim
  ·rename_i g f
   split at hv
   ·rename_i b m
    have c:=Lg n f
    have skip:∀ E:Bool,b=E->When (Q5 cfg o.dst) (K ((st.put g (.val (.bool E))).putO o.dst (.val undef)) h)->Q5 cfg o.dst=true/\K (st.putO o.dst (.val undef)) h:=by
     intro E e x
     subst e
     rw [aG st m] at x
     exact x.both
    cases b<;>cases z
    ·have l:S3 P cfg o gr (st.put g (.val (.bool false))) h K:=hv
     rw [aG st m] at l
     obtain ⟨u,s,r,B,A,D,w⟩:=A1j (ops:=ops) hs l
     refine ⟨u,s,r,B,A,D,fun st' h' K' p i y=>?_⟩
     have a:st'.env g= .val (.bool false):=by rw [i.env g c];exact m
     unfold Rq;simp only [n,f,a,Br]
     rw [aG st' a];exact w st' h' K' p i y
    ·obtain ⟨t,C⟩:=skip false rfl hv
     refine ⟨.put o.dst (.val undef),rfl,C,(fun d cs e=>by cases e),(fun d v k off e q=>by cases e;cases q),(fun d cs e=>by cases e),fun st' h' K' p i y=>?_⟩
     have a:st'.env g= .val (.bool false):=by rw [i.env g c];exact m
     unfold Rq;simp only [n,f,a,Br]
     rw [aG st' a,t];exact y
    ·obtain ⟨t,C⟩:=skip true rfl hv
     refine ⟨.put o.dst (.val undef),rfl,C,(fun d cs e=>by cases e),(fun d v k off e q=>by cases e;cases q),(fun d cs e=>by cases e),fun st' h' K' p i y=>?_⟩
     have a:st'.env g= .val (.bool true):=by rw [i.env g c];exact m
     unfold Rq;simp only [n,f,a,Br]
     rw [aG st' a,t];exact y
    ·have l:S3 P cfg o gr (st.put g (.val (.bool true))) h K:=hv
     rw [aG st m] at l
     obtain ⟨u,s,r,B,A,D,w⟩:=A1j (ops:=ops) hs l
     refine ⟨u,s,r,B,A,D,fun st' h' K' p i y=>?_⟩
     have a:st'.env g= .val (.bool true):=by rw [i.env g c];exact m
     unfold Rq;simp only [n,f,a,Br]
     rw [aG st' a];exact w st' h' K' p i y
   ·rename_i F m
    have c:=Lg n f
    obtain ⟨t,C⟩:=hv.both
    refine ⟨.put o.dst (.val undef),rfl,C,(fun d cs e=>by cases e),(fun d v k off e q=>by cases e;cases q),(fun d cs e=>by cases e),fun st' h' K' p i y=>?_⟩
    have a:st'.env g= .val (.tuple F):=by rw [i.env g c];exact m
    unfold Rq;simp only [n,f,a]
    rw [t];exact y
   ·exact hv.elim
def Tw{z:aI}{K K':aI->Prop}(x:exT z K)(hk:∀ v,K v->K' v):exT z K':=by
 unfold exT at x ⊢
 split at x
 ·exact B7o x fun a=>hk _
 ·exact A8t x hk
def B41{zs:List aI}: ∀ {K K':List aI->Prop},exTs zs K->(∀ v,K v->K' v)->exTs zs K':=by
 induction zs with
 | nil=>exact fun x a=>a _ x
 | cons z zs ih=>exact fun x a=>Tw x fun v y=>ih y fun b=>a _
def Vo{t:aT}{K K':aI->Prop}(x:exRt P t K)(hk:∀ v,K v->K' v):exRt P t K':=by
 unfold exRt at x ⊢
 split at x
 ·exact B41 x fun a=>hk _
 ·exact Tw x hk
def WFs(st:VS):Prop:=∀ i k off,st.env i= .own k off->(st.own k).isSome=true
structure Frm (o:aE) (st st':VS):Prop where
 env:∀ x,o.dst≠some x->st'.env x=st.env x
 own:∀ k,(o.dst=some k->(st.own k).isSome=true)->(∀ t a b off,o.op= .store t a b->D3 st a ≠ .own k off)->st'.own k=st.own k
 wf:WFs st'
def A1b{st:VS}(wf:WFs st){x:aR}{k off:Nat}(e:D3 st x= .own k off):(st.own k).isSome=true:=by
 cases x with
 | tmp t=>exact wf t k off e
 | _=>cases e
def Qd(st:VS)(d:Option Nat)(v:aO)(x:Nat):(st.putO d v).env x=if d=some x then v else st.env x:=by
 cases d with
 | none=>simp [VS.putO]
 | some d=>
  by_cases h:x=d
  ·subst h;simp [VS.putO,VS.put]
  ·have:¬ d=x:=fun e=>h e.symm
   simp [VS.putO,VS.put,Do h,this]
def S2{o:aE}{st:VS}(wf:WFs st)(u:aI):Frm o st (st.putO o.dst (.val u)):=by
 refine ⟨fun x b=>by rw [Qd,iN b],fun k _ _=>by rw [O3],fun i k a e=>?_⟩
 rw [Qd] at e
 rw [O3]
 split at e
 ·cases e
 ·exact wf i k a e
def Fj{u:Upd}{st:VS}{x:Nat}(h:u.dst≠some x):(u.app st).env x=st.env x:=by
 cases u with
 | put d v=>simp only [Upd.app,Qd];rw [iN (show d≠some x from h)]
 | own d cs=>
  have:x≠d:=fun e=>h (by rw [e];rfl)
  simp [Upd.app,VS.setOwn,VS.put,Do this]
def Cl{u:Upd}{st:VS}{k:Nat}(h:∀ d cs,u= .own d cs->k≠d):(u.app st).own k=st.own k:=by
 cases u with
 | put d v=>simp only [Upd.app,O3]
 | own d cs=>exact F7 _ _ (h d cs rfl)
def Rt(st:VS){d e:Nat}(v u:aO)(h:d≠e):(st.put d v).put e u=(st.put e u).put d v:=by
 unfold VS.put
 congr 1
 funext i
 by_cases a:i=d
 ·subst a;simp [Do h]
 ·by_cases b:i=e
  ·subst b;simp [Do a]
  ·simp [Do a,Do b]
def I5{u:Upd}{st:VS}{d:Option Nat}{v:aO}(h:∀ x,u.dst=some x->d≠some x):(u.app st).putO d v=u.app (st.putO d v):=by
 cases d with
 | none=>rfl
 | some d=>
  cases u with
  | put e w=>
   cases e with
   | none=>rfl
   | some e=>exact Rt st w v (fun x=>h e rfl (congrArg some x.symm))
  | own e cs=>
   have:=Rt st (.own e 0) v (fun x=>h e rfl (congrArg some x.symm))
   show ((st.put e (.own e 0)).setOwn e cs).put d v=((st.put d v).put e (.own e 0)).setOwn e cs
   rw [<- this];rfl
def Jk{u:Upd}{st:VS}{k:Nat}{cs:List aI}(h:∀ d c,u= .own d c->k≠d):(u.app st).setOwn k cs=u.app (st.setOwn k cs):=by
 cases u with
 | put d v=>cases d<;>rfl
 | own d c=>
  have e:=h d c rfl
  show ((st.put d (.own d 0)).setOwn d c).setOwn k cs=((st.setOwn k cs).put d (.own d 0)).setOwn d c
  unfold VS.setOwn VS.put
  congr 1
  funext i
  by_cases a:i=d
  ·subst a;simp [Do (Ne.symm e)]
  ·by_cases b:i=k
   ·subst b;simp [Do a]
   ·simp [Do a,Do b]
def B8b{u v:Upd}{st:VS}(h:∀ x,u.dst=some x->v.dst≠some x):v.app (u.app st)=u.app (v.app st):=by
 cases v with
 | put d w=>exact I5 h
 | own d cs=>
  have a:(u.app st).put d (.own d 0)=u.app (st.put d (.own d 0)):=I5 (d:=some d) h
  show ((u.app st).put d (.own d 0)).setOwn d cs=_
  rw [a,Jk (fun e c eq=>by subst eq;exact fun x=>h e rfl (by rw [<- x];rfl))];rfl
def Frm.upd{o:aE}{u:Upd}{st:VS}(hd:u.dst=o.dst)(wf:WFs st)(hv:∀ d v k off,u= .put d v->v= .own k off->∃ x off',D3 st x= .own k off')(hn:∀ d cs,u= .own d cs->st.own d=none):Frm o st (u.app st):=by
 refine ⟨fun x a=>Fj (by rw [hd];exact a),fun k j _=>Cl (fun d cs e=>?_),fun i k off e=>?_⟩
 ·rintro rfl
  have:=j (by rw [<- hd,e];rfl)
  rw [hn k cs e] at this;cases this
 cases u with
 | put d v=>
  simp only [Upd.app,O3] at e ⊢
  rw [Qd] at e
  split at e
  ·obtain ⟨x,off',a⟩:=hv d v k off rfl e
   exact A1b wf a
  ·exact wf i k off e
 | own d cs=>
  have b:=hn d cs rfl
  by_cases c:i=d
  ·subst c
   have:((st.put i (.own i 0)).setOwn i cs).env i= .own i 0:=by simp [VS.setOwn,VS.put]
   simp only [Upd.app] at e ⊢
   rw [this] at e
   injection e with e1 e2;subst e1
   rw [X5];rfl
  ·rw [Fj (u:=.own d cs) (fun x=>c (by cases x;rfl))] at e
   have:=wf i k off e
   have g:k≠d:=by rintro rfl;rw [b] at this;cases this
   rw [Cl (u:=.own d cs) (fun m l f=>by cases f;exact g)];exact this
structure Before (cfg:Cfg) (ops:Array aE) (u:Upd) (o:aE) (st:VS):Prop where
 look:∀ x,u.dst=some x->x∉o.looksAt ops
 dst:∀ x,u.dst=some x->o.dst≠some x
 free:∀ d cs,u= .own d cs->st.own d=none
 wf:WFs st
def Before.eval{u:Upd}{o:aE}{st:VS}(b:Before cfg ops u o st){x:aR}(hx:x∈o.op.operands):D3 (u.app st) x=D3 st x:=by
 cases x with
 | tmp t=>
  refine Fj fun e=>b.look t e ?_
  unfold Oper.looksAt
  exact aK _ (List.mem_filterMap.2 ⟨.tmp t,by simpa using hx,rfl⟩)
 | _=>rfl
def Before.rho{u:Upd}{o:aE}{st:VS}(b:Before cfg ops u o st){x:aR}(hx:x∈o.op.operands):rho (u.app st) x=rho st x:=by
 unfold Go.Proofs.YtmbfcbbkbefgfaaGreatDoor.rho;rw [b.eval hx]
def Before.key{u:Upd}{o:aE}{st:VS}(b:Before cfg ops u o st){x:aR}{k off:Nat}(e:D3 st x= .own k off):∀ d cs,u= .own d cs->k≠d:=by
 rintro d cs a rfl
 have:=A1b b.wf e
 rw [b.free k cs a] at this;cases this
def Grw(cfg:Cfg)(o:aE)(st:VS)(h h':aF):Prop:=B1i cfg o=false->(∀ t a b,o.op= .store t a b->∃ k off,D3 st a= .own k off)->h.le h'
def Grw.of{cfg:Cfg}{o:aE}{st:VS}{h h':aF}(x:h.le h'):Grw cfg o st h h':=fun _ _=>x
def Grow.map{gr:Bool}{h h':aF}{X Y:Prop}(x:Grow gr h h' X)(f:X->(gr=true->h.le h')->Y):Grow gr h h' Y:=by
 cases gr
 ·exact f x (fun e=>by cases e)
 ·exact ⟨x.1,f x.2 (fun _=>x.1)⟩
def Vq{u:Upd}{o:aE}{st:VS}(b:Before cfg ops u o st){s:Sem aI}{h:aF}{K:VS->aF->Prop}{K':VS->aF->Prop}(hk:∀ st' h',K (u.app st') h'->Grw cfg o st h h'->Frm o st st'->K' st' h')(x:effV P s o true (u.app st) h K):
 effV P s o true st h K':=by
 refine Jp s x fun v h' y=>Tw y fun w ⟨e,a,d⟩=>⟨e,a,hk _ _ ?_ (Grw.of a) (S2 b.wf w)⟩
 rwa [I5 (fun z c=>b.dst z c)] at d
def Yr{u:Upd}{o:aE}{st:VS}{gr:Bool}(b:Before cfg ops u o st)(hgw:B1i cfg o=false->gr=true){s:Sem aI}{h:aF}{K:VS->aF->Prop}{K':VS->aF->Prop}(hk:∀ st' h',K (u.app st') h'->Grw cfg o st h h'->Frm o st st'->K' st' h')(x:effV P s o gr (u.app st) h K):
 effV P s o gr st h K':=by
 refine Jp s x fun v h' y=>Tw y fun w ⟨g,c⟩=>⟨g,c.map fun d f=>hk _ _ ?_ (fun e _=>f (hgw e)) (S2 b.wf w)⟩
 rwa [I5 (fun z a=>b.dst z a)] at d
def A43{u:Upd}{o:aE}{st:VS}(b:Before cfg ops u o st){s:Sem aI}{h:aF}{K:VS->aF->Prop}{K':VS->aF->Prop}(hk:∀ st' h',K (u.app st') h'->Grw cfg o st h h'->Frm o st st'->K' st' h')(x:effP P s o true (u.app st) h K):
 effP P s o true st h K':=by
 refine Jp s x fun v h' ⟨w,e,a,d⟩=>⟨w,e,a,hk _ _ ?_ (Grw.of a) (S2 b.wf _)⟩
 rwa [I5 (fun z c=>b.dst z c)] at d
def B44{u:Upd}{o:aE}{st:VS}(b:Before cfg ops u o st){s:Sem Unit}{h:aF}{K:VS->aF->Prop}{K':VS->aF->Prop}(hno:¬ (∀ t a b,o.op= .store t a b->∃ k off,D3 st a= .own k off))(hk:∀ st' h',K (u.app st') h'->Grw cfg o st h h'->Frm o st st'->K' st' h')(x:effU P s o false (u.app st) h K):
 effU P s o false st h K':=by
 refine Jp s x fun v h' c=>?_
 have c:K ((u.app st).putO o.dst (.val undef)) h':=c
 rw [I5 (fun z d=>b.dst z d)] at c
 exact hk _ _ c (fun _ e=>absurd e hno) (S2 b.wf _)
def Vx{u:Upd}{o:aE}{st:VS}(b:Before cfg ops u o st)(hs:Bp P cfg o=false){h:aF}{K:VS->aF->Prop}{K':VS->aF->Prop}(hk:∀ st' h',K (u.app st') h'->Grw cfg o st h h'->Frm o st st'->K' st' h')(hv:S3 P cfg o (Lh cfg o) (u.app st) h K):S3 P cfg o (Lh cfg o) st h K':=by
 unfold S3 at hv ⊢
 obtain ⟨hd,hv⟩:=hv.both
 rw [hd]
 simp only [Bp,Bool.or_eq_false_iff] at hs
 simp only [hs.1] at hv ⊢
 show (match o.op with
  | .alloc t=>_
  | .box t x=>_
  | .store t a x=>_
  | .makeSlice t l c=>_
  | .buildSlice t n T=>_
  | .convert s d x=>_
  | .call c=>_
  | _=>_)
 split at hv
 ·rename_i t j
  have q:Lh cfg o=true:=by simp [Lh,B1i,j]
  rw [q] at hv ⊢
  have:Nz cfg o.dst=false:=by simpa [R7,j] using hs.2
  simp only [j,this] at hv ⊢
  exact A43 b hk hv
 ·rename_i t x j
  have q:Lh cfg o=true:=by simp [Lh,B1i,j]
  rw [q] at hv ⊢
  have:Nz cfg o.dst=false:=by simpa [R7,j] using hs.2
  have E:x∈o.op.operands:=by rw [j];simp [aC]
  simp only [j,this,b.eval E,b.rho E] at hv ⊢
  obtain ⟨m,hv⟩:=hv.both
  rw [m]
  exact A43 b hk hv
 ·rename_i t a x j
  have q:Lh cfg o=false:=by simp [Lh,j]
  rw [q] at hv ⊢
  have B:a∈o.op.operands:=by rw [j];simp [aC]
  have E:x∈o.op.operands:=by rw [j];simp [aC]
  simp only [j]
  unfold A5k at hv ⊢
  rw [b.eval B] at hv
  split at hv
  ·rename_i k aa L
   have J:=b.key L
   rw [Cl J] at hv
   try simp only [L]
   split at hv
   ·rename_i cs ac
    try simp only [ac]
    rw [b.eval E,b.rho E] at hv
    obtain ⟨m,hv⟩:=hv.both
    rw [m]
    rw [Jk J,I5 (fun z R=>b.dst z R)] at hv
    refine hk _ _ hv (Grw.of (B4 h)) (⟨fun y A=>by rw [Qd,iN A];rfl,fun k' _ M=>?_,fun i k' V e=>?_⟩)
    ·rw [O3,F7]
     rintro rfl;exact M t a x aa j L
    ·rw [Qd] at e
     rw [O3]
     split at e
     ·cases e
     ·have:=b.wf i k' V e
      by_cases X:k'=k
      ·subst X;rw [X5];rfl
      ·rw [F7 _ _ X];exact this
   ·exact hv.elim
  ·rename_i p Q
   try simp only [Q]
   rw [b.eval E,b.rho E] at hv
   obtain ⟨m,hv⟩:=hv.both
   rw [m]
   exact B44 b (fun E=>by obtain ⟨k,aa,e⟩:=E _ _ _ j;rw [Q] at e;cases e) hk hv
  ·exact hv.elim
 ·rename_i t l c j
  have q:Lh cfg o=true:=by simp [Lh,B1i,j]
  rw [q] at hv ⊢
  have hl:l∈o.op.operands:=by rw [j];simp [aC]
  have hc:c∈o.op.operands:=by rw [j];simp [aC]
  have B:P8 (u.app st) [l,c]=P8 st [l,c]:=An fun y A=>by
   simp only [aM,List.not_mem_nil,or_false] at A
   rcases A with rfl|rfl
   ·exact b.eval hl
   ·exact b.eval hc
  simp only [j]
  rw [B,b.rho hl,b.rho hc] at hv
  obtain ⟨m,hv⟩:=hv.both
  rw [m]
  exact Vq b hk hv
 ·rename_i t n T j
  have q:Lh cfg o=true:=by simp [Lh,B1i,j]
  rw [q] at hv ⊢
  have Q:∀ p∈T,p.2∈o.op.operands:=fun p Q=>by
   rw [j];simp only [aC,List.mem_toArray,List.mem_map,Array.mem_toList_iff]
   exact ⟨p,Q,rfl⟩
  have B:P8 (u.app st) (T.toList.map (·.2))=P8 st (T.toList.map (·.2)):=An fun y A=>by
   obtain ⟨p,S,rfl⟩:=List.mem_map.1 A
   exact b.eval (Q p (by simpa using S))
  have N:(T.map fun (i,x)=>(i,rho (u.app st) x))=T.map fun (i,x)=>(i,rho st x):=by
   apply Array.map_congr_left
   intro p S
   simp only [b.rho (Q p S)]
  simp only [j]
  rw [B,N] at hv
  obtain ⟨m,hv⟩:=hv.both
  rw [m]
  exact Vq b hk hv
 ·rename_i s d x j
  have q:Lh cfg o=true:=by simp [Lh,B1i,j]
  rw [q] at hv ⊢
  have E:x∈o.op.operands:=by rw [j];simp [aC]
  have B:P8 (u.app st) [x]=P8 st [x]:=An fun y A=>by
   simp only [aM,List.not_mem_nil,or_false] at A
   rw [A];exact b.eval E
  simp only [j]
  rw [B,b.rho E] at hv
  obtain ⟨m,hv⟩:=hv.both
  rw [m]
  exact Vq b hk hv
 ·rename_i c j
  generalize q:Lh cfg o=gr at hv ⊢
  have F:B1i cfg o=false->gr=true:=fun e=>by rw [<- q];simp [Lh,j,e]
  have G:∀ y∈c.args,y∈o.op.operands:=fun y A=>by
   rw [j];simp only [aC,Call.operands];exact Array.mem_append.2 (.inr A)
  have B:P8 (u.app st) c.args.toList=P8 st c.args.toList:=An fun y A=>b.eval (G y (by simpa using A))
  have N:c.args.map (rho (u.app st))=c.args.map (rho st):=Array.map_congr_left fun y A=>b.rho (G y A)
  simp only [j]
  split at hv
  ·rename_i f C
   try simp only [C]
   unfold A7x at hv ⊢
   have hf:f∈o.op.operands:=by rw [j];simp [aC,Call.operands,C]
   rw [b.eval hf] at hv
   split at hv
   ·rename_i g first D O
    try simp only [O]
    split at hv
    ·rename_i H
     rw [B,N] at hv
     obtain ⟨m,hv⟩:=hv.both
     try simp only [H]
     rw [m]
     refine FCall.mono hv fun r h' y=>Vo y fun w ⟨m,M⟩=>⟨m,M.map fun Z W=>hk _ _ ?_ (fun e _=>W (F e)) (S2 b.wf w)⟩
     rwa [I5 (fun z R=>b.dst z R)] at Z
    ·rename_i H
     rw [B,N] at hv
     obtain ⟨m,hv⟩:=hv.both
     try simp only [H]
     rw [m]
     refine ECall.mono hv fun r h' y=>Vo y fun w ⟨m,M⟩=>⟨m,M.map fun Z W=>hk _ _ ?_ (fun e _=>W (F e)) (S2 b.wf w)⟩
     rwa [I5 (fun z R=>b.dst z R)] at Z
   ·rename_i l first D O
    try simp only [O]
    rw [B,N] at hv
    obtain ⟨m,hv⟩:=hv.both
    rw [m]
    refine YCall.mono hv fun r h' y=>Vo y fun w ⟨m,M⟩=>⟨m,M.map fun Z W=>hk _ _ ?_ (fun e _=>W (F e)) (S2 b.wf w)⟩
    rwa [I5 (fun z R=>b.dst z R)] at Z
   ·exact hv.elim
  ·rename_i C
   try simp only [C]
   rw [B,N] at hv
   obtain ⟨m,hv⟩:=hv.both
   rw [m]
   exact Yr b F hk hv
  ·rename_i C
   try simp only [C]
   rw [B,N] at hv
   obtain ⟨m,hv⟩:=hv.both
   rw [m]
   exact Yr b F hk hv
  ·exact hv.elim
 ·exact hv.elim
def B32{u:Upd}{o:aE}{st:VS}(b:Before cfg ops u o st){h:aF}{K:VS->aF->Prop}{K':VS->aF->Prop}(hk:∀ st' h',K (u.app st') h'->Grw cfg o st h h'->Frm o st st'->K' st' h')(hv:Rq P cfg ops o (Lh cfg o) (u.app st) h K):Rq P cfg ops o (Lh cfg o) st h K':=by
 cases hs:Bp P cfg o with
 | true=>
  obtain ⟨v,m,l,Q,O,T,N⟩:=B9c (ops:=ops) hs hv
  have L:AgreeOn cfg ops o (u.app st) st:=by
   refine ⟨fun x q=>(Fj fun e=>b.look x e q).symm,fun t a k s B e=>?_,fun d _ M E=>(Cl fun R F e=>?_).symm.trans E⟩
   ·rw [b.eval (by rw [B];simp [aC])] at e
    exact (Cl (b.key e)).symm
   ·rintro rfl
    exact b.dst d (by rw [e];rfl) M
  refine N st h _ (fun _=>B4 h) L (hk _ _ ?_ (Grw.of (B4 h)) (Frm.upd m b.wf (fun d w k s e A=>?_) (fun d F e=>?_)))
  ·rw [<- B8b (fun x q=>by rw [m];exact b.dst x q)];exact l
  ·obtain ⟨x,r,q,y⟩:=O d w k s e A
   exact ⟨x,r,by rw [<- b.eval q];exact y⟩
  ·have:=Q d F e
   rwa [Cl (fun R J A=>by
    rintro rfl
    exact b.dst d (by rw [A];rfl) (by rw [<- m,e];rfl))] at this
 | false=>
  unfold Rq at hv ⊢
  split at hv
  ·rename_i H
   exact Vx b hs hk hv
  ·rename_i j p H
   split at hv
   ·exact hv.elim
   ·rename_i g C
    have n:=Lg (o:=o) H C
    have y:(u.app st).env g=st.env g:=Fj fun e=>b.look g e n
    rw [y] at hv
    split at hv
    ·rename_i G i
     have f:(u.app st).env g= .val (.bool G):=by rw [y];exact i
     have skip:Q5 cfg o.dst=true/\K ((u.app st).putO o.dst (.val undef)) h->When (Q5 cfg o.dst) (K' (st.putO o.dst (.val undef)) h):=by
      rintro ⟨m,l⟩
      rw [m]
      rw [I5 (fun z D=>b.dst z D)] at l
      exact hk _ _ l (Grw.of (B4 h)) (S2 b.wf _)
     try simp only [i]
     cases G<;>cases p
     ·have c:S3 P cfg o (Lh cfg o) ((u.app st).put g (.val (.bool false))) h K:=hv
      rw [aG _ f] at c
      simp only [Br];rw [aG st i]
      exact Vx b hs hk c
     ·have c:When (Q5 cfg o.dst) (K (((u.app st).put g (.val (.bool false))).putO o.dst (.val undef)) h):=hv
      rw [aG _ f] at c
      simp only [Br];rw [aG st i]
      exact skip c.both
     ·have c:When (Q5 cfg o.dst) (K (((u.app st).put g (.val (.bool true))).putO o.dst (.val undef)) h):=hv
      rw [aG _ f] at c
      simp only [Br];rw [aG st i]
      exact skip c.both
     ·have c:S3 P cfg o (Lh cfg o) ((u.app st).put g (.val (.bool true))) h K:=hv
      rw [aG _ f] at c
      simp only [Br];rw [aG st i]
      exact Vx b hs hk c
    ·rename_i S i
     try simp only [i]
     obtain ⟨m,l⟩:=hv.both
     rw [m]
     rw [I5 (fun z D=>b.dst z D)] at l
     exact hk _ _ l (Grw.of (B4 h)) (S2 b.wf _)
    ·exact hv.elim
def Uv{o:aE}{st:VS}(wf:WFs st){h:aF}{K K':VS->aF->Prop}(hv:Rq P cfg ops o (Lh cfg o) st h K)(hk:∀ st' h',K st' h'->Grw cfg o st h h'->Frm o st st'->K' st' h'):Rq P cfg ops o (Lh cfg o) st h K':=
 B32 (u:=.put none (.val undef)) ⟨(fun x e=>by cases e),(fun x e=>by cases e),(fun d a e=>by cases e),wf⟩ hk hv
def B7y{oj oi x:aE}{st st':VS}{rem rem':List Nat}(hsub:∀ i∈rem',i∈rem)(hfr:Frm oi st st')(hap:oj.apart ops oi=true)(hmem:∃ i:Nat,i∈rem/\ops[i]? = some oi)(h:Rd cfg ops rem oj x st=true):Rd cfg ops rem' oj x st'=true:=by
 obtain ⟨_,_,k⟩:=Oper.apart_spec hap
 unfold Rd at h ⊢
 simp only [aD] at h ⊢
 obtain ⟨l,h⟩:=h
 have c:Ii oj st'=Ii oj st:=by
  unfold Ii
  split
  ·rename_i m a j
   have f:D3 st' a=D3 st a:=by
    cases a with
    | tmp z=>
     refine hfr.env z fun e=>k z e ?_
     unfold Oper.looksAt
     exact aK _ (List.mem_filterMap.2 ⟨.tmp z,by rw [j];simp [aC],rfl⟩)
    | _=>rfl
   rw [f]
  ·rfl
 refine ⟨by rw [c];exact l,?_⟩
 split at h
 ·rename_i t y b o
  split at h
  ·rename_i m a j
   simp only [aD] at h ⊢
   refine ⟨List.all_eq_true.2 fun i d=>List.all_eq_true.1 h.1 i (hsub i d),?_⟩
   have f:D3 st' a=D3 st a:=by
    cases a with
    | tmp z=>
     refine hfr.env z fun e=>k z e ?_
     unfold Oper.looksAt
     exact aK _ (List.mem_filterMap.2 ⟨.tmp z,by rw [j];simp [aC],rfl⟩)
    | _=>rfl
   have n:st'.env y=st.env y:=by
    refine hfr.env y fun e=>?_
    obtain ⟨i,d,g⟩:=hmem
    have:=List.all_eq_true.1 h.1 i d
    simp only [g,e] at this
    simp [Nat.beq_refl] at this
   rw [f,n];exact h.2
  ·exact h
 ·exact h
 ·exact h
def swap{oj oi:aE}{st:VS}{rem:List Nat}(wf:WFs st)(hs:Bp P cfg oj=true)(hap:oj.apart ops oi=true)(hc:Rd cfg ops rem oj oi st=true){h:aF}{K:VS->aF->Prop}
 (hv:Rq P cfg ops oj (Lh cfg oj) st h fun st1 h1=>Rq P cfg ops oi (Lh cfg oi) st1 h1 K):Rq P cfg ops oi (Lh cfg oi) st h fun st1 h1=>Frm oi st st1/\Rq P cfg ops oj (Lh cfg oj) st1 h1 K:=by
 obtain ⟨E,s,M⟩:=Oper.apart_spec hap
 obtain ⟨u,h1,z,H,O,Q,C⟩:=B9c (ops:=ops) hs hv
 have b:Before cfg ops u oi st:=⟨fun x e=>E x (by rw [<- h1];exact e),fun x e=>s x (by rw [<- h1];exact e),H,wf⟩
 have g:=hc
 unfold Rd at g
 simp only [aD] at g
 have hc:=g.2
 have D:Ii oj st=true->B1i cfg oi=false:=fun e=>by
  have:=g.1
  rw [e] at this
  simpa using this
 refine B32 b (fun p B J G o=>⟨o,C p B K (fun c=>G (D c) fun w n r i=>?_) ?_ J⟩) z
 ·obtain ⟨t,x,hld⟩:∃ t x,oj.op= .load t x:=by
   unfold Ii at c
   split at c
   ·exact ⟨_,_,by assumption⟩
   ·cases c
  rw [i] at hc
  cases n with
  | tmp y=>
   simp only [hld,aD] at hc
   show ∃ k l,st.env y= .own k l
   revert hc
   cases D3 st x<;>cases st.env y<;>simp
  | _=>simp at hc
 refine ⟨fun x F=>o.env x fun e=>M x e F,fun t a k l q e=>o.own k (fun _=>A1b wf e) (fun w n r j i f=>?_),fun d N A m=>(o.own d (fun e=>absurd e (s d A)) (fun w n r j i f=>?_)).trans m⟩
 ·rw [i] at hc
  cases n with
  | tmp y=>
   simp only [q,aD] at hc
   have L:st.env y= .own k j:=f
   rw [e,L] at hc
   simp [Nat.beq_refl] at hc
  | _=>simp at hc
 ·have:=A1b wf f
  rw [m] at this;cases this
def C44{anc:List (List Nat)}{al:Nat->List Nat}{i:Nat}{oi:aE}(hi:ops[i]? = some oi){L2:List Nat}{K:VS->aF->Prop}: ∀ (L1:List Nat) (n:Nat) (st:VS) (h:aF),n=L1.length+L2.length->WFs st->(∀ j∈L1,has (anc.getD i []) j=false)->i∉L1->
 Ei P cfg ops anc al (n+1) (L1++i::L2) st h K->Rq P cfg ops oi (Lh cfg oi) st h fun st' h'=>WFs st'/\Ei P cfg ops anc al n (L1++L2) st' h' K:=by
 intro L1
 induction L1 with
 | nil=>
  intro n st h _ wf _ _ g
  simp only [List.nil_append,Ei,hi] at g
  exact Uv wf (A8z g.both.2) fun st' h' l _ m=>⟨m.wf,l⟩
 | cons j L1 ih=>
  intro n st h C wf d A g
  obtain ⟨n,rfl⟩:∃ n',n=n'+1:=⟨L1.length+L2.length,by simp at C;omega⟩
  have B:n=L1.length+L2.length:=by simp at C;omega
  have p:i∉L1:=fun z=>A (by simp [z])
  simp only [aJ,Ei] at g
  split at g
  ·exact g.elim
  ·rename_i s E
   obtain ⟨c,g⟩:=g.both
   have c:=List.all_eq_true.1 c
   have b:=c i (by simp)
   unfold A0g at b
   rw [aN] at b
   rcases b with b|b
   ·unfold B2x at b
    rw [d j (by simp),hi] at b
    simp only [Bool.false_or,aD] at b
    obtain ⟨⟨f,w⟩,J⟩:=b
    have L:Bp P cfg s=true:=by
     unfold B73 at f
     rw [aD] at f
     exact f.1
    have r:Rq P cfg ops s (Lh cfg s) st h fun e r=>Rq P cfg ops oi (Lh cfg oi) e r fun q D=>WFs q/\Ei P cfg ops anc al n (L1++L2) q D K:=
     Uv wf (A8z g) fun e r l _ m=>ih n e r B m.wf (fun k G=>d k (by simp [G])) p l
    refine Uv wf (swap wf L w J r) fun e r ⟨m,l⟩ _ _=>⟨m.wf,?_⟩
    simp only [aJ,Ei,E]
    have u:(L1++L2).all (A0g P cfg ops anc al (L1++L2) e s j)=true:=by
     refine List.all_eq_true.2 fun x o=>?_
     have a:=c x (by
      simp only [List.mem_append,aM] at o ⊢
      rcases o with o|o
      ·exact .inl o
      ·exact .inr (.inr o))
     unfold A0g at a ⊢
     rw [f] at a ⊢
     simp only [Bool.not_true,Bool.false_and,Bool.or_false] at a ⊢
     unfold B2x at a ⊢
     simp only [aN] at a ⊢
     rcases a with a|a
     ·exact .inl a
     ·refine .inr ?_
      split at a
      ·rename_i O M
       simp only [aD] at a ⊢
       exact ⟨a.1,B7y (rem:=L1++i::L2) (fun y t=>by
        simp only [List.mem_append,aM] at t ⊢
        rcases t with t|t
        ·exact .inl t
        ·exact .inr (.inr t)) m w ⟨i,by simp,hi⟩ a.2⟩
      ·cases a
    rw [u]
    have F:A4f P cfg anc al s j (L1++L2)=[]:=by unfold A4f;rw [f]
    rw [F]
    exact Uv m.wf l fun q D ⟨_,l⟩ _ _=>l
   ·simp only [aD,Bool.not_eq_true'] at b
    obtain ⟨H,N⟩:=A7y (L2:=L2) p
    have z:i∈A4f P cfg anc al s j (L1++i::L2):=by
     unfold A4f
     rw [b.1]
     refine List.mem_filter.2 ⟨X9.1 b.2,?_⟩
     rw [H,X9.2 (show i∈L1++i::L2 by simp),d j (by simp)]
     simp only [Bool.true_and,Bool.not_false,Bool.and_true]
     exact List.all_eq_true.2 fun x o=>by rw [d x (by simp [o])];rfl
    have:=C1z g z
    simp only [hi] at this
    rw [N] at this
    exact Uv wf this fun st' h' l _ m=>⟨m.wf,by simp only [aJ,Ei,E] at l ⊢;exact l⟩
def B03:∀ {L done:List Nat},B30 ops done L=true->L.Nodup/\(∀ i∈L,i∉done)/\∀ L1 i L2,L=L1++i::L2->∃ o,ops[i]? = some o/\∀ e∈o.after,Region.binds .any e=true->e.on∈done\/e.on∈L1:=by
 intro L
 induction L with
 | nil=>exact fun _=>⟨List.nodup_nil,(fun i b=>by cases b),(fun L1 i L2 e=>by simp at e)⟩
 | cons x L ih=>
  intro done h
  simp only [B30,aD,Bool.not_eq_true'] at h
  obtain ⟨⟨j,l⟩,r⟩:=h
  obtain ⟨p,m,q⟩:=ih r
  have n:x∉done:=fun d=>by rw [X9.2 d] at l;cases l
  refine ⟨List.nodup_cons.2 ⟨fun d=>m x d (by simp),p⟩,fun i b=>?_,fun L1 i L2 e=>?_⟩
  ·cases b with
   | head=>exact n
   | tail _ b=>exact fun d=>m i b (by simp [d])
  ·cases L1 with
   | nil=>
    simp only [List.nil_append,List.cons.injEq] at e
    obtain ⟨rfl,rfl⟩:=e
    split at j
    ·rename_i o k
     refine ⟨o,k,fun e f g=>.inl ?_⟩
     have:=List.all_eq_true.1 j e (by simpa using f)
     rw [g] at this
     exact X9.1 (by simpa using this)
    ·cases j
   | cons y L1=>
    simp only [aJ,List.cons.injEq] at e
    obtain ⟨rfl,rfl⟩:=e
    obtain ⟨o,k,c⟩:=q L1 i L2 rfl
    refine ⟨o,k,fun e f g=>?_⟩
    rcases c e f g with a|a
    ·simp only [aM] at a
     rcases a with a|a
     ·exact .inr (by simp [a])
     ·exact .inl a
    ·exact .inr (by simp [a])
def A0o{listed:Array Bool}{i:Nat}(d:Bool)(h:i<listed.size):(listed.setIfInBounds i true).getD i d=true:=by
 simp [h]
def B4p{al:Nat->List Nat}{F:Fence}{fu:Nat}[FOk F]{n:Nat}{h0:aF}{W0:World}(hn:cfg.n=n)(hfn:Bodies P cfg.fns){anc:List (List Nat)}(hanc:C49 ops anc=true){Q:Exit->Act->World->Prop}{K:VS->aF->Prop}{ord:List Nat}(hord:B30 ops [] ord=true)(_hall:∀ i,i<ops.size->i∈ord):
 ∀ (m:Nat) (L:List Nat) (listed:Array Bool) (st:VS) (h:aF) (a:Act) (W:World),L.length=m->L.Sublist ord->listed.size=ops.size->(∀ i,i<ops.size->(listed.getD i true=false↔i∈L))->(∀ i j,listed.getD i false=true->has (anc.getD i []) j=true->listed.getD j false=true)->
  Good n h0 W0 st h a W->Ei P cfg ops anc al m L st h K->(∀ st' h' a' W',K st' h'->Good n h0 W0 st' h' a' W'->Agree cfg.lim st st'->Q .normal a' W')->wpAnyIn F fu P .any ops Q m listed a W:=by
 obtain ⟨V,_,B⟩:=B03 hord
 intro m
 induction m with
 | zero=>
  intro L listed st h a W R f A b u g hv hQ
  have:L=[]:=List.eq_nil_of_length_eq_zero R
  subst this
  simp only [Ei] at hv
  refine ⟨?_,hQ st h a W hv g (Agree.refl _ _)⟩
  apply List.eq_nil_iff_forall_not_mem.2
  intro i N
  obtain ⟨h1,o,ho,_⟩:=mem_ready.1 N
  have:=(b i (Array.getElem?_eq_some_iff.1 ho).1).1 h1
  cases this
 | succ m ih=>
  intro L listed st h a W R f A b u g hv hQ
  have wf:WFs st:=by obtain ⟨θ,r,_,_⟩:=g;exact r.wf
  have inl:∀ i,i∈L->i<ops.size:=by
   intro i N
   obtain ⟨L1,L2,e⟩:=aL (f.subset N)
   obtain ⟨o,ho,_⟩:=B L1 i L2 e
   exact (Array.getElem?_eq_some_iff.1 ho).1
  constructor
  ·
   intro q
   exfalso
   cases L with
   | nil=>simp at R
   | cons i L=>
    have N:=inl i (by simp)
    obtain ⟨L1,L2,e⟩:=aL (f.subset (show i∈i::L by simp))
    obtain ⟨o,ho,hp⟩:=B L1 i L2 e
    have:i∈Region.ready .any ops listed:=by
     refine mem_ready.2 ⟨(b i N).2 (by simp),o,ho,fun t S C=>?_⟩
     rcases hp t S C with h'|h'
     ·cases h'
     ·have ac:t.on<ops.size:=by
       obtain ⟨M1,M2,e'⟩:=aL h'
       obtain ⟨o',af,_⟩:=B M1 t.on (M2++i::L2) (by rw [e,e'];simp)
       exact (Array.getElem?_eq_some_iff.1 af).1
      have T:t.on∉i::L:=by
       intro hm
       have H:(i::L).Sublist (L1++i::L2):=by rw [<- e];exact f
       have w:(L1++i::L2).Nodup:=by rw [<- e];exact V
       have s:i∉L1:=fun D=>(List.nodup_append.1 w).2.2 i D i (by simp) rfl
       have ae:(i::L).Sublist (i::L2):=by
        clear q b u hQ hv g ih hp S C
        revert H s
        clear w e h'
        induction L1 with
        | nil=>exact fun h _=>h
        | cons y L1 ihL=>
         intro H s
         refine ihL ?_ (fun D=>s (by simp [D]))
         cases H with
         | cons _ h=>exact h
         | cons_cons _ h=>exact absurd (by simp) s
       have:=ae.subset hm
       exact (List.nodup_append.1 w).2.2 t.on h' t.on this rfl
      cases hg:listed.getD t.on false with
      | true=>rfl
      | false=>
       have:listed.getD t.on true=false:=by
        have O:t.on<listed.size:=by rw [A];exact ac
        simp [aS,O] at hg ⊢;exact hg
       exact absurd ((b _ ac).1 this) T
    rw [q] at this;cases this
  ·intro i N
   obtain ⟨h1,oi,z,Z⟩:=mem_ready.1 N
   have p:=(Array.getElem?_eq_some_iff.1 z).1
   have an:=(b i p).1 h1
   obtain ⟨L1,L2,e⟩:=aL an
   have l:L.Nodup:=f.nodup V
   have aj:∀ j∈L1,has (anc.getD i []) j=false:=by
    intro j M
    cases D:has (anc.getD i []) j with
    | false=>rfl
    | true=>
     exfalso
     have J:j∈L:=by rw [e];simp [M]
     have X:=(b j (inl j J)).2 J
     have hA:=List.all_eq_true.1 (List.all_eq_true.1 hanc i (List.mem_range.2 p)) j (X9.1 D)
     simp only [z] at hA
     obtain ⟨t,S,C⟩:=List.any_eq_true.1 hA
     simp only [aD,aN] at C
     have x:=Z t (by simpa using S) C.1
     have G:listed.getD j false=true:=by
      rcases C.2 with h'|h'
      ·rw [<- aH h'];exact x
      ·exact u _ j x h'
     have O:j<listed.size:=by rw [A];exact inl j J
     simp [aS,O] at X G
     rw [X] at G;cases G
   have aa:i∉L1:=by
    rw [e] at l
    exact fun D=>(List.nodup_append.1 l).2.2 i D i (by simp) rfl
   have ao:=C44 z (L2:=L2) L1 m st h (by have:=R;rw [e,List.length_append,List.length_cons] at this;omega) wf aj aa (by rw [<- e];exact hv)
   refine wpOpIn_mono (fun a' W' ⟨st',h',⟨_,hK⟩,g',ag⟩=>?_) (g.op hn hfn z ao)
   have E:∀ j d,(listed.setIfInBounds i true).getD j d=if j=i then true else listed.getD j d:=by
    intro j d
    by_cases c:j=i
    ·subst c;rw [iP rfl];exact A0o d (by rw [A];exact p)
    ·rw [iN c];exact getD_set_ne d (Ne.symm c)
   rw [e] at l
   have ah:i∉L1:=fun D=>(List.nodup_append.1 l).2.2 i D i (by simp) rfl
   have ai:i∉L2:=(List.nodup_cons.1 (List.nodup_append.1 l).2.1).1
   refine ih (L1++L2) _ st' h' a' W' (by rw [e] at R;simp at R ⊢;omega) ?_ (by simpa using A) (fun j M=>?_) (fun j k M hk=>?_) g' hK fun am h2 a2 W2 k g2 ak=>hQ am h2 a2 W2 k g2 (ag.trans ak)
   ·refine List.Sublist.trans ?_ f
    rw [e]
    exact List.Sublist.append (List.Sublist.refl _) (List.sublist_cons_self _ _)
   ·rw [E]
    by_cases c:j=i
    ·subst c;simp [ah,ai]
    ·rw [iN c,b j M,e];simp [c]
   ·rw [E] at M ⊢
    by_cases ad:k=i
    ·rw [iP ad]
    ·rw [iN ad]
     by_cases c:j=i
     ·subst c
      have hA:=List.all_eq_true.1 (List.all_eq_true.1 hanc j (List.mem_range.2 p)) k (X9.1 hk)
      simp only [z] at hA
      obtain ⟨t,S,C⟩:=List.any_eq_true.1 hA
      simp only [aD,aN] at C
      have x:=Z t (by simpa using S) C.1
      rcases C.2 with h'|h'
      ·rw [<- aH h'];exact x
      ·exact u _ k x h'
     ·rw [iN c] at M;exact u j k M hk
def B0f{al:Nat->List Nat}{F:Fence}{fu:Nat}[FOk F]{n:Nat}{h0:aF}{W0:World}(hn:cfg.n=n)(hfn:Bodies P cfg.fns){id:Nat}{ord:List Nat}{anc:List (List Nat)}(hok:B49 P ops ord anc=true){Q:Exit->Act->World->Prop}{K:VS->aF->Prop}{st:VS}{h:aF}{a:Act}{W:World}
 (g:Good n h0 W0 st h a W) (hv:Ei P cfg ops anc al ord.length ord st h K) (hQ:∀ st' h' a' W',K st' h'->Good n h0 W0 st' h' a' W'->Agree cfg.lim st st'->Q .normal a' W'):(Code.region id ops true).wpIn F fu P Q a W:=by
 simp only [B49,aD] at hok
 obtain ⟨⟨⟨⟨o,k⟩,l⟩,m⟩,e⟩:=hok
 refine wpIn_region_any o ?_
 have q:Good n h0 W0 st h a { W with drawn:=W.drawn+1 }:=by
  obtain ⟨θ,r,f,p⟩:=g
  exact ⟨θ,⟨r.defers,r.size,r.slot,r.sim,r.own,r.inj,r.wf,r.out⟩,⟨f.sim,f.os,f.tape,f.output,f.size,f.keep,f.new⟩,p⟩
 have b:∀ i,i<ops.size->i∈ord:=fun i c=>X9.1 (List.all_eq_true.1 m i (List.mem_range.2 c))
 rw [aH e] at hv
 refine B4p hn hfn k l b ops.size ord _ st h a _ (aH e) (List.Sublist.refl _) (by simp) (fun i c=>?_) (fun i j c _=>?_) q hv hQ
 ·simp [aS,c,b i c]
 ·by_cases d:i<ops.size<;>simp [aS,d] at c
end
