/- A part. -/
import Derived.Test.YtmbfcbbkbefgfaaGreatDoorG02
set_option linter.all false
open _root_.Array renaming getD->aS
open Bool renaming and_eq_true->aD,or_eq_true->aN
open List renaming cons_append->aJ,mem_append_left->aK,append_of_mem->aL,mem_cons->aM
open Nat renaming eq_of_beq_eq_true->aH,beq->aP
open _root_.Go.Op renaming operands->aC
open _root_.Go renaming Oper->aE,Value->aI,Program->aQ,Operand->aR,TypeId->aT
open _root_.Go.Proofs.YtmbfcbbkbefgfaaGreatDoor renaming Heap->aF,put_self->aG,AVal->aO
namespace Go.Proofs.YtmbfcbbkbefgfaaGreatDoor
open Go
def S9(cfg:Cfg)(o:aE):Bool:=
 match o.op with
 | .alloc _ | .box _ _=>Nw cfg o.dst
 | _=>false
def Ca(P:aQ)(cfg:Cfg)(o:aE):Bool:=Ui P o||S9 cfg o
def B3i(ops:Array aE)(rem:List Nat)(y:Nat):Bool:=rem.all fun i=>match ops[i]? with
 | some o=>(match o.dst with
  | some d=> !aP d y
  | none=>true)
 | none=>true
def B1e(cfg:Cfg)(o:aE):Bool:=
 match o.op with
 | .call c=>
  match c.callee with
  | .value (.func g)=>has cfg.wr g
  | .value (.tmp _)=>true
  | .builtin .copy=>true
  | .builtin .append=>has cfg.wr 1000000000
  | _=>false
 | _=>false
def Id(o:aE)(st:VS):Bool:=
 match o.op with
 | .load _ a=>(match D5 st a with
  | .own _ _=>false
  | _=>true)
 | _=>false
def Qt(cfg:Cfg)(ops:Array aE)(rem:List Nat)(oj oi:aE)(st:VS):Bool:=
 !(B1e cfg oi&&Id oj st) &&
 match oi.op with
 | .store _ (.tmp y) _=>
  match oj.op with
  | .load _ a=>B3i ops rem y&&(match D5 st a,st.env y with
   | .own k _,.own k' _=> !aP k k'
   | .val _,.own _ _=>true
   | _,_=>false)
  | _=>true
 | .store _ _ _=>false
 | _=>true
def B73(P:aQ)(cfg:Cfg)(al:Nat->List Nat)(oj:aE)(j:Nat):Bool:=Ca P cfg oj&&(al j).isEmpty
def B2h(P:aQ)(cfg:Cfg)(ops:Array aE)(anc:List (List Nat))(al:Nat->List Nat)(rem:List Nat)(st:VS)(oj:aE)(j i:Nat):Bool:=
 has (anc.getD i []) j ||
 match ops[i]? with
 | some oi=>B73 P cfg al oj j&&oj.apart ops oi&&Qt cfg ops rem oj oi st
 | none=>false
def Ll(cfg:Cfg)(o:aE):Bool:=
 match o.op with
 | .store _ _ _=>false
 | _=> !B1e cfg o
def A0j(P:aQ)(cfg:Cfg)(ops:Array aE)(anc:List (List Nat))(al:Nat->List Nat)(rem:List Nat)(st:VS)(oj:aE)(j i:Nat):Bool:=
 B2h P cfg ops anc al rem st oj j i||(!B73 P cfg al oj j&&has (al j) i)
def C32(i:Nat):List Nat->List Nat
 | []=>[]
 | x::L=>bif aP x i then [] else x::C32 i L
def del(i:Nat):List Nat->List Nat
 | []=>[]
 | x::L=>bif aP x i then L else x::del i L
def A4d(P:aQ)(cfg:Cfg)(anc:List (List Nat))(al:Nat->List Nat)(oj:aE)(j:Nat)(L:List Nat):List Nat:=
 match B73 P cfg al oj j with
 | true=>[]
 | false=>(al j).filter fun i=>has L i&&(C32 i L).all (fun x=> !has (anc.getD i []) x) && !has (anc.getD i []) j
def C6c(f:Nat->Prop):Nat->List Nat->Prop
 | i,[]=>f i
 | i,k::r=>f i/\C6c f k r
def C6d(A:Prop)(f:Nat->Prop):List Nat->Prop
 | []=>A
 | i::r=>A/\C6c f i r
def Ek(P:aQ)(cfg:Cfg)(ops:Array aE)(anc:List (List Nat))(al:Nat->List Nat):Nat->List Nat->VS->aF->(VS->aF->Prop)->Prop
 | _,[],st,h,K=>K st h
 | 0,_::_,_,_,_=>False
 | n+1,j::L,st,h,K=>
  match ops[j]? with
  | none=>False
  | some o=>When (L.all (A0j P cfg ops anc al L st o j))
   (C6d (Rj P cfg ops o (Ll cfg o) st h fun st' h'=>Ek P cfg ops anc al n L st' h' K)
    (fun i=>
     match ops[i]? with
     | none=>False
     | some oi=>Rj P cfg ops oi (Ll cfg oi) st h fun st' h'=>Ek P cfg ops anc al n (j::del i L) st' h' K)
    (A4d P cfg anc al o j L))
def B4m{f:Nat->Prop}{i:Nat}: ∀ {k:Nat} {r:List Nat},C6c f k r->i∈k::r->f i
 | k,[],x,h=>by rw [List.mem_singleton.1 h];exact x
 | k,m::r,x,h=>by
  rcases List.mem_cons.1 h with rfl|h
  ·exact x.1
  ·exact B4m x.2 h
def A8o{A:Prop}{f:Nat->Prop}: ∀ {r:List Nat},C6d A f r->A
 | [],x=>x
 | _::_,x=>x.1
def C20{A:Prop}{f:Nat->Prop}{i:Nat}: ∀ {r:List Nat},C6d A f r->i∈r->f i
 | [],_,h=>by cases h
 | _::_,x,h=>B4m x.2 h
def A7j{i:Nat}{L2:List Nat}: ∀ {L1:List Nat},i∉L1->C32 i (L1++i::L2)=L1/\del i (L1++i::L2)=L1++L2
 | [],_=>by simp [C32,del]
 | x::L1,h=>by
  have hx:aP x i=false:=by
   cases e:aP x i with
   | false=>rfl
   | true=>
    have a:=aH e
    subst a
    exact absurd List.mem_cons_self h
  obtain ⟨b,d⟩:=A7j (L2:=L2) (L1:=L1) (i:=i) (fun c=>h (List.mem_cons_of_mem _ c))
  simp only [aJ,C32,del,hx,b,d,cond_false,and_self]
def C45(ops:Array aE)(anc:List (List Nat)):Bool:=
 (List.range ops.size).all fun i=>(anc.getD i []).all fun j=>
  match ops[i]? with
  | some o=>o.after.toList.any fun e=>Region.binds .any e&&(aP e.on j||has (anc.getD e.on []) j)
  | none=>false
def B2k(ops:Array aE):List Nat->List Nat->Bool
 | _,[]=>true
 | done,i::L=>
  (match ops[i]? with
   | some o=>o.after.toList.all fun e=> !Region.binds .any e||has done e.on
   | none=>false) && !has done i&&B2k ops (i::done) L
def B43(P:aQ)(ops:Array aE)(ord:List Nat)(anc:List (List Nat)):Bool:=
 P.follows .mixedOrders&&C45 ops anc&&B2k ops [] ord&&(List.range ops.size).all (has ord)&&aP ord.length ops.size
section
variable {P:aQ} {cfg:Cfg} {ops:Array aE}
structure AgreeOn (cfg:Cfg) (ops:Array aE) (o:aE) (st st':VS):Prop where
 env:∀ x∈o.looksAt ops,st'.env x=st.env x
 load:∀ t a k off,o.op= .load t a->D5 st a= .own k off->st'.own k=st.own k
 alloc:∀ d,S9 cfg o=true->o.dst=some d->st.own d=none->st'.own d=none
def AgreeOn.eval{o:aE}{st st':VS}(ag:AgreeOn cfg ops o st st'){x:aR}(hx:x∈o.op.operands):D5 st' x=D5 st x:=by
 cases x with
 | tmp t=>
  refine ag.env t ?_
  unfold Oper.looksAt
  exact aK _ (List.mem_filterMap.2 ⟨.tmp t,by simpa using hx,rfl⟩)
 | _=>rfl
def AgreeOn.rho{o:aE}{st st':VS}(ag:AgreeOn cfg ops o st st'){x:aR}(hx:x∈o.op.operands):rho st' x=rho st x:=by
 unfold Go.Proofs.YtmbfcbbkbefgfaaGreatDoor.rho;rw [ag.eval hx]
def A8f{z:aI}{K K':aI->Prop}(x:exV z K)(hk:∀ v,K v->K' v):exV z K':=by
 cases z<;>(unfold exV at x ⊢)<;>first
  | (obtain ⟨n,a⟩:=x;exact ⟨n,hk _ a⟩)
  | (obtain ⟨p,n,c,a⟩:=x;exact ⟨p,n,c,hk _ a⟩)
def B7q{zs:List aI}: ∀ {K K':List aI->Prop},exL zs K->(∀ v,K v->K' v)->exL zs K':=by
 induction zs with
 | nil=>exact fun x a=>a _ x
 | cons z zs ih=>exact fun x a=>A8f x fun v y=>ih y fun b=>a _
def B3s{z:aI}{K:aI->Prop}(x:exV z K):∃ v,K v/\∀ K':aI->Prop,K' v->exV z K':=by
 cases z<;>(unfold exV at x)<;>first
  | (obtain ⟨n,a⟩:=x;exact ⟨_,a,fun K' y=>⟨_,y⟩⟩)
  | (obtain ⟨p,n,c,a⟩:=x;exact ⟨_,a,fun K' y=>⟨_,_,_,y⟩⟩)
def C1p{zs:List aI}: ∀ {K:List aI->Prop},exL zs K->∃ vs,K vs/\∀ K':List aI->Prop,K' vs->exL zs K':=by
 induction zs with
 | nil=>exact fun x=>⟨[],x,fun _ y=>y⟩
 | cons z zs ih=>
  intro K x
  obtain ⟨v,c,b⟩:=B3s x
  obtain ⟨vs,a,d⟩:=ih c
  exact ⟨v::vs,a,fun K' y=>b _ (d _ y)⟩
def A6q{h:aF}{a:Addr}: ∀ {vs:List aI} {j:Nat} {X:Prop},cellsAt h a j vs X->X/\∀ h' (Y:Prop),h.le h'->Y->cellsAt h' a j vs Y:=by
 intro vs
 induction vs with
 | nil=>exact fun x=>⟨x,fun _ _ _ y=>y⟩
 | cons v vs ih=>
  intro j X ⟨h1,h2⟩
  obtain ⟨d,c⟩:=ih h2
  exact ⟨d,fun h' Y b y=>⟨C1 b h1,c h' Y b y⟩⟩
def A3u{h:aF}{t:aT}{a:Addr}{C:aO->Prop}(x:Am P t a h C):∃ u,C (.val u)/\∀ h' (C':aO->Prop),h.le h'->C' (.val u)->Am P t a h' C':=by
 cases hag:Nx P t with
 | none=>simp only [Am,hag] at x
 | some b=>
  cases b with
  | true=>
   simp only [Am,hag] at x
   split at x
   ·rename_i zs g
    obtain ⟨f,x⟩:=x.both
    obtain ⟨m,d,c⟩:=C1p x
    obtain ⟨j,i⟩:=A6q d
    refine ⟨_,j,fun h' C' e y=>?_⟩
    simp only [Am,hag,g,f]
    exact c _ (i h' _ e y)
   ·exact x.elim
  | false=>
   simp only [Am,hag] at x
   obtain ⟨v,⟨k,l⟩,c⟩:=B3s x
   refine ⟨_,l,fun h' C' e y=>?_⟩
   simp only [Am,hag]
   exact c _ ⟨C1 e k,y⟩
def A67{t:aT}{cs:List aI}{off:Nat}{C:aO->Prop}(x:Z8 P t cs off C):∃ u,C (.val u)/\∀ C':aO->Prop,C' (.val u)->Z8 P t cs off C':=by
 cases hag:Nx P t with
 | none=>simp only [Z8,hag] at x
 | some b=>
  cases b with
  | true=>
   simp only [Z8,hag] at x
   obtain ⟨a,x⟩:=x.both
   exact ⟨_,x,fun C' y=>by simp only [Z8,hag,a];exact y⟩
  | false=>
   simp only [Z8,hag] at x
   split at x
   ·rename_i v c
    exact ⟨_,x,fun C' y=>by simp only [Z8,hag,c];exact y⟩
   ·exact x.elim
def Z6{v:Option aO}{dflt y:Nat}{C:Nat->Prop}(x:slBound v dflt y C):∃ m,C m/\∀ C':Nat->Prop,C' m->slBound v dflt y C':=by
 rcases x.out with ⟨rfl,a⟩|⟨k,i,rfl,b,c,a⟩
 ·exact ⟨_,a,fun _ z=>z⟩
 ·exact ⟨_,a,fun _ z=>⟨⟨b,c⟩,z⟩⟩
def A5k{t:aT}{x:aO}{lo hi:Option aO}{C:aO->Prop}(hv:Fm P t x lo hi C):∃ u,C (.val u)/\∀ C':aO->Prop,C' (.val u)->Fm P t x lo hi C':=by
 unfold Fm at hv
 split at hv
 ·rename_i s f
  obtain ⟨m,g,i⟩:=Z6 hv
  obtain ⟨l,d,b⟩:=Z6 g
  exact ⟨_,d,fun C' y=>by simp only [Fm,f];exact i (fun h=>slBound lo 0 h fun l=>C' (.val (.string (s.extract l h)))) (b (fun l=>C' (.val (.string (s.extract l m)))) y)⟩
 ·rename_i e A n c f
  obtain ⟨j,hv⟩:=hv.both
  obtain ⟨m,g,i⟩:=Z6 hv
  obtain ⟨l,d,b⟩:=Z6 g
  exact ⟨_,d,fun C' y=>by simp only [Fm,f,j];exact i (fun h=>slBound lo 0 h fun l=>C' (.val (.slice (H9 A c l (P.cellsOf e)) (h-l) (c-l)))) (b (fun l=>C' (.val (.slice (H9 A c l (P.cellsOf e)) (m-l) (c-l)))) y)⟩
 ·rename_i n e a f
  obtain ⟨j,hv⟩:=hv.both
  obtain ⟨m,g,i⟩:=Z6 hv
  obtain ⟨l,d,b⟩:=Z6 g
  exact ⟨_,d,fun C' y=>by simp only [Fm,f,j];exact i (fun h=>slBound lo 0 h fun l=>C' (.val (.slice (H9 (some a) n l (P.cellsOf e)) (h-l) (n-l)))) (b (fun l=>C' (.val (.slice (H9 (some a) n l (P.cellsOf e)) (m-l) (n-l)))) y)⟩
 ·exact hv.elim
def Zz{b:Bool}{X Y:Prop}(x:Br b X Y):(b=true/\X)\/(b=false/\Y):=by
 cases b
 ·exact .inr ⟨rfl,x⟩
 ·exact .inl ⟨rfl,x⟩
def Ts{t:aT}{x i:aO}{C:aO->Prop}(hv:P7 P t x i C):
 ∃ v,C v/\(∀ k off,v= .own k off->∃ off',x= .own k off')/\∀ C':aO->Prop,C' v->P7 P t x i C':=by
 unfold P7 at hv
 split at hv
 ·rename_i len e k off _ n d
  obtain ⟨b,hv⟩:=hv.both
  rcases Zz hv with ⟨e,hv⟩|⟨_,hv⟩
  ·exact ⟨_,hv,(fun j off' f=>by cases f;exact ⟨off,rfl⟩),fun C' y=>by simp only [P7,d,b,e];exact y⟩
  ·exact hv.elim
 ·rename_i len e a _ n d
  obtain ⟨b,g,hv⟩:=hv.both
  exact ⟨_,hv,(fun j off' f=>by cases f),fun C' y=>by simp only [P7,d,b];exact ⟨g,y⟩⟩
 ·rename_i e A n c _ i d
  obtain ⟨b,a,g,m,l,hv⟩:=hv.both
  exact ⟨_,hv,(fun j off' f=>by cases f),fun C' y=>by simp only [P7,d,b];exact ⟨a,g,m,l,y⟩⟩
 ·exact hv.elim
def Bf{st st':VS}{xs:List aR}(h:∀ x∈xs,D5 st' x=D5 st x):R1 st' xs=R1 st xs:=by
 unfold R1
 induction xs with
 | nil=>rfl
 | cons x xs ih=>simp only [List.all_cons,h x (by simp),ih (fun y a=>h y (by simp [a]))]
def Pq{o:aE}{st:VS}(hsel:∀ cs b,o.op ≠ .select cs b){C:aO->Prop}(hv:Mm P o st C):∃ u,C (.val u)/\∀ st' (C':aO->Prop),AgreeOn cfg ops o st st'->C' (.val u)->Mm P o st' C':=by
 unfold Mm at hv
 split at hv
 ·rename_i e
  split at hv
  ·rename_i v d
   refine ⟨_,hv,fun st' C' c y=>?_⟩
   unfold Mm
   have f:R1 st' o.op.operands.toList=true:=by rw [Bf (fun x a=>c.eval (by simpa using a))];exact e
   have g:execOp (rho st') o=execOp (rho st) o:=execOp_congr o hsel fun x a=>c.rho a
   rw [f]
   simp only [g,d]
   exact y
  ·exact hv.elim
 ·exact hv.elim
def A2q{t:aT}{xs ys:Array aI}{C:Bool->Prop}(hv:A2r P t xs ys C):∃ b,C b/\∀ C':Bool->Prop,C' b->A2r P t xs ys C':=by
 unfold A2r at hv
 split at hv
 ·rename_i e a
  obtain ⟨c,hv⟩:=hv.both
  split at hv
  ·rename_i b d
   exact ⟨b,hv,fun C' y=>by simp only [A2r,a,c,d];exact y⟩
  ·exact hv.elim
 ·exact hv.elim
def B1g{o:aE}{st:VS}{op:BinOp}{t t':aT}{x z:aR}(hop:o.op= .binOp op t x z t'){C:aO->Prop}(hv:Ki P o st op t (D5 st x) (D5 st z) C):
 ∃ u,C (.val u)/\∀ st' (C':aO->Prop),AgreeOn cfg ops o st st'->C' (.val u)->Ki P o st' op t (D5 st' x) (D5 st' z) C':=by
 have i:∀ cs b,o.op ≠ .select cs b:=by rw [hop];intro _ _ e;cases e
 have f:∀ st',AgreeOn cfg ops o st st'->D5 st' x=D5 st x/\D5 st' z=D5 st z:=fun st' d=>⟨d.eval (by rw [hop];simp [aC]),d.eval (by rw [hop];simp [aC])⟩
 unfold Ki at hv
 split at hv
 ·rename_i a c
  obtain ⟨b,k,j⟩:=A2q hv
  exact ⟨_,k,fun st' C' d y=>by rw [(f st' d).1,(f st' d).2];simp only [Ki,a,c];exact j (fun b=>C' (.val (.bool b))) y⟩
 ·rename_i a c
  obtain ⟨b,k,j⟩:=A2q hv
  exact ⟨_,k,fun st' C' d y=>by rw [(f st' d).1,(f st' d).2];simp only [Ki,a,c];exact j (fun b=>C' (.val (.bool (!b)))) y⟩
 ·rename_i a c
  obtain ⟨g,hv⟩:=hv.both
  exact ⟨_,hv,fun st' C' d y=>by rw [(f st' d).1,(f st' d).2];simp only [Ki,a,c,g];exact y⟩
 ·rename_i a c
  obtain ⟨g,hv⟩:=hv.both
  exact ⟨_,hv,fun st' C' d y=>by rw [(f st' d).1,(f st' d).2];simp only [Ki,a,c,g];exact y⟩
 ·rename_i a c
  obtain ⟨g,hv⟩:=hv.both
  rcases Zz hv with ⟨e,hv⟩|⟨e,hv⟩
  ·exact hv.elim
  ·exact ⟨_,hv,fun st' C' d y=>by rw [(f st' d).1,(f st' d).2];simp only [Ki,a,c,g,e];exact y⟩
 ·rename_i a c
  obtain ⟨g,hv⟩:=hv.both
  rcases Zz hv with ⟨e,hv⟩|⟨e,hv⟩
  ·exact hv.elim
  ·exact ⟨_,hv,fun st' C' d y=>by rw [(f st' d).1,(f st' d).2];simp only [Ki,a,c,g,e];exact y⟩
 ·rename_i a c
  rcases Zz hv with ⟨e,hv⟩|⟨e,hv⟩
  ·exact hv.elim
  ·exact ⟨_,hv,fun st' C' d y=>by rw [(f st' d).1,(f st' d).2];simp only [Ki,a,c,e];exact y⟩
 ·rename_i a c
  rcases Zz hv with ⟨e,hv⟩|⟨e,hv⟩
  ·exact hv.elim
  ·exact ⟨_,hv,fun st' C' d y=>by rw [(f st' d).1,(f st' d).2];simp only [Ki,a,c,e];exact y⟩
 ·rename_i a c
  exact ⟨_,hv.2,fun st' C' d y=>by rw [(f st' d).1,(f st' d).2];simp only [Ki,a,c];exact ⟨hv.1,y⟩⟩
 ·rename_i B r n w s q m p l
  obtain ⟨u,A,j⟩:=Pq (cfg:=cfg) (ops:=ops) i hv
  refine ⟨u,A,fun st' C' d y=>?_⟩
  rw [(f st' d).1,(f st' d).2]
  unfold Ki
  split
  ·rename_i a c;exact (B _ _ rfl a c).elim
  ·rename_i a c;exact (r _ _ rfl a c).elim
  ·rename_i a c;exact (n _ _ _ _ _ rfl a c).elim
  ·rename_i a c;exact (w _ _ _ _ _ rfl a c).elim
  ·rename_i a c;exact (s _ _ _ _ rfl a c).elim
  ·rename_i a c;exact (q _ _ _ _ rfl a c).elim
  ·rename_i a c;exact (m _ _ _ _ rfl a c).elim
  ·rename_i a c;exact (p _ _ _ _ rfl a c).elim
  ·rename_i a c;exact (l _ _ rfl a c).elim
  ·exact j st' C' d y
def C0t{o:aE}{st:VS}{h:aF}(hsel:∀ cs b,o.op ≠ .select cs b){C:aO->Prop}(hv:vcQ P o st h C):
 ∃ v,C v/\(∀ k off,v= .own k off->∃ x off',x∈o.op.operands/\D5 st x= .own k off')/\∀ st' h' C',(Id o st=true->h.le h')->AgreeOn cfg ops o st st'->C' v->vcQ P o st' h' C':=by
 unfold vcQ at hv
 split at hv
 ·rename_i x a
  refine ⟨_,hv,(fun k off e=>⟨x,off,(by rw [a];simp [aC]),e⟩),fun st' h' C' n d y=>?_⟩
  unfold vcQ;simp only [a,d.eval (x:=x) (by rw [a];simp [aC])];exact y
 ·rename_i x a
  refine ⟨_,hv,(fun k off e=>⟨x,off,(by rw [a];simp [aC]),e⟩),fun st' h' C' n d y=>?_⟩
  unfold vcQ;simp only [a,d.eval (x:=x) (by rw [a];simp [aC])];exact y
 ·rename_i c x z a
  split at hv
  ·rename_i b B
   have Z:∀ st',AgreeOn cfg ops o st st'->D5 st' c= .val (.bool b)/\D5 st' x=D5 st x/\D5 st' z=D5 st z:=fun st' d=>
    ⟨by rw [d.eval (x:=c) (by rw [a];simp [aC])];exact B,d.eval (by rw [a];simp [aC]),d.eval (by rw [a];simp [aC])⟩
   rcases Zz hv with ⟨e,hv⟩|⟨e,hv⟩
   ·refine ⟨_,hv,(fun k off e=>⟨x,off,(by rw [a];simp [aC]),e⟩),fun st' h' C' n d y=>?_⟩
    obtain ⟨E,G,L⟩:=Z st' d
    unfold vcQ;simp only [a,E,G,L,e];exact y
   ·refine ⟨_,hv,(fun k off e=>⟨z,off,(by rw [a];simp [aC]),e⟩),fun st' h' C' n d y=>?_⟩
    obtain ⟨E,G,L⟩:=Z st' d
    unfold vcQ;simp only [a,E,G,L,e];exact y
  ·exact hv.elim
 ·rename_i t x a
  have g:∀ st',AgreeOn cfg ops o st st'->D5 st' x=D5 st x:=fun st' d=>d.eval (by rw [a];simp [aC])
  split at hv
  ·rename_i k off q
   split at hv
   ·rename_i cs T
    obtain ⟨u,r,w⟩:=A67 hv
    refine ⟨_,r,(fun k off e=>by cases e),fun st' h' C' n d y=>?_⟩
    unfold vcQ;simp only [a,g st' d,q,d.load t x k off a q,T];exact w C' y
   ·exact hv.elim
  ·rename_i N q
   obtain ⟨u,r,w⟩:=A3u hv
   refine ⟨_,r,(fun k off e=>by cases e),fun st' h' C' n d y=>?_⟩
   unfold vcQ;simp only [a,g st' d,q];exact w h' C' (n (by simp only [Id,a,q])) y
  ·exact hv.elim
 ·rename_i s x f a
  have g:∀ st',AgreeOn cfg ops o st st'->D5 st' x=D5 st x:=fun st' d=>d.eval (by rw [a];simp [aC])
  split at hv
  ·rename_i k off q
   split at hv
   ·rename_i fs W
    split at hv
    ·rename_i fd O
     obtain ⟨B,hv⟩:=hv.both
     refine ⟨_,hv,(fun V off' e=>by cases e;exact ⟨x,off,(by rw [a];simp [aC]),q⟩),fun st' h' C' n d y=>?_⟩
     unfold vcQ;simp only [a,g st' d,q,W,O,B];exact y
    ·exact hv.elim
   ·exact hv.elim
  ·rename_i N q
   split at hv
   ·rename_i fs W
    split at hv
    ·rename_i fd O
     obtain ⟨B,hv⟩:=hv.both
     refine ⟨_,hv,(fun V off' e=>by cases e),fun st' h' C' n d y=>?_⟩
     unfold vcQ;simp only [a,g st' d,q,W,O,B];exact y
    ·exact hv.elim
   ·exact hv.elim
  ·exact hv.elim
 ·rename_i x a
  have g:∀ st',AgreeOn cfg ops o st st'->D5 st' x=D5 st x:=fun st' d=>d.eval (by rw [a];simp [aC])
  split at hv
  ·rename_i k off q
   refine ⟨_,hv,(fun V off' e=>by cases e;exact ⟨x,off,(by rw [a];simp [aC]),q⟩),fun st' h' C' n d y=>?_⟩
   unfold vcQ;simp only [a,g st' d,q];exact y
  ·rename_i p q
   obtain ⟨N,hp,hv⟩:=hv
   refine ⟨_,hv,(fun V off' e=>by cases e),fun st' h' C' n d y=>?_⟩
   unfold vcQ;simp only [a,g st' d,q];exact ⟨N,hp,y⟩
  ·exact hv.elim
 ·rename_i t x i a
  obtain ⟨v,r,hw,w⟩:=Ts hv
  refine ⟨_,r,(fun k off e=>let ⟨off',e'⟩:=hw k off e;⟨x,off',(by rw [a];simp [aC]),e'⟩),fun st' h' C' n d y=>?_⟩
  unfold vcQ;simp only [a,d.eval (x:=x) (by rw [a];simp [aC]),d.eval (x:=i) (by rw [a];simp [aC])];exact w C' y
 ·rename_i t x i a
  have g:∀ st',AgreeOn cfg ops o st st'->D5 st' x=D5 st x/\D5 st' i=D5 st i:=fun st' d=>⟨d.eval (by rw [a];simp [aC]),d.eval (by rw [a];simp [aC])⟩
  split at hv
  ·rename_i s _ j S E G
   obtain ⟨c,h0,hv⟩:=hv
   refine ⟨_,hv,(fun k off e=>by cases e),fun st' h' C' n d y=>?_⟩
   unfold vcQ;simp only [a,(g st' d).1,(g st' d).2,S,E,G];exact ⟨c,h0,y⟩
  ·rename_i n1
   obtain ⟨u,r,w⟩:=Pq (cfg:=cfg) (ops:=ops) hsel hv
   refine ⟨_,r,(fun k off e=>by cases e),fun st' h' C' n d y=>?_⟩
   unfold vcQ;simp only [a,(g st' d).1,(g st' d).2]
   exact w st' C' d y
 ·rename_i t x J H a
  obtain ⟨u,r,w⟩:=A5k hv
  refine ⟨_,r,(fun k off e=>by cases e),fun st' h' C' n d y=>?_⟩
  have g:D5 st' x=D5 st x:=d.eval (by rw [a];simp [aC])
  have F:J.map (D5 st')=J.map (D5 st):=by
   cases J with
   | none=>rfl
   | some z=>simp only [Option.map_some];rw [d.eval (x:=z) (by rw [a];simp [aC])]
  have D:H.map (D5 st')=H.map (D5 st):=by
   cases H with
   | none=>rfl
   | some z=>simp only [Option.map_some];rw [d.eval (x:=z) (by rw [a];simp [aC])]
  unfold vcQ;simp only [a,g,F,D];exact w C' y
 ·rename_i t x J H mx a
  have ev:∀ st',AgreeOn cfg ops o st st'->D5 st' x=D5 st x/\D5 st' J=D5 st J/\D5 st' H=D5 st H/\D5 st' mx=D5 st mx:=fun st' d=>⟨d.eval (by rw [a];simp [aC]),d.eval (by rw [a];simp [aC]),d.eval (by rw [a];simp [aC]),d.eval (by rw [a];simp [aC])⟩
  unfold Ml at hv
  split at hv
  ·rename_i e A m c k1 l k2 h' k3 b S g F D R
   obtain ⟨B,E,G,L,hv⟩:=hv.both
   refine ⟨_,hv,(fun k off e=>by cases e),fun st' h' C' n d y=>?_⟩
   unfold vcQ;simp only [a,(ev st' d).1,(ev st' d).2.1,(ev st' d).2.2.1,(ev st' d).2.2.2,g,F,D,R,Ml,S,B]
   exact ⟨E,G,L,y⟩
  ·exact hv.elim
 ·rename_i op t x z t' a
  obtain ⟨u,r,w⟩:=B1g (cfg:=cfg) (ops:=ops) a hv
  refine ⟨_,r,(fun k off e=>by cases e),fun st' h' C' n d y=>?_⟩
  unfold vcQ;simp only [a];exact w st' C' d y
 ·exact hv.elim
 ·rename_i n1 n2 n3 n4 n5 n6 n7 n8 n9 M X Q
  obtain ⟨u,r,w⟩:=Pq (cfg:=cfg) (ops:=ops) hsel hv
  refine ⟨_,r,(fun k off e=>by cases e),fun st' h' C' n d y=>?_⟩
  unfold vcQ
  split
  ·rename_i e;exact (n1 _ e).elim
  ·rename_i e;exact (n2 _ e).elim
  ·rename_i e;exact (n3 _ _ _ e).elim
  ·rename_i e;exact (n4 _ _ e).elim
  ·rename_i e;exact (n5 _ _ _ e).elim
  ·rename_i e;exact (n6 _ e).elim
  ·rename_i e;exact (n7 _ _ _ e).elim
  ·rename_i e;exact (n8 _ _ _ e).elim
  ·rename_i e;exact (n9 _ _ _ _ e).elim
  ·rename_i e;exact (M _ _ _ _ _ e).elim
  ·rename_i e;exact (X _ _ _ _ _ e).elim
  ·rename_i e;exact (Q _ e).elim
  ·exact w st' C' d y
inductive Upd where
 | put (d:Option Nat) (v:aO)
 | own (d:Nat) (cs:List aI)
def Upd.app:Upd->VS->VS
 | .put d v,s=>s.putO d v
 | .own d cs,s=>(s.put d (.own d 0)).setOwn d cs
def Upd.dst:Upd->Option Nat
 | .put d _=>d
 | .own d _=>some d
def Lk{o:aE}{j:Nat}{want:Bool}{g:Nat}(hg:o.guard=some (j,want))(hd:(ops[j]?).bind (·.dst)=some g):g∈o.looksAt ops:=by
 unfold Oper.looksAt
 refine List.mem_append_right _ ?_
 simp only [hg,hd,Option.toList_some,List.mem_singleton]
def A1r{o:aE}{st:VS}{h:aF}{gr:Bool}{K:VS->aF->Prop}(hs:Ca P cfg o=true)(hv:T6 P cfg o gr st h K):
 ∃ u:Upd,u.dst=o.dst/\K (u.app st) h/\(∀ d cs,u= .own d cs->st.own d=none)/\(∀ d v k off,u= .put d v->v= .own k off->∃ x off',x∈o.op.operands/\D5 st x= .own k off')/\(∀ d cs,u= .own d cs->S9 cfg o=true)/\
  ∀ st' h' (K':VS->aF->Prop),(Id o st=true->h.le h')->AgreeOn cfg ops o st st'->K' (u.app st') h'->T6 P cfg o gr st' h' K':=by
 unfold T6 at hv
 obtain ⟨C,hv⟩:=hv.both
 split at hv
 ·rename_i j
  have m:∀ cs b,o.op ≠ .select cs b:=fun cs b e=>by simp [Ui,e] at j
  obtain ⟨v,H,F,s⟩:=C0t (cfg:=cfg) (ops:=ops) m hv
  refine ⟨.put o.dst v,rfl,H,(fun d cs e=>by cases e),(fun d N k off e G=>by cases e;exact F k off G),(fun d cs e=>by cases e),fun st' h' K' l g y=>?_⟩
  unfold T6;rw [C];simp only [When,j];exact s st' h' _ l g y
 ·rename_i j
  have a:S9 cfg o=true:=by simpa [Ca,j] using hs
  have n:∀ cells:List aI,Ho cfg o.dst cells st h K->∃ u:Upd,u.dst=o.dst/\K (u.app st) h/\(∀ d cs,u= .own d cs->st.own d=none)/\(∀ d v k off,u= .put d v->v= .own k off->∃ x off',x∈o.op.operands/\D5 st x= .own k off')/\(∀ d cs,u= .own d cs->S9 cfg o=true)/\
   ∀ st' h' (K':VS->aF->Prop),(Id o st=true->h.le h')->AgreeOn cfg ops o st st'->K' (u.app st') h'->Ho cfg o.dst cells st' h' K':=by
   intro cells hv
   unfold Ho at hv
   split at hv
   ·rename_i d i
    obtain ⟨f,hv⟩:=hv.both
    simp only [aD,Option.isNone_iff_eq_none] at f
    refine ⟨.own d cells,i.symm,hv,(fun L cs e=>by cases e;exact f.2),(fun L v k off e _=>by cases e),(fun _ _ _=>a),fun st' h' K' l g y=>?_⟩
    have J:st'.own d=none:=g.alloc d a i f.2
    rw [i]
    simp only [Ho,f.1.1,f.1.2,J,Option.isNone_none,Bool.and_self,When]
    exact y
   ·exact hv.elim
  have p:=a
  unfold S9 at a
  split at hv
  ·rename_i t c
   rw [c] at a
   simp only [a] at hv
   obtain ⟨M,hv⟩:=hv.both
   obtain ⟨u,r,z,q,D,A,B⟩:=n _ hv
   refine ⟨u,r,z,q,D,A,fun st' h' K' l g y=>?_⟩
   unfold T6;rw [C];simp only [When,j,c,a,M];exact B st' h' K' l g y
  ·rename_i t x c
   rw [c] at a
   obtain ⟨E,hv⟩:=hv.both
   simp only [a] at hv
   obtain ⟨u,r,z,q,D,A,B⟩:=n _ hv
   refine ⟨u,r,z,q,D,A,fun st' h' K' l g y=>?_⟩
   have w:=g.eval (x:=x) (by rw [c];simp [aC])
   unfold T6;rw [C];simp only [When,j,c,a,w,E,g.rho (x:=x) (by rw [c];simp [aC])];exact B st' h' K' l g y
  all_goals (rename_i c;simp [c] at a)
def B98{o:aE}{st:VS}{h:aF}{gr:Bool}{K:VS->aF->Prop}(hs:Ca P cfg o=true)(hv:Rj P cfg ops o gr st h K):
 ∃ u:Upd,u.dst=o.dst/\K (u.app st) h/\(∀ d cs,u= .own d cs->st.own d=none)/\(∀ d v k off,u= .put d v->v= .own k off->∃ x off',x∈o.op.operands/\D5 st x= .own k off')/\(∀ d cs,u= .own d cs->S9 cfg o=true)/\
  ∀ st' h' (K':VS->aF->Prop),(Id o st=true->h.le h')->AgreeOn cfg ops o st st'->K' (u.app st') h'->Rj P cfg ops o gr st' h' K':=by
 unfold Rj at hv
 split at hv
 ·rename_i n
  obtain ⟨u,s,z,r,C,A,B⟩:=A1r (ops:=ops) hs hv
  exact ⟨u,s,z,r,C,A,fun st' h' K' p g y=>by unfold Rj;simp only [n];exact B st' h' K' p g y⟩
 ·rename_i j q n
  split at hv
  ·exact hv.elim
  ·rename_i i f
   split at hv
   ·rename_i b m
    have c:=Lk n f
    have skip:∀ E:Bool,b=E->When (R8 cfg o.dst) (K ((st.put i (.val (.bool E))).putO o.dst (.val undef)) h)->R8 cfg o.dst=true/\K (st.putO o.dst (.val undef)) h:=by
     intro E e x
     subst e
     rw [aG st m] at x
     exact x.both
    cases b<;>cases q
    ·have l:T6 P cfg o gr (st.put i (.val (.bool false))) h K:=hv
     rw [aG st m] at l
     obtain ⟨u,s,z,r,C,A,B⟩:=A1r (ops:=ops) hs l
     refine ⟨u,s,z,r,C,A,fun st' h' K' p g y=>?_⟩
     have a:st'.env i= .val (.bool false):=by rw [g.env i c];exact m
     unfold Rj;simp only [n,f,a,Br]
     rw [aG st' a];exact B st' h' K' p g y
    ·obtain ⟨D,w⟩:=skip false rfl hv
     refine ⟨.put o.dst (.val undef),rfl,w,(fun d cs e=>by cases e),(fun d v k off e t=>by cases e;cases t),(fun d cs e=>by cases e),fun st' h' K' p g y=>?_⟩
     have a:st'.env i= .val (.bool false):=by rw [g.env i c];exact m
     unfold Rj;simp only [n,f,a,Br]
     rw [aG st' a,D];exact y
    ·obtain ⟨D,w⟩:=skip true rfl hv
     refine ⟨.put o.dst (.val undef),rfl,w,(fun d cs e=>by cases e),(fun d v k off e t=>by cases e;cases t),(fun d cs e=>by cases e),fun st' h' K' p g y=>?_⟩
     have a:st'.env i= .val (.bool true):=by rw [g.env i c];exact m
     unfold Rj;simp only [n,f,a,Br]
     rw [aG st' a,D];exact y
    ·have l:T6 P cfg o gr (st.put i (.val (.bool true))) h K:=hv
     rw [aG st m] at l
     obtain ⟨u,s,z,r,C,A,B⟩:=A1r (ops:=ops) hs l
     refine ⟨u,s,z,r,C,A,fun st' h' K' p g y=>?_⟩
     have a:st'.env i= .val (.bool true):=by rw [g.env i c];exact m
     unfold Rj;simp only [n,f,a,Br]
     rw [aG st' a];exact B st' h' K' p g y
   ·rename_i F m
    have c:=Lk n f
    obtain ⟨D,w⟩:=hv.both
    refine ⟨.put o.dst (.val undef),rfl,w,(fun d cs e=>by cases e),(fun d v k off e t=>by cases e;cases t),(fun d cs e=>by cases e),fun st' h' K' p g y=>?_⟩
    have a:st'.env i= .val (.tuple F):=by rw [g.env i c];exact m
    unfold Rj;simp only [n,f,a]
    rw [D];exact y
   ·exact hv.elim
def Tn{z:aI}{K K':aI->Prop}(x:exT z K)(hk:∀ v,K v->K' v):exT z K':=by
 unfold exT at x ⊢
 split at x
 ·exact B7q x fun a=>hk _
 ·exact A8f x hk
def B3t{zs:List aI}: ∀ {K K':List aI->Prop},exTs zs K->(∀ v,K v->K' v)->exTs zs K':=by
 induction zs with
 | nil=>exact fun x a=>a _ x
 | cons z zs ih=>exact fun x a=>Tn x fun v y=>ih y fun b=>a _
def Vo{t:aT}{K K':aI->Prop}(x:exRt P t K)(hk:∀ v,K v->K' v):exRt P t K':=by
 unfold exRt at x ⊢
 split at x
 ·exact B3t x fun a=>hk _
 ·exact Tn x hk
def WFs(st:VS):Prop:=∀ i k off,st.env i= .own k off->(st.own k).isSome=true
structure Frm (o:aE) (st st':VS):Prop where
 env:∀ x,o.dst≠some x->st'.env x=st.env x
 own:∀ k,(o.dst=some k->(st.own k).isSome=true)->(∀ t a b off,o.op= .store t a b->D5 st a ≠ .own k off)->st'.own k=st.own k
 wf:WFs st'
def A1k{st:VS}(wf:WFs st){x:aR}{k off:Nat}(e:D5 st x= .own k off):(st.own k).isSome=true:=by
 cases x with
 | tmp t=>exact wf t k off e
 | _=>cases e
def Pt(st:VS)(d:Option Nat)(v:aO)(x:Nat):(st.putO d v).env x=if d=some x then v else st.env x:=by
 cases d with
 | none=>simp [VS.putO]
 | some d=>
  by_cases h:x=d
  ·subst h;simp [VS.putO,VS.put]
  ·have:¬ d=x:=fun e=>h e.symm
   simp [VS.putO,VS.put,Du h,this]
def T5{o:aE}{st:VS}(wf:WFs st)(u:aI):Frm o st (st.putO o.dst (.val u)):=by
 refine ⟨fun x a=>by rw [Pt,iN a],fun k _ _=>by rw [Q1],fun i k off e=>?_⟩
 rw [Pt] at e
 rw [Q1]
 split at e
 ·cases e
 ·exact wf i k off e
def Fi{u:Upd}{st:VS}{x:Nat}(h:u.dst≠some x):(u.app st).env x=st.env x:=by
 cases u with
 | put d v=>simp only [Upd.app,Pt];rw [iN (show d≠some x from h)]
 | own d cs=>
  have:x≠d:=fun e=>h (by rw [e];rfl)
  simp [Upd.app,VS.setOwn,VS.put,Du this]
def Ct{u:Upd}{st:VS}{k:Nat}(h:∀ d cs,u= .own d cs->k≠d):(u.app st).own k=st.own k:=by
 cases u with
 | put d v=>simp only [Upd.app,Q1]
 | own d cs=>exact G8 _ _ (h d cs rfl)
def Rn(st:VS){d e:Nat}(v u:aO)(h:d≠e):(st.put d v).put e u=(st.put e u).put d v:=by
 unfold VS.put
 congr 1
 funext i
 by_cases a:i=d
 ·subst a;simp [Du h]
 ·by_cases b:i=e
  ·subst b;simp [Du a]
  ·simp [Du a,Du b]
def J4{u:Upd}{st:VS}{d:Option Nat}{v:aO}(h:∀ x,u.dst=some x->d≠some x):(u.app st).putO d v=u.app (st.putO d v):=by
 cases d with
 | none=>rfl
 | some d=>
  cases u with
  | put e w=>
   cases e with
   | none=>rfl
   | some e=>exact Rn st w v (fun x=>h e rfl (congrArg some x.symm))
  | own e cs=>
   have:=Rn st (.own e 0) v (fun x=>h e rfl (congrArg some x.symm))
   show ((st.put e (.own e 0)).setOwn e cs).put d v=((st.put d v).put e (.own e 0)).setOwn e cs
   rw [<- this];rfl
def Jg{u:Upd}{st:VS}{k:Nat}{cs:List aI}(h:∀ d c,u= .own d c->k≠d):(u.app st).setOwn k cs=u.app (st.setOwn k cs):=by
 cases u with
 | put d v=>cases d<;>rfl
 | own d c=>
  have e:=h d c rfl
  show ((st.put d (.own d 0)).setOwn d c).setOwn k cs=((st.setOwn k cs).put d (.own d 0)).setOwn d c
  unfold VS.setOwn VS.put
  congr 1
  funext i
  by_cases a:i=d
  ·subst a;simp [Du (Ne.symm e)]
  ·by_cases b:i=k
   ·subst b;simp [Du a]
   ·simp [Du a,Du b]
def B89{u v:Upd}{st:VS}(h:∀ x,u.dst=some x->v.dst≠some x):v.app (u.app st)=u.app (v.app st):=by
 cases v with
 | put d w=>exact J4 h
 | own d cs=>
  have a:(u.app st).put d (.own d 0)=u.app (st.put d (.own d 0)):=J4 (d:=some d) h
  show ((u.app st).put d (.own d 0)).setOwn d cs=_
  rw [a,Jg (fun e c eq=>by subst eq;exact fun x=>h e rfl (by rw [<- x];rfl))];rfl
def Frm.upd{o:aE}{u:Upd}{st:VS}(hd:u.dst=o.dst)(wf:WFs st)(hv:∀ d v k off,u= .put d v->v= .own k off->∃ x off',D5 st x= .own k off')(hn:∀ d cs,u= .own d cs->st.own d=none):Frm o st (u.app st):=by
 refine ⟨fun x a=>Fi (by rw [hd];exact a),fun k g _=>Ct (fun d cs e=>?_),fun i k off e=>?_⟩
 ·rintro rfl
  have:=g (by rw [<- hd,e];rfl)
  rw [hn k cs e] at this;cases this
 cases u with
 | put d v=>
  simp only [Upd.app,Q1] at e ⊢
  rw [Pt] at e
  split at e
  ·obtain ⟨x,off',a⟩:=hv d v k off rfl e
   exact A1k wf a
  ·exact wf i k off e
 | own d cs=>
  have b:=hn d cs rfl
  by_cases c:i=d
  ·subst c
   have:((st.put i (.own i 0)).setOwn i cs).env i= .own i 0:=by simp [VS.setOwn,VS.put]
   simp only [Upd.app] at e ⊢
   rw [this] at e
   injection e with e1 e2;subst e1
   rw [Z7];rfl
  ·rw [Fi (u:=.own d cs) (fun x=>c (by cases x;rfl))] at e
   have:=wf i k off e
   have f:k≠d:=by rintro rfl;rw [b] at this;cases this
   rw [Ct (u:=.own d cs) (fun m l j=>by cases j;exact f)];exact this
structure Before (cfg:Cfg) (ops:Array aE) (u:Upd) (o:aE) (st:VS):Prop where
 look:∀ x,u.dst=some x->x∉o.looksAt ops
 dst:∀ x,u.dst=some x->o.dst≠some x
 free:∀ d cs,u= .own d cs->st.own d=none
 wf:WFs st
def Before.eval{u:Upd}{o:aE}{st:VS}(b:Before cfg ops u o st){x:aR}(hx:x∈o.op.operands):D5 (u.app st) x=D5 st x:=by
 cases x with
 | tmp t=>
  refine Fi fun e=>b.look t e ?_
  unfold Oper.looksAt
  exact aK _ (List.mem_filterMap.2 ⟨.tmp t,by simpa using hx,rfl⟩)
 | _=>rfl
def Before.rho{u:Upd}{o:aE}{st:VS}(b:Before cfg ops u o st){x:aR}(hx:x∈o.op.operands):rho (u.app st) x=rho st x:=by
 unfold Go.Proofs.YtmbfcbbkbefgfaaGreatDoor.rho;rw [b.eval hx]
def Before.key{u:Upd}{o:aE}{st:VS}(b:Before cfg ops u o st){x:aR}{k off:Nat}(e:D5 st x= .own k off):∀ d cs,u= .own d cs->k≠d:=by
 rintro d cs a rfl
 have:=A1k b.wf e
 rw [b.free k cs a] at this;cases this
def Grw(cfg:Cfg)(o:aE)(st:VS)(h h':aF):Prop:=B1e cfg o=false->(∀ t a b,o.op= .store t a b->∃ k off,D5 st a= .own k off)->h.le h'
def Grw.of{cfg:Cfg}{o:aE}{st:VS}{h h':aF}(x:h.le h'):Grw cfg o st h h':=fun _ _=>x
def Grow.map{gr:Bool}{h h':aF}{X Y:Prop}(x:Grow gr h h' X)(f:X->(gr=true->h.le h')->Y):Grow gr h h' Y:=by
 cases gr
 ·exact f x (fun e=>by cases e)
 ·exact ⟨x.1,f x.2 (fun _=>x.1)⟩
def Vp{u:Upd}{o:aE}{st:VS}(b:Before cfg ops u o st){s:Sem aI}{h:aF}{K:VS->aF->Prop}{K':VS->aF->Prop}(hk:∀ st' h',K (u.app st') h'->Grw cfg o st h h'->Frm o st st'->K' st' h')(x:effV P s o true (u.app st) h K):
 effV P s o true st h K':=by
 refine Jk s x fun v h' y=>Tn y fun w ⟨e,a,c⟩=>⟨e,a,hk _ _ ?_ (Grw.of a) (T5 b.wf w)⟩
 rwa [J4 (fun z d=>b.dst z d)] at c
def Yw{u:Upd}{o:aE}{st:VS}{gr:Bool}(b:Before cfg ops u o st)(hgw:B1e cfg o=false->gr=true){s:Sem aI}{h:aF}{K:VS->aF->Prop}{K':VS->aF->Prop}(hk:∀ st' h',K (u.app st') h'->Grw cfg o st h h'->Frm o st st'->K' st' h')(x:effV P s o gr (u.app st) h K):
 effV P s o gr st h K':=by
 refine Jk s x fun v h' y=>Tn y fun w ⟨f,g⟩=>⟨f,g.map fun d c=>hk _ _ ?_ (fun e _=>c (hgw e)) (T5 b.wf w)⟩
 rwa [J4 (fun z a=>b.dst z a)] at d
def A43{u:Upd}{o:aE}{st:VS}(b:Before cfg ops u o st){s:Sem aI}{h:aF}{K:VS->aF->Prop}{K':VS->aF->Prop}(hk:∀ st' h',K (u.app st') h'->Grw cfg o st h h'->Frm o st st'->K' st' h')(x:effP P s o true (u.app st) h K):
 effP P s o true st h K':=by
 refine Jk s x fun v h' ⟨w,e,a,c⟩=>⟨w,e,a,hk _ _ ?_ (Grw.of a) (T5 b.wf _)⟩
 rwa [J4 (fun z d=>b.dst z d)] at c
def B3z{u:Upd}{o:aE}{st:VS}(b:Before cfg ops u o st){s:Sem Unit}{h:aF}{K:VS->aF->Prop}{K':VS->aF->Prop}(hno:¬ (∀ t a b,o.op= .store t a b->∃ k off,D5 st a= .own k off))(hk:∀ st' h',K (u.app st') h'->Grw cfg o st h h'->Frm o st st'->K' st' h')(x:effU P s o false (u.app st) h K):
 effU P s o false st h K':=by
 refine Jk s x fun v h' c=>?_
 have c:K ((u.app st).putO o.dst (.val undef)) h':=c
 rw [J4 (fun z d=>b.dst z d)] at c
 exact hk _ _ c (fun _ e=>absurd e hno) (T5 b.wf _)
def Vx{u:Upd}{o:aE}{st:VS}(b:Before cfg ops u o st)(hs:Ca P cfg o=false){h:aF}{K:VS->aF->Prop}{K':VS->aF->Prop}(hk:∀ st' h',K (u.app st') h'->Grw cfg o st h h'->Frm o st st'->K' st' h')(hv:T6 P cfg o (Ll cfg o) (u.app st) h K):T6 P cfg o (Ll cfg o) st h K':=by
 unfold T6 at hv ⊢
 obtain ⟨hd,hv⟩:=hv.both
 rw [hd]
 simp only [Ca,Bool.or_eq_false_iff] at hs
 simp only [hs.1] at hv ⊢
 show (match o.op with
  | .alloc t=>_
  | .box t x=>_
  | .store t a x=>_
  | .makeSlice t l c=>_
  | .buildSlice t n T=>_
  | .convert s d x=>_
  | .call c=>_
  | _=>_)
 split at hv
 ·rename_i t j
  have q:Ll cfg o=true:=by simp [Ll,B1e,j]
  rw [q] at hv ⊢
  have:Nw cfg o.dst=false:=by simpa [S9,j] using hs.2
  simp only [j,this] at hv ⊢
  exact A43 b hk hv
 ·rename_i t x j
  have q:Ll cfg o=true:=by simp [Ll,B1e,j]
  rw [q] at hv ⊢
  have:Nw cfg o.dst=false:=by simpa [S9,j] using hs.2
  have E:x∈o.op.operands:=by rw [j];simp [aC]
  simp only [j,this,b.eval E,b.rho E] at hv ⊢
  obtain ⟨m,hv⟩:=hv.both
  rw [m]
  exact A43 b hk hv
 ·rename_i t a x j
  have q:Ll cfg o=false:=by simp [Ll,j]
  rw [q] at hv ⊢
  have D:a∈o.op.operands:=by rw [j];simp [aC]
  have E:x∈o.op.operands:=by rw [j];simp [aC]
  simp only [j]
  unfold A5j at hv ⊢
  rw [b.eval D] at hv
  split at hv
  ·rename_i k off M
   have J:=b.key M
   rw [Ct J] at hv
   try simp only [M]
   split at hv
   ·rename_i cs aa
    try simp only [aa]
    rw [b.eval E,b.rho E] at hv
    obtain ⟨m,hv⟩:=hv.both
    rw [m]
    rw [Jg J,J4 (fun z S=>b.dst z S)] at hv
    refine hk _ _ hv (Grw.of (B5 h)) (⟨fun y A=>by rw [Pt,iN A];rfl,fun k' _ R=>?_,fun i k' X e=>?_⟩)
    ·rw [Q1,G8]
     rintro rfl;exact R t a x off j M
    ·rw [Pt] at e
     rw [Q1]
     split at e
     ·cases e
     ·have:=b.wf i k' X e
      by_cases W:k'=k
      ·subst W;rw [Z7];rfl
      ·rw [G8 _ _ W];exact this
   ·exact hv.elim
  ·rename_i p Q
   try simp only [Q]
   rw [b.eval E,b.rho E] at hv
   obtain ⟨m,hv⟩:=hv.both
   rw [m]
   exact B3z b (fun E=>by obtain ⟨k,off,e⟩:=E _ _ _ j;rw [Q] at e;cases e) hk hv
  ·exact hv.elim
 ·rename_i t l c j
  have q:Ll cfg o=true:=by simp [Ll,B1e,j]
  rw [q] at hv ⊢
  have hl:l∈o.op.operands:=by rw [j];simp [aC]
  have hc:c∈o.op.operands:=by rw [j];simp [aC]
  have D:R1 (u.app st) [l,c]=R1 st [l,c]:=Bf fun y A=>by
   simp only [aM,List.not_mem_nil,or_false] at A
   rcases A with rfl|rfl
   ·exact b.eval hl
   ·exact b.eval hc
  simp only [j]
  rw [D,b.rho hl,b.rho hc] at hv
  obtain ⟨m,hv⟩:=hv.both
  rw [m]
  exact Vp b hk hv
 ·rename_i t n T j
  have q:Ll cfg o=true:=by simp [Ll,B1e,j]
  rw [q] at hv ⊢
  have Q:∀ p∈T,p.2∈o.op.operands:=fun p Q=>by
   rw [j];simp only [aC,List.mem_toArray,List.mem_map,Array.mem_toList_iff]
   exact ⟨p,Q,rfl⟩
  have D:R1 (u.app st) (T.toList.map (·.2))=R1 st (T.toList.map (·.2)):=Bf fun y A=>by
   obtain ⟨p,L,rfl⟩:=List.mem_map.1 A
   exact b.eval (Q p (by simpa using L))
  have O:(T.map fun (i,x)=>(i,rho (u.app st) x))=T.map fun (i,x)=>(i,rho st x):=by
   apply Array.map_congr_left
   intro p L
   simp only [b.rho (Q p L)]
  simp only [j]
  rw [D,O] at hv
  obtain ⟨m,hv⟩:=hv.both
  rw [m]
  exact Vp b hk hv
 ·rename_i s d x j
  have q:Ll cfg o=true:=by simp [Ll,B1e,j]
  rw [q] at hv ⊢
  have E:x∈o.op.operands:=by rw [j];simp [aC]
  have D:R1 (u.app st) [x]=R1 st [x]:=Bf fun y A=>by
   simp only [aM,List.not_mem_nil,or_false] at A
   rw [A];exact b.eval E
  simp only [j]
  rw [D,b.rho E] at hv
  obtain ⟨m,hv⟩:=hv.both
  rw [m]
  exact Vp b hk hv
 ·rename_i c j
  generalize q:Ll cfg o=gr at hv ⊢
  have F:B1e cfg o=false->gr=true:=fun e=>by rw [<- q];simp [Ll,j,e]
  have G:∀ y∈c.args,y∈o.op.operands:=fun y A=>by
   rw [j];simp only [aC,Call.operands];exact Array.mem_append.2 (.inr A)
  have D:R1 (u.app st) c.args.toList=R1 st c.args.toList:=Bf fun y A=>b.eval (G y (by simpa using A))
  have O:c.args.map (rho (u.app st))=c.args.map (rho st):=Array.map_congr_left fun y A=>b.rho (G y A)
  simp only [j]
  split at hv
  ·rename_i f B
   try simp only [B]
   unfold A7i at hv ⊢
   have hf:f∈o.op.operands:=by rw [j];simp [aC,Call.operands,B]
   rw [b.eval hf] at hv
   split at hv
   ·rename_i g first C N
    try simp only [N]
    split at hv
    ·rename_i H
     rw [D,O] at hv
     obtain ⟨m,hv⟩:=hv.both
     try simp only [H]
     rw [m]
     refine FCall.mono hv fun r h' y=>Vo y fun w ⟨m,R⟩=>⟨m,R.map fun V Z=>hk _ _ ?_ (fun e _=>Z (F e)) (T5 b.wf w)⟩
     rwa [J4 (fun z S=>b.dst z S)] at V
    ·rename_i H
     rw [D,O] at hv
     obtain ⟨m,hv⟩:=hv.both
     try simp only [H]
     rw [m]
     refine ECall.mono hv fun r h' y=>Vo y fun w ⟨m,R⟩=>⟨m,R.map fun V Z=>hk _ _ ?_ (fun e _=>Z (F e)) (T5 b.wf w)⟩
     rwa [J4 (fun z S=>b.dst z S)] at V
   ·rename_i l first C N
    try simp only [N]
    rw [D,O] at hv
    obtain ⟨m,hv⟩:=hv.both
    rw [m]
    refine YCall.mono hv fun r h' y=>Vo y fun w ⟨m,R⟩=>⟨m,R.map fun V Z=>hk _ _ ?_ (fun e _=>Z (F e)) (T5 b.wf w)⟩
    rwa [J4 (fun z S=>b.dst z S)] at V
   ·exact hv.elim
  ·rename_i B
   try simp only [B]
   rw [D,O] at hv
   obtain ⟨m,hv⟩:=hv.both
   rw [m]
   exact Yw b F hk hv
  ·rename_i B
   try simp only [B]
   rw [D,O] at hv
   obtain ⟨m,hv⟩:=hv.both
   rw [m]
   exact Yw b F hk hv
  ·exact hv.elim
 ·exact hv.elim
def B2m{u:Upd}{o:aE}{st:VS}(b:Before cfg ops u o st){h:aF}{K:VS->aF->Prop}{K':VS->aF->Prop}(hk:∀ st' h',K (u.app st') h'->Grw cfg o st h h'->Frm o st st'->K' st' h')(hv:Rj P cfg ops o (Ll cfg o) (u.app st) h K):Rj P cfg ops o (Ll cfg o) st h K':=by
 cases hs:Ca P cfg o with
 | true=>
  obtain ⟨v,l,m,J,Q,S,N⟩:=B98 (ops:=ops) hs hv
  have H:AgreeOn cfg ops o (u.app st) st:=by
   refine ⟨fun x p=>(Fi fun e=>b.look x e p).symm,fun t a k off B e=>?_,fun d _ O A=>(Ct fun M G e=>?_).symm.trans A⟩
   ·rw [b.eval (by rw [B];simp [aC])] at e
    exact (Ct (b.key e)).symm
   ·rintro rfl
    exact b.dst d (by rw [e];rfl) O
  refine N st h _ (fun _=>B5 h) H (hk _ _ ?_ (Grw.of (B5 h)) (Frm.upd l b.wf (fun d w k off e y=>?_) (fun d G e=>?_)))
  ·rw [<- B89 (fun x p=>by rw [l];exact b.dst x p)];exact m
  ·obtain ⟨x,q,p,s⟩:=Q d w k off e y
   exact ⟨x,q,by rw [<- b.eval p];exact s⟩
  ·have:=J d G e
   rwa [Ct (fun M L y=>by
    rintro rfl
    exact b.dst d (by rw [y];rfl) (by rw [<- l,e];rfl))] at this
 | false=>
  unfold Rj at hv ⊢
  split at hv
  ·rename_i E
   exact Vx b hs hk hv
  ·rename_i j n E
   split at hv
   ·exact hv.elim
   ·rename_i i C
    have r:=Lk (o:=o) E C
    have s:(u.app st).env i=st.env i:=Fi fun e=>b.look i e r
    rw [s] at hv
    split at hv
    ·rename_i F g
     have f:(u.app st).env i= .val (.bool F):=by rw [s];exact g
     have skip:R8 cfg o.dst=true/\K ((u.app st).putO o.dst (.val undef)) h->When (R8 cfg o.dst) (K' (st.putO o.dst (.val undef)) h):=by
      rintro ⟨l,m⟩
      rw [l]
      rw [J4 (fun z D=>b.dst z D)] at m
      exact hk _ _ m (Grw.of (B5 h)) (T5 b.wf _)
     try simp only [g]
     cases F<;>cases n
     ·have c:T6 P cfg o (Ll cfg o) ((u.app st).put i (.val (.bool false))) h K:=hv
      rw [aG _ f] at c
      simp only [Br];rw [aG st g]
      exact Vx b hs hk c
     ·have c:When (R8 cfg o.dst) (K (((u.app st).put i (.val (.bool false))).putO o.dst (.val undef)) h):=hv
      rw [aG _ f] at c
      simp only [Br];rw [aG st g]
      exact skip c.both
     ·have c:When (R8 cfg o.dst) (K (((u.app st).put i (.val (.bool true))).putO o.dst (.val undef)) h):=hv
      rw [aG _ f] at c
      simp only [Br];rw [aG st g]
      exact skip c.both
     ·have c:T6 P cfg o (Ll cfg o) ((u.app st).put i (.val (.bool true))) h K:=hv
      rw [aG _ f] at c
      simp only [Br];rw [aG st g]
      exact Vx b hs hk c
    ·rename_i R g
     try simp only [g]
     obtain ⟨l,m⟩:=hv.both
     rw [l]
     rw [J4 (fun z D=>b.dst z D)] at m
     exact hk _ _ m (Grw.of (B5 h)) (T5 b.wf _)
    ·exact hv.elim
def Um{o:aE}{st:VS}(wf:WFs st){h:aF}{K K':VS->aF->Prop}(hv:Rj P cfg ops o (Ll cfg o) st h K)(hk:∀ st' h',K st' h'->Grw cfg o st h h'->Frm o st st'->K' st' h'):Rj P cfg ops o (Ll cfg o) st h K':=
 B2m (u:=.put none (.val undef)) ⟨(fun x e=>by cases e),(fun x e=>by cases e),(fun d a e=>by cases e),wf⟩ hk hv
def B7y{oj oi x:aE}{st st':VS}{rem rem':List Nat}(hsub:∀ i∈rem',i∈rem)(hfr:Frm oi st st')(hap:oj.apart ops oi=true)(hmem:∃ i:Nat,i∈rem/\ops[i]? = some oi)(h:Qt cfg ops rem oj x st=true):Qt cfg ops rem' oj x st'=true:=by
 obtain ⟨_,_,k⟩:=Oper.apart_spec hap
 unfold Qt at h ⊢
 simp only [aD] at h ⊢
 obtain ⟨n,h⟩:=h
 have c:Id oj st'=Id oj st:=by
  unfold Id
  split
  ·rename_i l a j
   have g:D5 st' a=D5 st a:=by
    cases a with
    | tmp z=>
     refine hfr.env z fun e=>k z e ?_
     unfold Oper.looksAt
     exact aK _ (List.mem_filterMap.2 ⟨.tmp z,by rw [j];simp [aC],rfl⟩)
    | _=>rfl
   rw [g]
  ·rfl
 refine ⟨by rw [c];exact n,?_⟩
 split at h
 ·rename_i t y b o
  split at h
  ·rename_i l a j
   simp only [aD] at h ⊢
   refine ⟨List.all_eq_true.2 fun i f=>List.all_eq_true.1 h.1 i (hsub i f),?_⟩
   have g:D5 st' a=D5 st a:=by
    cases a with
    | tmp z=>
     refine hfr.env z fun e=>k z e ?_
     unfold Oper.looksAt
     exact aK _ (List.mem_filterMap.2 ⟨.tmp z,by rw [j];simp [aC],rfl⟩)
    | _=>rfl
   have m:st'.env y=st.env y:=by
    refine hfr.env y fun e=>?_
    obtain ⟨i,f,d⟩:=hmem
    have:=List.all_eq_true.1 h.1 i f
    simp only [d,e] at this
    simp [Nat.beq_refl] at this
   rw [g,m];exact h.2
  ·exact h
 ·exact h
 ·exact h
def swap{oj oi:aE}{st:VS}{rem:List Nat}(wf:WFs st)(hs:Ca P cfg oj=true)(hap:oj.apart ops oi=true)(hc:Qt cfg ops rem oj oi st=true){h:aF}{K:VS->aF->Prop}
 (hv:Rj P cfg ops oj (Ll cfg oj) st h fun st1 h1=>Rj P cfg ops oi (Ll cfg oi) st1 h1 K):Rj P cfg ops oi (Ll cfg oi) st h fun st1 h1=>Frm oi st st1/\Rj P cfg ops oj (Ll cfg oj) st1 h1 K:=by
 obtain ⟨E,q,z⟩:=Oper.apart_spec hap
 obtain ⟨u,h1,G,A,O,M,H⟩:=B98 (ops:=ops) hs hv
 have b:Before cfg ops u oi st:=⟨fun x e=>E x (by rw [<- h1];exact e),fun x e=>q x (by rw [<- h1];exact e),A,wf⟩
 have i:=hc
 unfold Qt at i
 simp only [aD] at i
 have hc:=i.2
 have D:Id oj st=true->B1e cfg oi=false:=fun e=>by
  have:=i.1
  rw [e] at this
  simpa using this
 refine B2m b (fun p C F L n=>⟨n,H p C K (fun c=>L (D c) fun s m r g=>?_) ?_ F⟩) G
 ·obtain ⟨t,x,hld⟩:∃ t x,oj.op= .load t x:=by
   unfold Id at c
   split at c
   ·exact ⟨_,_,by assumption⟩
   ·cases c
  rw [g] at hc
  cases m with
  | tmp y=>
   simp only [hld,aD] at hc
   show ∃ k off,st.env y= .own k off
   revert hc
   cases D5 st x<;>cases st.env y<;>simp
  | _=>simp at hc
 refine ⟨fun x B=>n.env x fun e=>z x e B,fun t a k off o e=>n.own k (fun _=>A1k wf e) (fun s m r j g f=>?_),fun d N J l=>(n.own d (fun e=>absurd e (q d J)) (fun s m r j g f=>?_)).trans l⟩
 ·rw [g] at hc
  cases m with
  | tmp y=>
   simp only [o,aD] at hc
   have w:st.env y= .own k j:=f
   rw [e,w] at hc
   simp [Nat.beq_refl] at hc
  | _=>simp at hc
 ·have:=A1k wf f
  rw [l] at this;cases this
def C3z{anc:List (List Nat)}{al:Nat->List Nat}{i:Nat}{oi:aE}(hi:ops[i]? = some oi){L2:List Nat}{K:VS->aF->Prop}: ∀ (L1:List Nat) (n:Nat) (st:VS) (h:aF),n=L1.length+L2.length->WFs st->(∀ j∈L1,has (anc.getD i []) j=false)->i∉L1->
 Ek P cfg ops anc al (n+1) (L1++i::L2) st h K->Rj P cfg ops oi (Ll cfg oi) st h fun st' h'=>WFs st'/\Ek P cfg ops anc al n (L1++L2) st' h' K:=by
 intro L1
 induction L1 with
 | nil=>
  intro n st h _ wf _ _ g
  simp only [List.nil_append,Ek,hi] at g
  exact Um wf (A8o g.both.2) fun st' h' l _ m=>⟨m.wf,l⟩
 | cons j L1 ih=>
  intro n st h D wf c B g
  obtain ⟨n,rfl⟩:∃ n',n=n'+1:=⟨L1.length+L2.length,by simp at D;omega⟩
  have z:n=L1.length+L2.length:=by simp at D;omega
  have p:i∉L1:=fun A=>B (by simp [A])
  simp only [aJ,Ek] at g
  split at g
  ·exact g.elim
  ·rename_i s C
   obtain ⟨d,g⟩:=g.both
   have d:=List.all_eq_true.1 d
   have b:=d i (by simp)
   unfold A0j at b
   rw [aN] at b
   rcases b with b|b
   ·unfold B2h at b
    rw [c j (by simp),hi] at b
    simp only [Bool.false_or,aD] at b
    obtain ⟨⟨f,w⟩,J⟩:=b
    have M:Ca P cfg s=true:=by
     unfold B73 at f
     rw [aD] at f
     exact f.1
    have t:Rj P cfg ops s (Ll cfg s) st h fun e t=>Rj P cfg ops oi (Ll cfg oi) e t fun q E=>WFs q/\Ek P cfg ops anc al n (L1++L2) q E K:=
     Um wf (A8o g) fun e t l _ m=>ih n e t z m.wf (fun k H=>c k (by simp [H])) p l
    refine Um wf (swap wf M w J t) fun e t ⟨m,l⟩ _ _=>⟨m.wf,?_⟩
    simp only [aJ,Ek,C]
    have u:(L1++L2).all (A0j P cfg ops anc al (L1++L2) e s j)=true:=by
     refine List.all_eq_true.2 fun x o=>?_
     have a:=d x (by
      simp only [List.mem_append,aM] at o ⊢
      rcases o with o|o
      ·exact .inl o
      ·exact .inr (.inr o))
     unfold A0j at a ⊢
     rw [f] at a ⊢
     simp only [Bool.not_true,Bool.false_and,Bool.or_false] at a ⊢
     unfold B2h at a ⊢
     simp only [aN] at a ⊢
     rcases a with a|a
     ·exact .inl a
     ·refine .inr ?_
      split at a
      ·rename_i O G
       simp only [aD] at a ⊢
       exact ⟨a.1,B7y (rem:=L1++i::L2) (fun y r=>by
        simp only [List.mem_append,aM] at r ⊢
        rcases r with r|r
        ·exact .inl r
        ·exact .inr (.inr r)) m w ⟨i,by simp,hi⟩ a.2⟩
      ·cases a
    rw [u]
    have N:A4d P cfg anc al s j (L1++L2)=[]:=by unfold A4d;rw [f]
    rw [N]
    exact Um m.wf l fun q E ⟨_,l⟩ _ _=>l
   ·simp only [aD,Bool.not_eq_true'] at b
    obtain ⟨L,F⟩:=A7j (L2:=L2) p
    have A:i∈A4d P cfg anc al s j (L1++i::L2):=by
     unfold A4d
     rw [b.1]
     refine List.mem_filter.2 ⟨Aa.1 b.2,?_⟩
     rw [L,Aa.2 (show i∈L1++i::L2 by simp),c j (by simp)]
     simp only [Bool.true_and,Bool.not_false,Bool.and_true]
     exact List.all_eq_true.2 fun x o=>by rw [c x (by simp [o])];rfl
    have:=C20 g A
    simp only [hi] at this
    rw [F] at this
    exact Um wf this fun st' h' l _ m=>⟨m.wf,by simp only [aJ,Ek,C] at l ⊢;exact l⟩
def A9w:∀ {L done:List Nat},B2k ops done L=true->L.Nodup/\(∀ i∈L,i∉done)/\∀ L1 i L2,L=L1++i::L2->∃ o,ops[i]? = some o/\∀ e∈o.after,Region.binds .any e=true->e.on∈done\/e.on∈L1:=by
 intro L
 induction L with
 | nil=>exact fun _=>⟨List.nodup_nil,(fun i b=>by cases b),(fun L1 i L2 e=>by simp at e)⟩
 | cons x L ih=>
  intro done h
  simp only [B2k,aD,Bool.not_eq_true'] at h
  obtain ⟨⟨k,m⟩,r⟩:=h
  obtain ⟨q,l,p⟩:=ih r
  have n:x∉done:=fun c=>by rw [Aa.2 c] at m;cases m
  refine ⟨List.nodup_cons.2 ⟨fun c=>l x c (by simp),q⟩,fun i b=>?_,fun L1 i L2 e=>?_⟩
  ·cases b with
   | head=>exact n
   | tail _ b=>exact fun c=>l i b (by simp [c])
  ·cases L1 with
   | nil=>
    simp only [List.nil_append,List.cons.injEq] at e
    obtain ⟨rfl,rfl⟩:=e
    split at k
    ·rename_i o j
     refine ⟨o,j,fun e f g=>.inl ?_⟩
     have:=List.all_eq_true.1 k e (by simpa using f)
     rw [g] at this
     exact Aa.1 (by simpa using this)
    ·cases k
   | cons y L1=>
    simp only [aJ,List.cons.injEq] at e
    obtain ⟨rfl,rfl⟩:=e
    obtain ⟨o,j,d⟩:=p L1 i L2 rfl
    refine ⟨o,j,fun e f g=>?_⟩
    rcases d e f g with a|a
    ·simp only [aM] at a
     rcases a with a|a
     ·exact .inr (by simp [a])
     ·exact .inl a
    ·exact .inr (by simp [a])
def A0v{listed:Array Bool}{i:Nat}(d:Bool)(h:i<listed.size):(listed.setIfInBounds i true).getD i d=true:=by
 simp [h]
def B4l{al:Nat->List Nat}{F:Fence}{fu:Nat}[FOk F]{n:Nat}{h0:aF}{W0:World}(hn:cfg.n=n)(hfn:Bodies P cfg.fns){anc:List (List Nat)}(hanc:C45 ops anc=true){Q:Exit->Act->World->Prop}{K:VS->aF->Prop}{ord:List Nat}(hord:B2k ops [] ord=true)(_hall:∀ i,i<ops.size->i∈ord):
 ∀ (m:Nat) (L:List Nat) (listed:Array Bool) (st:VS) (h:aF) (a:Act) (W:World),L.length=m->L.Sublist ord->listed.size=ops.size->(∀ i,i<ops.size->(listed.getD i true=false↔i∈L))->(∀ i j,listed.getD i false=true->has (anc.getD i []) j=true->listed.getD j false=true)->
  Good n h0 W0 st h a W->Ek P cfg ops anc al m L st h K->(∀ st' h' a' W',K st' h'->Good n h0 W0 st' h' a' W'->Agree cfg.lim st st'->Q .normal a' W')->wpAnyIn F fu P .any ops Q m listed a W:=by
 obtain ⟨V,_,C⟩:=A9w hord
 intro m
 induction m with
 | zero=>
  intro L listed st h a W T f z b u g hv hQ
  have:L=[]:=List.eq_nil_of_length_eq_zero T
  subst this
  simp only [Ek] at hv
  refine ⟨?_,hQ st h a W hv g (Agree.refl _ _)⟩
  apply List.eq_nil_iff_forall_not_mem.2
  intro i M
  obtain ⟨h1,o,ho,_⟩:=mem_ready.1 M
  have:=(b i (Array.getElem?_eq_some_iff.1 ho).1).1 h1
  cases this
 | succ m ih=>
  intro L listed st h a W T f z b u g hv hQ
  have wf:WFs st:=by obtain ⟨θ,r,_,_⟩:=g;exact r.wf
  have inl:∀ i,i∈L->i<ops.size:=by
   intro i M
   obtain ⟨L1,L2,e⟩:=aL (f.subset M)
   obtain ⟨o,ho,_⟩:=C L1 i L2 e
   exact (Array.getElem?_eq_some_iff.1 ho).1
  constructor
  ·
   intro p
   exfalso
   cases L with
   | nil=>simp at T
   | cons i L=>
    have M:=inl i (by simp)
    obtain ⟨L1,L2,e⟩:=aL (f.subset (show i∈i::L by simp))
    obtain ⟨o,ho,hp⟩:=C L1 i L2 e
    have:i∈Region.ready .any ops listed:=by
     refine mem_ready.2 ⟨(b i M).2 (by simp),o,ho,fun t S D=>?_⟩
     rcases hp t S D with h'|h'
     ·cases h'
     ·have ad:t.on<ops.size:=by
       obtain ⟨M1,M2,e'⟩:=aL h'
       obtain ⟨o',af,_⟩:=C M1 t.on (M2++i::L2) (by rw [e,e'];simp)
       exact (Array.getElem?_eq_some_iff.1 af).1
      have X:t.on∉i::L:=by
       intro hm
       have H:(i::L).Sublist (L1++i::L2):=by rw [<- e];exact f
       have A:(L1++i::L2).Nodup:=by rw [<- e];exact V
       have s:i∉L1:=fun E=>(List.nodup_append.1 A).2.2 i E i (by simp) rfl
       have am:(i::L).Sublist (i::L2):=by
        clear p b u hQ hv g ih hp S D
        revert H s
        clear A e h'
        induction L1 with
        | nil=>exact fun h _=>h
        | cons y L1 ihL=>
         intro H s
         refine ihL ?_ (fun E=>s (by simp [E]))
         cases H with
         | cons _ h=>exact h
         | cons_cons _ h=>exact absurd (by simp) s
       have:=am.subset hm
       exact (List.nodup_append.1 A).2.2 t.on h' t.on this rfl
      cases hg:listed.getD t.on false with
      | true=>rfl
      | false=>
       have:listed.getD t.on true=false:=by
        have O:t.on<listed.size:=by rw [z];exact ad
        simp [aS,O] at hg ⊢;exact hg
       exact absurd ((b _ ad).1 this) X
    rw [p] at this;cases this
  ·intro i M
   obtain ⟨h1,oi,w,ab⟩:=mem_ready.1 M
   have q:=(Array.getElem?_eq_some_iff.1 w).1
   have aj:=(b i q).1 h1
   obtain ⟨L1,L2,e⟩:=aL aj
   have l:L.Nodup:=f.nodup V
   have ap:∀ j∈L1,has (anc.getD i []) j=false:=by
    intro j J
    cases E:has (anc.getD i []) j with
    | false=>rfl
    | true=>
     exfalso
     have N:j∈L:=by rw [e];simp [J]
     have aa:=(b j (inl j N)).2 N
     have Z:=List.all_eq_true.1 (List.all_eq_true.1 hanc i (List.mem_range.2 q)) j (Aa.1 E)
     simp only [w] at Z
     obtain ⟨t,S,D⟩:=List.any_eq_true.1 Z
     simp only [aD,aN] at D
     have B:=ab t (by simpa using S) D.1
     have R:listed.getD j false=true:=by
      rcases D.2 with h'|h'
      ·rw [<- aH h'];exact B
      ·exact u _ j B h'
     have O:j<listed.size:=by rw [z];exact inl j N
     simp [aS,O] at aa R
     rw [aa] at R;cases R
   have ac:i∉L1:=by
    rw [e] at l
    exact fun E=>(List.nodup_append.1 l).2.2 i E i (by simp) rfl
   have ah:=C3z w (L2:=L2) L1 m st h (by have:=T;rw [e,List.length_append,List.length_cons] at this;omega) wf ap ac (by rw [<- e];exact hv)
   refine wpOpIn_mono (fun a' W' ⟨st',h',⟨_,hK⟩,g',ag⟩=>?_) (g.op hn hfn w ah)
   have G:∀ j d,(listed.setIfInBounds i true).getD j d=if j=i then true else listed.getD j d:=by
    intro j d
    by_cases c:j=i
    ·subst c;rw [iP rfl];exact A0v d (by rw [z];exact q)
    ·rw [iN c];exact getD_set_ne d (Ne.symm c)
   rw [e] at l
   have an:i∉L1:=fun E=>(List.nodup_append.1 l).2.2 i E i (by simp) rfl
   have ai:i∉L2:=(List.nodup_cons.1 (List.nodup_append.1 l).2.1).1
   refine ih (L1++L2) _ st' h' a' W' (by rw [e] at T;simp at T ⊢;omega) ?_ (by simpa using z) (fun j J=>?_) (fun j k J hk=>?_) g' hK fun ak h2 a2 W2 k g2 ao=>hQ ak h2 a2 W2 k g2 (ag.trans ao)
   ·refine List.Sublist.trans ?_ f
    rw [e]
    exact List.Sublist.append (List.Sublist.refl _) (List.sublist_cons_self _ _)
   ·rw [G]
    by_cases c:j=i
    ·subst c;simp [an,ai]
    ·rw [iN c,b j J,e];simp [c]
   ·rw [G] at J ⊢
    by_cases ae:k=i
    ·rw [iP ae]
    ·rw [iN ae]
     by_cases c:j=i
     ·subst c
      have Z:=List.all_eq_true.1 (List.all_eq_true.1 hanc j (List.mem_range.2 q)) k (Aa.1 hk)
      simp only [w] at Z
      obtain ⟨t,S,D⟩:=List.any_eq_true.1 Z
      simp only [aD,aN] at D
      have B:=ab t (by simpa using S) D.1
      rcases D.2 with h'|h'
      ·rw [<- aH h'];exact B
      ·exact u _ k B h'
     ·rw [iN c] at J;exact u j k J hk
def B0a{al:Nat->List Nat}{F:Fence}{fu:Nat}[FOk F]{n:Nat}{h0:aF}{W0:World}(hn:cfg.n=n)(hfn:Bodies P cfg.fns){id:Nat}{ord:List Nat}{anc:List (List Nat)}(hok:B43 P ops ord anc=true){Q:Exit->Act->World->Prop}{K:VS->aF->Prop}{st:VS}{h:aF}{a:Act}{W:World}
 (g:Good n h0 W0 st h a W) (hv:Ek P cfg ops anc al ord.length ord st h K) (hQ:∀ st' h' a' W',K st' h'->Good n h0 W0 st' h' a' W'->Agree cfg.lim st st'->Q .normal a' W'):(Code.region id ops true).wpIn F fu P Q a W:=by
 simp only [B43,aD] at hok
 obtain ⟨⟨⟨⟨o,q⟩,m⟩,l⟩,e⟩:=hok
 refine wpIn_region_any o ?_
 have k:Good n h0 W0 st h a { W with drawn:=W.drawn+1 }:=by
  obtain ⟨θ,r,f,p⟩:=g
  exact ⟨θ,⟨r.defers,r.size,r.slot,r.sim,r.own,r.inj,r.wf,r.out⟩,⟨f.sim,f.os,f.tape,f.output,f.size,f.keep,f.new⟩,p⟩
 have b:∀ i,i<ops.size->i∈ord:=fun i c=>Aa.1 (List.all_eq_true.1 l i (List.mem_range.2 c))
 rw [aH e] at hv
 refine B4l hn hfn q m b ops.size ord _ st h a _ (aH e) (List.Sublist.refl _) (by simp) (fun i c=>?_) (fun i j c _=>?_) k hv hQ
 ·simp [aS,c,b i c]
 ·by_cases d:i<ops.size<;>simp [aS,d] at c
end
