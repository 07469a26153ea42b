/- A part. -/
import Derived.Test.YtmbfcbbkbefgfaaGreatDoorG02
set_option linter.all false
open _root_.Array renaming getD->aS
open Bool renaming and_eq_true->aD,or_eq_true->aN
open List renaming cons_append->aJ,mem_append_left->aK,append_of_mem->aL,mem_cons->aM
open Nat renaming eq_of_beq_eq_true->aH,beq->aP
open _root_.Go.Op renaming operands->aC
open _root_.Go renaming Oper->aE,Value->aI,Program->aQ,Operand->aR,TypeId->aT
open _root_.Go.Proofs.YtmbfcbbkbefgfaaGreatDoor renaming Heap->aF,put_self->aG,AVal->aO
namespace Go.Proofs.YtmbfcbbkbefgfaaGreatDoor
open Go
def S0(cfg:Cfg)(o:aE):Bool:=
 match o.op with
 | .alloc _ | .box _ _=>Od cfg o.dst
 | _=>false
def Bt(P:aQ)(cfg:Cfg)(o:aE):Bool:=Um P o||S0 cfg o
def B47(ops:Array aE)(rem:List Nat)(y:Nat):Bool:=rem.all fun i=>match ops[i]? with
 | some o=>(match o.dst with
  | some d=> !aP d y
  | none=>true)
 | none=>true
def B1t(cfg:Cfg)(o:aE):Bool:=
 match o.op with
 | .call c=>
  match c.callee with
  | .value (.func g)=>has cfg.wr g
  | .value (.tmp _)=>true
  | .builtin .copy=>true
  | .builtin .append=>has cfg.wr 1000000000
  | _=>false
 | _=>false
def Im(o:aE)(st:VS):Bool:=
 match o.op with
 | .load _ a=>(match D3 st a with
  | .own _ _=>false
  | _=>true)
 | _=>false
def Qz(cfg:Cfg)(ops:Array aE)(rem:List Nat)(oj oi:aE)(st:VS):Bool:=
 !(B1t cfg oi&&Im oj st) &&
 match oi.op with
 | .store _ (.tmp y) _=>
  match oj.op with
  | .load _ a=>B47 ops rem y&&(match D3 st a,st.env y with
   | .own k _,.own k' _=> !aP k k'
   | .val _,.own _ _=>true
   | _,_=>false)
  | _=>true
 | .store _ _ _=>false
 | _=>true
def B7j(P:aQ)(cfg:Cfg)(al:Nat->List Nat)(oj:aE)(j:Nat):Bool:=Bt P cfg oj&&(al j).isEmpty
def B3e(P:aQ)(cfg:Cfg)(ops:Array aE)(anc:List (List Nat))(al:Nat->List Nat)(rem:List Nat)(st:VS)(oj:aE)(j i:Nat):Bool:=
 has (anc.getD i []) j ||
 match ops[i]? with
 | some oi=>B7j P cfg al oj j&&oj.apart ops oi&&Qz cfg ops rem oj oi st
 | none=>false
def Lx(cfg:Cfg)(o:aE):Bool:=
 match o.op with
 | .store _ _ _=>false
 | _=> !B1t cfg o
def A0n(P:aQ)(cfg:Cfg)(ops:Array aE)(anc:List (List Nat))(al:Nat->List Nat)(rem:List Nat)(st:VS)(oj:aE)(j i:Nat):Bool:=
 B3e P cfg ops anc al rem st oj j i||(!B7j P cfg al oj j&&has (al j) i)
def C3u(i:Nat):List Nat->List Nat
 | []=>[]
 | x::L=>bif aP x i then [] else x::C3u i L
def del(i:Nat):List Nat->List Nat
 | []=>[]
 | x::L=>bif aP x i then L else x::del i L
def A4s(P:aQ)(cfg:Cfg)(anc:List (List Nat))(al:Nat->List Nat)(oj:aE)(j:Nat)(L:List Nat):List Nat:=
 match B7j P cfg al oj j with
 | true=>[]
 | false=>(al j).filter fun i=>has L i&&(C3u i L).all (fun x=> !has (anc.getD i []) x) && !has (anc.getD i []) j
def C6q(f:Nat->Prop):Nat->List Nat->Prop
 | i,[]=>f i
 | i,k::r=>f i/\C6q f k r
def C6r(A:Prop)(f:Nat->Prop):List Nat->Prop
 | []=>A
 | i::r=>A/\C6q f i r
def Em(P:aQ)(cfg:Cfg)(ops:Array aE)(anc:List (List Nat))(al:Nat->List Nat):Nat->List Nat->VS->aF->(VS->aF->Prop)->Prop
 | _,[],st,h,K=>K st h
 | 0,_::_,_,_,_=>False
 | n+1,j::L,st,h,K=>
  match ops[j]? with
  | none=>False
  | some o=>When (L.all (A0n P cfg ops anc al L st o j))
   (C6r (Rm P cfg ops o (Lx cfg o) st h fun st' h'=>Em P cfg ops anc al n L st' h' K)
    (fun i=>
     match ops[i]? with
     | none=>False
     | some oi=>Rm P cfg ops oi (Lx cfg oi) st h fun st' h'=>Em P cfg ops anc al n (j::del i L) st' h' K)
    (A4s P cfg anc al o j L))
def B58{f:Nat->Prop}{i:Nat}: ∀ {k:Nat} {r:List Nat},C6q f k r->i∈k::r->f i
 | k,[],x,h=>by rw [List.mem_singleton.1 h];exact x
 | k,m::r,x,h=>by
  rcases List.mem_cons.1 h with rfl|h
  ·exact x.1
  ·exact B58 x.2 h
def A9c{A:Prop}{f:Nat->Prop}: ∀ {r:List Nat},C6r A f r->A
 | [],x=>x
 | _::_,x=>x.1
def C2m{A:Prop}{f:Nat->Prop}{i:Nat}: ∀ {r:List Nat},C6r A f r->i∈r->f i
 | [],_,h=>by cases h
 | _::_,x,h=>B58 x.2 h
def A83{i:Nat}{L2:List Nat}: ∀ {L1:List Nat},i∉L1->C3u i (L1++i::L2)=L1/\del i (L1++i::L2)=L1++L2
 | [],_=>by simp [C3u,del]
 | x::L1,h=>by
  have hx:aP x i=false:=by
   cases e:aP x i with
   | false=>rfl
   | true=>
    have a:=aH e
    subst a
    exact absurd List.mem_cons_self h
  obtain ⟨c,b⟩:=A83 (L2:=L2) (L1:=L1) (i:=i) (fun d=>h (List.mem_cons_of_mem _ d))
  simp only [aJ,C3u,del,hx,c,b,cond_false,and_self]
def C4w(ops:Array aE)(anc:List (List Nat)):Bool:=
 (List.range ops.size).all fun i=>(anc.getD i []).all fun j=>
  match ops[i]? with
  | some o=>o.after.toList.any fun e=>Region.binds .any e&&(aP e.on j||has (anc.getD e.on []) j)
  | none=>false
def B3h(ops:Array aE):List Nat->List Nat->Bool
 | _,[]=>true
 | done,i::L=>
  (match ops[i]? with
   | some o=>o.after.toList.all fun e=> !Region.binds .any e||has done e.on
   | none=>false) && !has done i&&B3h ops (i::done) L
def B4q(P:aQ)(ops:Array aE)(ord:List Nat)(anc:List (List Nat)):Bool:=
 P.follows .mixedOrders&&C4w ops anc&&B3h ops [] ord&&(List.range ops.size).all (has ord)&&aP ord.length ops.size
section
variable {P:aQ} {cfg:Cfg} {ops:Array aE}
structure AgreeOn (cfg:Cfg) (ops:Array aE) (o:aE) (st st':VS):Prop where
 env:∀ x∈o.looksAt ops,st'.env x=st.env x
 load:∀ t a k off,o.op= .load t a->D3 st a= .own k off->st'.own k=st.own k
 alloc:∀ d,S0 cfg o=true->o.dst=some d->st.own d=none->st'.own d=none
def AgreeOn.eval{o:aE}{st st':VS}(ag:AgreeOn cfg ops o st st'){x:aR}(hx:x∈o.op.operands):D3 st' x=D3 st x:=by
 cases x with
 | tmp t=>
  refine ag.env t ?_
  unfold Oper.looksAt
  exact aK _ (List.mem_filterMap.2 ⟨.tmp t,by simpa using hx,rfl⟩)
 | _=>rfl
def AgreeOn.rho{o:aE}{st st':VS}(ag:AgreeOn cfg ops o st st'){x:aR}(hx:x∈o.op.operands):rho st' x=rho st x:=by
 unfold Go.Proofs.YtmbfcbbkbefgfaaGreatDoor.rho;rw [ag.eval hx]
def A96{z:aI}{K K':aI->Prop}(x:exV z K)(hk:∀ v,K v->K' v):exV z K':=by
 cases z<;>(unfold exV at x ⊢)<;>first
  | (obtain ⟨n,a⟩:=x;exact ⟨n,hk _ a⟩)
  | (obtain ⟨p,n,c,a⟩:=x;exact ⟨p,n,c,hk _ a⟩)
def B86{zs:List aI}: ∀ {K K':List aI->Prop},exL zs K->(∀ v,K v->K' v)->exL zs K':=by
 induction zs with
 | nil=>exact fun x a=>a _ x
 | cons z zs ih=>exact fun x a=>A96 x fun v y=>ih y fun b=>a _
def B4h{z:aI}{K:aI->Prop}(x:exV z K):∃ v,K v/\∀ K':aI->Prop,K' v->exV z K':=by
 cases z<;>(unfold exV at x)<;>first
  | (obtain ⟨n,a⟩:=x;exact ⟨_,a,fun K' y=>⟨_,y⟩⟩)
  | (obtain ⟨p,n,c,a⟩:=x;exact ⟨_,a,fun K' y=>⟨_,_,_,y⟩⟩)
def C25{zs:List aI}: ∀ {K:List aI->Prop},exL zs K->∃ vs,K vs/\∀ K':List aI->Prop,K' vs->exL zs K':=by
 induction zs with
 | nil=>exact fun x=>⟨[],x,fun _ y=>y⟩
 | cons z zs ih=>
  intro K x
  obtain ⟨v,c,b⟩:=B4h x
  obtain ⟨vs,a,d⟩:=ih c
  exact ⟨v::vs,a,fun K' y=>b _ (d _ y)⟩
def A76{h:aF}{a:Addr}: ∀ {vs:List aI} {j:Nat} {X:Prop},cellsAt h a j vs X->X/\∀ h' (Y:Prop),h.le h'->Y->cellsAt h' a j vs Y:=by
 intro vs
 induction vs with
 | nil=>exact fun x=>⟨x,fun _ _ _ y=>y⟩
 | cons v vs ih=>
  intro j X ⟨h1,h2⟩
  obtain ⟨c,d⟩:=ih h2
  exact ⟨c,fun h' Y b y=>⟨B9 b h1,d h' Y b y⟩⟩
def A41{h:aF}{t:aT}{a:Addr}{C:aO->Prop}(x:Aa P t a h C):∃ u,C (.val u)/\∀ h' (C':aO->Prop),h.le h'->C' (.val u)->Aa P t a h' C':=by
 cases hag:Oe P t with
 | none=>simp only [Aa,hag] at x
 | some b=>
  cases b with
  | true=>
   simp only [Aa,hag] at x
   split at x
   ·rename_i zs g
    obtain ⟨j,x⟩:=x.both
    obtain ⟨m,d,e⟩:=C25 x
    obtain ⟨f,i⟩:=A76 d
    refine ⟨_,f,fun h' C' c y=>?_⟩
    simp only [Aa,hag,g,j]
    exact e _ (i h' _ c y)
   ·exact x.elim
  | false=>
   simp only [Aa,hag] at x
   obtain ⟨v,⟨k,l⟩,e⟩:=B4h x
   refine ⟨_,l,fun h' C' c y=>?_⟩
   simp only [Aa,hag]
   exact e _ ⟨B9 c k,y⟩
def A6l{t:aT}{cs:List aI}{off:Nat}{C:aO->Prop}(x:X9 P t cs off C):∃ u,C (.val u)/\∀ C':aO->Prop,C' (.val u)->X9 P t cs off C':=by
 cases hag:Oe P t with
 | none=>simp only [X9,hag] at x
 | some b=>
  cases b with
  | true=>
   simp only [X9,hag] at x
   obtain ⟨a,x⟩:=x.both
   exact ⟨_,x,fun C' y=>by simp only [X9,hag,a];exact y⟩
  | false=>
   simp only [X9,hag] at x
   split at x
   ·rename_i v c
    exact ⟨_,x,fun C' y=>by simp only [X9,hag,c];exact y⟩
   ·exact x.elim
def X6{v:Option aO}{dflt y:Nat}{C:Nat->Prop}(x:slBound v dflt y C):∃ m,C m/\∀ C':Nat->Prop,C' m->slBound v dflt y C':=by
 rcases x.out with ⟨rfl,a⟩|⟨k,i,rfl,b,c,a⟩
 ·exact ⟨_,a,fun _ z=>z⟩
 ·exact ⟨_,a,fun _ z=>⟨⟨b,c⟩,z⟩⟩
def A5w{t:aT}{x:aO}{lo hi:Option aO}{C:aO->Prop}(hv:Ft P t x lo hi C):∃ u,C (.val u)/\∀ C':aO->Prop,C' (.val u)->Ft P t x lo hi C':=by
 unfold Ft at hv
 split at hv
 ·rename_i s b
  obtain ⟨m,f,g⟩:=X6 hv
  obtain ⟨l,i,d⟩:=X6 f
  exact ⟨_,i,fun C' y=>by simp only [Ft,b];exact g (fun h=>slBound lo 0 h fun l=>C' (.val (.string (s.extract l h)))) (d (fun l=>C' (.val (.string (s.extract l m)))) y)⟩
 ·rename_i e A n c b
  obtain ⟨j,hv⟩:=hv.both
  obtain ⟨m,f,g⟩:=X6 hv
  obtain ⟨l,i,d⟩:=X6 f
  exact ⟨_,i,fun C' y=>by simp only [Ft,b,j];exact g (fun h=>slBound lo 0 h fun l=>C' (.val (.slice (J9 A c l (P.cellsOf e)) (h-l) (c-l)))) (d (fun l=>C' (.val (.slice (J9 A c l (P.cellsOf e)) (m-l) (c-l)))) y)⟩
 ·rename_i n e a b
  obtain ⟨j,hv⟩:=hv.both
  obtain ⟨m,f,g⟩:=X6 hv
  obtain ⟨l,i,d⟩:=X6 f
  exact ⟨_,i,fun C' y=>by simp only [Ft,b,j];exact g (fun h=>slBound lo 0 h fun l=>C' (.val (.slice (J9 (some a) n l (P.cellsOf e)) (h-l) (n-l)))) (d (fun l=>C' (.val (.slice (J9 (some a) n l (P.cellsOf e)) (m-l) (n-l)))) y)⟩
 ·exact hv.elim
def A02{b:Bool}{X Y:Prop}(x:Br b X Y):(b=true/\X)\/(b=false/\Y):=by
 cases b
 ·exact .inr ⟨rfl,x⟩
 ·exact .inl ⟨rfl,x⟩
def Tv{t:aT}{x i:aO}{C:aO->Prop}(hv:O5 P t x i C):
 ∃ v,C v/\(∀ k off,v= .own k off->∃ off',x= .own k off')/\∀ C':aO->Prop,C' v->O5 P t x i C':=by
 unfold O5 at hv
 split at hv
 ·rename_i len e k off _ n b
  obtain ⟨d,hv⟩:=hv.both
  rcases A02 hv with ⟨e,hv⟩|⟨_,hv⟩
  ·exact ⟨_,hv,(fun j off' f=>by cases f;exact ⟨off,rfl⟩),fun C' y=>by simp only [O5,b,d,e];exact y⟩
  ·exact hv.elim
 ·rename_i len e a _ n b
  obtain ⟨d,g,hv⟩:=hv.both
  exact ⟨_,hv,(fun j off' f=>by cases f),fun C' y=>by simp only [O5,b,d];exact ⟨g,y⟩⟩
 ·rename_i e A n c _ i b
  obtain ⟨d,a,g,l,m,hv⟩:=hv.both
  exact ⟨_,hv,(fun j off' f=>by cases f),fun C' y=>by simp only [O5,b,d];exact ⟨a,g,l,m,y⟩⟩
 ·exact hv.elim
def Aw{st st':VS}{xs:List aR}(h:∀ x∈xs,D3 st' x=D3 st x):Q3 st' xs=Q3 st xs:=by
 unfold Q3
 induction xs with
 | nil=>rfl
 | cons x xs ih=>simp only [List.all_cons,h x (by simp),ih (fun y a=>h y (by simp [a]))]
def Pz{o:aE}{st:VS}(hsel:∀ cs b,o.op ≠ .select cs b){C:aO->Prop}(hv:Nh P o st C):∃ u,C (.val u)/\∀ st' (C':aO->Prop),AgreeOn cfg ops o st st'->C' (.val u)->Nh P o st' C':=by
 unfold Nh at hv
 split at hv
 ·rename_i e
  split at hv
  ·rename_i v d
   refine ⟨_,hv,fun st' C' c y=>?_⟩
   unfold Nh
   have f:Q3 st' o.op.operands.toList=true:=by rw [Aw (fun x a=>c.eval (by simpa using a))];exact e
   have g:execOp (rho st') o=execOp (rho st) o:=execOp_congr o hsel fun x a=>c.rho a
   rw [f]
   simp only [g,d]
   exact y
  ·exact hv.elim
 ·exact hv.elim
def A2s{t:aT}{xs ys:Array aI}{C:Bool->Prop}(hv:A2t P t xs ys C):∃ b,C b/\∀ C':Bool->Prop,C' b->A2t P t xs ys C':=by
 unfold A2t at hv
 split at hv
 ·rename_i e d
  obtain ⟨c,hv⟩:=hv.both
  split at hv
  ·rename_i b a
   exact ⟨b,hv,fun C' y=>by simp only [A2t,d,c,a];exact y⟩
  ·exact hv.elim
 ·exact hv.elim
def B1v{o:aE}{st:VS}{op:BinOp}{t t':aT}{x z:aR}(hop:o.op= .binOp op t x z t'){C:aO->Prop}(hv:Ku P o st op t (D3 st x) (D3 st z) C):
 ∃ u,C (.val u)/\∀ st' (C':aO->Prop),AgreeOn cfg ops o st st'->C' (.val u)->Ku P o st' op t (D3 st' x) (D3 st' z) C':=by
 have i:∀ cs b,o.op ≠ .select cs b:=by rw [hop];intro _ _ e;cases e
 have f:∀ st',AgreeOn cfg ops o st st'->D3 st' x=D3 st x/\D3 st' z=D3 st z:=fun st' d=>⟨d.eval (by rw [hop];simp [aC]),d.eval (by rw [hop];simp [aC])⟩
 unfold Ku at hv
 split at hv
 ·rename_i a c
  obtain ⟨b,k,j⟩:=A2s hv
  exact ⟨_,k,fun st' C' d y=>by rw [(f st' d).1,(f st' d).2];simp only [Ku,a,c];exact j (fun b=>C' (.val (.bool b))) y⟩
 ·rename_i a c
  obtain ⟨b,k,j⟩:=A2s hv
  exact ⟨_,k,fun st' C' d y=>by rw [(f st' d).1,(f st' d).2];simp only [Ku,a,c];exact j (fun b=>C' (.val (.bool (!b)))) y⟩
 ·rename_i a c
  obtain ⟨g,hv⟩:=hv.both
  exact ⟨_,hv,fun st' C' d y=>by rw [(f st' d).1,(f st' d).2];simp only [Ku,a,c,g];exact y⟩
 ·rename_i a c
  obtain ⟨g,hv⟩:=hv.both
  exact ⟨_,hv,fun st' C' d y=>by rw [(f st' d).1,(f st' d).2];simp only [Ku,a,c,g];exact y⟩
 ·rename_i a c
  obtain ⟨g,hv⟩:=hv.both
  rcases A02 hv with ⟨e,hv⟩|⟨e,hv⟩
  ·exact hv.elim
  ·exact ⟨_,hv,fun st' C' d y=>by rw [(f st' d).1,(f st' d).2];simp only [Ku,a,c,g,e];exact y⟩
 ·rename_i a c
  obtain ⟨g,hv⟩:=hv.both
  rcases A02 hv with ⟨e,hv⟩|⟨e,hv⟩
  ·exact hv.elim
  ·exact ⟨_,hv,fun st' C' d y=>by rw [(f st' d).1,(f st' d).2];simp only [Ku,a,c,g,e];exact y⟩
 ·rename_i a c
  rcases A02 hv with ⟨e,hv⟩|⟨e,hv⟩
  ·exact hv.elim
  ·exact ⟨_,hv,fun st' C' d y=>by rw [(f st' d).1,(f st' d).2];simp only [Ku,a,c,e];exact y⟩
 ·rename_i a c
  rcases A02 hv with ⟨e,hv⟩|⟨e,hv⟩
  ·exact hv.elim
  ·exact ⟨_,hv,fun st' C' d y=>by rw [(f st' d).1,(f st' d).2];simp only [Ku,a,c,e];exact y⟩
 ·rename_i a c
  exact ⟨_,hv.2,fun st' C' d y=>by rw [(f st' d).1,(f st' d).2];simp only [Ku,a,c];exact ⟨hv.1,y⟩⟩
 ·rename_i q r w s n B A m p
  obtain ⟨u,l,j⟩:=Pz (cfg:=cfg) (ops:=ops) i hv
  refine ⟨u,l,fun st' C' d y=>?_⟩
  rw [(f st' d).1,(f st' d).2]
  unfold Ku
  split
  ·rename_i a c;exact (q _ _ rfl a c).elim
  ·rename_i a c;exact (r _ _ rfl a c).elim
  ·rename_i a c;exact (w _ _ _ _ _ rfl a c).elim
  ·rename_i a c;exact (s _ _ _ _ _ rfl a c).elim
  ·rename_i a c;exact (n _ _ _ _ rfl a c).elim
  ·rename_i a c;exact (B _ _ _ _ rfl a c).elim
  ·rename_i a c;exact (A _ _ _ _ rfl a c).elim
  ·rename_i a c;exact (m _ _ _ _ rfl a c).elim
  ·rename_i a c;exact (p _ _ rfl a c).elim
  ·exact j st' C' d y
def C15{o:aE}{st:VS}{h:aF}(hsel:∀ cs b,o.op ≠ .select cs b){C:aO->Prop}(hv:vcQ P o st h C):
 ∃ v,C v/\(∀ k off,v= .own k off->∃ x off',x∈o.op.operands/\D3 st x= .own k off')/\∀ st' h' C',(Im o st=true->h.le h')->AgreeOn cfg ops o st st'->C' v->vcQ P o st' h' C':=by
 unfold vcQ at hv
 split at hv
 ·rename_i x a
  refine ⟨_,hv,(fun k off e=>⟨x,off,(by rw [a];simp [aC]),e⟩),fun st' h' C' n d y=>?_⟩
  unfold vcQ;simp only [a,d.eval (x:=x) (by rw [a];simp [aC])];exact y
 ·rename_i x a
  refine ⟨_,hv,(fun k off e=>⟨x,off,(by rw [a];simp [aC]),e⟩),fun st' h' C' n d y=>?_⟩
  unfold vcQ;simp only [a,d.eval (x:=x) (by rw [a];simp [aC])];exact y
 ·rename_i c x z a
  split at hv
  ·rename_i b D
   have hc:∀ st',AgreeOn cfg ops o st st'->D3 st' c= .val (.bool b)/\D3 st' x=D3 st x/\D3 st' z=D3 st z:=fun st' d=>
    ⟨by rw [d.eval (x:=c) (by rw [a];simp [aC])];exact D,d.eval (by rw [a];simp [aC]),d.eval (by rw [a];simp [aC])⟩
   rcases A02 hv with ⟨e,hv⟩|⟨e,hv⟩
   ·refine ⟨_,hv,(fun k off e=>⟨x,off,(by rw [a];simp [aC]),e⟩),fun st' h' C' n d y=>?_⟩
    obtain ⟨E,G,L⟩:=hc st' d
    unfold vcQ;simp only [a,E,G,L,e];exact y
   ·refine ⟨_,hv,(fun k off e=>⟨z,off,(by rw [a];simp [aC]),e⟩),fun st' h' C' n d y=>?_⟩
    obtain ⟨E,G,L⟩:=hc st' d
    unfold vcQ;simp only [a,E,G,L,e];exact y
  ·exact hv.elim
 ·rename_i t x a
  have g:∀ st',AgreeOn cfg ops o st st'->D3 st' x=D3 st x:=fun st' d=>d.eval (by rw [a];simp [aC])
  split at hv
  ·rename_i k off q
   split at hv
   ·rename_i cs S
    obtain ⟨u,w,r⟩:=A6l hv
    refine ⟨_,w,(fun k off e=>by cases e),fun st' h' C' n d y=>?_⟩
    unfold vcQ;simp only [a,g st' d,q,d.load t x k off a q,S];exact r C' y
   ·exact hv.elim
  ·rename_i Q q
   obtain ⟨u,w,r⟩:=A41 hv
   refine ⟨_,w,(fun k off e=>by cases e),fun st' h' C' n d y=>?_⟩
   unfold vcQ;simp only [a,g st' d,q];exact r h' C' (n (by simp only [Im,a,q])) y
  ·exact hv.elim
 ·rename_i s x f a
  have g:∀ st',AgreeOn cfg ops o st st'->D3 st' x=D3 st x:=fun st' d=>d.eval (by rw [a];simp [aC])
  split at hv
  ·rename_i k off q
   split at hv
   ·rename_i fs R
    split at hv
    ·rename_i fd X
     obtain ⟨D,hv⟩:=hv.both
     refine ⟨_,hv,(fun M off' e=>by cases e;exact ⟨x,off,(by rw [a];simp [aC]),q⟩),fun st' h' C' n d y=>?_⟩
     unfold vcQ;simp only [a,g st' d,q,R,X,D];exact y
    ·exact hv.elim
   ·exact hv.elim
  ·rename_i Q q
   split at hv
   ·rename_i fs R
    split at hv
    ·rename_i fd X
     obtain ⟨D,hv⟩:=hv.both
     refine ⟨_,hv,(fun M off' e=>by cases e),fun st' h' C' n d y=>?_⟩
     unfold vcQ;simp only [a,g st' d,q,R,X,D];exact y
    ·exact hv.elim
   ·exact hv.elim
  ·exact hv.elim
 ·rename_i x a
  have g:∀ st',AgreeOn cfg ops o st st'->D3 st' x=D3 st x:=fun st' d=>d.eval (by rw [a];simp [aC])
  split at hv
  ·rename_i k off q
   refine ⟨_,hv,(fun M off' e=>by cases e;exact ⟨x,off,(by rw [a];simp [aC]),q⟩),fun st' h' C' n d y=>?_⟩
   unfold vcQ;simp only [a,g st' d,q];exact y
  ·rename_i p q
   obtain ⟨Q,hp,hv⟩:=hv
   refine ⟨_,hv,(fun M off' e=>by cases e),fun st' h' C' n d y=>?_⟩
   unfold vcQ;simp only [a,g st' d,q];exact ⟨Q,hp,y⟩
  ·exact hv.elim
 ·rename_i t x i a
  obtain ⟨v,w,hw,r⟩:=Tv hv
  refine ⟨_,w,(fun k off e=>let ⟨off',e'⟩:=hw k off e;⟨x,off',(by rw [a];simp [aC]),e'⟩),fun st' h' C' n d y=>?_⟩
  unfold vcQ;simp only [a,d.eval (x:=x) (by rw [a];simp [aC]),d.eval (x:=i) (by rw [a];simp [aC])];exact r C' y
 ·rename_i t x i a
  have g:∀ st',AgreeOn cfg ops o st st'->D3 st' x=D3 st x/\D3 st' i=D3 st i:=fun st' d=>⟨d.eval (by rw [a];simp [aC]),d.eval (by rw [a];simp [aC])⟩
  split at hv
  ·rename_i s _ j O E G
   obtain ⟨c,h0,hv⟩:=hv
   refine ⟨_,hv,(fun k off e=>by cases e),fun st' h' C' n d y=>?_⟩
   unfold vcQ;simp only [a,(g st' d).1,(g st' d).2,O,E,G];exact ⟨c,h0,y⟩
  ·rename_i n1
   obtain ⟨u,w,r⟩:=Pz (cfg:=cfg) (ops:=ops) hsel hv
   refine ⟨_,w,(fun k off e=>by cases e),fun st' h' C' n d y=>?_⟩
   unfold vcQ;simp only [a,(g st' d).1,(g st' d).2]
   exact r st' C' d y
 ·rename_i t x J H a
  obtain ⟨u,w,r⟩:=A5w hv
  refine ⟨_,w,(fun k off e=>by cases e),fun st' h' C' n d y=>?_⟩
  have g:D3 st' x=D3 st x:=d.eval (by rw [a];simp [aC])
  have B:J.map (D3 st')=J.map (D3 st):=by
   cases J with
   | none=>rfl
   | some z=>simp only [Option.map_some];rw [d.eval (x:=z) (by rw [a];simp [aC])]
  have F:H.map (D3 st')=H.map (D3 st):=by
   cases H with
   | none=>rfl
   | some z=>simp only [Option.map_some];rw [d.eval (x:=z) (by rw [a];simp [aC])]
  unfold vcQ;simp only [a,g,B,F];exact r C' y
 ·rename_i t x J H Z a
  have ev:∀ st',AgreeOn cfg ops o st st'->D3 st' x=D3 st x/\D3 st' J=D3 st J/\D3 st' H=D3 st H/\D3 st' Z=D3 st Z:=fun st' d=>⟨d.eval (by rw [a];simp [aC]),d.eval (by rw [a];simp [aC]),d.eval (by rw [a];simp [aC]),d.eval (by rw [a];simp [aC])⟩
  unfold Ng at hv
  split at hv
  ·rename_i e A m c k1 l k2 h' k3 b O g B F V
   obtain ⟨D,E,G,L,hv⟩:=hv.both
   refine ⟨_,hv,(fun k off e=>by cases e),fun st' h' C' n d y=>?_⟩
   unfold vcQ;simp only [a,(ev st' d).1,(ev st' d).2.1,(ev st' d).2.2.1,(ev st' d).2.2.2,g,B,F,V,Ng,O,D]
   exact ⟨E,G,L,y⟩
  ·exact hv.elim
 ·rename_i op t x z t' a
  obtain ⟨u,w,r⟩:=B1v (cfg:=cfg) (ops:=ops) a hv
  refine ⟨_,w,(fun k off e=>by cases e),fun st' h' C' n d y=>?_⟩
  unfold vcQ;simp only [a];exact r st' C' d y
 ·exact hv.elim
 ·rename_i n1 n2 n3 n4 n5 n6 n7 n8 n9 W N T
  obtain ⟨u,w,r⟩:=Pz (cfg:=cfg) (ops:=ops) hsel hv
  refine ⟨_,w,(fun k off e=>by cases e),fun st' h' C' n d y=>?_⟩
  unfold vcQ
  split
  ·rename_i e;exact (n1 _ e).elim
  ·rename_i e;exact (n2 _ e).elim
  ·rename_i e;exact (n3 _ _ _ e).elim
  ·rename_i e;exact (n4 _ _ e).elim
  ·rename_i e;exact (n5 _ _ _ e).elim
  ·rename_i e;exact (n6 _ e).elim
  ·rename_i e;exact (n7 _ _ _ e).elim
  ·rename_i e;exact (n8 _ _ _ e).elim
  ·rename_i e;exact (n9 _ _ _ _ e).elim
  ·rename_i e;exact (W _ _ _ _ _ e).elim
  ·rename_i e;exact (N _ _ _ _ _ e).elim
  ·rename_i e;exact (T _ e).elim
  ·exact r st' C' d y
inductive Upd where
 | put (d:Option Nat) (v:aO)
 | own (d:Nat) (cs:List aI)
def Upd.app:Upd->VS->VS
 | .put d v,s=>s.putO d v
 | .own d cs,s=>(s.put d (.own d 0)).setOwn d cs
def Upd.dst:Upd->Option Nat
 | .put d _=>d
 | .own d _=>some d
def Lw{o:aE}{j:Nat}{want:Bool}{g:Nat}(hg:o.guard=some (j,want))(hd:(ops[j]?).bind (·.dst)=some g):g∈o.looksAt ops:=by
 unfold Oper.looksAt
 refine List.mem_append_right _ ?_
 simp only [hg,hd,Option.toList_some,List.mem_singleton]
def A1w{o:aE}{st:VS}{h:aF}{gr:Bool}{K:VS->aF->Prop}(hs:Bt P cfg o=true)(hv:S7 P cfg o gr st h K):
 ∃ u:Upd,u.dst=o.dst/\K (u.app st) h/\(∀ d cs,u= .own d cs->st.own d=none)/\(∀ d v k off,u= .put d v->v= .own k off->∃ x off',x∈o.op.operands/\D3 st x= .own k off')/\(∀ d cs,u= .own d cs->S0 cfg o=true)/\
  ∀ st' h' (K':VS->aF->Prop),(Im o st=true->h.le h')->AgreeOn cfg ops o st st'->K' (u.app st') h'->S7 P cfg o gr st' h' K':=by
 unfold S7 at hv
 obtain ⟨A,hv⟩:=hv.both
 split at hv
 ·rename_i j
  have m:∀ cs b,o.op ≠ .select cs b:=fun cs b e=>by simp [Um,e] at j
  obtain ⟨v,M,G,C⟩:=C15 (cfg:=cfg) (ops:=ops) m hv
  refine ⟨.put o.dst v,rfl,M,(fun d cs e=>by cases e),(fun d N k off e J=>by cases e;exact G k off J),(fun d cs e=>by cases e),fun st' h' K' l g y=>?_⟩
  unfold S7;rw [A];simp only [When,j];exact C st' h' _ l g y
 ·rename_i j
  have a:S0 cfg o=true:=by simpa [Bt,j] using hs
  have n:∀ cells:List aI,Ib cfg o.dst cells st h K->∃ u:Upd,u.dst=o.dst/\K (u.app st) h/\(∀ d cs,u= .own d cs->st.own d=none)/\(∀ d v k off,u= .put d v->v= .own k off->∃ x off',x∈o.op.operands/\D3 st x= .own k off')/\(∀ d cs,u= .own d cs->S0 cfg o=true)/\
   ∀ st' h' (K':VS->aF->Prop),(Im o st=true->h.le h')->AgreeOn cfg ops o st st'->K' (u.app st') h'->Ib cfg o.dst cells st' h' K':=by
   intro cells hv
   unfold Ib at hv
   split at hv
   ·rename_i d i
    obtain ⟨f,hv⟩:=hv.both
    simp only [aD,Option.isNone_iff_eq_none] at f
    refine ⟨.own d cells,i.symm,hv,(fun H cs e=>by cases e;exact f.2),(fun H v k off e _=>by cases e),(fun _ _ _=>a),fun st' h' K' l g y=>?_⟩
    have F:st'.own d=none:=g.alloc d a i f.2
    rw [i]
    simp only [Ib,f.1.1,f.1.2,F,Option.isNone_none,Bool.and_self,When]
    exact y
   ·exact hv.elim
  have q:=a
  unfold S0 at a
  split at hv
  ·rename_i t c
   rw [c] at a
   simp only [a] at hv
   obtain ⟨L,hv⟩:=hv.both
   obtain ⟨u,w,B,z,p,D,r⟩:=n _ hv
   refine ⟨u,w,B,z,p,D,fun st' h' K' l g y=>?_⟩
   unfold S7;rw [A];simp only [When,j,c,a,L];exact r st' h' K' l g y
  ·rename_i t x c
   rw [c] at a
   obtain ⟨E,hv⟩:=hv.both
   simp only [a] at hv
   obtain ⟨u,w,B,z,p,D,r⟩:=n _ hv
   refine ⟨u,w,B,z,p,D,fun st' h' K' l g y=>?_⟩
   have s:=g.eval (x:=x) (by rw [c];simp [aC])
   unfold S7;rw [A];simp only [When,j,c,a,s,E,g.rho (x:=x) (by rw [c];simp [aC])];exact r st' h' K' l g y
  all_goals (rename_i c;simp [c] at a)
def B9w{o:aE}{st:VS}{h:aF}{gr:Bool}{K:VS->aF->Prop}(hs:Bt P cfg o=true)(hv:Rm P cfg ops o gr st h K):
 ∃ u:Upd,u.dst=o.dst/\K (u.app st) h/\(∀ d cs,u= .own d cs->st.own d=none)/\(∀ d v k off,u= .put d v->v= .own k off->∃ x off',x∈o.op.operands/\D3 st x= .own k off')/\(∀ d cs,u= .own d cs->S0 cfg o=true)/\
  ∀ st' h' (K':VS->aF->Prop),(Im o st=true->h.le h')->AgreeOn cfg ops o st st'->K' (u.app st') h'->Rm P cfg ops o gr st' h' K':=by
 unfold Rm at hv
 split at hv
 ·rename_i n
  obtain ⟨u,s,A,t,q,D,r⟩:=A1w (ops:=ops) hs hv
  exact ⟨u,s,A,t,q,D,fun st' h' K' p g y=>by unfold Rm;simp only [n];exact r st' h' K' p g y⟩
 ·rename_i j C n
  split at hv
  ·exact hv.elim
  ·rename_i i f
   split at hv
   ·rename_i b m
    have c:=Lw n f
    have skip:∀ E:Bool,b=E->When (R1 cfg o.dst) (K ((st.put i (.val (.bool E))).putO o.dst (.val undef)) h)->R1 cfg o.dst=true/\K (st.putO o.dst (.val undef)) h:=by
     intro E e x
     subst e
     rw [aG st m] at x
     exact x.both
    cases b<;>cases C
    ·have l:S7 P cfg o gr (st.put i (.val (.bool false))) h K:=hv
     rw [aG st m] at l
     obtain ⟨u,s,A,t,q,D,r⟩:=A1w (ops:=ops) hs l
     refine ⟨u,s,A,t,q,D,fun st' h' K' p g y=>?_⟩
     have a:st'.env i= .val (.bool false):=by rw [g.env i c];exact m
     unfold Rm;simp only [n,f,a,Br]
     rw [aG st' a];exact r st' h' K' p g y
    ·obtain ⟨z,B⟩:=skip false rfl hv
     refine ⟨.put o.dst (.val undef),rfl,B,(fun d cs e=>by cases e),(fun d v k off e w=>by cases e;cases w),(fun d cs e=>by cases e),fun st' h' K' p g y=>?_⟩
     have a:st'.env i= .val (.bool false):=by rw [g.env i c];exact m
     unfold Rm;simp only [n,f,a,Br]
     rw [aG st' a,z];exact y
    ·obtain ⟨z,B⟩:=skip true rfl hv
     refine ⟨.put o.dst (.val undef),rfl,B,(fun d cs e=>by cases e),(fun d v k off e w=>by cases e;cases w),(fun d cs e=>by cases e),fun st' h' K' p g y=>?_⟩
     have a:st'.env i= .val (.bool true):=by rw [g.env i c];exact m
     unfold Rm;simp only [n,f,a,Br]
     rw [aG st' a,z];exact y
    ·have l:S7 P cfg o gr (st.put i (.val (.bool true))) h K:=hv
     rw [aG st m] at l
     obtain ⟨u,s,A,t,q,D,r⟩:=A1w (ops:=ops) hs l
     refine ⟨u,s,A,t,q,D,fun st' h' K' p g y=>?_⟩
     have a:st'.env i= .val (.bool true):=by rw [g.env i c];exact m
     unfold Rm;simp only [n,f,a,Br]
     rw [aG st' a];exact r st' h' K' p g y
   ·rename_i F m
    have c:=Lw n f
    obtain ⟨z,B⟩:=hv.both
    refine ⟨.put o.dst (.val undef),rfl,B,(fun d cs e=>by cases e),(fun d v k off e w=>by cases e;cases w),(fun d cs e=>by cases e),fun st' h' K' p g y=>?_⟩
    have a:st'.env i= .val (.tuple F):=by rw [g.env i c];exact m
    unfold Rm;simp only [n,f,a]
    rw [z];exact y
   ·exact hv.elim
def Tr{z:aI}{K K':aI->Prop}(x:exT z K)(hk:∀ v,K v->K' v):exT z K':=by
 unfold exT at x ⊢
 split at x
 ·exact B86 x fun a=>hk _
 ·exact A96 x hk
def B4i{zs:List aI}: ∀ {K K':List aI->Prop},exTs zs K->(∀ v,K v->K' v)->exTs zs K':=by
 induction zs with
 | nil=>exact fun x a=>a _ x
 | cons z zs ih=>exact fun x a=>Tr x fun v y=>ih y fun b=>a _
def Vm{t:aT}{K K':aI->Prop}(x:exRt P t K)(hk:∀ v,K v->K' v):exRt P t K':=by
 unfold exRt at x ⊢
 split at x
 ·exact B4i x fun a=>hk _
 ·exact Tr x hk
def WFs(st:VS):Prop:=∀ i k off,st.env i= .own k off->(st.own k).isSome=true
structure Frm (o:aE) (st st':VS):Prop where
 env:∀ x,o.dst≠some x->st'.env x=st.env x
 own:∀ k,(o.dst=some k->(st.own k).isSome=true)->(∀ t a b off,o.op= .store t a b->D3 st a ≠ .own k off)->st'.own k=st.own k
 wf:WFs st'
def A1p{st:VS}(wf:WFs st){x:aR}{k off:Nat}(e:D3 st x= .own k off):(st.own k).isSome=true:=by
 cases x with
 | tmp t=>exact wf t k off e
 | _=>cases e
def Qe(st:VS)(d:Option Nat)(v:aO)(x:Nat):(st.putO d v).env x=if d=some x then v else st.env x:=by
 cases d with
 | none=>simp [VS.putO]
 | some d=>
  by_cases h:x=d
  ·subst h;simp [VS.putO,VS.put]
  ·have:¬ d=x:=fun e=>h e.symm
   simp [VS.putO,VS.put,Du h,this]
def S6{o:aE}{st:VS}(wf:WFs st)(u:aI):Frm o st (st.putO o.dst (.val u)):=by
 refine ⟨fun x b=>by rw [Qe,iN b],fun k _ _=>by rw [O8],fun i k a e=>?_⟩
 rw [Qe] at e
 rw [O8]
 split at e
 ·cases e
 ·exact wf i k a e
def Fn{u:Upd}{st:VS}{x:Nat}(h:u.dst≠some x):(u.app st).env x=st.env x:=by
 cases u with
 | put d v=>simp only [Upd.app,Qe];rw [iN (show d≠some x from h)]
 | own d cs=>
  have:x≠d:=fun e=>h (by rw [e];rfl)
  simp [Upd.app,VS.setOwn,VS.put,Du this]
def Cq{u:Upd}{st:VS}{k:Nat}(h:∀ d cs,u= .own d cs->k≠d):(u.app st).own k=st.own k:=by
 cases u with
 | put d v=>simp only [Upd.app,O8]
 | own d cs=>exact F6 _ _ (h d cs rfl)
def Rp(st:VS){d e:Nat}(v u:aO)(h:d≠e):(st.put d v).put e u=(st.put e u).put d v:=by
 unfold VS.put
 congr 1
 funext i
 by_cases a:i=d
 ·subst a;simp [Du h]
 ·by_cases b:i=e
  ·subst b;simp [Du a]
  ·simp [Du a,Du b]
def I4{u:Upd}{st:VS}{d:Option Nat}{v:aO}(h:∀ x,u.dst=some x->d≠some x):(u.app st).putO d v=u.app (st.putO d v):=by
 cases d with
 | none=>rfl
 | some d=>
  cases u with
  | put e w=>
   cases e with
   | none=>rfl
   | some e=>exact Rp st w v (fun x=>h e rfl (congrArg some x.symm))
  | own e cs=>
   have:=Rp st (.own e 0) v (fun x=>h e rfl (congrArg some x.symm))
   show ((st.put e (.own e 0)).setOwn e cs).put d v=((st.put d v).put e (.own e 0)).setOwn e cs
   rw [<- this];rfl
def Jq{u:Upd}{st:VS}{k:Nat}{cs:List aI}(h:∀ d c,u= .own d c->k≠d):(u.app st).setOwn k cs=u.app (st.setOwn k cs):=by
 cases u with
 | put d v=>cases d<;>rfl
 | own d c=>
  have e:=h d c rfl
  show ((st.put d (.own d 0)).setOwn d c).setOwn k cs=((st.setOwn k cs).put d (.own d 0)).setOwn d c
  unfold VS.setOwn VS.put
  congr 1
  funext i
  by_cases a:i=d
  ·subst a;simp [Du (Ne.symm e)]
  ·by_cases b:i=k
   ·subst b;simp [Du a]
   ·simp [Du a,Du b]
def B8t{u v:Upd}{st:VS}(h:∀ x,u.dst=some x->v.dst≠some x):v.app (u.app st)=u.app (v.app st):=by
 cases v with
 | put d w=>exact I4 h
 | own d cs=>
  have a:(u.app st).put d (.own d 0)=u.app (st.put d (.own d 0)):=I4 (d:=some d) h
  show ((u.app st).put d (.own d 0)).setOwn d cs=_
  rw [a,Jq (fun e c eq=>by subst eq;exact fun x=>h e rfl (by rw [<- x];rfl))];rfl
def Frm.upd{o:aE}{u:Upd}{st:VS}(hd:u.dst=o.dst)(wf:WFs st)(hv:∀ d v k off,u= .put d v->v= .own k off->∃ x off',D3 st x= .own k off')(hn:∀ d cs,u= .own d cs->st.own d=none):Frm o st (u.app st):=by
 refine ⟨fun x a=>Fn (by rw [hd];exact a),fun k g _=>Cq (fun d cs e=>?_),fun i k off e=>?_⟩
 ·rintro rfl
  have:=g (by rw [<- hd,e];rfl)
  rw [hn k cs e] at this;cases this
 cases u with
 | put d v=>
  simp only [Upd.app,O8] at e ⊢
  rw [Qe] at e
  split at e
  ·obtain ⟨x,off',a⟩:=hv d v k off rfl e
   exact A1p wf a
  ·exact wf i k off e
 | own d cs=>
  have b:=hn d cs rfl
  by_cases c:i=d
  ·subst c
   have:((st.put i (.own i 0)).setOwn i cs).env i= .own i 0:=by simp [VS.setOwn,VS.put]
   simp only [Upd.app] at e ⊢
   rw [this] at e
   injection e with e1 e2;subst e1
   rw [X7];rfl
  ·rw [Fn (u:=.own d cs) (fun x=>c (by cases x;rfl))] at e
   have:=wf i k off e
   have f:k≠d:=by rintro rfl;rw [b] at this;cases this
   rw [Cq (u:=.own d cs) (fun l m j=>by cases j;exact f)];exact this
structure Before (cfg:Cfg) (ops:Array aE) (u:Upd) (o:aE) (st:VS):Prop where
 look:∀ x,u.dst=some x->x∉o.looksAt ops
 dst:∀ x,u.dst=some x->o.dst≠some x
 free:∀ d cs,u= .own d cs->st.own d=none
 wf:WFs st
def Before.eval{u:Upd}{o:aE}{st:VS}(b:Before cfg ops u o st){x:aR}(hx:x∈o.op.operands):D3 (u.app st) x=D3 st x:=by
 cases x with
 | tmp t=>
  refine Fn fun e=>b.look t e ?_
  unfold Oper.looksAt
  exact aK _ (List.mem_filterMap.2 ⟨.tmp t,by simpa using hx,rfl⟩)
 | _=>rfl
def Before.rho{u:Upd}{o:aE}{st:VS}(b:Before cfg ops u o st){x:aR}(hx:x∈o.op.operands):rho (u.app st) x=rho st x:=by
 unfold Go.Proofs.YtmbfcbbkbefgfaaGreatDoor.rho;rw [b.eval hx]
def Before.key{u:Upd}{o:aE}{st:VS}(b:Before cfg ops u o st){x:aR}{k off:Nat}(e:D3 st x= .own k off):∀ d cs,u= .own d cs->k≠d:=by
 rintro d cs a rfl
 have:=A1p b.wf e
 rw [b.free k cs a] at this;cases this
def Grw(cfg:Cfg)(o:aE)(st:VS)(h h':aF):Prop:=B1t cfg o=false->(∀ t a b,o.op= .store t a b->∃ k off,D3 st a= .own k off)->h.le h'
def Grw.of{cfg:Cfg}{o:aE}{st:VS}{h h':aF}(x:h.le h'):Grw cfg o st h h':=fun _ _=>x
def Grow.map{gr:Bool}{h h':aF}{X Y:Prop}(x:Grow gr h h' X)(f:X->(gr=true->h.le h')->Y):Grow gr h h' Y:=by
 cases gr
 ·exact f x (fun e=>by cases e)
 ·exact ⟨x.1,f x.2 (fun _=>x.1)⟩
def Vo{u:Upd}{o:aE}{st:VS}(b:Before cfg ops u o st){s:Sem aI}{h:aF}{K:VS->aF->Prop}{K':VS->aF->Prop}(hk:∀ st' h',K (u.app st') h'->Grw cfg o st h h'->Frm o st st'->K' st' h')(x:effV P s o true (u.app st) h K):
 effV P s o true st h K':=by
 refine Jv s x fun v h' y=>Tr y fun w ⟨c,a,d⟩=>⟨c,a,hk _ _ ?_ (Grw.of a) (S6 b.wf w)⟩
 rwa [I4 (fun z e=>b.dst z e)] at d
def Yw{u:Upd}{o:aE}{st:VS}{gr:Bool}(b:Before cfg ops u o st)(hgw:B1t cfg o=false->gr=true){s:Sem aI}{h:aF}{K:VS->aF->Prop}{K':VS->aF->Prop}(hk:∀ st' h',K (u.app st') h'->Grw cfg o st h h'->Frm o st st'->K' st' h')(x:effV P s o gr (u.app st) h K):
 effV P s o gr st h K':=by
 refine Jv s x fun v h' y=>Tr y fun w ⟨d,f⟩=>⟨d,f.map fun g c=>hk _ _ ?_ (fun e _=>c (hgw e)) (S6 b.wf w)⟩
 rwa [I4 (fun z a=>b.dst z a)] at g
def A4g{u:Upd}{o:aE}{st:VS}(b:Before cfg ops u o st){s:Sem aI}{h:aF}{K:VS->aF->Prop}{K':VS->aF->Prop}(hk:∀ st' h',K (u.app st') h'->Grw cfg o st h h'->Frm o st st'->K' st' h')(x:effP P s o true (u.app st) h K):
 effP P s o true st h K':=by
 refine Jv s x fun v h' ⟨w,c,a,d⟩=>⟨w,c,a,hk _ _ ?_ (Grw.of a) (S6 b.wf _)⟩
 rwa [I4 (fun z e=>b.dst z e)] at d
def B4l{u:Upd}{o:aE}{st:VS}(b:Before cfg ops u o st){s:Sem Unit}{h:aF}{K:VS->aF->Prop}{K':VS->aF->Prop}(hno:¬ (∀ t a b,o.op= .store t a b->∃ k off,D3 st a= .own k off))(hk:∀ st' h',K (u.app st') h'->Grw cfg o st h h'->Frm o st st'->K' st' h')(x:effU P s o false (u.app st) h K):
 effU P s o false st h K':=by
 refine Jv s x fun v h' c=>?_
 have c:K ((u.app st).putO o.dst (.val undef)) h':=c
 rw [I4 (fun z e=>b.dst z e)] at c
 exact hk _ _ c (fun _ d=>absurd d hno) (S6 b.wf _)
def Vw{u:Upd}{o:aE}{st:VS}(b:Before cfg ops u o st)(hs:Bt P cfg o=false){h:aF}{K:VS->aF->Prop}{K':VS->aF->Prop}(hk:∀ st' h',K (u.app st') h'->Grw cfg o st h h'->Frm o st st'->K' st' h')(hv:S7 P cfg o (Lx cfg o) (u.app st) h K):S7 P cfg o (Lx cfg o) st h K':=by
 unfold S7 at hv ⊢
 obtain ⟨hd,hv⟩:=hv.both
 rw [hd]
 simp only [Bt,Bool.or_eq_false_iff] at hs
 simp only [hs.1] at hv ⊢
 show (match o.op with
  | .alloc t=>_
  | .box t x=>_
  | .store t a x=>_
  | .makeSlice t l c=>_
  | .buildSlice t n T=>_
  | .convert s d x=>_
  | .call c=>_
  | _=>_)
 split at hv
 ·rename_i t j
  have q:Lx cfg o=true:=by simp [Lx,B1t,j]
  rw [q] at hv ⊢
  have:Od cfg o.dst=false:=by simpa [S0,j] using hs.2
  simp only [j,this] at hv ⊢
  exact A4g b hk hv
 ·rename_i t x j
  have q:Lx cfg o=true:=by simp [Lx,B1t,j]
  rw [q] at hv ⊢
  have:Od cfg o.dst=false:=by simpa [S0,j] using hs.2
  have E:x∈o.op.operands:=by rw [j];simp [aC]
  simp only [j,this,b.eval E,b.rho E] at hv ⊢
  obtain ⟨m,hv⟩:=hv.both
  rw [m]
  exact A4g b hk hv
 ·rename_i t a x j
  have q:Lx cfg o=false:=by simp [Lx,j]
  rw [q] at hv ⊢
  have D:a∈o.op.operands:=by rw [j];simp [aC]
  have E:x∈o.op.operands:=by rw [j];simp [aC]
  simp only [j]
  unfold A5v at hv ⊢
  rw [b.eval D] at hv
  split at hv
  ·rename_i k Z N
   have J:=b.key N
   rw [Cq J] at hv
   try simp only [N]
   split at hv
   ·rename_i cs ac
    try simp only [ac]
    rw [b.eval E,b.rho E] at hv
    obtain ⟨m,hv⟩:=hv.both
    rw [m]
    rw [Jq J,I4 (fun z M=>b.dst z M)] at hv
    refine hk _ _ hv (Grw.of (B4 h)) (⟨fun y A=>by rw [Qe,iN A];rfl,fun k' _ O=>?_,fun i k' aa e=>?_⟩)
    ·rw [O8,F6]
     rintro rfl;exact O t a x Z j N
    ·rw [Qe] at e
     rw [O8]
     split at e
     ·cases e
     ·have:=b.wf i k' aa e
      by_cases X:k'=k
      ·subst X;rw [X7];rfl
      ·rw [F6 _ _ X];exact this
   ·exact hv.elim
  ·rename_i p R
   try simp only [R]
   rw [b.eval E,b.rho E] at hv
   obtain ⟨m,hv⟩:=hv.both
   rw [m]
   exact B4l b (fun E=>by obtain ⟨k,Z,e⟩:=E _ _ _ j;rw [R] at e;cases e) hk hv
  ·exact hv.elim
 ·rename_i t l c j
  have q:Lx cfg o=true:=by simp [Lx,B1t,j]
  rw [q] at hv ⊢
  have hl:l∈o.op.operands:=by rw [j];simp [aC]
  have hc:c∈o.op.operands:=by rw [j];simp [aC]
  have D:Q3 (u.app st) [l,c]=Q3 st [l,c]:=Aw fun y A=>by
   simp only [aM,List.not_mem_nil,or_false] at A
   rcases A with rfl|rfl
   ·exact b.eval hl
   ·exact b.eval hc
  simp only [j]
  rw [D,b.rho hl,b.rho hc] at hv
  obtain ⟨m,hv⟩:=hv.both
  rw [m]
  exact Vo b hk hv
 ·rename_i t n T j
  have q:Lx cfg o=true:=by simp [Lx,B1t,j]
  rw [q] at hv ⊢
  have R:∀ p∈T,p.2∈o.op.operands:=fun p R=>by
   rw [j];simp only [aC,List.mem_toArray,List.mem_map,Array.mem_toList_iff]
   exact ⟨p,R,rfl⟩
  have D:Q3 (u.app st) (T.toList.map (·.2))=Q3 st (T.toList.map (·.2)):=Aw fun y A=>by
   obtain ⟨p,L,rfl⟩:=List.mem_map.1 A
   exact b.eval (R p (by simpa using L))
  have S:(T.map fun (i,x)=>(i,rho (u.app st) x))=T.map fun (i,x)=>(i,rho st x):=by
   apply Array.map_congr_left
   intro p L
   simp only [b.rho (R p L)]
  simp only [j]
  rw [D,S] at hv
  obtain ⟨m,hv⟩:=hv.both
  rw [m]
  exact Vo b hk hv
 ·rename_i s d x j
  have q:Lx cfg o=true:=by simp [Lx,B1t,j]
  rw [q] at hv ⊢
  have E:x∈o.op.operands:=by rw [j];simp [aC]
  have D:Q3 (u.app st) [x]=Q3 st [x]:=Aw fun y A=>by
   simp only [aM,List.not_mem_nil,or_false] at A
   rw [A];exact b.eval E
  simp only [j]
  rw [D,b.rho E] at hv
  obtain ⟨m,hv⟩:=hv.both
  rw [m]
  exact Vo b hk hv
 ·rename_i c j
  generalize q:Lx cfg o=gr at hv ⊢
  have F:B1t cfg o=false->gr=true:=fun e=>by rw [<- q];simp [Lx,j,e]
  have G:∀ y∈c.args,y∈o.op.operands:=fun y A=>by
   rw [j];simp only [aC,Call.operands];exact Array.mem_append.2 (.inr A)
  have D:Q3 (u.app st) c.args.toList=Q3 st c.args.toList:=Aw fun y A=>b.eval (G y (by simpa using A))
  have S:c.args.map (rho (u.app st))=c.args.map (rho st):=Array.map_congr_left fun y A=>b.rho (G y A)
  simp only [j]
  split at hv
  ·rename_i f B
   try simp only [B]
   unfold A82 at hv ⊢
   have hf:f∈o.op.operands:=by rw [j];simp [aC,Call.operands,B]
   rw [b.eval hf] at hv
   split at hv
   ·rename_i g first C Q
    try simp only [Q]
    split at hv
    ·rename_i H
     rw [D,S] at hv
     obtain ⟨m,hv⟩:=hv.both
     try simp only [H]
     rw [m]
     refine FCall.mono hv fun r h' y=>Vm y fun w ⟨m,O⟩=>⟨m,O.map fun W V=>hk _ _ ?_ (fun e _=>V (F e)) (S6 b.wf w)⟩
     rwa [I4 (fun z M=>b.dst z M)] at W
    ·rename_i H
     rw [D,S] at hv
     obtain ⟨m,hv⟩:=hv.both
     try simp only [H]
     rw [m]
     refine ECall.mono hv fun r h' y=>Vm y fun w ⟨m,O⟩=>⟨m,O.map fun W V=>hk _ _ ?_ (fun e _=>V (F e)) (S6 b.wf w)⟩
     rwa [I4 (fun z M=>b.dst z M)] at W
   ·rename_i l first C Q
    try simp only [Q]
    rw [D,S] at hv
    obtain ⟨m,hv⟩:=hv.both
    rw [m]
    refine YCall.mono hv fun r h' y=>Vm y fun w ⟨m,O⟩=>⟨m,O.map fun W V=>hk _ _ ?_ (fun e _=>V (F e)) (S6 b.wf w)⟩
    rwa [I4 (fun z M=>b.dst z M)] at W
   ·exact hv.elim
  ·rename_i B
   try simp only [B]
   rw [D,S] at hv
   obtain ⟨m,hv⟩:=hv.both
   rw [m]
   exact Yw b F hk hv
  ·rename_i B
   try simp only [B]
   rw [D,S] at hv
   obtain ⟨m,hv⟩:=hv.both
   rw [m]
   exact Yw b F hk hv
  ·exact hv.elim
 ·exact hv.elim
def B3j{u:Upd}{o:aE}{st:VS}(b:Before cfg ops u o st){h:aF}{K:VS->aF->Prop}{K':VS->aF->Prop}(hk:∀ st' h',K (u.app st') h'->Grw cfg o st h h'->Frm o st st'->K' st' h')(hv:Rm P cfg ops o (Lx cfg o) (u.app st) h K):Rm P cfg ops o (Lx cfg o) st h K':=by
 cases hs:Bt P cfg o with
 | true=>
  obtain ⟨v,l,m,Q,L,T,M⟩:=B9w (ops:=ops) hs hv
  have J:AgreeOn cfg ops o (u.app st) st:=by
   refine ⟨fun x n=>(Fn fun e=>b.look x e n).symm,fun t a k r B e=>?_,fun d _ R E=>(Cq fun N G e=>?_).symm.trans E⟩
   ·rw [b.eval (by rw [B];simp [aC])] at e
    exact (Cq (b.key e)).symm
   ·rintro rfl
    exact b.dst d (by rw [e];rfl) R
  refine M st h _ (fun _=>B4 h) J (hk _ _ ?_ (Grw.of (B4 h)) (Frm.upd l b.wf (fun d w k r e C=>?_) (fun d G e=>?_)))
  ·rw [<- B8t (fun x n=>by rw [l];exact b.dst x n)];exact m
  ·obtain ⟨x,s,n,y⟩:=L d w k r e C
   exact ⟨x,s,by rw [<- b.eval n];exact y⟩
  ·have:=Q d G e
   rwa [Cq (fun N O C=>by
    rintro rfl
    exact b.dst d (by rw [C];rfl) (by rw [<- l,e];rfl))] at this
 | false=>
  unfold Rm at hv ⊢
  split at hv
  ·rename_i F
   exact Vw b hs hk hv
  ·rename_i j q F
   split at hv
   ·exact hv.elim
   ·rename_i i A
    have p:=Lw (o:=o) F A
    have y:(u.app st).env i=st.env i:=Fn fun e=>b.look i e p
    rw [y] at hv
    split at hv
    ·rename_i H g
     have f:(u.app st).env i= .val (.bool H):=by rw [y];exact g
     have skip:R1 cfg o.dst=true/\K ((u.app st).putO o.dst (.val undef)) h->When (R1 cfg o.dst) (K' (st.putO o.dst (.val undef)) h):=by
      rintro ⟨l,m⟩
      rw [l]
      rw [I4 (fun z D=>b.dst z D)] at m
      exact hk _ _ m (Grw.of (B4 h)) (S6 b.wf _)
     try simp only [g]
     cases H<;>cases q
     ·have c:S7 P cfg o (Lx cfg o) ((u.app st).put i (.val (.bool false))) h K:=hv
      rw [aG _ f] at c
      simp only [Br];rw [aG st g]
      exact Vw b hs hk c
     ·have c:When (R1 cfg o.dst) (K (((u.app st).put i (.val (.bool false))).putO o.dst (.val undef)) h):=hv
      rw [aG _ f] at c
      simp only [Br];rw [aG st g]
      exact skip c.both
     ·have c:When (R1 cfg o.dst) (K (((u.app st).put i (.val (.bool true))).putO o.dst (.val undef)) h):=hv
      rw [aG _ f] at c
      simp only [Br];rw [aG st g]
      exact skip c.both
     ·have c:S7 P cfg o (Lx cfg o) ((u.app st).put i (.val (.bool true))) h K:=hv
      rw [aG _ f] at c
      simp only [Br];rw [aG st g]
      exact Vw b hs hk c
    ·rename_i S g
     try simp only [g]
     obtain ⟨l,m⟩:=hv.both
     rw [l]
     rw [I4 (fun z D=>b.dst z D)] at m
     exact hk _ _ m (Grw.of (B4 h)) (S6 b.wf _)
    ·exact hv.elim
def Uq{o:aE}{st:VS}(wf:WFs st){h:aF}{K K':VS->aF->Prop}(hv:Rm P cfg ops o (Lx cfg o) st h K)(hk:∀ st' h',K st' h'->Grw cfg o st h h'->Frm o st st'->K' st' h'):Rm P cfg ops o (Lx cfg o) st h K':=
 B3j (u:=.put none (.val undef)) ⟨(fun x e=>by cases e),(fun x e=>by cases e),(fun d a e=>by cases e),wf⟩ hk hv
def B8g{oj oi x:aE}{st st':VS}{rem rem':List Nat}(hsub:∀ i∈rem',i∈rem)(hfr:Frm oi st st')(hap:oj.apart ops oi=true)(hmem:∃ i:Nat,i∈rem/\ops[i]? = some oi)(h:Qz cfg ops rem oj x st=true):Qz cfg ops rem' oj x st'=true:=by
 obtain ⟨_,_,k⟩:=Oper.apart_spec hap
 unfold Qz at h ⊢
 simp only [aD] at h ⊢
 obtain ⟨n,h⟩:=h
 have c:Im oj st'=Im oj st:=by
  unfold Im
  split
  ·rename_i m a f
   have j:D3 st' a=D3 st a:=by
    cases a with
    | tmp z=>
     refine hfr.env z fun e=>k z e ?_
     unfold Oper.looksAt
     exact aK _ (List.mem_filterMap.2 ⟨.tmp z,by rw [f];simp [aC],rfl⟩)
    | _=>rfl
   rw [j]
  ·rfl
 refine ⟨by rw [c];exact n,?_⟩
 split at h
 ·rename_i t y b o
  split at h
  ·rename_i m a f
   simp only [aD] at h ⊢
   refine ⟨List.all_eq_true.2 fun i d=>List.all_eq_true.1 h.1 i (hsub i d),?_⟩
   have j:D3 st' a=D3 st a:=by
    cases a with
    | tmp z=>
     refine hfr.env z fun e=>k z e ?_
     unfold Oper.looksAt
     exact aK _ (List.mem_filterMap.2 ⟨.tmp z,by rw [f];simp [aC],rfl⟩)
    | _=>rfl
   have l:st'.env y=st.env y:=by
    refine hfr.env y fun e=>?_
    obtain ⟨i,d,g⟩:=hmem
    have:=List.all_eq_true.1 h.1 i d
    simp only [g,e] at this
    simp [Nat.beq_refl] at this
   rw [j,l];exact h.2
  ·exact h
 ·exact h
 ·exact h
def swap{oj oi:aE}{st:VS}{rem:List Nat}(wf:WFs st)(hs:Bt P cfg oj=true)(hap:oj.apart ops oi=true)(hc:Qz cfg ops rem oj oi st=true){h:aF}{K:VS->aF->Prop}
 (hv:Rm P cfg ops oj (Lx cfg oj) st h fun st1 h1=>Rm P cfg ops oi (Lx cfg oi) st1 h1 K):Rm P cfg ops oi (Lx cfg oi) st h fun st1 h1=>Frm oi st st1/\Rm P cfg ops oj (Lx cfg oj) st1 h1 K:=by
 obtain ⟨B,s,J⟩:=Oper.apart_spec hap
 obtain ⟨u,h1,G,E,N,Q,D⟩:=B9w (ops:=ops) hs hv
 have b:Before cfg ops u oi st:=⟨fun x e=>B x (by rw [<- h1];exact e),fun x e=>s x (by rw [<- h1];exact e),E,wf⟩
 have g:=hc
 unfold Qz at g
 simp only [aD] at g
 have hc:=g.2
 have C:Im oj st=true->B1t cfg oi=false:=fun e=>by
  have:=g.1
  rw [e] at this
  simpa using this
 refine B3j b (fun q M L H o=>⟨o,D q M K (fun c=>H (C c) fun w n r i=>?_) ?_ L⟩) G
 ·obtain ⟨t,x,hld⟩:∃ t x,oj.op= .load t x:=by
   unfold Im at c
   split at c
   ·exact ⟨_,_,by assumption⟩
   ·cases c
  rw [i] at hc
  cases n with
  | tmp y=>
   simp only [hld,aD] at hc
   show ∃ k m,st.env y= .own k m
   revert hc
   cases D3 st x<;>cases st.env y<;>simp
  | _=>simp at hc
 refine ⟨fun x A=>o.env x fun e=>J x e A,fun t a k m p e=>o.own k (fun _=>A1p wf e) (fun w n r j i f=>?_),fun d O F l=>(o.own d (fun e=>absurd e (s d F)) (fun w n r j i f=>?_)).trans l⟩
 ·rw [i] at hc
  cases n with
  | tmp y=>
   simp only [p,aD] at hc
   have z:st.env y= .own k j:=f
   rw [e,z] at hc
   simp [Nat.beq_refl] at hc
  | _=>simp at hc
 ·have:=A1p wf f
  rw [l] at this;cases this
def C4r{anc:List (List Nat)}{al:Nat->List Nat}{i:Nat}{oi:aE}(hi:ops[i]? = some oi){L2:List Nat}{K:VS->aF->Prop}: ∀ (L1:List Nat) (n:Nat) (st:VS) (h:aF),n=L1.length+L2.length->WFs st->(∀ j∈L1,has (anc.getD i []) j=false)->i∉L1->
 Em P cfg ops anc al (n+1) (L1++i::L2) st h K->Rm P cfg ops oi (Lx cfg oi) st h fun st' h'=>WFs st'/\Em P cfg ops anc al n (L1++L2) st' h' K:=by
 intro L1
 induction L1 with
 | nil=>
  intro n st h _ wf _ _ g
  simp only [List.nil_append,Em,hi] at g
  exact Uq wf (A9c g.both.2) fun st' h' l _ m=>⟨m.wf,l⟩
 | cons j L1 ih=>
  intro n st h D wf c z g
  obtain ⟨n,rfl⟩:∃ n',n=n'+1:=⟨L1.length+L2.length,by simp at D;omega⟩
  have A:n=L1.length+L2.length:=by simp at D;omega
  have o:i∉L1:=fun B=>z (by simp [B])
  simp only [aJ,Em] at g
  split at g
  ·exact g.elim
  ·rename_i t C
   obtain ⟨d,g⟩:=g.both
   have d:=List.all_eq_true.1 d
   have b:=d i (by simp)
   unfold A0n at b
   rw [aN] at b
   rcases b with b|b
   ·unfold B3e at b
    rw [c j (by simp),hi] at b
    simp only [Bool.false_or,aD] at b
    obtain ⟨⟨e,w⟩,M⟩:=b
    have J:Bt P cfg t=true:=by
     unfold B7j at e
     rw [aD] at e
     exact e.1
    have s:Rm P cfg ops t (Lx cfg t) st h fun f s=>Rm P cfg ops oi (Lx cfg oi) f s fun q E=>WFs q/\Em P cfg ops anc al n (L1++L2) q E K:=
     Uq wf (A9c g) fun f s l _ m=>ih n f s A m.wf (fun k L=>c k (by simp [L])) o l
    refine Uq wf (swap wf J w M s) fun f s ⟨m,l⟩ _ _=>⟨m.wf,?_⟩
    simp only [aJ,Em,C]
    have u:(L1++L2).all (A0n P cfg ops anc al (L1++L2) f t j)=true:=by
     refine List.all_eq_true.2 fun x p=>?_
     have a:=d x (by
      simp only [List.mem_append,aM] at p ⊢
      rcases p with p|p
      ·exact .inl p
      ·exact .inr (.inr p))
     unfold A0n at a ⊢
     rw [e] at a ⊢
     simp only [Bool.not_true,Bool.false_and,Bool.or_false] at a ⊢
     unfold B3e at a ⊢
     simp only [aN] at a ⊢
     rcases a with a|a
     ·exact .inl a
     ·refine .inr ?_
      split at a
      ·rename_i O F
       simp only [aD] at a ⊢
       exact ⟨a.1,B8g (rem:=L1++i::L2) (fun y r=>by
        simp only [List.mem_append,aM] at r ⊢
        rcases r with r|r
        ·exact .inl r
        ·exact .inr (.inr r)) m w ⟨i,by simp,hi⟩ a.2⟩
      ·cases a
    rw [u]
    have N:A4s P cfg anc al t j (L1++L2)=[]:=by unfold A4s;rw [e]
    rw [N]
    exact Uq m.wf l fun q E ⟨_,l⟩ _ _=>l
   ·simp only [aD,Bool.not_eq_true'] at b
    obtain ⟨H,G⟩:=A83 (L2:=L2) o
    have B:i∈A4s P cfg anc al t j (L1++i::L2):=by
     unfold A4s
     rw [b.1]
     refine List.mem_filter.2 ⟨Y3.1 b.2,?_⟩
     rw [H,Y3.2 (show i∈L1++i::L2 by simp),c j (by simp)]
     simp only [Bool.true_and,Bool.not_false,Bool.and_true]
     exact List.all_eq_true.2 fun x p=>by rw [c x (by simp [p])];rfl
    have:=C2m g B
    simp only [hi] at this
    rw [G] at this
    exact Uq wf this fun st' h' l _ m=>⟨m.wf,by simp only [aJ,Em,C] at l ⊢;exact l⟩
def B0d:∀ {L done:List Nat},B3h ops done L=true->L.Nodup/\(∀ i∈L,i∉done)/\∀ L1 i L2,L=L1++i::L2->∃ o,ops[i]? = some o/\∀ e∈o.after,Region.binds .any e=true->e.on∈done\/e.on∈L1:=by
 intro L
 induction L with
 | nil=>exact fun _=>⟨List.nodup_nil,(fun i b=>by cases b),(fun L1 i L2 e=>by simp at e)⟩
 | cons x L ih=>
  intro done h
  simp only [B3h,aD,Bool.not_eq_true'] at h
  obtain ⟨⟨k,m⟩,r⟩:=h
  obtain ⟨q,l,p⟩:=ih r
  have n:x∉done:=fun c=>by rw [Y3.2 c] at m;cases m
  refine ⟨List.nodup_cons.2 ⟨fun c=>l x c (by simp),q⟩,fun i b=>?_,fun L1 i L2 e=>?_⟩
  ·cases b with
   | head=>exact n
   | tail _ b=>exact fun c=>l i b (by simp [c])
  ·cases L1 with
   | nil=>
    simp only [List.nil_append,List.cons.injEq] at e
    obtain ⟨rfl,rfl⟩:=e
    split at k
    ·rename_i o j
     refine ⟨o,j,fun e f g=>.inl ?_⟩
     have:=List.all_eq_true.1 k e (by simpa using f)
     rw [g] at this
     exact Y3.1 (by simpa using this)
    ·cases k
   | cons y L1=>
    simp only [aJ,List.cons.injEq] at e
    obtain ⟨rfl,rfl⟩:=e
    obtain ⟨o,j,d⟩:=p L1 i L2 rfl
    refine ⟨o,j,fun e f g=>?_⟩
    rcases d e f g with a|a
    ·simp only [aM] at a
     rcases a with a|a
     ·exact .inr (by simp [a])
     ·exact .inl a
    ·exact .inr (by simp [a])
def A0v{listed:Array Bool}{i:Nat}(d:Bool)(h:i<listed.size):(listed.setIfInBounds i true).getD i d=true:=by
 simp [h]
def B57{al:Nat->List Nat}{F:Fence}{fu:Nat}[FOk F]{n:Nat}{h0:aF}{W0:World}(hn:cfg.n=n)(hfn:Bodies P cfg.fns){anc:List (List Nat)}(hanc:C4w ops anc=true){Q:Exit->Act->World->Prop}{K:VS->aF->Prop}{ord:List Nat}(hord:B3h ops [] ord=true)(_hall:∀ i,i<ops.size->i∈ord):
 ∀ (m:Nat) (L:List Nat) (listed:Array Bool) (st:VS) (h:aF) (a:Act) (W:World),L.length=m->L.Sublist ord->listed.size=ops.size->(∀ i,i<ops.size->(listed.getD i true=false↔i∈L))->(∀ i j,listed.getD i false=true->has (anc.getD i []) j=true->listed.getD j false=true)->
  Good n h0 W0 st h a W->Em P cfg ops anc al m L st h K->(∀ st' h' a' W',K st' h'->Good n h0 W0 st' h' a' W'->Agree cfg.lim st st'->Q .normal a' W')->wpAnyIn F fu P .any ops Q m listed a W:=by
 obtain ⟨ae,_,w⟩:=B0d hord
 intro m
 induction m with
 | zero=>
  intro L listed st h a W R f B b z g X hQ
  have:L=[]:=List.eq_nil_of_length_eq_zero R
  subst this
  simp only [Em] at X
  refine ⟨?_,hQ st h a W X g (Agree.refl _ _)⟩
  apply List.eq_nil_iff_forall_not_mem.2
  intro i G
  obtain ⟨h1,o,Z,_⟩:=mem_ready.1 G
  have:=(b i (Array.getElem?_eq_some_iff.1 Z).1).1 h1
  cases this
 | succ m ih=>
  intro L listed st h a W R f B b z g X hQ
  have wf:WFs st:=by obtain ⟨θ,r,_,_⟩:=g;exact r.wf
  have inl:∀ i,i∈L->i<ops.size:=by
   intro i G
   obtain ⟨L1,L2,e⟩:=aL (f.subset G)
   obtain ⟨o,Z,_⟩:=w L1 i L2 e
   exact (Array.getElem?_eq_some_iff.1 Z).1
  constructor
  ·
   intro q
   exfalso
   cases L with
   | nil=>simp at R
   | cons i L=>
    have G:=inl i (by simp)
    obtain ⟨L1,L2,e⟩:=aL (f.subset (show i∈i::L by simp))
    obtain ⟨o,Z,hp⟩:=w L1 i L2 e
    have:i∈Region.ready .any ops listed:=by
     refine mem_ready.2 ⟨(b i G).2 (by simp),o,Z,fun t S C=>?_⟩
     rcases hp t S C with h'|h'
     ·cases h'
     ·have af:t.on<ops.size:=by
       obtain ⟨M1,M2,e'⟩:=aL h'
       obtain ⟨o',aq,_⟩:=w M1 t.on (M2++i::L2) (by rw [e,e'];simp)
       exact (Array.getElem?_eq_some_iff.1 aq).1
      have ad:t.on∉i::L:=by
       intro hm
       have O:(i::L).Sublist (L1++i::L2):=by rw [<- e];exact f
       have u:(L1++i::L2).Nodup:=by rw [<- e];exact ae
       have p:i∉L1:=fun D=>(List.nodup_append.1 u).2.2 i D i (by simp) rfl
       have an:(i::L).Sublist (i::L2):=by
        clear q b z hQ X g ih hp S C
        revert O p
        clear u e h'
        induction L1 with
        | nil=>exact fun h _=>h
        | cons y L1 ihL=>
         intro O p
         refine ihL ?_ (fun D=>p (by simp [D]))
         cases O with
         | cons _ h=>exact h
         | cons_cons _ h=>exact absurd (by simp) p
       have:=an.subset hm
       exact (List.nodup_append.1 u).2.2 t.on h' t.on this rfl
      cases hg:listed.getD t.on false with
      | true=>rfl
      | false=>
       have:listed.getD t.on true=false:=by
        have M:t.on<listed.size:=by rw [B];exact af
        simp [aS,M] at hg ⊢;exact hg
       exact absurd ((b _ af).1 this) ad
    rw [q] at this;cases this
  ·intro i G
   obtain ⟨h1,oi,x,V⟩:=mem_ready.1 G
   have s:=(Array.getElem?_eq_some_iff.1 x).1
   have ai:=(b i s).1 h1
   obtain ⟨L1,L2,e⟩:=aL ai
   have l:L.Nodup:=f.nodup ae
   have ao:∀ j∈L1,has (anc.getD i []) j=false:=by
    intro j H
    cases D:has (anc.getD i []) j with
    | false=>rfl
    | true=>
     exfalso
     have J:j∈L:=by rw [e];simp [H]
     have ac:=(b j (inl j J)).2 J
     have hA:=List.all_eq_true.1 (List.all_eq_true.1 hanc i (List.mem_range.2 s)) j (Y3.1 D)
     simp only [x] at hA
     obtain ⟨t,S,C⟩:=List.any_eq_true.1 hA
     simp only [aD,aN] at C
     have A:=V t (by simpa using S) C.1
     have N:listed.getD j false=true:=by
      rcases C.2 with h'|h'
      ·rw [<- aH h'];exact A
      ·exact z _ j A h'
     have M:j<listed.size:=by rw [B];exact inl j J
     simp [aS,M] at ac N
     rw [ac] at N;cases N
   have T:i∉L1:=by
    rw [e] at l
    exact fun D=>(List.nodup_append.1 l).2.2 i D i (by simp) rfl
   have am:=C4r x (L2:=L2) L1 m st h (by have:=R;rw [e,List.length_append,List.length_cons] at this;omega) wf ao T (by rw [<- e];exact X)
   refine wpOpIn_mono (fun a' W' ⟨st',h',⟨_,hK⟩,g',ag⟩=>?_) (g.op hn hfn x am)
   have E:∀ j d,(listed.setIfInBounds i true).getD j d=if j=i then true else listed.getD j d:=by
    intro j d
    by_cases c:j=i
    ·subst c;rw [iP rfl];exact A0v d (by rw [B];exact s)
    ·rw [iN c];exact getD_set_ne d (Ne.symm c)
   rw [e] at l
   have ap:i∉L1:=fun D=>(List.nodup_append.1 l).2.2 i D i (by simp) rfl
   have ah:i∉L2:=(List.nodup_cons.1 (List.nodup_append.1 l).2.1).1
   refine ih (L1++L2) _ st' h' a' W' (by rw [e] at R;simp at R ⊢;omega) ?_ (by simpa using B) (fun j H=>?_) (fun j k H hk=>?_) g' hK fun aj h2 a2 W2 k g2 ak=>hQ aj h2 a2 W2 k g2 (ag.trans ak)
   ·refine List.Sublist.trans ?_ f
    rw [e]
    exact List.Sublist.append (List.Sublist.refl _) (List.sublist_cons_self _ _)
   ·rw [E]
    by_cases c:j=i
    ·subst c;simp [ap,ah]
    ·rw [iN c,b j H,e];simp [c]
   ·rw [E] at H ⊢
    by_cases aa:k=i
    ·rw [iP aa]
    ·rw [iN aa]
     by_cases c:j=i
     ·subst c
      have hA:=List.all_eq_true.1 (List.all_eq_true.1 hanc j (List.mem_range.2 s)) k (Y3.1 hk)
      simp only [x] at hA
      obtain ⟨t,S,C⟩:=List.any_eq_true.1 hA
      simp only [aD,aN] at C
      have A:=V t (by simpa using S) C.1
      rcases C.2 with h'|h'
      ·rw [<- aH h'];exact A
      ·exact z _ k A h'
     ·rw [iN c] at H;exact z j k H hk
def B0r{al:Nat->List Nat}{F:Fence}{fu:Nat}[FOk F]{n:Nat}{h0:aF}{W0:World}(hn:cfg.n=n)(hfn:Bodies P cfg.fns){id:Nat}{ord:List Nat}{anc:List (List Nat)}(hok:B4q P ops ord anc=true){Q:Exit->Act->World->Prop}{K:VS->aF->Prop}{st:VS}{h:aF}{a:Act}{W:World}
 (g:Good n h0 W0 st h a W) (hv:Em P cfg ops anc al ord.length ord st h K) (hQ:∀ st' h' a' W',K st' h'->Good n h0 W0 st' h' a' W'->Agree cfg.lim st st'->Q .normal a' W'):(Code.region id ops true).wpIn F fu P Q a W:=by
 simp only [B4q,aD] at hok
 obtain ⟨⟨⟨⟨o,p⟩,q⟩,m⟩,e⟩:=hok
 refine wpIn_region_any o ?_
 have l:Good n h0 W0 st h a { W with drawn:=W.drawn+1 }:=by
  obtain ⟨θ,r,f,k⟩:=g
  exact ⟨θ,⟨r.defers,r.size,r.slot,r.sim,r.own,r.inj,r.wf,r.out⟩,⟨f.sim,f.os,f.tape,f.output,f.size,f.keep,f.new⟩,k⟩
 have b:∀ i,i<ops.size->i∈ord:=fun i c=>Y3.1 (List.all_eq_true.1 m i (List.mem_range.2 c))
 rw [aH e] at hv
 refine B57 hn hfn p q b ops.size ord _ st h a _ (aH e) (List.Sublist.refl _) (by simp) (fun i c=>?_) (fun i j c _=>?_) l hv hQ
 ·simp [aS,c,b i c]
 ·by_cases d:i<ops.size<;>simp [aS,d] at c
end
