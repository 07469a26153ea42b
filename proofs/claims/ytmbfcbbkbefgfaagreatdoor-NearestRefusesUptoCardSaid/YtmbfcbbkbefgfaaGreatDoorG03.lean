/- A part. -/
import Derived.Test.YtmbfcbbkbefgfaaGreatDoorG02
set_option linter.all false
open _root_.Array renaming getD->aS
open Bool renaming and_eq_true->aD,or_eq_true->aN
open List renaming cons_append->aJ,mem_append_left->aK,append_of_mem->aL,mem_cons->aM
open Nat renaming eq_of_beq_eq_true->aH,beq->aP
open _root_.Go.Op renaming operands->aC
open _root_.Go renaming Oper->aE,Value->aI,Program->aQ,Operand->aR,TypeId->aT
open _root_.Go.Proofs.YtmbfcbbkbefgfaaGreatDoor renaming Heap->aF,put_self->aG,AVal->aO
namespace Go.Proofs.YtmbfcbbkbefgfaaGreatDoor
open Go
def R6(cfg:Cfg)(o:aE):Bool:=
 match o.op with
 | .alloc _ | .box _ _=>Nw cfg o.dst
 | _=>false
def Bj(P:aQ)(cfg:Cfg)(o:aE):Bool:=Uq P o||R6 cfg o
def B3l(ops:Array aE)(rem:List Nat)(y:Nat):Bool:=rem.all fun i=>match ops[i]? with
 | some o=>(match o.dst with
  | some d=> !aP d y
  | none=>true)
 | none=>true
def B1i(cfg:Cfg)(o:aE):Bool:=
 match o.op with
 | .call c=>
  match c.callee with
  | .value (.func g)=>has cfg.wr g
  | .value (.tmp _)=>true
  | .builtin .copy=>true
  | .builtin .append=>has cfg.wr 1000000000
  | _=>false
 | _=>false
def Ie(o:aE)(st:VS):Bool:=
 match o.op with
 | .load _ a=>(match C9 st a with
  | .own _ _=>false
  | _=>true)
 | _=>false
def Rc(cfg:Cfg)(ops:Array aE)(rem:List Nat)(oj oi:aE)(st:VS):Bool:=
 !(B1i cfg oi&&Ie oj st) &&
 match oi.op with
 | .store _ (.tmp y) _=>
  match oj.op with
  | .load _ a=>B3l ops rem y&&(match C9 st a,st.env y with
   | .own k _,.own k' _=> !aP k k'
   | .val _,.own _ _=>true
   | _,_=>false)
  | _=>true
 | .store _ _ _=>false
 | _=>true
def B6z(P:aQ)(cfg:Cfg)(al:Nat->List Nat)(oj:aE)(j:Nat):Bool:=Bj P cfg oj&&(al j).isEmpty
def B2v(P:aQ)(cfg:Cfg)(ops:Array aE)(anc:List (List Nat))(al:Nat->List Nat)(rem:List Nat)(st:VS)(oj:aE)(j i:Nat):Bool:=
 has (anc.getD i []) j ||
 match ops[i]? with
 | some oi=>B6z P cfg al oj j&&oj.apart ops oi&&Rc cfg ops rem oj oi st
 | none=>false
def Lh(cfg:Cfg)(o:aE):Bool:=
 match o.op with
 | .store _ _ _=>false
 | _=> !B1i cfg o
def A0m(P:aQ)(cfg:Cfg)(ops:Array aE)(anc:List (List Nat))(al:Nat->List Nat)(rem:List Nat)(st:VS)(oj:aE)(j i:Nat):Bool:=
 B2v P cfg ops anc al rem st oj j i||(!B6z P cfg al oj j&&has (al j) i)
def C2y(i:Nat):List Nat->List Nat
 | []=>[]
 | x::L=>bif aP x i then [] else x::C2y i L
def del(i:Nat):List Nat->List Nat
 | []=>[]
 | x::L=>bif aP x i then L else x::del i L
def A4m(P:aQ)(cfg:Cfg)(anc:List (List Nat))(al:Nat->List Nat)(oj:aE)(j:Nat)(L:List Nat):List Nat:=
 match B6z P cfg al oj j with
 | true=>[]
 | false=>(al j).filter fun i=>has L i&&(C2y i L).all (fun x=> !has (anc.getD i []) x) && !has (anc.getD i []) j
def C5r(f:Nat->Prop):Nat->List Nat->Prop
 | i,[]=>f i
 | i,k::r=>f i/\C5r f k r
def C5s(A:Prop)(f:Nat->Prop):List Nat->Prop
 | []=>A
 | i::r=>A/\C5r f i r
def Ee(P:aQ)(cfg:Cfg)(ops:Array aE)(anc:List (List Nat))(al:Nat->List Nat):Nat->List Nat->VS->aF->(VS->aF->Prop)->Prop
 | _,[],st,h,K=>K st h
 | 0,_::_,_,_,_=>False
 | n+1,j::L,st,h,K=>
  match ops[j]? with
  | none=>False
  | some o=>When (L.all (A0m P cfg ops anc al L st o j))
   (C5s (Rp P cfg ops o (Lh cfg o) st h fun st' h'=>Ee P cfg ops anc al n L st' h' K)
    (fun i=>
     match ops[i]? with
     | none=>False
     | some oi=>Rp P cfg ops oi (Lh cfg oi) st h fun st' h'=>Ee P cfg ops anc al n (j::del i L) st' h' K)
    (A4m P cfg anc al o j L))
def B4n{f:Nat->Prop}{i:Nat}: ∀ {k:Nat} {r:List Nat},C5r f k r->i∈k::r->f i
 | k,[],x,h=>by rw [List.mem_singleton.1 h];exact x
 | k,m::r,x,h=>by
  rcases List.mem_cons.1 h with rfl|h
  ·exact x.1
  ·exact B4n x.2 h
def A91{A:Prop}{f:Nat->Prop}: ∀ {r:List Nat},C5s A f r->A
 | [],x=>x
 | _::_,x=>x.1
def C1w{A:Prop}{f:Nat->Prop}{i:Nat}: ∀ {r:List Nat},C5s A f r->i∈r->f i
 | [],_,h=>by cases h
 | _::_,x,h=>B4n x.2 h
def A7w{i:Nat}{L2:List Nat}: ∀ {L1:List Nat},i∉L1->C2y i (L1++i::L2)=L1/\del i (L1++i::L2)=L1++L2
 | [],_=>by simp [C2y,del]
 | x::L1,h=>by
  have hx:aP x i=false:=by
   cases e:aP x i with
   | false=>rfl
   | true=>
    have a:=aH e
    subst a
    exact absurd List.mem_cons_self h
  obtain ⟨d,c⟩:=A7w (L2:=L2) (L1:=L1) (i:=i) (fun b=>h (List.mem_cons_of_mem _ b))
  simp only [aJ,C2y,del,hx,d,c,cond_false,and_self]
def C40(ops:Array aE)(anc:List (List Nat)):Bool:=
 (List.range ops.size).all fun i=>(anc.getD i []).all fun j=>
  match ops[i]? with
  | some o=>o.after.toList.any fun e=>Region.binds .any e&&(aP e.on j||has (anc.getD e.on []) j)
  | none=>false
def B2y(ops:Array aE):List Nat->List Nat->Bool
 | _,[]=>true
 | done,i::L=>
  (match ops[i]? with
   | some o=>o.after.toList.all fun e=> !Region.binds .any e||has done e.on
   | none=>false) && !has done i&&B2y ops (i::done) L
def B45(P:aQ)(ops:Array aE)(ord:List Nat)(anc:List (List Nat)):Bool:=
 P.follows .mixedOrders&&C40 ops anc&&B2y ops [] ord&&(List.range ops.size).all (has ord)&&aP ord.length ops.size
section
variable {P:aQ} {cfg:Cfg} {ops:Array aE}
structure AgreeOn (cfg:Cfg) (ops:Array aE) (o:aE) (st st':VS):Prop where
 env:∀ x∈o.looksAt ops,st'.env x=st.env x
 load:∀ t a k off,o.op= .load t a->C9 st a= .own k off->st'.own k=st.own k
 alloc:∀ d,R6 cfg o=true->o.dst=some d->st.own d=none->st'.own d=none
def AgreeOn.eval{o:aE}{st st':VS}(ag:AgreeOn cfg ops o st st'){x:aR}(hx:x∈o.op.operands):C9 st' x=C9 st x:=by
 cases x with
 | tmp t=>
  refine ag.env t ?_
  unfold Oper.looksAt
  exact aK _ (List.mem_filterMap.2 ⟨.tmp t,by simpa using hx,rfl⟩)
 | _=>rfl
def AgreeOn.rho{o:aE}{st st':VS}(ag:AgreeOn cfg ops o st st'){x:aR}(hx:x∈o.op.operands):rho st' x=rho st x:=by
 unfold Go.Proofs.YtmbfcbbkbefgfaaGreatDoor.rho;rw [ag.eval hx]
def A8w{z:aI}{K K':aI->Prop}(x:exV z K)(hk:∀ v,K v->K' v):exV z K':=by
 cases z<;>(unfold exV at x ⊢)<;>first
  | (obtain ⟨n,a⟩:=x;exact ⟨n,hk _ a⟩)
  | (obtain ⟨p,n,c,a⟩:=x;exact ⟨p,n,c,hk _ a⟩)
def B7j{zs:List aI}: ∀ {K K':List aI->Prop},exL zs K->(∀ v,K v->K' v)->exL zs K':=by
 induction zs with
 | nil=>exact fun x a=>a _ x
 | cons z zs ih=>exact fun x a=>A8w x fun v y=>ih y fun b=>a _
def B3w{z:aI}{K:aI->Prop}(x:exV z K):∃ v,K v/\∀ K':aI->Prop,K' v->exV z K':=by
 cases z<;>(unfold exV at x)<;>first
  | (obtain ⟨n,a⟩:=x;exact ⟨_,a,fun K' y=>⟨_,y⟩⟩)
  | (obtain ⟨p,n,c,a⟩:=x;exact ⟨_,a,fun K' y=>⟨_,_,_,y⟩⟩)
def C1f{zs:List aI}: ∀ {K:List aI->Prop},exL zs K->∃ vs,K vs/\∀ K':List aI->Prop,K' vs->exL zs K':=by
 induction zs with
 | nil=>exact fun x=>⟨[],x,fun _ y=>y⟩
 | cons z zs ih=>
  intro K x
  obtain ⟨v,b,d⟩:=B3w x
  obtain ⟨vs,a,c⟩:=ih b
  exact ⟨v::vs,a,fun K' y=>d _ (c _ y)⟩
def A6y{h:aF}{a:Addr}: ∀ {vs:List aI} {j:Nat} {X:Prop},cellsAt h a j vs X->X/\∀ h' (Y:Prop),h.le h'->Y->cellsAt h' a j vs Y:=by
 intro vs
 induction vs with
 | nil=>exact fun x=>⟨x,fun _ _ _ y=>y⟩
 | cons v vs ih=>
  intro j X ⟨h1,h2⟩
  obtain ⟨c,d⟩:=ih h2
  exact ⟨c,fun h' Y b y=>⟨B5 b h1,d h' Y b y⟩⟩
def A3x{h:aF}{t:aT}{a:Addr}{C:aO->Prop}(x:Z2 P t a h C):∃ u,C (.val u)/\∀ h' (C':aO->Prop),h.le h'->C' (.val u)->Z2 P t a h' C':=by
 cases hag:Nx P t with
 | none=>simp only [Z2,hag] at x
 | some b=>
  cases b with
  | true=>
   simp only [Z2,hag] at x
   split at x
   ·rename_i zs j
    obtain ⟨i,x⟩:=x.both
    obtain ⟨m,d,c⟩:=C1f x
    obtain ⟨l,f⟩:=A6y d
    refine ⟨_,l,fun h' C' e y=>?_⟩
    simp only [Z2,hag,j,i]
    exact c _ (f h' _ e y)
   ·exact x.elim
  | false=>
   simp only [Z2,hag] at x
   obtain ⟨v,⟨k,g⟩,c⟩:=B3w x
   refine ⟨_,g,fun h' C' e y=>?_⟩
   simp only [Z2,hag]
   exact c _ ⟨B5 e k,y⟩
def A6f{t:aT}{cs:List aI}{off:Nat}{C:aO->Prop}(x:W9 P t cs off C):∃ u,C (.val u)/\∀ C':aO->Prop,C' (.val u)->W9 P t cs off C':=by
 cases hag:Nx P t with
 | none=>simp only [W9,hag] at x
 | some b=>
  cases b with
  | true=>
   simp only [W9,hag] at x
   obtain ⟨c,x⟩:=x.both
   exact ⟨_,x,fun C' y=>by simp only [W9,hag,c];exact y⟩
  | false=>
   simp only [W9,hag] at x
   split at x
   ·rename_i v a
    exact ⟨_,x,fun C' y=>by simp only [W9,hag,a];exact y⟩
   ·exact x.elim
def W6{v:Option aO}{dflt y:Nat}{C:Nat->Prop}(x:slBound v dflt y C):∃ m,C m/\∀ C':Nat->Prop,C' m->slBound v dflt y C':=by
 rcases x.out with ⟨rfl,a⟩|⟨k,i,rfl,b,c,a⟩
 ·exact ⟨_,a,fun _ z=>z⟩
 ·exact ⟨_,a,fun _ z=>⟨⟨b,c⟩,z⟩⟩
def A5q{t:aT}{x:aO}{lo hi:Option aO}{C:aO->Prop}(hv:Fj P t x lo hi C):∃ u,C (.val u)/\∀ C':aO->Prop,C' (.val u)->Fj P t x lo hi C':=by
 unfold Fj at hv
 split at hv
 ·rename_i s b
  obtain ⟨m,i,f⟩:=W6 hv
  obtain ⟨l,d,g⟩:=W6 i
  exact ⟨_,d,fun C' y=>by simp only [Fj,b];exact f (fun h=>slBound lo 0 h fun l=>C' (.val (.string (s.extract l h)))) (g (fun l=>C' (.val (.string (s.extract l m)))) y)⟩
 ·rename_i e A n c b
  obtain ⟨j,hv⟩:=hv.both
  obtain ⟨m,i,f⟩:=W6 hv
  obtain ⟨l,d,g⟩:=W6 i
  exact ⟨_,d,fun C' y=>by simp only [Fj,b,j];exact f (fun h=>slBound lo 0 h fun l=>C' (.val (.slice (J9 A c l (P.cellsOf e)) (h-l) (c-l)))) (g (fun l=>C' (.val (.slice (J9 A c l (P.cellsOf e)) (m-l) (c-l)))) y)⟩
 ·rename_i n e a b
  obtain ⟨j,hv⟩:=hv.both
  obtain ⟨m,i,f⟩:=W6 hv
  obtain ⟨l,d,g⟩:=W6 i
  exact ⟨_,d,fun C' y=>by simp only [Fj,b,j];exact f (fun h=>slBound lo 0 h fun l=>C' (.val (.slice (J9 (some a) n l (P.cellsOf e)) (h-l) (n-l)))) (g (fun l=>C' (.val (.slice (J9 (some a) n l (P.cellsOf e)) (m-l) (n-l)))) y)⟩
 ·exact hv.elim
def A00{b:Bool}{X Y:Prop}(x:Br b X Y):(b=true/\X)\/(b=false/\Y):=by
 cases b
 ·exact .inr ⟨rfl,x⟩
 ·exact .inl ⟨rfl,x⟩
def Uc{t:aT}{x i:aO}{C:aO->Prop}(hv:O2 P t x i C):
 ∃ v,C v/\(∀ k off,v= .own k off->∃ off',x= .own k off')/\∀ C':aO->Prop,C' v->O2 P t x i C':=by
 unfold O2 at hv
 split at hv
 ·rename_i len e k off _ n b
  obtain ⟨d,hv⟩:=hv.both
  rcases A00 hv with ⟨e,hv⟩|⟨_,hv⟩
  ·exact ⟨_,hv,(fun j off' f=>by cases f;exact ⟨off,rfl⟩),fun C' y=>by simp only [O2,b,d,e];exact y⟩
  ·exact hv.elim
 ·rename_i len e a _ n b
  obtain ⟨d,g,hv⟩:=hv.both
  exact ⟨_,hv,(fun j off' f=>by cases f),fun C' y=>by simp only [O2,b,d];exact ⟨g,y⟩⟩
 ·rename_i e A n c _ i b
  obtain ⟨d,a,g,m,l,hv⟩:=hv.both
  exact ⟨_,hv,(fun j off' f=>by cases f),fun C' y=>by simp only [O2,b,d];exact ⟨a,g,m,l,y⟩⟩
 ·exact hv.elim
def Al{st st':VS}{xs:List aR}(h:∀ x∈xs,C9 st' x=C9 st x):Q0 st' xs=Q0 st xs:=by
 unfold Q0
 induction xs with
 | nil=>rfl
 | cons x xs ih=>simp only [List.all_cons,h x (by simp),ih (fun y a=>h y (by simp [a]))]
def Ps{o:aE}{st:VS}(hsel:∀ cs b,o.op ≠ .select cs b){C:aO->Prop}(hv:Mm P o st C):∃ u,C (.val u)/\∀ st' (C':aO->Prop),AgreeOn cfg ops o st st'->C' (.val u)->Mm P o st' C':=by
 unfold Mm at hv
 split at hv
 ·rename_i e
  split at hv
  ·rename_i v f
   refine ⟨_,hv,fun st' C' c y=>?_⟩
   unfold Mm
   have g:Q0 st' o.op.operands.toList=true:=by rw [Al (fun x a=>c.eval (by simpa using a))];exact e
   have d:execOp (rho st') o=execOp (rho st) o:=execOp_congr o hsel fun x a=>c.rho a
   rw [g]
   simp only [d,f]
   exact y
  ·exact hv.elim
 ·exact hv.elim
def A2m{t:aT}{xs ys:Array aI}{C:Bool->Prop}(hv:A2n P t xs ys C):∃ b,C b/\∀ C':Bool->Prop,C' b->A2n P t xs ys C':=by
 unfold A2n at hv
 split at hv
 ·rename_i e d
  obtain ⟨c,hv⟩:=hv.both
  split at hv
  ·rename_i b a
   exact ⟨b,hv,fun C' y=>by simp only [A2n,d,c,a];exact y⟩
  ·exact hv.elim
 ·exact hv.elim
def B1k{o:aE}{st:VS}{op:BinOp}{t t':aT}{x z:aR}(hop:o.op= .binOp op t x z t'){C:aO->Prop}(hv:Kf P o st op t (C9 st x) (C9 st z) C):
 ∃ u,C (.val u)/\∀ st' (C':aO->Prop),AgreeOn cfg ops o st st'->C' (.val u)->Kf P o st' op t (C9 st' x) (C9 st' z) C':=by
 have i:∀ cs b,o.op ≠ .select cs b:=by rw [hop];intro _ _ e;cases e
 have f:∀ st',AgreeOn cfg ops o st st'->C9 st' x=C9 st x/\C9 st' z=C9 st z:=fun st' d=>⟨d.eval (by rw [hop];simp [aC]),d.eval (by rw [hop];simp [aC])⟩
 unfold Kf at hv
 split at hv
 ·rename_i c a
  obtain ⟨b,k,j⟩:=A2m hv
  exact ⟨_,k,fun st' C' d y=>by rw [(f st' d).1,(f st' d).2];simp only [Kf,c,a];exact j (fun b=>C' (.val (.bool b))) y⟩
 ·rename_i c a
  obtain ⟨b,k,j⟩:=A2m hv
  exact ⟨_,k,fun st' C' d y=>by rw [(f st' d).1,(f st' d).2];simp only [Kf,c,a];exact j (fun b=>C' (.val (.bool (!b)))) y⟩
 ·rename_i c a
  obtain ⟨g,hv⟩:=hv.both
  exact ⟨_,hv,fun st' C' d y=>by rw [(f st' d).1,(f st' d).2];simp only [Kf,c,a,g];exact y⟩
 ·rename_i c a
  obtain ⟨g,hv⟩:=hv.both
  exact ⟨_,hv,fun st' C' d y=>by rw [(f st' d).1,(f st' d).2];simp only [Kf,c,a,g];exact y⟩
 ·rename_i c a
  obtain ⟨g,hv⟩:=hv.both
  rcases A00 hv with ⟨e,hv⟩|⟨e,hv⟩
  ·exact hv.elim
  ·exact ⟨_,hv,fun st' C' d y=>by rw [(f st' d).1,(f st' d).2];simp only [Kf,c,a,g,e];exact y⟩
 ·rename_i c a
  obtain ⟨g,hv⟩:=hv.both
  rcases A00 hv with ⟨e,hv⟩|⟨e,hv⟩
  ·exact hv.elim
  ·exact ⟨_,hv,fun st' C' d y=>by rw [(f st' d).1,(f st' d).2];simp only [Kf,c,a,g,e];exact y⟩
 ·rename_i c a
  rcases A00 hv with ⟨e,hv⟩|⟨e,hv⟩
  ·exact hv.elim
  ·exact ⟨_,hv,fun st' C' d y=>by rw [(f st' d).1,(f st' d).2];simp only [Kf,c,a,e];exact y⟩
 ·rename_i c a
  rcases A00 hv with ⟨e,hv⟩|⟨e,hv⟩
  ·exact hv.elim
  ·exact ⟨_,hv,fun st' C' d y=>by rw [(f st' d).1,(f st' d).2];simp only [Kf,c,a,e];exact y⟩
 ·rename_i c a
  exact ⟨_,hv.2,fun st' C' d y=>by rw [(f st' d).1,(f st' d).2];simp only [Kf,c,a];exact ⟨hv.1,y⟩⟩
 ·rename_i s q p A w n m r l
  obtain ⟨u,B,j⟩:=Ps (cfg:=cfg) (ops:=ops) i hv
  refine ⟨u,B,fun st' C' d y=>?_⟩
  rw [(f st' d).1,(f st' d).2]
  unfold Kf
  split
  ·rename_i c a;exact (s _ _ rfl c a).elim
  ·rename_i c a;exact (q _ _ rfl c a).elim
  ·rename_i c a;exact (p _ _ _ _ _ rfl c a).elim
  ·rename_i c a;exact (A _ _ _ _ _ rfl c a).elim
  ·rename_i c a;exact (w _ _ _ _ rfl c a).elim
  ·rename_i c a;exact (n _ _ _ _ rfl c a).elim
  ·rename_i c a;exact (m _ _ _ _ rfl c a).elim
  ·rename_i c a;exact (r _ _ _ _ rfl c a).elim
  ·rename_i c a;exact (l _ _ rfl c a).elim
  ·exact j st' C' d y
def C0i{o:aE}{st:VS}{h:aF}(hsel:∀ cs b,o.op ≠ .select cs b){C:aO->Prop}(hv:vcQ P o st h C):
 ∃ v,C v/\(∀ k off,v= .own k off->∃ x off',x∈o.op.operands/\C9 st x= .own k off')/\∀ st' h' C',(Ie o st=true->h.le h')->AgreeOn cfg ops o st st'->C' v->vcQ P o st' h' C':=by
 unfold vcQ at hv
 split at hv
 ·rename_i x a
  refine ⟨_,hv,(fun k off e=>⟨x,off,(by rw [a];simp [aC]),e⟩),fun st' h' C' n d y=>?_⟩
  unfold vcQ;simp only [a,d.eval (x:=x) (by rw [a];simp [aC])];exact y
 ·rename_i x a
  refine ⟨_,hv,(fun k off e=>⟨x,off,(by rw [a];simp [aC]),e⟩),fun st' h' C' n d y=>?_⟩
  unfold vcQ;simp only [a,d.eval (x:=x) (by rw [a];simp [aC])];exact y
 ·rename_i c x z a
  split at hv
  ·rename_i b E
   have Z:∀ st',AgreeOn cfg ops o st st'->C9 st' c= .val (.bool b)/\C9 st' x=C9 st x/\C9 st' z=C9 st z:=fun st' d=>
    ⟨by rw [d.eval (x:=c) (by rw [a];simp [aC])];exact E,d.eval (by rw [a];simp [aC]),d.eval (by rw [a];simp [aC])⟩
   rcases A00 hv with ⟨e,hv⟩|⟨e,hv⟩
   ·refine ⟨_,hv,(fun k off e=>⟨x,off,(by rw [a];simp [aC]),e⟩),fun st' h' C' n d y=>?_⟩
    obtain ⟨F,D,L⟩:=Z st' d
    unfold vcQ;simp only [a,F,D,L,e];exact y
   ·refine ⟨_,hv,(fun k off e=>⟨z,off,(by rw [a];simp [aC]),e⟩),fun st' h' C' n d y=>?_⟩
    obtain ⟨F,D,L⟩:=Z st' d
    unfold vcQ;simp only [a,F,D,L,e];exact y
  ·exact hv.elim
 ·rename_i t x a
  have g:∀ st',AgreeOn cfg ops o st st'->C9 st' x=C9 st x:=fun st' d=>d.eval (by rw [a];simp [aC])
  split at hv
  ·rename_i k off q
   split at hv
   ·rename_i cs X
    obtain ⟨u,w,r⟩:=A6f hv
    refine ⟨_,w,(fun k off e=>by cases e),fun st' h' C' n d y=>?_⟩
    unfold vcQ;simp only [a,g st' d,q,d.load t x k off a q,X];exact r C' y
   ·exact hv.elim
  ·rename_i S q
   obtain ⟨u,w,r⟩:=A3x hv
   refine ⟨_,w,(fun k off e=>by cases e),fun st' h' C' n d y=>?_⟩
   unfold vcQ;simp only [a,g st' d,q];exact r h' C' (n (by simp only [Ie,a,q])) y
  ·exact hv.elim
 ·rename_i s x f a
  have g:∀ st',AgreeOn cfg ops o st st'->C9 st' x=C9 st x:=fun st' d=>d.eval (by rw [a];simp [aC])
  split at hv
  ·rename_i k off q
   split at hv
   ·rename_i fs N
    split at hv
    ·rename_i fd T
     obtain ⟨E,hv⟩:=hv.both
     refine ⟨_,hv,(fun W off' e=>by cases e;exact ⟨x,off,(by rw [a];simp [aC]),q⟩),fun st' h' C' n d y=>?_⟩
     unfold vcQ;simp only [a,g st' d,q,N,T,E];exact y
    ·exact hv.elim
   ·exact hv.elim
  ·rename_i S q
   split at hv
   ·rename_i fs N
    split at hv
    ·rename_i fd T
     obtain ⟨E,hv⟩:=hv.both
     refine ⟨_,hv,(fun W off' e=>by cases e),fun st' h' C' n d y=>?_⟩
     unfold vcQ;simp only [a,g st' d,q,N,T,E];exact y
    ·exact hv.elim
   ·exact hv.elim
  ·exact hv.elim
 ·rename_i x a
  have g:∀ st',AgreeOn cfg ops o st st'->C9 st' x=C9 st x:=fun st' d=>d.eval (by rw [a];simp [aC])
  split at hv
  ·rename_i k off q
   refine ⟨_,hv,(fun W off' e=>by cases e;exact ⟨x,off,(by rw [a];simp [aC]),q⟩),fun st' h' C' n d y=>?_⟩
   unfold vcQ;simp only [a,g st' d,q];exact y
  ·rename_i p q
   obtain ⟨S,hp,hv⟩:=hv
   refine ⟨_,hv,(fun W off' e=>by cases e),fun st' h' C' n d y=>?_⟩
   unfold vcQ;simp only [a,g st' d,q];exact ⟨S,hp,y⟩
  ·exact hv.elim
 ·rename_i t x i a
  obtain ⟨v,w,hw,r⟩:=Uc hv
  refine ⟨_,w,(fun k off e=>let ⟨off',e'⟩:=hw k off e;⟨x,off',(by rw [a];simp [aC]),e'⟩),fun st' h' C' n d y=>?_⟩
  unfold vcQ;simp only [a,d.eval (x:=x) (by rw [a];simp [aC]),d.eval (x:=i) (by rw [a];simp [aC])];exact r C' y
 ·rename_i t x i a
  have g:∀ st',AgreeOn cfg ops o st st'->C9 st' x=C9 st x/\C9 st' i=C9 st i:=fun st' d=>⟨d.eval (by rw [a];simp [aC]),d.eval (by rw [a];simp [aC])⟩
  split at hv
  ·rename_i s _ j O F D
   obtain ⟨c,h0,hv⟩:=hv
   refine ⟨_,hv,(fun k off e=>by cases e),fun st' h' C' n d y=>?_⟩
   unfold vcQ;simp only [a,(g st' d).1,(g st' d).2,O,F,D];exact ⟨c,h0,y⟩
  ·rename_i n1
   obtain ⟨u,w,r⟩:=Ps (cfg:=cfg) (ops:=ops) hsel hv
   refine ⟨_,w,(fun k off e=>by cases e),fun st' h' C' n d y=>?_⟩
   unfold vcQ;simp only [a,(g st' d).1,(g st' d).2]
   exact r st' C' d y
 ·rename_i t x H J a
  obtain ⟨u,w,r⟩:=A5q hv
  refine ⟨_,w,(fun k off e=>by cases e),fun st' h' C' n d y=>?_⟩
  have g:C9 st' x=C9 st x:=d.eval (by rw [a];simp [aC])
  have G:H.map (C9 st')=H.map (C9 st):=by
   cases H with
   | none=>rfl
   | some z=>simp only [Option.map_some];rw [d.eval (x:=z) (by rw [a];simp [aC])]
  have B:J.map (C9 st')=J.map (C9 st):=by
   cases J with
   | none=>rfl
   | some z=>simp only [Option.map_some];rw [d.eval (x:=z) (by rw [a];simp [aC])]
  unfold vcQ;simp only [a,g,G,B];exact r C' y
 ·rename_i t x H J mx a
  have ev:∀ st',AgreeOn cfg ops o st st'->C9 st' x=C9 st x/\C9 st' H=C9 st H/\C9 st' J=C9 st J/\C9 st' mx=C9 st mx:=fun st' d=>⟨d.eval (by rw [a];simp [aC]),d.eval (by rw [a];simp [aC]),d.eval (by rw [a];simp [aC]),d.eval (by rw [a];simp [aC])⟩
  unfold Ml at hv
  split at hv
  ·rename_i e A m c k1 l k2 h' k3 b O g G B V
   obtain ⟨E,F,D,L,hv⟩:=hv.both
   refine ⟨_,hv,(fun k off e=>by cases e),fun st' h' C' n d y=>?_⟩
   unfold vcQ;simp only [a,(ev st' d).1,(ev st' d).2.1,(ev st' d).2.2.1,(ev st' d).2.2.2,g,G,B,V,Ml,O,E]
   exact ⟨F,D,L,y⟩
  ·exact hv.elim
 ·rename_i op t x z t' a
  obtain ⟨u,w,r⟩:=B1k (cfg:=cfg) (ops:=ops) a hv
  refine ⟨_,w,(fun k off e=>by cases e),fun st' h' C' n d y=>?_⟩
  unfold vcQ;simp only [a];exact r st' C' d y
 ·exact hv.elim
 ·rename_i n1 n2 n3 n4 n5 n6 n7 n8 n9 Q M R
  obtain ⟨u,w,r⟩:=Ps (cfg:=cfg) (ops:=ops) hsel hv
  refine ⟨_,w,(fun k off e=>by cases e),fun st' h' C' n d y=>?_⟩
  unfold vcQ
  split
  ·rename_i e;exact (n1 _ e).elim
  ·rename_i e;exact (n2 _ e).elim
  ·rename_i e;exact (n3 _ _ _ e).elim
  ·rename_i e;exact (n4 _ _ e).elim
  ·rename_i e;exact (n5 _ _ _ e).elim
  ·rename_i e;exact (n6 _ e).elim
  ·rename_i e;exact (n7 _ _ _ e).elim
  ·rename_i e;exact (n8 _ _ _ e).elim
  ·rename_i e;exact (n9 _ _ _ _ e).elim
  ·rename_i e;exact (Q _ _ _ _ _ e).elim
  ·rename_i e;exact (M _ _ _ _ _ e).elim
  ·rename_i e;exact (R _ e).elim
  ·exact r st' C' d y
inductive Upd where
 | put (d:Option Nat) (v:aO)
 | own (d:Nat) (cs:List aI)
def Upd.app:Upd->VS->VS
 | .put d v,s=>s.putO d v
 | .own d cs,s=>(s.put d (.own d 0)).setOwn d cs
def Upd.dst:Upd->Option Nat
 | .put d _=>d
 | .own d _=>some d
def Lg{o:aE}{j:Nat}{want:Bool}{g:Nat}(hg:o.guard=some (j,want))(hd:(ops[j]?).bind (·.dst)=some g):g∈o.looksAt ops:=by
 unfold Oper.looksAt
 refine List.mem_append_right _ ?_
 simp only [hg,hd,Option.toList_some,List.mem_singleton]
def A1r{o:aE}{st:VS}{h:aF}{gr:Bool}{K:VS->aF->Prop}(hs:Bj P cfg o=true)(hv:S1 P cfg o gr st h K):
 ∃ u:Upd,u.dst=o.dst/\K (u.app st) h/\(∀ d cs,u= .own d cs->st.own d=none)/\(∀ d v k off,u= .put d v->v= .own k off->∃ x off',x∈o.op.operands/\C9 st x= .own k off')/\(∀ d cs,u= .own d cs->R6 cfg o=true)/\
  ∀ st' h' (K':VS->aF->Prop),(Ie o st=true->h.le h')->AgreeOn cfg ops o st st'->K' (u.app st') h'->S1 P cfg o gr st' h' K':=by
 unfold S1 at hv
 obtain ⟨B,hv⟩:=hv.both
 split at hv
 ·rename_i l
  have m:∀ cs b,o.op ≠ .select cs b:=fun cs b e=>by simp [Uq,e] at l
  obtain ⟨v,F,J,s⟩:=C0i (cfg:=cfg) (ops:=ops) m hv
  refine ⟨.put o.dst v,rfl,F,(fun d cs e=>by cases e),(fun d N k off e G=>by cases e;exact J k off G),(fun d cs e=>by cases e),fun st' h' K' j g y=>?_⟩
  unfold S1;rw [B];simp only [When,l];exact s st' h' _ j g y
 ·rename_i l
  have a:R6 cfg o=true:=by simpa [Bj,l] using hs
  have n:∀ cells:List aI,Hu cfg o.dst cells st h K->∃ u:Upd,u.dst=o.dst/\K (u.app st) h/\(∀ d cs,u= .own d cs->st.own d=none)/\(∀ d v k off,u= .put d v->v= .own k off->∃ x off',x∈o.op.operands/\C9 st x= .own k off')/\(∀ d cs,u= .own d cs->R6 cfg o=true)/\
   ∀ st' h' (K':VS->aF->Prop),(Ie o st=true->h.le h')->AgreeOn cfg ops o st st'->K' (u.app st') h'->Hu cfg o.dst cells st' h' K':=by
   intro cells hv
   unfold Hu at hv
   split at hv
   ·rename_i d i
    obtain ⟨f,hv⟩:=hv.both
    simp only [aD,Option.isNone_iff_eq_none] at f
    refine ⟨.own d cells,i.symm,hv,(fun H cs e=>by cases e;exact f.2),(fun H v k off e _=>by cases e),(fun _ _ _=>a),fun st' h' K' j g y=>?_⟩
    have L:st'.own d=none:=g.alloc d a i f.2
    rw [i]
    simp only [Hu,f.1.1,f.1.2,L,Option.isNone_none,Bool.and_self,When]
    exact y
   ·exact hv.elim
  have p:=a
  unfold R6 at a
  split at hv
  ·rename_i t c
   rw [c] at a
   simp only [a] at hv
   obtain ⟨M,hv⟩:=hv.both
   obtain ⟨u,w,r,A,C,z,D⟩:=n _ hv
   refine ⟨u,w,r,A,C,z,fun st' h' K' j g y=>?_⟩
   unfold S1;rw [B];simp only [When,l,c,a,M];exact D st' h' K' j g y
  ·rename_i t x c
   rw [c] at a
   obtain ⟨E,hv⟩:=hv.both
   simp only [a] at hv
   obtain ⟨u,w,r,A,C,z,D⟩:=n _ hv
   refine ⟨u,w,r,A,C,z,fun st' h' K' j g y=>?_⟩
   have q:=g.eval (x:=x) (by rw [c];simp [aC])
   unfold S1;rw [B];simp only [When,l,c,a,q,E,g.rho (x:=x) (by rw [c];simp [aC])];exact D st' h' K' j g y
  all_goals (rename_i c;simp [c] at a)
def B96{o:aE}{st:VS}{h:aF}{gr:Bool}{K:VS->aF->Prop}(hs:Bj P cfg o=true)(hv:Rp P cfg ops o gr st h K):
 ∃ u:Upd,u.dst=o.dst/\K (u.app st) h/\(∀ d cs,u= .own d cs->st.own d=none)/\(∀ d v k off,u= .put d v->v= .own k off->∃ x off',x∈o.op.operands/\C9 st x= .own k off')/\(∀ d cs,u= .own d cs->R6 cfg o=true)/\
  ∀ st' h' (K':VS->aF->Prop),(Ie o st=true->h.le h')->AgreeOn cfg ops o st st'->K' (u.app st') h'->Rp P cfg ops o gr st' h' K':=by
 unfold Rp at hv
 split at hv
 ·rename_i m
  obtain ⟨u,r,q,A,C,t,D⟩:=A1r (ops:=ops) hs hv
  exact ⟨u,r,q,A,C,t,fun st' h' K' p g y=>by unfold Rp;simp only [m];exact D st' h' K' p g y⟩
 ·rename_i j z m
  split at hv
  ·exact hv.elim
  ·rename_i i f
   split at hv
   ·rename_i b n
    have c:=Lg m f
    have skip:∀ E:Bool,b=E->When (Q6 cfg o.dst) (K ((st.put i (.val (.bool E))).putO o.dst (.val undef)) h)->Q6 cfg o.dst=true/\K (st.putO o.dst (.val undef)) h:=by
     intro E e x
     subst e
     rw [aG st n] at x
     exact x.both
    cases b<;>cases z
    ·have l:S1 P cfg o gr (st.put i (.val (.bool false))) h K:=hv
     rw [aG st n] at l
     obtain ⟨u,r,q,A,C,t,D⟩:=A1r (ops:=ops) hs l
     refine ⟨u,r,q,A,C,t,fun st' h' K' p g y=>?_⟩
     have a:st'.env i= .val (.bool false):=by rw [g.env i c];exact n
     unfold Rp;simp only [m,f,a,Br]
     rw [aG st' a];exact D st' h' K' p g y
    ·obtain ⟨B,s⟩:=skip false rfl hv
     refine ⟨.put o.dst (.val undef),rfl,s,(fun d cs e=>by cases e),(fun d v k off e w=>by cases e;cases w),(fun d cs e=>by cases e),fun st' h' K' p g y=>?_⟩
     have a:st'.env i= .val (.bool false):=by rw [g.env i c];exact n
     unfold Rp;simp only [m,f,a,Br]
     rw [aG st' a,B];exact y
    ·obtain ⟨B,s⟩:=skip true rfl hv
     refine ⟨.put o.dst (.val undef),rfl,s,(fun d cs e=>by cases e),(fun d v k off e w=>by cases e;cases w),(fun d cs e=>by cases e),fun st' h' K' p g y=>?_⟩
     have a:st'.env i= .val (.bool true):=by rw [g.env i c];exact n
     unfold Rp;simp only [m,f,a,Br]
     rw [aG st' a,B];exact y
    ·have l:S1 P cfg o gr (st.put i (.val (.bool true))) h K:=hv
     rw [aG st n] at l
     obtain ⟨u,r,q,A,C,t,D⟩:=A1r (ops:=ops) hs l
     refine ⟨u,r,q,A,C,t,fun st' h' K' p g y=>?_⟩
     have a:st'.env i= .val (.bool true):=by rw [g.env i c];exact n
     unfold Rp;simp only [m,f,a,Br]
     rw [aG st' a];exact D st' h' K' p g y
   ·rename_i F n
    have c:=Lg m f
    obtain ⟨B,s⟩:=hv.both
    refine ⟨.put o.dst (.val undef),rfl,s,(fun d cs e=>by cases e),(fun d v k off e w=>by cases e;cases w),(fun d cs e=>by cases e),fun st' h' K' p g y=>?_⟩
    have a:st'.env i= .val (.tuple F):=by rw [g.env i c];exact n
    unfold Rp;simp only [m,f,a]
    rw [B];exact y
   ·exact hv.elim
def Ty{z:aI}{K K':aI->Prop}(x:exT z K)(hk:∀ v,K v->K' v):exT z K':=by
 unfold exT at x ⊢
 split at x
 ·exact B7j x fun a=>hk _
 ·exact A8w x hk
def B3x{zs:List aI}: ∀ {K K':List aI->Prop},exTs zs K->(∀ v,K v->K' v)->exTs zs K':=by
 induction zs with
 | nil=>exact fun x a=>a _ x
 | cons z zs ih=>exact fun x a=>Ty x fun v y=>ih y fun b=>a _
def Vn{t:aT}{K K':aI->Prop}(x:exRt P t K)(hk:∀ v,K v->K' v):exRt P t K':=by
 unfold exRt at x ⊢
 split at x
 ·exact B3x x fun a=>hk _
 ·exact Ty x hk
def WFs(st:VS):Prop:=∀ i k off,st.env i= .own k off->(st.own k).isSome=true
structure Frm (o:aE) (st st':VS):Prop where
 env:∀ x,o.dst≠some x->st'.env x=st.env x
 own:∀ k,(o.dst=some k->(st.own k).isSome=true)->(∀ t a b off,o.op= .store t a b->C9 st a ≠ .own k off)->st'.own k=st.own k
 wf:WFs st'
def A1k{st:VS}(wf:WFs st){x:aR}{k off:Nat}(e:C9 st x= .own k off):(st.own k).isSome=true:=by
 cases x with
 | tmp t=>exact wf t k off e
 | _=>cases e
def Qc(st:VS)(d:Option Nat)(v:aO)(x:Nat):(st.putO d v).env x=if d=some x then v else st.env x:=by
 cases d with
 | none=>simp [VS.putO]
 | some d=>
  by_cases h:x=d
  ·subst h;simp [VS.putO,VS.put]
  ·have:¬ d=x:=fun e=>h e.symm
   simp [VS.putO,VS.put,Dm h,this]
def S0{o:aE}{st:VS}(wf:WFs st)(u:aI):Frm o st (st.putO o.dst (.val u)):=by
 refine ⟨fun x b=>by rw [Qc,iN b],fun k _ _=>by rw [O5],fun i k a e=>?_⟩
 rw [Qc] at e
 rw [O5]
 split at e
 ·cases e
 ·exact wf i k a e
def Ff{u:Upd}{st:VS}{x:Nat}(h:u.dst≠some x):(u.app st).env x=st.env x:=by
 cases u with
 | put d v=>simp only [Upd.app,Qc];rw [iN (show d≠some x from h)]
 | own d cs=>
  have:x≠d:=fun e=>h (by rw [e];rfl)
  simp [Upd.app,VS.setOwn,VS.put,Dm this]
def Ch{u:Upd}{st:VS}{k:Nat}(h:∀ d cs,u= .own d cs->k≠d):(u.app st).own k=st.own k:=by
 cases u with
 | put d v=>simp only [Upd.app,O5]
 | own d cs=>exact F5 _ _ (h d cs rfl)
def Rs(st:VS){d e:Nat}(v u:aO)(h:d≠e):(st.put d v).put e u=(st.put e u).put d v:=by
 unfold VS.put
 congr 1
 funext i
 by_cases a:i=d
 ·subst a;simp [Dm h]
 ·by_cases b:i=e
  ·subst b;simp [Dm a]
  ·simp [Dm a,Dm b]
def I6{u:Upd}{st:VS}{d:Option Nat}{v:aO}(h:∀ x,u.dst=some x->d≠some x):(u.app st).putO d v=u.app (st.putO d v):=by
 cases d with
 | none=>rfl
 | some d=>
  cases u with
  | put e w=>
   cases e with
   | none=>rfl
   | some e=>exact Rs st w v (fun x=>h e rfl (congrArg some x.symm))
  | own e cs=>
   have:=Rs st (.own e 0) v (fun x=>h e rfl (congrArg some x.symm))
   show ((st.put e (.own e 0)).setOwn e cs).put d v=((st.put d v).put e (.own e 0)).setOwn e cs
   rw [<- this];rfl
def Jg{u:Upd}{st:VS}{k:Nat}{cs:List aI}(h:∀ d c,u= .own d c->k≠d):(u.app st).setOwn k cs=u.app (st.setOwn k cs):=by
 cases u with
 | put d v=>cases d<;>rfl
 | own d c=>
  have e:=h d c rfl
  show ((st.put d (.own d 0)).setOwn d c).setOwn k cs=((st.setOwn k cs).put d (.own d 0)).setOwn d c
  unfold VS.setOwn VS.put
  congr 1
  funext i
  by_cases a:i=d
  ·subst a;simp [Dm (Ne.symm e)]
  ·by_cases b:i=k
   ·subst b;simp [Dm a]
   ·simp [Dm a,Dm b]
def B87{u v:Upd}{st:VS}(h:∀ x,u.dst=some x->v.dst≠some x):v.app (u.app st)=u.app (v.app st):=by
 cases v with
 | put d w=>exact I6 h
 | own d cs=>
  have a:(u.app st).put d (.own d 0)=u.app (st.put d (.own d 0)):=I6 (d:=some d) h
  show ((u.app st).put d (.own d 0)).setOwn d cs=_
  rw [a,Jg (fun e c eq=>by subst eq;exact fun x=>h e rfl (by rw [<- x];rfl))];rfl
def Frm.upd{o:aE}{u:Upd}{st:VS}(hd:u.dst=o.dst)(wf:WFs st)(hv:∀ d v k off,u= .put d v->v= .own k off->∃ x off',C9 st x= .own k off')(hn:∀ d cs,u= .own d cs->st.own d=none):Frm o st (u.app st):=by
 refine ⟨fun x a=>Ff (by rw [hd];exact a),fun k g _=>Ch (fun d cs e=>?_),fun i k off e=>?_⟩
 ·rintro rfl
  have:=g (by rw [<- hd,e];rfl)
  rw [hn k cs e] at this;cases this
 cases u with
 | put d v=>
  simp only [Upd.app,O5] at e ⊢
  rw [Qc] at e
  split at e
  ·obtain ⟨x,off',a⟩:=hv d v k off rfl e
   exact A1k wf a
  ·exact wf i k off e
 | own d cs=>
  have b:=hn d cs rfl
  by_cases c:i=d
  ·subst c
   have:((st.put i (.own i 0)).setOwn i cs).env i= .own i 0:=by simp [VS.setOwn,VS.put]
   simp only [Upd.app] at e ⊢
   rw [this] at e
   injection e with e1 e2;subst e1
   rw [W7];rfl
  ·rw [Ff (u:=.own d cs) (fun x=>c (by cases x;rfl))] at e
   have:=wf i k off e
   have f:k≠d:=by rintro rfl;rw [b] at this;cases this
   rw [Ch (u:=.own d cs) (fun l m j=>by cases j;exact f)];exact this
structure Before (cfg:Cfg) (ops:Array aE) (u:Upd) (o:aE) (st:VS):Prop where
 look:∀ x,u.dst=some x->x∉o.looksAt ops
 dst:∀ x,u.dst=some x->o.dst≠some x
 free:∀ d cs,u= .own d cs->st.own d=none
 wf:WFs st
def Before.eval{u:Upd}{o:aE}{st:VS}(b:Before cfg ops u o st){x:aR}(hx:x∈o.op.operands):C9 (u.app st) x=C9 st x:=by
 cases x with
 | tmp t=>
  refine Ff fun e=>b.look t e ?_
  unfold Oper.looksAt
  exact aK _ (List.mem_filterMap.2 ⟨.tmp t,by simpa using hx,rfl⟩)
 | _=>rfl
def Before.rho{u:Upd}{o:aE}{st:VS}(b:Before cfg ops u o st){x:aR}(hx:x∈o.op.operands):rho (u.app st) x=rho st x:=by
 unfold Go.Proofs.YtmbfcbbkbefgfaaGreatDoor.rho;rw [b.eval hx]
def Before.key{u:Upd}{o:aE}{st:VS}(b:Before cfg ops u o st){x:aR}{k off:Nat}(e:C9 st x= .own k off):∀ d cs,u= .own d cs->k≠d:=by
 rintro d cs a rfl
 have:=A1k b.wf e
 rw [b.free k cs a] at this;cases this
def Grw(cfg:Cfg)(o:aE)(st:VS)(h h':aF):Prop:=B1i cfg o=false->(∀ t a b,o.op= .store t a b->∃ k off,C9 st a= .own k off)->h.le h'
def Grw.of{cfg:Cfg}{o:aE}{st:VS}{h h':aF}(x:h.le h'):Grw cfg o st h h':=fun _ _=>x
def Grow.map{gr:Bool}{h h':aF}{X Y:Prop}(x:Grow gr h h' X)(f:X->(gr=true->h.le h')->Y):Grow gr h h' Y:=by
 cases gr
 ·exact f x (fun e=>by cases e)
 ·exact ⟨x.1,f x.2 (fun _=>x.1)⟩
def Vp{u:Upd}{o:aE}{st:VS}(b:Before cfg ops u o st){s:Sem aI}{h:aF}{K:VS->aF->Prop}{K':VS->aF->Prop}(hk:∀ st' h',K (u.app st') h'->Grw cfg o st h h'->Frm o st st'->K' st' h')(x:effV P s o true (u.app st) h K):
 effV P s o true st h K':=by
 refine Jl s x fun v h' y=>Ty y fun w ⟨e,a,c⟩=>⟨e,a,hk _ _ ?_ (Grw.of a) (S0 b.wf w)⟩
 rwa [I6 (fun z d=>b.dst z d)] at c
def Yu{u:Upd}{o:aE}{st:VS}{gr:Bool}(b:Before cfg ops u o st)(hgw:B1i cfg o=false->gr=true){s:Sem aI}{h:aF}{K:VS->aF->Prop}{K':VS->aF->Prop}(hk:∀ st' h',K (u.app st') h'->Grw cfg o st h h'->Frm o st st'->K' st' h')(x:effV P s o gr (u.app st) h K):
 effV P s o gr st h K':=by
 refine Jl s x fun v h' y=>Ty y fun w ⟨g,c⟩=>⟨g,c.map fun a d=>hk _ _ ?_ (fun e _=>d (hgw e)) (S0 b.wf w)⟩
 rwa [I6 (fun z f=>b.dst z f)] at a
def A4b{u:Upd}{o:aE}{st:VS}(b:Before cfg ops u o st){s:Sem aI}{h:aF}{K:VS->aF->Prop}{K':VS->aF->Prop}(hk:∀ st' h',K (u.app st') h'->Grw cfg o st h h'->Frm o st st'->K' st' h')(x:effP P s o true (u.app st) h K):
 effP P s o true st h K':=by
 refine Jl s x fun v h' ⟨w,e,a,c⟩=>⟨w,e,a,hk _ _ ?_ (Grw.of a) (S0 b.wf _)⟩
 rwa [I6 (fun z d=>b.dst z d)] at c
def B40{u:Upd}{o:aE}{st:VS}(b:Before cfg ops u o st){s:Sem Unit}{h:aF}{K:VS->aF->Prop}{K':VS->aF->Prop}(hno:¬ (∀ t a b,o.op= .store t a b->∃ k off,C9 st a= .own k off))(hk:∀ st' h',K (u.app st') h'->Grw cfg o st h h'->Frm o st st'->K' st' h')(x:effU P s o false (u.app st) h K):
 effU P s o false st h K':=by
 refine Jl s x fun v h' c=>?_
 have c:K ((u.app st).putO o.dst (.val undef)) h':=c
 rw [I6 (fun z e=>b.dst z e)] at c
 exact hk _ _ c (fun _ d=>absurd d hno) (S0 b.wf _)
def Vx{u:Upd}{o:aE}{st:VS}(b:Before cfg ops u o st)(hs:Bj P cfg o=false){h:aF}{K:VS->aF->Prop}{K':VS->aF->Prop}(hk:∀ st' h',K (u.app st') h'->Grw cfg o st h h'->Frm o st st'->K' st' h')(hv:S1 P cfg o (Lh cfg o) (u.app st) h K):S1 P cfg o (Lh cfg o) st h K':=by
 unfold S1 at hv ⊢
 obtain ⟨hd,hv⟩:=hv.both
 rw [hd]
 simp only [Bj,Bool.or_eq_false_iff] at hs
 simp only [hs.1] at hv ⊢
 show (match o.op with
  | .alloc t=>_
  | .box t x=>_
  | .store t a x=>_
  | .makeSlice t l c=>_
  | .buildSlice t n T=>_
  | .convert s d x=>_
  | .call c=>_
  | _=>_)
 split at hv
 ·rename_i t j
  have q:Lh cfg o=true:=by simp [Lh,B1i,j]
  rw [q] at hv ⊢
  have:Nw cfg o.dst=false:=by simpa [R6,j] using hs.2
  simp only [j,this] at hv ⊢
  exact A4b b hk hv
 ·rename_i t x j
  have q:Lh cfg o=true:=by simp [Lh,B1i,j]
  rw [q] at hv ⊢
  have:Nw cfg o.dst=false:=by simpa [R6,j] using hs.2
  have E:x∈o.op.operands:=by rw [j];simp [aC]
  simp only [j,this,b.eval E,b.rho E] at hv ⊢
  obtain ⟨m,hv⟩:=hv.both
  rw [m]
  exact A4b b hk hv
 ·rename_i t a x j
  have q:Lh cfg o=false:=by simp [Lh,j]
  rw [q] at hv ⊢
  have B:a∈o.op.operands:=by rw [j];simp [aC]
  have E:x∈o.op.operands:=by rw [j];simp [aC]
  simp only [j]
  unfold A5p at hv ⊢
  rw [b.eval B] at hv
  split at hv
  ·rename_i k W M
   have J:=b.key M
   rw [Ch J] at hv
   try simp only [M]
   split at hv
   ·rename_i cs ac
    try simp only [ac]
    rw [b.eval E,b.rho E] at hv
    obtain ⟨m,hv⟩:=hv.both
    rw [m]
    rw [Jg J,I6 (fun z S=>b.dst z S)] at hv
    refine hk _ _ hv (Grw.of (B3 h)) (⟨fun y A=>by rw [Qc,iN A];rfl,fun k' _ L=>?_,fun i k' aa e=>?_⟩)
    ·rw [O5,F5]
     rintro rfl;exact L t a x W j M
    ·rw [Qc] at e
     rw [O5]
     split at e
     ·cases e
     ·have:=b.wf i k' aa e
      by_cases V:k'=k
      ·subst V;rw [W7];rfl
      ·rw [F5 _ _ V];exact this
   ·exact hv.elim
  ·rename_i p R
   try simp only [R]
   rw [b.eval E,b.rho E] at hv
   obtain ⟨m,hv⟩:=hv.both
   rw [m]
   exact B40 b (fun E=>by obtain ⟨k,W,e⟩:=E _ _ _ j;rw [R] at e;cases e) hk hv
  ·exact hv.elim
 ·rename_i t l c j
  have q:Lh cfg o=true:=by simp [Lh,B1i,j]
  rw [q] at hv ⊢
  have hl:l∈o.op.operands:=by rw [j];simp [aC]
  have hc:c∈o.op.operands:=by rw [j];simp [aC]
  have B:Q0 (u.app st) [l,c]=Q0 st [l,c]:=Al fun y A=>by
   simp only [aM,List.not_mem_nil,or_false] at A
   rcases A with rfl|rfl
   ·exact b.eval hl
   ·exact b.eval hc
  simp only [j]
  rw [B,b.rho hl,b.rho hc] at hv
  obtain ⟨m,hv⟩:=hv.both
  rw [m]
  exact Vp b hk hv
 ·rename_i t n T j
  have q:Lh cfg o=true:=by simp [Lh,B1i,j]
  rw [q] at hv ⊢
  have R:∀ p∈T,p.2∈o.op.operands:=fun p R=>by
   rw [j];simp only [aC,List.mem_toArray,List.mem_map,Array.mem_toList_iff]
   exact ⟨p,R,rfl⟩
  have B:Q0 (u.app st) (T.toList.map (·.2))=Q0 st (T.toList.map (·.2)):=Al fun y A=>by
   obtain ⟨p,O,rfl⟩:=List.mem_map.1 A
   exact b.eval (R p (by simpa using O))
  have N:(T.map fun (i,x)=>(i,rho (u.app st) x))=T.map fun (i,x)=>(i,rho st x):=by
   apply Array.map_congr_left
   intro p O
   simp only [b.rho (R p O)]
  simp only [j]
  rw [B,N] at hv
  obtain ⟨m,hv⟩:=hv.both
  rw [m]
  exact Vp b hk hv
 ·rename_i s d x j
  have q:Lh cfg o=true:=by simp [Lh,B1i,j]
  rw [q] at hv ⊢
  have E:x∈o.op.operands:=by rw [j];simp [aC]
  have B:Q0 (u.app st) [x]=Q0 st [x]:=Al fun y A=>by
   simp only [aM,List.not_mem_nil,or_false] at A
   rw [A];exact b.eval E
  simp only [j]
  rw [B,b.rho E] at hv
  obtain ⟨m,hv⟩:=hv.both
  rw [m]
  exact Vp b hk hv
 ·rename_i c j
  generalize q:Lh cfg o=gr at hv ⊢
  have H:B1i cfg o=false->gr=true:=fun e=>by rw [<- q];simp [Lh,j,e]
  have F:∀ y∈c.args,y∈o.op.operands:=fun y A=>by
   rw [j];simp only [aC,Call.operands];exact Array.mem_append.2 (.inr A)
  have B:Q0 (u.app st) c.args.toList=Q0 st c.args.toList:=Al fun y A=>b.eval (F y (by simpa using A))
  have N:c.args.map (rho (u.app st))=c.args.map (rho st):=Array.map_congr_left fun y A=>b.rho (F y A)
  simp only [j]
  split at hv
  ·rename_i f C
   try simp only [C]
   unfold A7v at hv ⊢
   have hf:f∈o.op.operands:=by rw [j];simp [aC,Call.operands,C]
   rw [b.eval hf] at hv
   split at hv
   ·rename_i g first D Q
    try simp only [Q]
    split at hv
    ·rename_i G
     rw [B,N] at hv
     obtain ⟨m,hv⟩:=hv.both
     try simp only [G]
     rw [m]
     refine FCall.mono hv fun r h' y=>Vn y fun w ⟨m,L⟩=>⟨m,L.map fun X Z=>hk _ _ ?_ (fun e _=>Z (H e)) (S0 b.wf w)⟩
     rwa [I6 (fun z S=>b.dst z S)] at X
    ·rename_i G
     rw [B,N] at hv
     obtain ⟨m,hv⟩:=hv.both
     try simp only [G]
     rw [m]
     refine ECall.mono hv fun r h' y=>Vn y fun w ⟨m,L⟩=>⟨m,L.map fun X Z=>hk _ _ ?_ (fun e _=>Z (H e)) (S0 b.wf w)⟩
     rwa [I6 (fun z S=>b.dst z S)] at X
   ·rename_i l first D Q
    try simp only [Q]
    rw [B,N] at hv
    obtain ⟨m,hv⟩:=hv.both
    rw [m]
    refine YCall.mono hv fun r h' y=>Vn y fun w ⟨m,L⟩=>⟨m,L.map fun X Z=>hk _ _ ?_ (fun e _=>Z (H e)) (S0 b.wf w)⟩
    rwa [I6 (fun z S=>b.dst z S)] at X
   ·exact hv.elim
  ·rename_i C
   try simp only [C]
   rw [B,N] at hv
   obtain ⟨m,hv⟩:=hv.both
   rw [m]
   exact Yu b H hk hv
  ·rename_i C
   try simp only [C]
   rw [B,N] at hv
   obtain ⟨m,hv⟩:=hv.both
   rw [m]
   exact Yu b H hk hv
  ·exact hv.elim
 ·exact hv.elim
def B30{u:Upd}{o:aE}{st:VS}(b:Before cfg ops u o st){h:aF}{K:VS->aF->Prop}{K':VS->aF->Prop}(hk:∀ st' h',K (u.app st') h'->Grw cfg o st h h'->Frm o st st'->K' st' h')(hv:Rp P cfg ops o (Lh cfg o) (u.app st) h K):Rp P cfg ops o (Lh cfg o) st h K':=by
 cases hs:Bj P cfg o with
 | true=>
  obtain ⟨v,m,l,N,Q,S,R⟩:=B96 (ops:=ops) hs hv
  have J:AgreeOn cfg ops o (u.app st) st:=by
   refine ⟨fun x n=>(Ff fun e=>b.look x e n).symm,fun t a k p C e=>?_,fun d _ O B=>(Ch fun M G e=>?_).symm.trans B⟩
   ·rw [b.eval (by rw [C];simp [aC])] at e
    exact (Ch (b.key e)).symm
   ·rintro rfl
    exact b.dst d (by rw [e];rfl) O
  refine R st h _ (fun _=>B3 h) J (hk _ _ ?_ (Grw.of (B3 h)) (Frm.upd m b.wf (fun d w k p e D=>?_) (fun d G e=>?_)))
  ·rw [<- B87 (fun x n=>by rw [m];exact b.dst x n)];exact l
  ·obtain ⟨x,s,n,y⟩:=Q d w k p e D
   exact ⟨x,s,by rw [<- b.eval n];exact y⟩
  ·have:=N d G e
   rwa [Ch (fun M L D=>by
    rintro rfl
    exact b.dst d (by rw [D];rfl) (by rw [<- m,e];rfl))] at this
 | false=>
  unfold Rp at hv ⊢
  split at hv
  ·rename_i F
   exact Vx b hs hk hv
  ·rename_i j q F
   split at hv
   ·exact hv.elim
   ·rename_i i A
    have r:=Lg (o:=o) F A
    have y:(u.app st).env i=st.env i:=Ff fun e=>b.look i e r
    rw [y] at hv
    split at hv
    ·rename_i H g
     have f:(u.app st).env i= .val (.bool H):=by rw [y];exact g
     have skip:Q6 cfg o.dst=true/\K ((u.app st).putO o.dst (.val undef)) h->When (Q6 cfg o.dst) (K' (st.putO o.dst (.val undef)) h):=by
      rintro ⟨m,l⟩
      rw [m]
      rw [I6 (fun z E=>b.dst z E)] at l
      exact hk _ _ l (Grw.of (B3 h)) (S0 b.wf _)
     try simp only [g]
     cases H<;>cases q
     ·have c:S1 P cfg o (Lh cfg o) ((u.app st).put i (.val (.bool false))) h K:=hv
      rw [aG _ f] at c
      simp only [Br];rw [aG st g]
      exact Vx b hs hk c
     ·have c:When (Q6 cfg o.dst) (K (((u.app st).put i (.val (.bool false))).putO o.dst (.val undef)) h):=hv
      rw [aG _ f] at c
      simp only [Br];rw [aG st g]
      exact skip c.both
     ·have c:When (Q6 cfg o.dst) (K (((u.app st).put i (.val (.bool true))).putO o.dst (.val undef)) h):=hv
      rw [aG _ f] at c
      simp only [Br];rw [aG st g]
      exact skip c.both
     ·have c:S1 P cfg o (Lh cfg o) ((u.app st).put i (.val (.bool true))) h K:=hv
      rw [aG _ f] at c
      simp only [Br];rw [aG st g]
      exact Vx b hs hk c
    ·rename_i T g
     try simp only [g]
     obtain ⟨m,l⟩:=hv.both
     rw [m]
     rw [I6 (fun z E=>b.dst z E)] at l
     exact hk _ _ l (Grw.of (B3 h)) (S0 b.wf _)
    ·exact hv.elim
def Uv{o:aE}{st:VS}(wf:WFs st){h:aF}{K K':VS->aF->Prop}(hv:Rp P cfg ops o (Lh cfg o) st h K)(hk:∀ st' h',K st' h'->Grw cfg o st h h'->Frm o st st'->K' st' h'):Rp P cfg ops o (Lh cfg o) st h K':=
 B30 (u:=.put none (.val undef)) ⟨(fun x e=>by cases e),(fun x e=>by cases e),(fun d a e=>by cases e),wf⟩ hk hv
def B7t{oj oi x:aE}{st st':VS}{rem rem':List Nat}(hsub:∀ i∈rem',i∈rem)(hfr:Frm oi st st')(hap:oj.apart ops oi=true)(hmem:∃ i:Nat,i∈rem/\ops[i]? = some oi)(h:Rc cfg ops rem oj x st=true):Rc cfg ops rem' oj x st'=true:=by
 obtain ⟨_,_,k⟩:=Oper.apart_spec hap
 unfold Rc at h ⊢
 simp only [aD] at h ⊢
 obtain ⟨m,h⟩:=h
 have c:Ie oj st'=Ie oj st:=by
  unfold Ie
  split
  ·rename_i n a g
   have j:C9 st' a=C9 st a:=by
    cases a with
    | tmp z=>
     refine hfr.env z fun e=>k z e ?_
     unfold Oper.looksAt
     exact aK _ (List.mem_filterMap.2 ⟨.tmp z,by rw [g];simp [aC],rfl⟩)
    | _=>rfl
   rw [j]
  ·rfl
 refine ⟨by rw [c];exact m,?_⟩
 split at h
 ·rename_i t y b o
  split at h
  ·rename_i n a g
   simp only [aD] at h ⊢
   refine ⟨List.all_eq_true.2 fun i d=>List.all_eq_true.1 h.1 i (hsub i d),?_⟩
   have j:C9 st' a=C9 st a:=by
    cases a with
    | tmp z=>
     refine hfr.env z fun e=>k z e ?_
     unfold Oper.looksAt
     exact aK _ (List.mem_filterMap.2 ⟨.tmp z,by rw [g];simp [aC],rfl⟩)
    | _=>rfl
   have l:st'.env y=st.env y:=by
    refine hfr.env y fun e=>?_
    obtain ⟨i,d,f⟩:=hmem
    have:=List.all_eq_true.1 h.1 i d
    simp only [f,e] at this
    simp [Nat.beq_refl] at this
   rw [j,l];exact h.2
  ·exact h
 ·exact h
 ·exact h
def swap{oj oi:aE}{st:VS}{rem:List Nat}(wf:WFs st)(hs:Bj P cfg oj=true)(hap:oj.apart ops oi=true)(hc:Rc cfg ops rem oj oi st=true){h:aF}{K:VS->aF->Prop}
 (hv:Rp P cfg ops oj (Lh cfg oj) st h fun st1 h1=>Rp P cfg ops oi (Lh cfg oi) st1 h1 K):Rp P cfg ops oi (Lh cfg oi) st h fun st1 h1=>Frm oi st st1/\Rp P cfg ops oj (Lh cfg oj) st1 h1 K:=by
 obtain ⟨E,w,B⟩:=Oper.apart_spec hap
 obtain ⟨u,h1,A,H,Q,O,M⟩:=B96 (ops:=ops) hs hv
 have b:Before cfg ops u oi st:=⟨fun x e=>E x (by rw [<- h1];exact e),fun x e=>w x (by rw [<- h1];exact e),H,wf⟩
 have g:=hc
 unfold Rc at g
 simp only [aD] at g
 have hc:=g.2
 have J:Ie oj st=true->B1i cfg oi=false:=fun e=>by
  have:=g.1
  rw [e] at this
  simpa using this
 refine B30 b (fun p G F D n=>⟨n,M p G K (fun c=>D (J c) fun r o s i=>?_) ?_ F⟩) A
 ·obtain ⟨t,x,hld⟩:∃ t x,oj.op= .load t x:=by
   unfold Ie at c
   split at c
   ·exact ⟨_,_,by assumption⟩
   ·cases c
  rw [i] at hc
  cases o with
  | tmp y=>
   simp only [hld,aD] at hc
   show ∃ k m,st.env y= .own k m
   revert hc
   cases C9 st x<;>cases st.env y<;>simp
  | _=>simp at hc
 refine ⟨fun x z=>n.env x fun e=>B x e z,fun t a k m q e=>n.own k (fun _=>A1k wf e) (fun r o s j i f=>?_),fun d N L l=>(n.own d (fun e=>absurd e (w d L)) (fun r o s j i f=>?_)).trans l⟩
 ·rw [i] at hc
  cases o with
  | tmp y=>
   simp only [q,aD] at hc
   have C:st.env y= .own k j:=f
   rw [e,C] at hc
   simp [Nat.beq_refl] at hc
  | _=>simp at hc
 ·have:=A1k wf f
  rw [l] at this;cases this
def C3u{anc:List (List Nat)}{al:Nat->List Nat}{i:Nat}{oi:aE}(hi:ops[i]? = some oi){L2:List Nat}{K:VS->aF->Prop}: ∀ (L1:List Nat) (n:Nat) (st:VS) (h:aF),n=L1.length+L2.length->WFs st->(∀ j∈L1,has (anc.getD i []) j=false)->i∉L1->
 Ee P cfg ops anc al (n+1) (L1++i::L2) st h K->Rp P cfg ops oi (Lh cfg oi) st h fun st' h'=>WFs st'/\Ee P cfg ops anc al n (L1++L2) st' h' K:=by
 intro L1
 induction L1 with
 | nil=>
  intro n st h _ wf _ _ g
  simp only [List.nil_append,Ee,hi] at g
  exact Uv wf (A91 g.both.2) fun st' h' l _ m=>⟨m.wf,l⟩
 | cons j L1 ih=>
  intro n st h E wf d z g
  obtain ⟨n,rfl⟩:∃ n',n=n'+1:=⟨L1.length+L2.length,by simp at E;omega⟩
  have A:n=L1.length+L2.length:=by simp at E;omega
  have p:i∉L1:=fun B=>z (by simp [B])
  simp only [aJ,Ee] at g
  split at g
  ·exact g.elim
  ·rename_i t D
   obtain ⟨c,g⟩:=g.both
   have c:=List.all_eq_true.1 c
   have b:=c i (by simp)
   unfold A0m at b
   rw [aN] at b
   rcases b with b|b
   ·unfold B2v at b
    rw [d j (by simp),hi] at b
    simp only [Bool.false_or,aD] at b
    obtain ⟨⟨f,u⟩,G⟩:=b
    have M:Bj P cfg t=true:=by
     unfold B6z at f
     rw [aD] at f
     exact f.1
    have s:Rp P cfg ops t (Lh cfg t) st h fun e s=>Rp P cfg ops oi (Lh cfg oi) e s fun q C=>WFs q/\Ee P cfg ops anc al n (L1++L2) q C K:=
     Uv wf (A91 g) fun e s l _ m=>ih n e s A m.wf (fun k H=>d k (by simp [H])) p l
    refine Uv wf (swap wf M u G s) fun e s ⟨m,l⟩ _ _=>⟨m.wf,?_⟩
    simp only [aJ,Ee,D]
    have w:(L1++L2).all (A0m P cfg ops anc al (L1++L2) e t j)=true:=by
     refine List.all_eq_true.2 fun x o=>?_
     have a:=c x (by
      simp only [List.mem_append,aM] at o ⊢
      rcases o with o|o
      ·exact .inl o
      ·exact .inr (.inr o))
     unfold A0m at a ⊢
     rw [f] at a ⊢
     simp only [Bool.not_true,Bool.false_and,Bool.or_false] at a ⊢
     unfold B2v at a ⊢
     simp only [aN] at a ⊢
     rcases a with a|a
     ·exact .inl a
     ·refine .inr ?_
      split at a
      ·rename_i O J
       simp only [aD] at a ⊢
       exact ⟨a.1,B7t (rem:=L1++i::L2) (fun y r=>by
        simp only [List.mem_append,aM] at r ⊢
        rcases r with r|r
        ·exact .inl r
        ·exact .inr (.inr r)) m u ⟨i,by simp,hi⟩ a.2⟩
      ·cases a
    rw [w]
    have L:A4m P cfg anc al t j (L1++L2)=[]:=by unfold A4m;rw [f]
    rw [L]
    exact Uv m.wf l fun q C ⟨_,l⟩ _ _=>l
   ·simp only [aD,Bool.not_eq_true'] at b
    obtain ⟨N,F⟩:=A7w (L2:=L2) p
    have B:i∈A4m P cfg anc al t j (L1++i::L2):=by
     unfold A4m
     rw [b.1]
     refine List.mem_filter.2 ⟨X4.1 b.2,?_⟩
     rw [N,X4.2 (show i∈L1++i::L2 by simp),d j (by simp)]
     simp only [Bool.true_and,Bool.not_false,Bool.and_true]
     exact List.all_eq_true.2 fun x o=>by rw [d x (by simp [o])];rfl
    have:=C1w g B
    simp only [hi] at this
    rw [F] at this
    exact Uv wf this fun st' h' l _ m=>⟨m.wf,by simp only [aJ,Ee,D] at l ⊢;exact l⟩
def B05:∀ {L done:List Nat},B2y ops done L=true->L.Nodup/\(∀ i∈L,i∉done)/\∀ L1 i L2,L=L1++i::L2->∃ o,ops[i]? = some o/\∀ e∈o.after,Region.binds .any e=true->e.on∈done\/e.on∈L1:=by
 intro L
 induction L with
 | nil=>exact fun _=>⟨List.nodup_nil,(fun i b=>by cases b),(fun L1 i L2 e=>by simp at e)⟩
 | cons x L ih=>
  intro done h
  simp only [B2y,aD,Bool.not_eq_true'] at h
  obtain ⟨⟨k,l⟩,p⟩:=h
  obtain ⟨r,m,q⟩:=ih p
  have n:x∉done:=fun c=>by rw [X4.2 c] at l;cases l
  refine ⟨List.nodup_cons.2 ⟨fun c=>m x c (by simp),r⟩,fun i b=>?_,fun L1 i L2 e=>?_⟩
  ·cases b with
   | head=>exact n
   | tail _ b=>exact fun c=>m i b (by simp [c])
  ·cases L1 with
   | nil=>
    simp only [List.nil_append,List.cons.injEq] at e
    obtain ⟨rfl,rfl⟩:=e
    split at k
    ·rename_i o j
     refine ⟨o,j,fun e f g=>.inl ?_⟩
     have:=List.all_eq_true.1 k e (by simpa using f)
     rw [g] at this
     exact X4.1 (by simpa using this)
    ·cases k
   | cons y L1=>
    simp only [aJ,List.cons.injEq] at e
    obtain ⟨rfl,rfl⟩:=e
    obtain ⟨o,j,d⟩:=q L1 i L2 rfl
    refine ⟨o,j,fun e f g=>?_⟩
    rcases d e f g with a|a
    ·simp only [aM] at a
     rcases a with a|a
     ·exact .inr (by simp [a])
     ·exact .inl a
    ·exact .inr (by simp [a])
def A0u{listed:Array Bool}{i:Nat}(d:Bool)(h:i<listed.size):(listed.setIfInBounds i true).getD i d=true:=by
 simp [h]
def B4m{al:Nat->List Nat}{F:Fence}{fu:Nat}[FOk F]{n:Nat}{h0:aF}{W0:World}(hn:cfg.n=n)(hfn:Bodies P cfg.fns){anc:List (List Nat)}(hanc:C40 ops anc=true){Q:Exit->Act->World->Prop}{K:VS->aF->Prop}{ord:List Nat}(hord:B2y ops [] ord=true)(_hall:∀ i,i<ops.size->i∈ord):
 ∀ (m:Nat) (L:List Nat) (listed:Array Bool) (st:VS) (h:aF) (a:Act) (W:World),L.length=m->L.Sublist ord->listed.size=ops.size->(∀ i,i<ops.size->(listed.getD i true=false↔i∈L))->(∀ i j,listed.getD i false=true->has (anc.getD i []) j=true->listed.getD j false=true)->
  Good n h0 W0 st h a W->Ee P cfg ops anc al m L st h K->(∀ st' h' a' W',K st' h'->Good n h0 W0 st' h' a' W'->Agree cfg.lim st st'->Q .normal a' W')->wpAnyIn F fu P .any ops Q m listed a W:=by
 obtain ⟨aa,_,z⟩:=B05 hord
 intro m
 induction m with
 | zero=>
  intro L listed st h a W R f x b B g T hQ
  have:L=[]:=List.eq_nil_of_length_eq_zero R
  subst this
  simp only [Ee] at T
  refine ⟨?_,hQ st h a W T g (Agree.refl _ _)⟩
  apply List.eq_nil_iff_forall_not_mem.2
  intro i J
  obtain ⟨h1,o,Z,_⟩:=mem_ready.1 J
  have:=(b i (Array.getElem?_eq_some_iff.1 Z).1).1 h1
  cases this
 | succ m ih=>
  intro L listed st h a W R f x b B g T hQ
  have wf:WFs st:=by obtain ⟨θ,r,_,_⟩:=g;exact r.wf
  have inl:∀ i,i∈L->i<ops.size:=by
   intro i J
   obtain ⟨L1,L2,e⟩:=aL (f.subset J)
   obtain ⟨o,Z,_⟩:=z L1 i L2 e
   exact (Array.getElem?_eq_some_iff.1 Z).1
  constructor
  ·
   intro s
   exfalso
   cases L with
   | nil=>simp at R
   | cons i L=>
    have J:=inl i (by simp)
    obtain ⟨L1,L2,e⟩:=aL (f.subset (show i∈i::L by simp))
    obtain ⟨o,Z,hp⟩:=z L1 i L2 e
    have:i∈Region.ready .any ops listed:=by
     refine mem_ready.2 ⟨(b i J).2 (by simp),o,Z,fun t S C=>?_⟩
     rcases hp t S C with h'|h'
     ·cases h'
     ·have V:t.on<ops.size:=by
       obtain ⟨M1,M2,e'⟩:=aL h'
       obtain ⟨o',ak,_⟩:=z M1 t.on (M2++i::L2) (by rw [e,e'];simp)
       exact (Array.getElem?_eq_some_iff.1 ak).1
      have af:t.on∉i::L:=by
       intro hm
       have H:(i::L).Sublist (L1++i::L2):=by rw [<- e];exact f
       have A:(L1++i::L2).Nodup:=by rw [<- e];exact aa
       have q:i∉L1:=fun D=>(List.nodup_append.1 A).2.2 i D i (by simp) rfl
       have ah:(i::L).Sublist (i::L2):=by
        clear s b B hQ T g ih hp S C
        revert H q
        clear A e h'
        induction L1 with
        | nil=>exact fun h _=>h
        | cons y L1 ihL=>
         intro H q
         refine ihL ?_ (fun D=>q (by simp [D]))
         cases H with
         | cons _ h=>exact h
         | cons_cons _ h=>exact absurd (by simp) q
       have:=ah.subset hm
       exact (List.nodup_append.1 A).2.2 t.on h' t.on this rfl
      cases hg:listed.getD t.on false with
      | true=>rfl
      | false=>
       have:listed.getD t.on true=false:=by
        have N:t.on<listed.size:=by rw [x];exact V
        simp [aS,N] at hg ⊢;exact hg
       exact absurd ((b _ V).1 this) af
    rw [s] at this;cases this
  ·intro i J
   obtain ⟨h1,oi,u,ae⟩:=mem_ready.1 J
   have p:=(Array.getElem?_eq_some_iff.1 u).1
   have aj:=(b i p).1 h1
   obtain ⟨L1,L2,e⟩:=aL aj
   have l:L.Nodup:=f.nodup aa
   have ap:∀ j∈L1,has (anc.getD i []) j=false:=by
    intro j M
    cases D:has (anc.getD i []) j with
    | false=>rfl
    | true=>
     exfalso
     have G:j∈L:=by rw [e];simp [M]
     have ac:=(b j (inl j G)).2 G
     have hA:=List.all_eq_true.1 (List.all_eq_true.1 hanc i (List.mem_range.2 p)) j (X4.1 D)
     simp only [u] at hA
     obtain ⟨t,S,C⟩:=List.any_eq_true.1 hA
     simp only [aD,aN] at C
     have w:=ae t (by simpa using S) C.1
     have O:listed.getD j false=true:=by
      rcases C.2 with h'|h'
      ·rw [<- aH h'];exact w
      ·exact B _ j w h'
     have N:j<listed.size:=by rw [x];exact inl j G
     simp [aS,N] at ac O
     rw [ac] at O;cases O
   have X:i∉L1:=by
    rw [e] at l
    exact fun D=>(List.nodup_append.1 l).2.2 i D i (by simp) rfl
   have an:=C3u u (L2:=L2) L1 m st h (by have:=R;rw [e,List.length_append,List.length_cons] at this;omega) wf ap X (by rw [<- e];exact T)
   refine wpOpIn_mono (fun a' W' ⟨st',h',⟨_,hK⟩,g',ag⟩=>?_) (g.op hn hfn u an)
   have E:∀ j d,(listed.setIfInBounds i true).getD j d=if j=i then true else listed.getD j d:=by
    intro j d
    by_cases c:j=i
    ·subst c;rw [iP rfl];exact A0u d (by rw [x];exact p)
    ·rw [iN c];exact getD_set_ne d (Ne.symm c)
   rw [e] at l
   have aq:i∉L1:=fun D=>(List.nodup_append.1 l).2.2 i D i (by simp) rfl
   have am:i∉L2:=(List.nodup_cons.1 (List.nodup_append.1 l).2.1).1
   refine ih (L1++L2) _ st' h' a' W' (by rw [e] at R;simp at R ⊢;omega) ?_ (by simpa using x) (fun j M=>?_) (fun j k M hk=>?_) g' hK fun ao h2 a2 W2 k g2 ai=>hQ ao h2 a2 W2 k g2 (ag.trans ai)
   ·refine List.Sublist.trans ?_ f
    rw [e]
    exact List.Sublist.append (List.Sublist.refl _) (List.sublist_cons_self _ _)
   ·rw [E]
    by_cases c:j=i
    ·subst c;simp [aq,am]
    ·rw [iN c,b j M,e];simp [c]
   ·rw [E] at M ⊢
    by_cases ad:k=i
    ·rw [iP ad]
    ·rw [iN ad]
     by_cases c:j=i
     ·subst c
      have hA:=List.all_eq_true.1 (List.all_eq_true.1 hanc j (List.mem_range.2 p)) k (X4.1 hk)
      simp only [u] at hA
      obtain ⟨t,S,C⟩:=List.any_eq_true.1 hA
      simp only [aD,aN] at C
      have w:=ae t (by simpa using S) C.1
      rcases C.2 with h'|h'
      ·rw [<- aH h'];exact w
      ·exact B _ k w h'
     ·rw [iN c] at M;exact B j k M hk
def B0f{al:Nat->List Nat}{F:Fence}{fu:Nat}[FOk F]{n:Nat}{h0:aF}{W0:World}(hn:cfg.n=n)(hfn:Bodies P cfg.fns){id:Nat}{ord:List Nat}{anc:List (List Nat)}(hok:B45 P ops ord anc=true){Q:Exit->Act->World->Prop}{K:VS->aF->Prop}{st:VS}{h:aF}{a:Act}{W:World}
 (g:Good n h0 W0 st h a W) (hv:Ee P cfg ops anc al ord.length ord st h K) (hQ:∀ st' h' a' W',K st' h'->Good n h0 W0 st' h' a' W'->Agree cfg.lim st st'->Q .normal a' W'):(Code.region id ops true).wpIn F fu P Q a W:=by
 simp only [B45,aD] at hok
 obtain ⟨⟨⟨⟨q,o⟩,m⟩,p⟩,e⟩:=hok
 refine wpIn_region_any q ?_
 have l:Good n h0 W0 st h a { W with drawn:=W.drawn+1 }:=by
  obtain ⟨θ,r,f,k⟩:=g
  exact ⟨θ,⟨r.defers,r.size,r.slot,r.sim,r.own,r.inj,r.wf,r.out⟩,⟨f.sim,f.os,f.tape,f.output,f.size,f.keep,f.new⟩,k⟩
 have b:∀ i,i<ops.size->i∈ord:=fun i c=>X4.1 (List.all_eq_true.1 p i (List.mem_range.2 c))
 rw [aH e] at hv
 refine B4m hn hfn o m b ops.size ord _ st h a _ (aH e) (List.Sublist.refl _) (by simp) (fun i c=>?_) (fun i j c _=>?_) l hv hQ
 ·simp [aS,c,b i c]
 ·by_cases d:i<ops.size<;>simp [aS,d] at c
end
