/- A part. -/
import Derived.Test.YtdphgbjaijlckaaGreatDoorG02
set_option linter.all false
open Bool renaming and_eq_true->aD,or_eq_true->aM
open List renaming mem_append_left->aJ,append_of_mem->aK,cons_append->aL
open Nat renaming eq_of_beq_eq_true->aI,beq->aO
open _root_.Go.Op renaming operands->aC
open _root_.Go renaming Oper->aE,Value->aH,Program->aP,Operand->aQ,TypeId->aR
open _root_.Go.Proofs.YtdphgbjaijlckaaGreatDoor renaming Heap->aF,put_self->aG,AVal->aN
namespace Go.Proofs.YtdphgbjaijlckaaGreatDoor
open Go
def J3(cfg:Cfg)(o:aE):Bool:=
 match o.op with
 | .alloc _ | .box _ _=>Dt cfg o.dst
 | _=>false
def Q5(P:aP)(cfg:Cfg)(o:aE):Bool:=Hf P o||J3 cfg o
def Vj(ops:Array aE)(rem:List Nat)(y:Nat):Bool:=rem.all fun i=>match ops[i]? with
 | some o=>(match o.dst with
  | some d=> !aO d y
  | none=>true)
 | none=>true
def Sy(cfg:Cfg)(o:aE):Bool:=
 match o.op with
 | .call c=>
  match c.callee with
  | .value (.func g)=>has cfg.wr g
  | .value (.tmp _)=>true
  | .builtin .copy=>true
  | .builtin .append=>has cfg.wr 1000000000
  | _=>false
 | _=>false
def Z3(o:aE)(st:VS):Bool:=
 match o.op with
 | .load _ a=>(match C6 st a with
  | .own _ _=>false
  | _=>true)
 | _=>false
def Fd(cfg:Cfg)(ops:Array aE)(rem:List Nat)(oj oi:aE)(st:VS):Bool:=
 !(Sy cfg oi&&Z3 oj st) &&
 match oi.op with
 | .store _ (.tmp y) _=>
  match oj.op with
  | .load _ a=>Vj ops rem y&&(match C6 st a,st.env y with
   | .own k _,.own k' _=> !aO k k'
   | .val _,.own _ _=>true
   | .own _ _,.val _=>true
   | _,_=>false)
  | _=>true
 | .store _ _ _=>false
 | _=>true
def Xk(P:aP)(cfg:Cfg)(al:Nat->List Nat)(oj:aE)(j:Nat):Bool:=Q5 P cfg oj&&(al j).isEmpty
def Uk(P:aP)(cfg:Cfg)(ops:Array aE)(anc:List (List Nat))(al:Nat->List Nat)(rem:List Nat)(st:VS)(oj:aE)(j i:Nat):Bool:=
 has (anc.getD i []) j ||
 match ops[i]? with
 | some oi=>Xk P cfg al oj j&&oj.apart ops oi&&Fd cfg ops rem oj oi st
 | none=>false
def Cr(cfg:Cfg)(o:aE):Bool:=
 match o.op with
 | .store _ _ _=>false
 | _=> !Sy cfg o
def Kk(P:aP)(cfg:Cfg)(ops:Array aE)(anc:List (List Nat))(al:Nat->List Nat)(rem:List Nat)(st:VS)(oj:aE)(j i:Nat):Bool:=
 Uk P cfg ops anc al rem st oj j i||(!Xk P cfg al oj j&&has (al j) i)
def A25(i:Nat):List Nat->List Nat
 | []=>[]
 | x::L=>bif aO x i then [] else x::A25 i L
def del(i:Nat):List Nat->List Nat
 | []=>[]
 | x::L=>bif aO x i then L else x::del i L
def Nu(P:aP)(cfg:Cfg)(anc:List (List Nat))(al:Nat->List Nat)(oj:aE)(j:Nat)(L:List Nat):List Nat:=
 match Xk P cfg al oj j with
 | true=>[]
 | false=>(al j).filter fun i=>has L i&&(A25 i L).all (fun x=> !has (anc.getD i []) x) && !has (anc.getD i []) j
def A5n(f:Nat->Prop):Nat->List Nat->Prop
 | i,[]=>f i
 | i,k::r=>f i/\A5n f k r
def A5o(A:Prop)(f:Nat->Prop):List Nat->Prop
 | []=>A
 | i::r=>A/\A5n f i r
def Z0(P:aP)(cfg:Cfg)(ops:Array aE)(anc:List (List Nat))(al:Nat->List Nat):Nat->List Nat->VS->aF->(VS->aF->Prop)->Prop
 | _,[],st,h,K=>K st h
 | 0,_::_,_,_,_=>False
 | n+1,j::L,st,h,K=>
  match ops[j]? with
  | none=>False
  | some o=>When (L.all (Kk P cfg ops anc al L st o j))
   (A5o (Fq P cfg ops o (Cr cfg o) st h fun st' h'=>Z0 P cfg ops anc al n L st' h' K)
    (fun i=>
     match ops[i]? with
     | none=>False
     | some oi=>Fq P cfg ops oi (Cr cfg oi) st h fun st' h'=>Z0 P cfg ops anc al n (j::del i L) st' h' K)
    (Nu P cfg anc al o j L))
def Wi{f:Nat->Prop}{i:Nat}: ∀ {k:Nat} {r:List Nat},A5n f k r->i∈k::r->f i
 | k,[],x,h=>by rw [List.mem_singleton.1 h];exact x
 | k,m::r,x,h=>by
  rcases List.mem_cons.1 h with rfl|h
  ·exact x.1
  ·exact Wi x.2 h
def Rb{A:Prop}{f:Nat->Prop}: ∀ {r:List Nat},A5o A f r->A
 | [],x=>x
 | _::_,x=>x.1
def A1o{A:Prop}{f:Nat->Prop}{i:Nat}: ∀ {r:List Nat},A5o A f r->i∈r->f i
 | [],_,h=>by cases h
 | _::_,x,h=>Wi x.2 h
def Pz{i:Nat}{L2:List Nat}: ∀ {L1:List Nat},i∉L1->A25 i (L1++i::L2)=L1/\del i (L1++i::L2)=L1++L2
 | [],_=>by simp [A25,del]
 | x::L1,h=>by
  have hx:aO x i=false:=by
   cases e:aO x i with
   | false=>rfl
   | true=>
    simp_all
  obtain ⟨a,c⟩:=Pz (L2:=L2) (L1:=L1) (i:=i) (fun b=>h (List.mem_cons_of_mem _ b))
  simp only [aL,A25,del,hx,a,c,cond_false,and_self]
def A41(ops:Array aE)(anc:List (List Nat)):Bool:=
 (List.range ops.size).all fun i=>(anc.getD i []).all fun j=>
  match ops[i]? with
  | some o=>o.after.toList.any fun e=>Region.binds .any e&&(aO e.on j||has (anc.getD e.on []) j)
  | none=>false
def Un(ops:Array aE):List Nat->List Nat->Bool
 | _,[]=>true
 | done,i::L=>
  (match ops[i]? with
   | some o=>o.after.toList.all fun e=> !Region.binds .any e||has done e.on
   | none=>false) && !has done i&&Un ops (i::done) L
def Vr(P:aP)(ops:Array aE)(ord:List Nat)(anc:List (List Nat)):Bool:=
 P.follows .mixedOrders&&A41 ops anc&&Un ops [] ord&&(List.range ops.size).all (has ord)&&aO ord.length ops.size
section
variable {P:aP} {cfg:Cfg} {ops:Array aE}
structure AgreeOn (cfg:Cfg) (ops:Array aE) (o:aE) (st st':VS):Prop where
 env:∀ x∈o.looksAt ops,st'.env x=st.env x
 load:∀ t a k off,o.op= .load t a->C6 st a= .own k off->st'.own k=st.own k
 alloc:∀ d,J3 cfg o=true->o.dst=some d->st.own d=none->st'.own d=none
def AgreeOn.eval{o:aE}{st st':VS}(ag:AgreeOn cfg ops o st st'){x:aQ}(hx:x∈o.op.operands):C6 st' x=C6 st x:=by
 cases x with
 | tmp t=>
  refine ag.env t ?_
  exact aJ _ (List.mem_filterMap.2 ⟨.tmp t,gz0,rfl⟩)
 | _=>rfl
def AgreeOn.rho{o:aE}{st st':VS}(ag:AgreeOn cfg ops o st st'){x:aQ}(hx:x∈o.op.operands):rho st' x=rho st x:=by
 unfold Go.Proofs.YtdphgbjaijlckaaGreatDoor.rho;rw [ag.eval hx]
def Qy{z:aH}{K K':aH->Prop}(x:exV z K)(hk:∀ v,K v->K' v):exV z K':=by
 cases z<;>(unfold exV at x ⊢)<;>first
  | grind
  | grind
def Yn{zs:List aH}: ∀ {K K':List aH->Prop},exL zs K->(∀ v,K v->K' v)->exL zs K':=by
 induction zs with
 | nil=>exact fun x a=>a _ x
 | cons z zs ih=>exact fun x a=>Qy x fun v y=>ih y fun b=>a _
def Vl{z:aH}{K:aH->Prop}(x:exV z K):∃ v,K v/\∀ K':aH->Prop,K' v->exV z K':=by
 cases z<;>(unfold exV at x)<;>first
  | (obtain ⟨n,a⟩:=x;exact ⟨_,a,fun K' y=>⟨_,y⟩⟩)
  | (obtain ⟨p,n,c,a⟩:=x;exact ⟨_,a,fun K' y=>⟨_,_,_,y⟩⟩)
def A1e{zs:List aH}: ∀ {K:List aH->Prop},exL zs K->∃ vs,K vs/\∀ K':List aH->Prop,K' vs->exL zs K':=by
 induction zs with
 | nil=>exact fun x=>⟨[],x,fun _ y=>y⟩
 | cons z zs ih=>
  intro K x
  obtain ⟨v,c,b⟩:=Vl x
  obtain ⟨vs,a,d⟩:=ih c
  exact ⟨v::vs,a,fun K' y=>b _ (d _ y)⟩
def Pm{h:aF}{a:Addr}: ∀ {vs:List aH} {j:Nat} {X:Prop},cellsAt h a j vs X->X/\∀ h' (Y:Prop),h.le h'->Y->cellsAt h' a j vs Y:=by
 intro vs
 induction vs with
 | nil=>exact fun x=>⟨x,fun _ _ _ y=>y⟩
 | cons v vs ih=>
  intro j X ⟨h1,h2⟩
  obtain ⟨c,d⟩:=ih h2
  exact ⟨c,fun h' Y b y=>⟨J5 b h1,d h' Y b y⟩⟩
def Nh{h:aF}{t:aR}{a:Addr}{C:aN->Prop}(x:L9 P t a h C):∃ u,C (.val u)/\∀ h' (C':aN->Prop),h.le h'->C' (.val u)->L9 P t a h' C':=by
 cases hag:Du P t with
 | none=>simp only [L9,hag] at x
 | some b=>
  cases b with
  | true=>
   simp only [L9,hag] at x
   split at x
   ·rename_i n l
    obtain ⟨k,x⟩:=x.both
    obtain ⟨m,c,e⟩:=A1e x
    obtain ⟨g,p⟩:=Pm c
    refine ⟨_,g,fun h' C' d y=>?_⟩
    simp only [L9,hag,l,k]
    grind
   grind
  | false=>
   simp only [L9,hag] at x
   obtain ⟨v,⟨j,i⟩,e⟩:=Vl x
   refine ⟨_,i,fun h' C' d y=>?_⟩
   simp only [L9,hag]
   exact e _ ⟨J5 d j,y⟩
def Pa{t:aR}{cs:List aH}{off:Nat}{C:aN->Prop}(x:L8 P t cs off C):∃ u,C (.val u)/\∀ C':aN->Prop,C' (.val u)->L8 P t cs off C':=by
 cases hag:Du P t with
 | none=>simp only [L8,hag] at x
 | some b=>
  cases b with
  | true=>
   simp only [L8,hag] at x
   obtain ⟨c,x⟩:=x.both
   exact ⟨_,x,fun C' y=>by simp only [L8,hag,c];exact y⟩
  | false=>
   simp only [L8,hag] at x
   split at x
   ·rename_i v a
    exact ⟨_,x,fun C' y=>by simp only [L8,hag,a];exact y⟩
   grind
def N4{v:Option aN}{dflt y:Nat}{C:Nat->Prop}(x:slBound v dflt y C):∃ m,C m/\∀ C':Nat->Prop,C' m->slBound v dflt y C':=by
 rcases x.out with ⟨rfl,a⟩|⟨k,i,rfl,c,b,a⟩
 ·exact ⟨_,a,fun _ z=>z⟩
 ·exact ⟨_,a,fun _ z=>⟨⟨c,b⟩,z⟩⟩
def Oi{t:aR}{x:aN}{lo hi:Option aN}{C:aN->Prop}(hv:X3 P t x lo hi C):∃ u,C (.val u)/\∀ C':aN->Prop,C' (.val u)->X3 P t x lo hi C':=by
 unfold X3 at hv
 split at hv
 ·rename_i s d
  obtain ⟨m,b,j⟩:=N4 hv
  obtain ⟨l,g,k⟩:=N4 b
  exact ⟨_,g,fun C' y=>by simp only [X3,d];grind⟩
 ·rename_i e A n c d
  obtain ⟨i,hv⟩:=hv.both
  obtain ⟨m,b,j⟩:=N4 hv
  obtain ⟨l,g,k⟩:=N4 b
  exact ⟨_,g,fun C' y=>by simp only [X3,d,i];grind⟩
 ·rename_i n e a d
  obtain ⟨i,hv⟩:=hv.both
  obtain ⟨m,b,j⟩:=N4 hv
  obtain ⟨l,g,k⟩:=N4 b
  exact ⟨_,g,fun C' y=>by simp only [X3,d,i];grind⟩
 grind
def Jw{b:Bool}{X Y:Prop}(x:Br b X Y):(b=true/\X)\/(b=false/\Y):=by
 cases b
 ·exact .inr ⟨rfl,x⟩
 ·exact .inl ⟨rfl,x⟩
def Gx{t:aR}{x i:aN}{C:aN->Prop}(hv:H3 P t x i C):
 ∃ v,C v/\(∀ k off,v= .own k off->∃ off',x= .own k off')/\∀ C':aN->Prop,C' v->H3 P t x i C':=by
 unfold H3 at hv
 split at hv
 ·rename_i len e k off _ n b
  obtain ⟨d,hv⟩:=hv.both
  rcases Jw hv with ⟨e,hv⟩|⟨_,hv⟩
  ·exact ⟨_,hv,(fun j off' g=>gz0),fun C' y=>by simp only [H3,b,d,e];exact y⟩
  grind
 ·rename_i len e a _ n b
  obtain ⟨d,l,hv⟩:=hv.both
  exact ⟨_,hv,(fun j off' g=>by cases g),fun C' y=>by simp only [H3,b,d];grind⟩
 ·rename_i e A n c _ i b
  obtain ⟨d,a,l,m,p,hv⟩:=hv.both
  exact ⟨_,hv,(fun j off' g=>by cases g),fun C' y=>by simp only [H3,b,d];simp_all⟩
 grind
def O9{st st':VS}{xs:List aQ}(h:∀ x∈xs,C6 st' x=C6 st x):I3 st' xs=I3 st xs:=by
 unfold I3
 grind
def Ei{o:aE}{st:VS}(hsel:∀ cs b,o.op ≠ .select cs b){C:aN->Prop}(hv:Cz P o st C):∃ u,C (.val u)/\∀ st' (C':aN->Prop),AgreeOn cfg ops o st st'->C' (.val u)->Cz P o st' C':=by
 unfold Cz at hv
 split at hv
 ·rename_i e
  split at hv
  ·refine ⟨_,hv,fun st' C' a y=>?_⟩
   unfold Cz
   have d:I3 st' o.op.operands.toList=true:=by rw [O9 (fun x c=>a.eval gz0)];exact e
   have g:execOp (rho st') o=execOp (rho st) o:=execOp_congr o hsel fun x c=>a.rho c
   grind
  grind
 grind
def Ln{t:aR}{xs ys:Array aH}{C:Bool->Prop}(hv:Lo P t xs ys C):∃ b,C b/\∀ C':Bool->Prop,C' b->Lo P t xs ys C':=by
 unfold Lo at hv
 split at hv
 ·rename_i e a
  obtain ⟨c,hv⟩:=hv.both
  split at hv
  ·rename_i b d
   exact ⟨b,hv,fun C' y=>by simp only [Lo,a,c,d];exact y⟩
  grind
 grind
def Tb{o:aE}{st:VS}{op:BinOp}{t t':aR}{x z:aQ}(hop:o.op= .binOp op t x z t'){C:aN->Prop}(hv:Bz P o st op t (C6 st x) (C6 st z) C):
 ∃ u,C (.val u)/\∀ st' (C':aN->Prop),AgreeOn cfg ops o st st'->C' (.val u)->Bz P o st' op t (C6 st' x) (C6 st' z) C':=by
 have j:∀ cs b,o.op ≠ .select cs b:=gz0
 have g:∀ st',AgreeOn cfg ops o st st'->C6 st' x=C6 st x/\C6 st' z=C6 st z:=fun st' a=>⟨a.eval (by rw [hop];simp [aC]),a.eval (by rw [hop];simp [aC])⟩
 unfold Bz at hv
 split at hv
 ·rename_i d c
  obtain ⟨b,k,l⟩:=Ln hv
  exact ⟨_,k,fun st' C' a y=>by simp only [Bz,d,c];grind⟩
 ·rename_i d c
  obtain ⟨b,k,l⟩:=Ln hv
  exact ⟨_,k,fun st' C' a y=>by simp only [Bz,d,c];grind⟩
 ·rename_i d c
  obtain ⟨i,hv⟩:=hv.both
  exact ⟨_,hv,fun st' C' a y=>by rw [(g st' a).1,(g st' a).2];simp only [Bz,d,c,i];exact y⟩
 ·rename_i d c
  obtain ⟨i,hv⟩:=hv.both
  exact ⟨_,hv,fun st' C' a y=>by rw [(g st' a).1,(g st' a).2];simp only [Bz,d,c,i];exact y⟩
 ·rename_i d c
  obtain ⟨i,hv⟩:=hv.both
  rcases Jw hv with ⟨e,hv⟩|⟨e,hv⟩
  ·exact hv.elim
  ·exact ⟨_,hv,fun st' C' a y=>by rw [(g st' a).1,(g st' a).2];simp only [Bz,d,c,i,e];exact y⟩
 ·rename_i d c
  obtain ⟨i,hv⟩:=hv.both
  rcases Jw hv with ⟨e,hv⟩|⟨e,hv⟩
  ·exact hv.elim
  ·exact ⟨_,hv,fun st' C' a y=>by rw [(g st' a).1,(g st' a).2];simp only [Bz,d,c,i,e];exact y⟩
 ·rename_i d c
  rcases Jw hv with ⟨e,hv⟩|⟨e,hv⟩
  ·exact hv.elim
  ·exact ⟨_,hv,fun st' C' a y=>by rw [(g st' a).1,(g st' a).2];simp only [Bz,d,c,e];exact y⟩
 ·rename_i d c
  rcases Jw hv with ⟨e,hv⟩|⟨e,hv⟩
  ·exact hv.elim
  ·exact ⟨_,hv,fun st' C' a y=>by rw [(g st' a).1,(g st' a).2];simp only [Bz,d,c,e];exact y⟩
 ·rename_i d c
  exact ⟨_,hv.2,fun st' C' a y=>by simp only [Bz,d,c];grind⟩
 ·obtain ⟨u,m,l⟩:=Ei (cfg:=cfg) (ops:=ops) j hv
  refine ⟨u,m,fun st' C' a y=>?_⟩
  unfold Bz
  grind
def A05{o:aE}{st:VS}{h:aF}(hsel:∀ cs b,o.op ≠ .select cs b){C:aN->Prop}(hv:vcQ P o st h C):
 ∃ v,C v/\(∀ k off,v= .own k off->∃ x off',x∈o.op.operands/\C6 st x= .own k off')/\∀ st' h' C',(Z3 o st=true->h.le h')->AgreeOn cfg ops o st st'->C' v->vcQ P o st' h' C':=by
 unfold vcQ at hv
 split at hv
 ·rename_i x a
  refine ⟨_,hv,(fun k off e=>⟨x,off,(by rw [a];simp [aC]),e⟩),fun st' h' C' g d y=>?_⟩
  unfold vcQ;simp only [a,d.eval (x:=x) (by rw [a];simp [aC])];exact y
 ·rename_i x a
  refine ⟨_,hv,(fun k off e=>⟨x,off,(by rw [a];simp [aC]),e⟩),fun st' h' C' g d y=>?_⟩
  unfold vcQ;simp only [a,d.eval (x:=x) (by rw [a];simp [aC])];exact y
 ·rename_i c x z a
  split at hv
  ·rename_i b B
   have Q:∀ st',AgreeOn cfg ops o st st'->C6 st' c= .val (.bool b)/\C6 st' x=C6 st x/\C6 st' z=C6 st z:=fun st' d=>
    ⟨by rw [d.eval (x:=c) (by rw [a];simp [aC])];exact B,d.eval (by rw [a];simp [aC]),d.eval (by rw [a];simp [aC])⟩
   rcases Jw hv with ⟨e,hv⟩|⟨e,hv⟩
   ·refine ⟨_,hv,(fun k off e=>⟨x,off,(by rw [a];simp [aC]),e⟩),fun st' h' C' g d y=>?_⟩
    obtain ⟨H,F,L⟩:=Q st' d
    unfold vcQ;simp only [a,H,F,L,e];exact y
   ·refine ⟨_,hv,(fun k off e=>⟨z,off,(by rw [a];simp [aC]),e⟩),fun st' h' C' g d y=>?_⟩
    obtain ⟨H,F,L⟩:=Q st' d
    unfold vcQ;simp only [a,H,F,L,e];exact y
  grind
 ·rename_i t x a
  have p:∀ st',AgreeOn cfg ops o st st'->C6 st' x=C6 st x:=fun st' d=>d.eval (by rw [a];simp [aC])
  split at hv
  ·rename_i k off n
   split at hv
   ·rename_i cs O
    obtain ⟨u,j,q⟩:=Pa hv
    refine ⟨_,j,(fun k off e=>by cases e),fun st' h' C' g d y=>?_⟩
    unfold vcQ;simp only [a,p st' d,n,d.load t x k off a n,O];grind
   grind
  ·rename_i S n
   obtain ⟨u,j,q⟩:=Nh hv
   refine ⟨_,j,(fun k off e=>by cases e),fun st' h' C' g d y=>?_⟩
   unfold vcQ;simp only [a,p st' d,n];exact q h' C' (g (by simp only [Z3,a,n])) y
  grind
 ·rename_i s x f a
  have p:∀ st',AgreeOn cfg ops o st st'->C6 st' x=C6 st x:=fun st' d=>d.eval (by rw [a];simp [aC])
  split at hv
  ·rename_i k off n
   split at hv
   ·split at hv
    ·obtain ⟨B,hv⟩:=hv.both
     refine ⟨_,hv,(fun N off' e=>by cases e;exact ⟨x,off,(by rw [a];simp [aC]),n⟩),fun st' h' C' g d y=>?_⟩
     unfold vcQ;grind
    grind
   grind
  ·split at hv
   ·split at hv
    ·obtain ⟨B,hv⟩:=hv.both
     refine ⟨_,hv,(fun N off' e=>by cases e),fun st' h' C' g d y=>?_⟩
     unfold vcQ;grind
    grind
   grind
  grind
 ·rename_i x a
  have p:∀ st',AgreeOn cfg ops o st st'->C6 st' x=C6 st x:=fun st' d=>d.eval (by rw [a];simp [aC])
  split at hv
  ·rename_i k off n
   refine ⟨_,hv,(fun N off' e=>by cases e;exact ⟨x,off,(by rw [a];simp [aC]),n⟩),fun st' h' C' g d y=>?_⟩
   unfold vcQ;grind
  ·obtain ⟨S,hp,hv⟩:=hv
   refine ⟨_,hv,(fun N off' e=>by cases e),fun st' h' C' g d y=>?_⟩
   unfold vcQ;grind
  grind
 ·rename_i t x i a
  obtain ⟨v,j,T,q⟩:=Gx hv
  refine ⟨_,j,(fun k off e=>let ⟨off',e'⟩:=T k off e;⟨x,off',(by rw [a];simp [aC]),e'⟩),fun st' h' C' g d y=>?_⟩
  unfold vcQ;simp only [a,d.eval (x:=x) (by rw [a];simp [aC]),d.eval (x:=i) (by rw [a];simp [aC])];grind
 ·rename_i t x i a
  have p:∀ st',AgreeOn cfg ops o st st'->C6 st' x=C6 st x/\C6 st' i=C6 st i:=fun st' d=>⟨d.eval (by rw [a];simp [aC]),d.eval (by rw [a];simp [aC])⟩
  split at hv
  ·obtain ⟨c,X,hv⟩:=hv
   refine ⟨_,hv,(fun k off e=>by cases e),fun st' h' C' g d y=>?_⟩
   unfold vcQ;grind
  ·obtain ⟨u,j,q⟩:=Ei (cfg:=cfg) (ops:=ops) hsel hv
   refine ⟨_,j,(fun k off e=>by cases e),fun st' h' C' g d y=>?_⟩
   unfold vcQ;grind
 ·rename_i t x w r a
  obtain ⟨u,j,q⟩:=Oi hv
  refine ⟨_,j,(fun k off e=>by cases e),fun st' h' C' g d y=>?_⟩
  have p:C6 st' x=C6 st x:=d.eval (by rw [a];simp [aC])
  have E:w.map (C6 st')=w.map (C6 st):=by
   cases w with
   | none=>rfl
   | some z=>simp only [Option.map_some];rw [d.eval (x:=z) (by rw [a];simp [aC])]
  have D:r.map (C6 st')=r.map (C6 st):=by
   cases r with
   | none=>rfl
   | some z=>simp only [Option.map_some];rw [d.eval (x:=z) (by rw [a];simp [aC])]
  unfold vcQ;grind
 ·rename_i t x w r mx a
  have G:∀ st',AgreeOn cfg ops o st st'->C6 st' x=C6 st x/\C6 st' w=C6 st w/\C6 st' r=C6 st r/\C6 st' mx=C6 st mx:=fun st' d=>⟨d.eval (by rw [a];simp [aC]),d.eval (by rw [a];simp [aC]),d.eval (by rw [a];simp [aC]),d.eval (by rw [a];simp [aC])⟩
  unfold Cy at hv
  split at hv
  ·rename_i e A m c V l k2 h' k3 b R p E D M
   obtain ⟨B,H,F,L,hv⟩:=hv.both
   refine ⟨_,hv,(fun k off e=>by cases e),fun st' h' C' g d y=>?_⟩
   unfold vcQ;simp only [a,(G st' d).1,(G st' d).2.1,(G st' d).2.2.1,(G st' d).2.2.2,p,E,D,M,Cy,R,B]
   grind
  grind
 ·rename_i op t x z W a
  obtain ⟨u,j,q⟩:=Tb (cfg:=cfg) (ops:=ops) a hv
  refine ⟨_,j,(fun k off e=>by cases e),fun st' h' C' g d y=>?_⟩
  unfold vcQ;grind
 ·exact hv.elim
 ·obtain ⟨u,j,q⟩:=Ei (cfg:=cfg) (ops:=ops) hsel hv
  refine ⟨_,j,(fun k off e=>by cases e),fun st' h' C' g d y=>?_⟩
  unfold vcQ
  grind
inductive Upd where
 | put (d:Option Nat) (v:aN)
 | own (d:Nat) (cs:List aH)
def Upd.app:Upd->VS->VS
 | .put d v,s=>s.putO d v
 | .own d cs,s=>(s.put d (.own d 0)).setOwn d cs
def Upd.dst:Upd->Option Nat
 | .put d _=>d
 | .own d _=>some d
def Cq{o:aE}{j:Nat}{want:Bool}{g:Nat}(hg:o.guard=some (j,want))(hd:(ops[j]?).bind (·.dst)=some g):g∈o.looksAt ops:=by
 unfold Oper.looksAt
 grind
def Ky{o:aE}{st:VS}{h:aF}{gr:Bool}{K:VS->aF->Prop}(hs:Q5 P cfg o=true)(hv:L7 P cfg o gr st h K):
 ∃ u:Upd,u.dst=o.dst/\K (u.app st) h/\(∀ d cs,u= .own d cs->st.own d=none)/\(∀ d v k off,u= .put d v->v= .own k off->∃ x off',x∈o.op.operands/\C6 st x= .own k off')/\(∀ d cs,u= .own d cs->J3 cfg o=true)/\
  ∀ st' h' (K':VS->aF->Prop),(Z3 o st=true->h.le h')->AgreeOn cfg ops o st st'->K' (u.app st') h'->L7 P cfg o gr st' h' K':=by
 obtain ⟨C,hv⟩:=hv.both
 split at hv
 ·rename_i m
  have n:∀ cs b,o.op ≠ .select cs b:=fun cs b e=>by simp [Hf,e] at m
  obtain ⟨v,D,O,s⟩:=A05 (cfg:=cfg) (ops:=ops) n hv
  refine ⟨.put o.dst v,rfl,D,(fun d cs e=>by cases e),(fun d L k off e M=>gz0),(fun d cs e=>by cases e),fun st' h' K' p j y=>?_⟩
  unfold L7;rw [C];simp only [When,m];exact s st' h' _ p j y
 ·rename_i m
  have a:J3 cfg o=true:=by simpa [Q5,m] using hs
  have l:∀ cells:List aH,Ao cfg o.dst cells st h K->∃ u:Upd,u.dst=o.dst/\K (u.app st) h/\(∀ d cs,u= .own d cs->st.own d=none)/\(∀ d v k off,u= .put d v->v= .own k off->∃ x off',x∈o.op.operands/\C6 st x= .own k off')/\(∀ d cs,u= .own d cs->J3 cfg o=true)/\
   ∀ st' h' (K':VS->aF->Prop),(Z3 o st=true->h.le h')->AgreeOn cfg ops o st st'->K' (u.app st') h'->Ao cfg o.dst cells st' h' K':=by
   intro cells hv
   unfold Ao at hv
   split at hv
   ·rename_i d i
    obtain ⟨g,hv⟩:=hv.both
    simp only [aD,Option.isNone_iff_eq_none] at g
    refine ⟨.own d cells,i.symm,hv,(fun F cs e=>gz0),(fun F v k off e _=>by cases e),(fun _ _ _=>a),fun st' h' K' p j y=>?_⟩
    have H:st'.own d=none:=j.alloc d a i g.2
    rw [i]
    simp only [Ao,g.1.1,g.1.2,H,Option.isNone_none,Bool.and_self,When]
    exact y
   grind
  unfold J3 at a
  split at hv
  ·rename_i t c
   rw [c] at a
   simp only [a] at hv
   obtain ⟨N,hv⟩:=hv.both
   obtain ⟨u,z,r,A,w,B,E⟩:=l _ hv
   refine ⟨u,z,r,A,w,B,fun st' h' K' p j y=>?_⟩
   unfold L7;grind
  ·rename_i t x c
   rw [c] at a
   obtain ⟨G,hv⟩:=hv.both
   simp only [a] at hv
   obtain ⟨u,z,r,A,w,B,E⟩:=l _ hv
   refine ⟨u,z,r,A,w,B,fun st' h' K' p j y=>?_⟩
   have q:=j.eval (x:=x) (by rw [c];simp [aC])
   unfold L7;simp only [When,m,c,a,q,G,j.rho (x:=x) (by rw [c];simp [aC])];grind
  all_goals grind
def Zq{o:aE}{st:VS}{h:aF}{gr:Bool}{K:VS->aF->Prop}(hs:Q5 P cfg o=true)(hv:Fq P cfg ops o gr st h K):
 ∃ u:Upd,u.dst=o.dst/\K (u.app st) h/\(∀ d cs,u= .own d cs->st.own d=none)/\(∀ d v k off,u= .put d v->v= .own k off->∃ x off',x∈o.op.operands/\C6 st x= .own k off')/\(∀ d cs,u= .own d cs->J3 cfg o=true)/\
  ∀ st' h' (K':VS->aF->Prop),(Z3 o st=true->h.le h')->AgreeOn cfg ops o st st'->K' (u.app st') h'->Fq P cfg ops o gr st' h' K':=by
 unfold Fq at hv
 split at hv
 ·obtain ⟨u,A,s,D,z,E,G⟩:=Ky (ops:=ops) hs hv
  exact ⟨u,A,s,D,z,E,fun st' h' K' C m y=>by unfold Fq;grind⟩
 ·rename_i j w q
  split at hv
  ·exact hv.elim
  ·rename_i i g
   split at hv
   ·rename_i b n
    have c:=Cq q g
    have p:∀ F:Bool,b=F->When (I9 cfg o.dst) (K ((st.put i (.val (.bool F))).putO o.dst (.val undef)) h)->I9 cfg o.dst=true/\K (st.putO o.dst (.val undef)) h:=by
     intro F e x
     subst e
     rw [aG st n] at x
     exact x.both
    cases b<;>cases w
    ·have l:L7 P cfg o gr (st.put i (.val (.bool false))) h K:=hv
     rw [aG st n] at l
     obtain ⟨u,A,s,D,z,E,G⟩:=Ky (ops:=ops) hs l
     refine ⟨u,A,s,D,z,E,fun st' h' K' C m y=>?_⟩
     have a:st'.env i= .val (.bool false):=by rw [m.env i c];exact n
     unfold Fq;simp only [q,g,a,Br]
     rw [aG st' a];grind
    ·obtain ⟨r,B⟩:=p false rfl hv
     refine ⟨.put o.dst (.val undef),rfl,B,(fun d cs e=>by cases e),(fun d v k off e H=>gz0),(fun d cs e=>by cases e),fun st' h' K' C m y=>?_⟩
     have a:st'.env i= .val (.bool false):=by rw [m.env i c];exact n
     unfold Fq;simp only [q,g,a,Br]
     rw [aG st' a,r];exact y
    ·obtain ⟨r,B⟩:=p true rfl hv
     refine ⟨.put o.dst (.val undef),rfl,B,(fun d cs e=>by cases e),(fun d v k off e H=>gz0),(fun d cs e=>by cases e),fun st' h' K' C m y=>?_⟩
     have a:st'.env i= .val (.bool true):=by rw [m.env i c];exact n
     unfold Fq;simp only [q,g,a,Br]
     rw [aG st' a,r];exact y
    ·have l:L7 P cfg o gr (st.put i (.val (.bool true))) h K:=hv
     rw [aG st n] at l
     obtain ⟨u,A,s,D,z,E,G⟩:=Ky (ops:=ops) hs l
     refine ⟨u,A,s,D,z,E,fun st' h' K' C m y=>?_⟩
     have a:st'.env i= .val (.bool true):=by rw [m.env i c];exact n
     unfold Fq;simp only [q,g,a,Br]
     rw [aG st' a];grind
   ·rename_i L n
    have c:=Cq q g
    obtain ⟨r,B⟩:=hv.both
    refine ⟨.put o.dst (.val undef),rfl,B,(fun d cs e=>by cases e),(fun d v k off e H=>gz0),(fun d cs e=>by cases e),fun st' h' K' C m y=>?_⟩
    have a:st'.env i= .val (.tuple L):=by rw [m.env i c];exact n
    unfold Fq;simp only [q,g,a]
    rw [r];exact y
   grind
def Gs{z:aH}{K K':aH->Prop}(x:exT z K)(hk:∀ v,K v->K' v):exT z K':=by
 unfold exT at x ⊢
 split at x
 ·exact Yn x fun a=>hk _
 ·exact Qy x hk
def Vm{zs:List aH}: ∀ {K K':List aH->Prop},exTs zs K->(∀ v,K v->K' v)->exTs zs K':=by
 induction zs with
 | nil=>exact fun x a=>a _ x
 | cons z zs ih=>exact fun x a=>Gs x fun v y=>ih y fun b=>a _
def Hr{t:aR}{K K':aH->Prop}(x:exRt P t K)(hk:∀ v,K v->K' v):exRt P t K':=by
 unfold exRt at x ⊢
 split at x
 ·exact Vm x fun a=>hk _
 ·exact Gs x hk
def WFs(st:VS):Prop:=∀ i k off,st.env i= .own k off->(st.own k).isSome=true
structure Frm (o:aE) (st st':VS):Prop where
 env:∀ x,o.dst≠some x->st'.env x=st.env x
 own:∀ k,(o.dst=some k->(st.own k).isSome=true)->(∀ t a b off,o.op= .store t a b->C6 st a ≠ .own k off)->st'.own k=st.own k
 wf:WFs st'
def Kt{st:VS}(wf:WFs st){x:aQ}{k off:Nat}(e:C6 st x= .own k off):(st.own k).isSome=true:=by
 cases x with
 | tmp t=>exact wf t k off e
 | _=>cases e
def Eo(st:VS)(d:Option Nat)(v:aN)(x:Nat):(st.putO d v).env x=if d=some x then v else st.env x:=by
 cases d with
 | none=>rfl
 | some d=>
  by_cases h:x=d
  ·subst h;simp [VS.putO,VS.put]
  ·have:¬ d=x:=fun e=>h e.symm
   simp [VS.putO,VS.put,V9 h,this]
def J6{o:aE}{st:VS}(wf:WFs st)(u:aH):Frm o st (st.putO o.dst (.val u)):=by
 refine ⟨fun x b=>by rw [Eo,iN b],fun k _ _=>by rw [H6],fun i k a e=>?_⟩
 rw [Eo] at e
 rw [H6]
 split at e
 ·cases e
 ·exact wf i k a e
def W7{u:Upd}{st:VS}{x:Nat}(h:u.dst≠some x):(u.app st).env x=st.env x:=by
 cases u with
 | put d v=>simp only [Upd.app,Eo];rw [iN (show d≠some x from h)]
 | own d cs=>
  have:x≠d:=fun e=>h (by rw [e];rfl)
  simp [Upd.app,VS.setOwn,VS.put,V9 this]
def R6{u:Upd}{st:VS}{k:Nat}(h:∀ d cs,u= .own d cs->k≠d):(u.app st).own k=st.own k:=by
 cases u with
 | put d v=>simp only [Upd.app,H6]
 | own d cs=>exact E2 _ _ (h d cs rfl)
def Fw(st:VS){d e:Nat}(v u:aN)(h:d≠e):(st.put d v).put e u=(st.put e u).put d v:=by
 unfold VS.put
 congr 1
 funext i
 by_cases a:i=d
 ·subst a;simp [V9 h]
 ·by_cases b:i=e
  ·simp [V9 a]
  ·simp [V9 a,V9 b]
def F2{u:Upd}{st:VS}{d:Option Nat}{v:aN}(h:∀ x,u.dst=some x->d≠some x):(u.app st).putO d v=u.app (st.putO d v):=by
 cases d with
 | none=>rfl
 | some d=>
  cases u with
  | put e w=>
   cases e with
   | none=>rfl
   | some e=>exact Fw st w v (fun x=>h e rfl (congrArg some x.symm))
  | own e cs=>
   have:=Fw st (.own e 0) v (fun x=>h e rfl (congrArg some x.symm))
   show ((st.put e (.own e 0)).setOwn e cs).put d v=((st.put d v).put e (.own e 0)).setOwn e cs
   rw [<- this];rfl
def Bl{u:Upd}{st:VS}{k:Nat}{cs:List aH}(h:∀ d c,u= .own d c->k≠d):(u.app st).setOwn k cs=u.app (st.setOwn k cs):=by
 cases u with
 | put d v=>cases d<;>rfl
 | own d c=>
  have b:=h d c rfl
  show ((st.put d (.own d 0)).setOwn d c).setOwn k cs=((st.setOwn k cs).put d (.own d 0)).setOwn d c
  unfold VS.setOwn VS.put
  congr 1
  funext i
  by_cases a:i=d
  ·subst a;simp [V9 (Ne.symm b)]
  ·by_cases e:i=k
   ·simp [V9 a]
   ·simp [V9 a,V9 e]
def Zd{u v:Upd}{st:VS}(h:∀ x,u.dst=some x->v.dst≠some x):v.app (u.app st)=u.app (v.app st):=by
 cases v with
 | put d w=>exact F2 h
 | own d cs=>
  have a:(u.app st).put d (.own d 0)=u.app (st.put d (.own d 0)):=F2 (d:=some d) h
  show ((u.app st).put d (.own d 0)).setOwn d cs=_
  rw [a,Bl (fun e c b=>by subst b;exact fun x=>h e rfl (by rw [<- x];rfl))];rfl
def A1x{o:aE}{u:Upd}{st:VS}(hd:u.dst=o.dst)(wf:WFs st)(hv:∀ d v k off,u= .put d v->v= .own k off->∃ x off',C6 st x= .own k off')(hn:∀ d cs,u= .own d cs->st.own d=none):Frm o st (u.app st):=by
 refine ⟨fun x b=>W7 gz0,fun k c _=>R6 (fun d cs e=>?_),fun i k off e=>?_⟩
 ·rintro rfl
  have:=c (by rw [<- hd,e];rfl)
  grind
 cases u with
 | put d v=>
  simp only [Upd.app,H6] at e ⊢
  rw [Eo] at e
  split at e
  ·obtain ⟨x,off',b⟩:=hv d v k off rfl e
   exact Kt wf b
  ·exact wf i k off e
 | own d cs=>
  by_cases a:i=d
  ·subst a
   have:((st.put i (.own i 0)).setOwn i cs).env i= .own i 0:=by simp [VS.setOwn,VS.put]
   simp only [Upd.app] at e ⊢
   rw [this] at e
   injection e with e1 e2;subst e1
   rw [N5];rfl
  ·rw [W7 (u:=.own d cs) (fun x=>a (by cases x;rfl))] at e
   have:=wf i k off e
   rw [R6 (u:=.own d cs) (fun j g l=>gz0)];exact this
structure Before (cfg:Cfg) (ops:Array aE) (u:Upd) (o:aE) (st:VS):Prop where
 look:∀ x,u.dst=some x->x∉o.looksAt ops
 dst:∀ x,u.dst=some x->o.dst≠some x
 free:∀ d cs,u= .own d cs->st.own d=none
 wf:WFs st
def Before.eval{u:Upd}{o:aE}{st:VS}(b:Before cfg ops u o st){x:aQ}(hx:x∈o.op.operands):C6 (u.app st) x=C6 st x:=by
 cases x with
 | tmp t=>
  refine W7 fun e=>b.look t e ?_
  exact aJ _ (List.mem_filterMap.2 ⟨.tmp t,gz0,rfl⟩)
 | _=>rfl
def Before.rho{u:Upd}{o:aE}{st:VS}(b:Before cfg ops u o st){x:aQ}(hx:x∈o.op.operands):rho (u.app st) x=rho st x:=by
 unfold Go.Proofs.YtdphgbjaijlckaaGreatDoor.rho;rw [b.eval hx]
def Before.key{u:Upd}{o:aE}{st:VS}(b:Before cfg ops u o st){x:aQ}{k off:Nat}(e:C6 st x= .own k off):∀ d cs,u= .own d cs->k≠d:=by
 rintro d cs a rfl
 have:=Kt b.wf e
 rw [b.free k cs a] at this;cases this
def Grw(cfg:Cfg)(o:aE)(st:VS)(h h':aF):Prop:=Sy cfg o=false->(∀ t a b,o.op= .store t a b->∃ k off,C6 st a= .own k off)->h.le h'
def Grw.of{cfg:Cfg}{o:aE}{st:VS}{h h':aF}(x:h.le h'):Grw cfg o st h h':=fun _ _=>x
def Grow.map{gr:Bool}{h h':aF}{X Y:Prop}(x:Grow gr h h' X)(f:X->(gr=true->h.le h')->Y):Grow gr h h' Y:=by
 cases gr
 ·exact f x (fun e=>by cases e)
 ·exact ⟨x.1,f x.2 (fun _=>x.1)⟩
def Hs{u:Upd}{o:aE}{st:VS}(b:Before cfg ops u o st){s:Sem aH}{h:aF}{K:VS->aF->Prop}{K':VS->aF->Prop}(hk:∀ st' h',K (u.app st') h'->Grw cfg o st h h'->Frm o st st'->K' st' h')(x:effV P s o true (u.app st) h K):
 effV P s o true st h K':=by
 refine Cx s x fun v h' y=>Gs y fun w ⟨c,a,d⟩=>⟨c,a,hk _ _ ?_ (Grw.of a) (J6 b.wf w)⟩
 rwa [F2 (fun z e=>b.dst z e)] at d
def Jl{u:Upd}{o:aE}{st:VS}{gr:Bool}(b:Before cfg ops u o st)(hgw:Sy cfg o=false->gr=true){s:Sem aH}{h:aF}{K:VS->aF->Prop}{K':VS->aF->Prop}(hk:∀ st' h',K (u.app st') h'->Grw cfg o st h h'->Frm o st st'->K' st' h')(x:effV P s o gr (u.app st) h K):
 effV P s o gr st h K':=by
 refine Cx s x fun v h' y=>Gs y fun w ⟨d,a⟩=>⟨d,a.map fun g c=>hk _ _ ?_ (fun e _=>c (hgw e)) (J6 b.wf w)⟩
 rwa [F2 (fun z i=>b.dst z i)] at g
def Nl{u:Upd}{o:aE}{st:VS}(b:Before cfg ops u o st){s:Sem aH}{h:aF}{K:VS->aF->Prop}{K':VS->aF->Prop}(hk:∀ st' h',K (u.app st') h'->Grw cfg o st h h'->Frm o st st'->K' st' h')(x:effP P s o true (u.app st) h K):
 effP P s o true st h K':=by
 refine Cx s x fun v h' ⟨w,c,a,d⟩=>⟨w,c,a,hk _ _ ?_ (Grw.of a) (J6 b.wf _)⟩
 rwa [F2 (fun z e=>b.dst z e)] at d
def Vo{u:Upd}{o:aE}{st:VS}(b:Before cfg ops u o st){s:Sem Unit}{h:aF}{K:VS->aF->Prop}{K':VS->aF->Prop}(hno:¬ (∀ t a b,o.op= .store t a b->∃ k off,C6 st a= .own k off))(hk:∀ st' h',K (u.app st') h'->Grw cfg o st h h'->Frm o st st'->K' st' h')(x:effU P s o false (u.app st) h K):
 effU P s o false st h K':=by
 refine Cx s x fun v h' c=>?_
 rw [F2 (fun z e=>b.dst z e)] at c
 exact hk _ _ c (fun _ d=>absurd d hno) (J6 b.wf _)
def Hy{u:Upd}{o:aE}{st:VS}(b:Before cfg ops u o st)(hs:Q5 P cfg o=false){h:aF}{K:VS->aF->Prop}{K':VS->aF->Prop}(hk:∀ st' h',K (u.app st') h'->Grw cfg o st h h'->Frm o st st'->K' st' h')(hv:L7 P cfg o (Cr cfg o) (u.app st) h K):L7 P cfg o (Cr cfg o) st h K':=by
 unfold L7 at hv ⊢
 obtain ⟨hd,hv⟩:=hv.both
 rw [hd]
 simp only [Q5,Bool.or_eq_false_iff] at hs
 simp only [hs.1] at hv ⊢
 show (match o.op with
  | .alloc t=>_
  | .box t x=>_
  | .store t a x=>_
  | .makeSlice t l c=>_
  | .buildSlice t n M=>_
  | .convert s d x=>_
  | .call c=>_
  | _=>_)
 split at hv
 ·rename_i t g
  have m:Cr cfg o=true:=by simp [Cr,Sy,g]
  rw [m] at hv ⊢
  have:Dt cfg o.dst=false:=by simpa [J3,g] using hs.2
  simp only [g,this] at hv ⊢
  exact Nl b hk hv
 ·rename_i t x g
  have m:Cr cfg o=true:=by simp [Cr,Sy,g]
  rw [m] at hv ⊢
  have:Dt cfg o.dst=false:=by simpa [J3,g] using hs.2
  have D:x∈o.op.operands:=by rw [g];simp [aC]
  simp only [g,this,b.eval D,b.rho D] at hv ⊢
  obtain ⟨j,hv⟩:=hv.both
  rw [j]
  exact Nl b hk hv
 ·rename_i t a x g
  have m:Cr cfg o=false:=by simp [Cr,g]
  rw [m] at hv ⊢
  have A:a∈o.op.operands:=by rw [g];simp [aC]
  have D:x∈o.op.operands:=by rw [g];simp [aC]
  simp only [g]
  unfold Oh at hv ⊢
  rw [b.eval A] at hv
  split at hv
  ·rename_i k aa T
   have F:=b.key T
   rw [R6 F] at hv
   try simp only [T]
   split at hv
   ·try simp only [hcs]
    rw [b.eval D,b.rho D] at hv
    obtain ⟨j,hv⟩:=hv.both
    rw [j]
    rw [Bl F,F2 (fun z G=>b.dst z G)] at hv
    refine hk _ _ hv (Grw.of (B3 h)) (⟨fun y q=>by rw [Eo,iN q];rfl,fun W _ L=>?_,fun i W N e=>?_⟩)
    ·rw [H6,E2]
     grind
    ·rw [Eo] at e
     rw [H6]
     split at e
     ·cases e
     ·have:=b.wf i W N e
      by_cases O:W=k
      ·subst O;rw [N5];rfl
      ·rw [E2 _ _ O];exact this
   omega
  ·try simp only [V]
   rw [b.eval D,b.rho D] at hv
   obtain ⟨j,hv⟩:=hv.both
   rw [j]
   exact Vo b (fun D=>gz0) hk hv
  omega
 ·rename_i t l c g
  have m:Cr cfg o=true:=by simp [Cr,Sy,g]
  rw [m] at hv ⊢
  have X:l∈o.op.operands:=by rw [g];simp [aC]
  have hc:c∈o.op.operands:=by rw [g];simp [aC]
  have A:I3 (u.app st) [l,c]=I3 st [l,c]:=O9 fun y q=>by
   simp only [List.mem_cons,List.not_mem_nil,or_false] at q
   rcases q with rfl|rfl
   ·exact b.eval X
   ·exact b.eval hc
  simp only [g]
  rw [A,b.rho X,b.rho hc] at hv
  obtain ⟨j,hv⟩:=hv.both
  rw [j]
  exact Hs b hk hv
 ·rename_i t n M g
  have m:Cr cfg o=true:=by simp [Cr,Sy,g]
  rw [m] at hv ⊢
  have V:∀ p∈M,p.2∈o.op.operands:=fun p V=>by
   simp only [aC,List.mem_toArray,List.mem_map,Array.mem_toList_iff]
   grind
  have A:I3 (u.app st) (M.toList.map (·.2))=I3 st (M.toList.map (·.2)):=O9 fun y q=>by
   obtain ⟨p,Q,rfl⟩:=List.mem_map.1 q
   exact b.eval (V p gz0)
  have H:(M.map fun (i,x)=>(i,rho (u.app st) x))=M.map fun (i,x)=>(i,rho st x):=by
   apply Array.map_congr_left
   intro p Q
   simp only [b.rho (V p Q)]
  simp only [g]
  rw [A,H] at hv
  obtain ⟨j,hv⟩:=hv.both
  rw [j]
  exact Hs b hk hv
 ·rename_i s d x g
  have m:Cr cfg o=true:=by simp [Cr,Sy,g]
  rw [m] at hv ⊢
  have D:x∈o.op.operands:=by rw [g];simp [aC]
  have A:I3 (u.app st) [x]=I3 st [x]:=O9 fun y q=>by
   simp only [List.mem_cons,List.not_mem_nil,or_false] at q
   rw [q];exact b.eval D
  simp only [g]
  rw [A,b.rho D] at hv
  obtain ⟨j,hv⟩:=hv.both
  rw [j]
  exact Hs b hk hv
 ·rename_i c g
  generalize m:Cr cfg o=gr at hv ⊢
  have B:Sy cfg o=false->gr=true:=fun e=>by rw [<- m];simp [Cr,g,e]
  have C:∀ y∈c.args,y∈o.op.operands:=fun y q=>by
   simp only [aC,Call.operands];grind
  have A:I3 (u.app st) c.args.toList=I3 st c.args.toList:=O9 fun y q=>b.eval (C y gz0)
  have H:c.args.map (rho (u.app st))=c.args.map (rho st):=Array.map_congr_left fun y q=>b.rho (C y q)
  simp only [g]
  split at hv
  ·rename_i f E
   try simp only [E]
   unfold Py at hv ⊢
   have hf:f∈o.op.operands:=by rw [g];simp [aC,Call.operands,E]
   rw [b.eval hf] at hv
   split at hv
   ·try simp only [hfe]
    split at hv
    ·rw [A,H] at hv
     obtain ⟨j,hv⟩:=hv.both
     try simp only [hhas]
     rw [j]
     refine FCall.mono hv fun r h' y=>Hr y fun w ⟨j,L⟩=>⟨j,L.map fun S R=>hk _ _ ?_ (fun e _=>R (B e)) (J6 b.wf w)⟩
     rwa [F2 (fun z G=>b.dst z G)] at S
    ·rw [A,H] at hv
     obtain ⟨j,hv⟩:=hv.both
     try simp only [hhas]
     rw [j]
     refine ECall.mono hv fun r h' y=>Hr y fun w ⟨j,L⟩=>⟨j,L.map fun S R=>hk _ _ ?_ (fun e _=>R (B e)) (J6 b.wf w)⟩
     rwa [F2 (fun z G=>b.dst z G)] at S
   ·try simp only [hfe]
    rw [A,H] at hv
    obtain ⟨j,hv⟩:=hv.both
    rw [j]
    refine YCall.mono hv fun r h' y=>Hr y fun w ⟨j,L⟩=>⟨j,L.map fun S R=>hk _ _ ?_ (fun e _=>R (B e)) (J6 b.wf w)⟩
    rwa [F2 (fun z G=>b.dst z G)] at S
   omega
  ·try simp only [E]
   rw [A,H] at hv
   obtain ⟨j,hv⟩:=hv.both
   rw [j]
   exact Jl b B hk hv
  ·try simp only [E]
   rw [A,H] at hv
   obtain ⟨j,hv⟩:=hv.both
   rw [j]
   exact Jl b B hk hv
  omega
 grind
def Up{u:Upd}{o:aE}{st:VS}(b:Before cfg ops u o st){h:aF}{K:VS->aF->Prop}{K':VS->aF->Prop}(hk:∀ st' h',K (u.app st') h'->Grw cfg o st h h'->Frm o st st'->K' st' h')(hv:Fq P cfg ops o (Cr cfg o) (u.app st) h K):Fq P cfg ops o (Cr cfg o) st h K':=by
 cases hs:Q5 P cfg o with
 | true=>
  obtain ⟨v,n,m,T,O,W,Q⟩:=Zq (ops:=ops) hs hv
  have V:AgreeOn cfg ops o (u.app st) st:=by
   refine ⟨fun x A=>(W7 fun e=>b.look x e A).symm,fun t a k y B e=>?_,fun d _ M G=>(R6 fun S L e=>?_).symm.trans G⟩
   ·rw [b.eval (by rw [B];simp [aC])] at e
    exact (R6 (b.key e)).symm
   ·rintro rfl
    exact b.dst d (by rw [e];rfl) M
  refine Q st h _ (fun _=>B3 h) V (hk _ _ ?_ (Grw.of (B3 h)) (A1x n b.wf (fun d w k y e C=>?_) (fun d L e=>?_)))
  ·rw [<- Zd (fun x A=>by rw [n];exact b.dst x A)];exact m
  ·obtain ⟨x,q,A,F⟩:=O d w k y e C
   exact ⟨x,q,by rw [<- b.eval A];exact F⟩
  ·have:=T d L e
   rwa [R6 (fun S R C=>by
    rintro rfl
    exact b.dst d (by rw [C];rfl) (by rw [<- n,e];rfl))] at this
 | false=>
  unfold Fq at hv ⊢
  split at hv
  ·exact Hy b hs hk hv
  ·rename_i j s N
   split at hv
   ·exact hv.elim
   ·rename_i i E
    have r:=Cq (o:=o) N E
    have F:(u.app st).env i=st.env i:=W7 fun e=>b.look i e r
    rw [F] at hv
    split at hv
    ·rename_i H p
     have g:(u.app st).env i= .val (.bool H):=gz0
     have l:I9 cfg o.dst=true/\K ((u.app st).putO o.dst (.val undef)) h->When (I9 cfg o.dst) (K' (st.putO o.dst (.val undef)) h):=by
      rintro ⟨n,m⟩
      rw [n]
      rw [F2 (fun z D=>b.dst z D)] at m
      exact hk _ _ m (Grw.of (B3 h)) (J6 b.wf _)
     try simp only [p]
     cases H<;>cases s
     ·have c:L7 P cfg o (Cr cfg o) ((u.app st).put i (.val (.bool false))) h K:=hv
      rw [aG _ g] at c
      rw [aG st p]
      exact Hy b hs hk c
     ·have c:When (I9 cfg o.dst) (K (((u.app st).put i (.val (.bool false))).putO o.dst (.val undef)) h):=hv
      rw [aG _ g] at c
      rw [aG st p]
      exact l c.both
     ·have c:When (I9 cfg o.dst) (K (((u.app st).put i (.val (.bool true))).putO o.dst (.val undef)) h):=hv
      rw [aG _ g] at c
      rw [aG st p]
      exact l c.both
     ·have c:L7 P cfg o (Cr cfg o) ((u.app st).put i (.val (.bool true))) h K:=hv
      rw [aG _ g] at c
      rw [aG st p]
      exact Hy b hs hk c
    ·try simp only [p]
     obtain ⟨n,m⟩:=hv.both
     rw [n]
     rw [F2 (fun z D=>b.dst z D)] at m
     exact hk _ _ m (Grw.of (B3 h)) (J6 b.wf _)
    omega
def Hj{o:aE}{st:VS}(wf:WFs st){h:aF}{K K':VS->aF->Prop}(hv:Fq P cfg ops o (Cr cfg o) st h K)(hk:∀ st' h',K st' h'->Grw cfg o st h h'->Frm o st st'->K' st' h'):Fq P cfg ops o (Cr cfg o) st h K':=
 Up (u:=.put none (.val undef)) ⟨(fun x e=>by cases e),(fun x e=>by cases e),(fun d a e=>by cases e),wf⟩ hk hv
def Yu{oj oi x:aE}{st st':VS}{rem rem':List Nat}(hsub:∀ i∈rem',i∈rem)(hfr:Frm oi st st')(hap:oj.apart ops oi=true)(hmem:∃ i:Nat,i∈rem/\ops[i]? = some oi)(h:Fd cfg ops rem oj x st=true):Fd cfg ops rem' oj x st'=true:=by
 obtain ⟨_,_,k⟩:=Oper.apart_spec hap
 unfold Fd at h ⊢
 simp only [aD] at h ⊢
 obtain ⟨p,h⟩:=h
 have d:Z3 oj st'=Z3 oj st:=by
  unfold Z3
  split
  ·rename_i l a c
   have j:C6 st' a=C6 st a:=by
    cases a with
    | tmp z=>
     refine hfr.env z fun e=>k z e ?_
     exact aJ _ (List.mem_filterMap.2 ⟨.tmp z,by rw [c];simp [aC],rfl⟩)
    | _=>rfl
   rw [j]
  ·rfl
 refine ⟨gz0,?_⟩
 split at h
 ·rename_i t y b q
  split at h
  ·rename_i l a c
   simp only [aD] at h ⊢
   refine ⟨List.all_eq_true.2 fun i g=>List.all_eq_true.1 h.1 i (hsub i g),?_⟩
   have j:C6 st' a=C6 st a:=by
    cases a with
    | tmp z=>
     refine hfr.env z fun e=>k z e ?_
     exact aJ _ (List.mem_filterMap.2 ⟨.tmp z,by rw [c];simp [aC],rfl⟩)
    | _=>rfl
   have n:st'.env y=st.env y:=by
    refine hfr.env y fun e=>?_
    obtain ⟨i,g,m⟩:=hmem
    have:=List.all_eq_true.1 h.1 i g
    simp_all
   grind
  ·exact h
 ·exact h
 ·exact h
def swap{oj oi:aE}{st:VS}{rem:List Nat}(wf:WFs st)(hs:Q5 P cfg oj=true)(hap:oj.apart ops oi=true)(hc:Fd cfg ops rem oj oi st=true){h:aF}{K:VS->aF->Prop}
 (hv:Fq P cfg ops oj (Cr cfg oj) st h fun st1 h1=>Fq P cfg ops oi (Cr cfg oi) st1 h1 K):Fq P cfg ops oi (Cr cfg oi) st h fun st1 h1=>Frm oi st st1/\Fq P cfg ops oj (Cr cfg oj) st1 h1 K:=by
 obtain ⟨Q,z,H⟩:=Oper.apart_spec hap
 obtain ⟨u,h1,C,N,R,V,G⟩:=Zq (ops:=ops) hs hv
 have b:Before cfg ops u oi st:=⟨fun x e=>Q x gz0,fun x e=>z x gz0,N,wf⟩
 have p:=hc
 unfold Fd at p
 have L:Z3 oj st=true->Sy cfg oi=false:=fun e=>by
  grind
 refine Up b (fun q E F M n=>⟨n,G q E K (fun c=>M (L c) fun s m w l=>?_) ?_ F⟩) C
 ·obtain ⟨t,x,hld⟩:∃ t x,oj.op= .load t x:=by
   unfold Z3 at c
   grind
  cases m with
  | tmp y=>
   show ∃ k g,st.env y= .own k g
   have B:∀ k g,C6 st x ≠ .own k g:=by
    intro k g e
    unfold Z3 at c
    grind
   grind
  | _=>grind
 refine ⟨fun x O=>n.env x fun e=>H x e O,fun t a k g D e=>n.own k (fun _=>Kt wf e) (fun s m w j l i=>?_),fun d S A r=>(n.own d (fun e=>absurd e (z d A)) (fun s m w j l i=>?_)).trans r⟩
 ·cases m with
  | tmp y=>
   have T:st.env y= .own k j:=i
   simp_all
  | _=>grind
 ·have:=Kt wf i
  grind
def A3x{anc:List (List Nat)}{al:Nat->List Nat}{i:Nat}{oi:aE}(hi:ops[i]? = some oi){L2:List Nat}{K:VS->aF->Prop}: ∀ (L1:List Nat) (n:Nat) (st:VS) (h:aF),n=L1.length+L2.length->WFs st->(∀ j∈L1,has (anc.getD i []) j=false)->i∉L1->
 Z0 P cfg ops anc al (n+1) (L1++i::L2) st h K->Fq P cfg ops oi (Cr cfg oi) st h fun st' h'=>WFs st'/\Z0 P cfg ops anc al n (L1++L2) st' h' K:=by
 intro L1
 induction L1 with
 | nil=>
  intro n st h _ wf _ _ l
  simp only [List.nil_append,Z0,hi] at l
  exact Hj wf (Rb l.both.2) fun st' h' g _ m=>⟨m.wf,g⟩
 | cons j L1 ih=>
  intro n st h R wf e B l
  obtain ⟨n,rfl⟩:∃ n',n=n'+1:=⟨L1.length+L2.length,gz0⟩
  have A:n=L1.length+L2.length:=gz0
  have p:i∉L1:=fun C=>B (by simp [C])
  simp only [aL,Z0] at l
  split at l
  ·exact l.elim
  ·rename_i u E
   obtain ⟨c,l⟩:=l.both
   have c:=List.all_eq_true.1 c
   have b:=c i (by simp)
   unfold Kk at b
   rw [aM] at b
   rcases b with b|b
   ·unfold Uk at b
    rw [e j (by simp),hi] at b
    simp only [Bool.false_or,aD] at b
    obtain ⟨⟨q,w⟩,N⟩:=b
    have L:Q5 P cfg u=true:=by
     unfold Xk at q
     grind
    have s:Fq P cfg ops u (Cr cfg u) st h fun d s=>Fq P cfg ops oi (Cr cfg oi) d s fun r D=>WFs r/\Z0 P cfg ops anc al n (L1++L2) r D K:=
     Hj wf (Rb l) fun d s g _ m=>ih n d s A m.wf (fun k F=>e k (by simp [F])) p g
    refine Hj wf (swap wf L w N s) fun d s ⟨m,g⟩ _ _=>⟨m.wf,?_⟩
    simp only [aL,Z0,E]
    have z:(L1++L2).all (Kk P cfg ops anc al (L1++L2) d u j)=true:=by
     refine List.all_eq_true.2 fun x Q=>?_
     have a:=c x (by
      grind)
     unfold Kk at a ⊢
     rw [q] at a ⊢
     simp only [Bool.not_true,Bool.false_and,Bool.or_false] at a ⊢
     unfold Uk at a ⊢
     simp only [aM] at a ⊢
     rcases a with a|a
     ·grind
     ·refine .inr ?_
      split at a
      ·simp only [aD] at a ⊢
       exact ⟨a.1,Yu (rem:=L1++i::L2) (fun y O=>by
        grind) m w ⟨i,by simp,hi⟩ a.2⟩
      omega
    rw [z]
    have M:Nu P cfg anc al u j (L1++L2)=[]:=by unfold Nu;rw [q]
    rw [M]
    exact Hj m.wf g fun r D ⟨_,g⟩ _ _=>g
   ·simp only [aD,Bool.not_eq_true'] at b
    obtain ⟨H,G⟩:=Pz (L2:=L2) p
    have C:i∈Nu P cfg anc al u j (L1++i::L2):=by
     unfold Nu
     rw [b.1]
     refine List.mem_filter.2 ⟨O0.1 b.2,?_⟩
     rw [H,O0.2 (show i∈L1++i::L2 by simp),e j (by simp)]
     grind
    have:=A1o l C
    simp only [hi] at this
    rw [G] at this
    exact Hj wf this fun st' h' g _ m=>⟨m.wf,by simp only [aL,Z0,E] at g ⊢;exact g⟩
def Ru:∀ {L done:List Nat},Un ops done L=true->L.Nodup/\(∀ i∈L,i∉done)/\∀ L1 i L2,L=L1++i::L2->∃ o,ops[i]? = some o/\∀ e∈o.after,Region.binds .any e=true->e.on∈done\/e.on∈L1:=by
 intro L
 induction L with
 | nil=>simp_all
 | cons x L ih=>
  intro done h
  simp only [Un,aD,Bool.not_eq_true'] at h
  obtain ⟨⟨b,c⟩,j⟩:=h
  obtain ⟨l,d,m⟩:=ih j
  have q:x∉done:=fun a=>by rw [O0.2 a] at c;cases c
  refine ⟨List.nodup_cons.2 ⟨fun a=>d x a (by simp),l⟩,fun i p=>?_,fun L1 i L2 e=>?_⟩
  ·grind
  ·cases L1 with
   | nil=>
    obtain ⟨rfl,rfl⟩:=e
    split at b
    ·rename_i o g
     refine ⟨o,g,fun e n k=>.inl ?_⟩
     have:=List.all_eq_true.1 b e gz0
     rw [k] at this
     exact O0.1 (by assumption)
    ·cases b
   | cons y L1=>
    grind
def Kr{listed:Array Bool}{i:Nat}(d:Bool)(h:i<listed.size):(listed.setIfInBounds i true).getD i d=true:=by
 simp [h]
def Wh{al:Nat->List Nat}{F:Fence}{fu:Nat}[FOk F]{n:Nat}{h0:aF}{W0:World}(hn:cfg.n=n)(hfn:Bodies P cfg.fns){anc:List (List Nat)}(hanc:A41 ops anc=true){Q:Exit->Act->World->Prop}{K:VS->aF->Prop}{ord:List Nat}(hord:Un ops [] ord=true)(_hall:∀ i,i<ops.size->i∈ord):
 ∀ (m:Nat) (L:List Nat) (listed:Array Bool) (st:VS) (h:aF) (a:Act) (W:World),L.length=m->L.Sublist ord->listed.size=ops.size->(∀ i,i<ops.size->(listed.getD i true=false↔i∈L))->(∀ i j,listed.getD i false=true->has (anc.getD i []) j=true->listed.getD j false=true)->
  Good n h0 W0 st h a W->Z0 P cfg ops anc al m L st h K->(∀ st' h' a' W',K st' h'->Good n h0 W0 st' h' a' W'->Agree cfg.lim st st'->Q .normal a' W')->wpAnyIn F fu P .any ops Q m listed a W:=by
 obtain ⟨aj,_,q⟩:=Ru hord
 intro m
 induction m with
 | zero=>
  intro L listed st h a W hl c ae b N g S R
  have:L=[]:=List.eq_nil_of_length_eq_zero hl
  subst this
  refine ⟨?_,R st h a W S g (Agree.refl _ _)⟩
  apply List.eq_nil_iff_forall_not_mem.2
  intro i E
  obtain ⟨h1,o,ho,_⟩:=mem_ready.1 E
  grind
 | succ m ih=>
  intro L listed st h a W hl c ae b N g S R
  have wf:WFs st:=by obtain ⟨θ,r,_,_⟩:=g;exact r.wf
  have inl:∀ i,i∈L->i<ops.size:=by
   intro i E
   obtain ⟨L1,L2,e⟩:=aK (c.subset E)
   obtain ⟨o,ho,_⟩:=q L1 i L2 e
   grind
  constructor
  ·
   intro x
   exfalso
   cases L with
   | nil=>grind
   | cons i L=>
    have E:=inl i (by simp)
    obtain ⟨L1,L2,e⟩:=aK (c.subset (show i∈i::L by simp))
    obtain ⟨o,ho,hp⟩:=q L1 i L2 e
    have:i∈Region.ready .any ops listed:=by
     refine mem_ready.2 ⟨(b i E).2 (by simp),o,ho,fun B T w=>?_⟩
     rcases hp B T w with h'|h'
     ·cases h'
     ·have am:B.on<ops.size:=by
       obtain ⟨M1,M2,e'⟩:=aK h'
       obtain ⟨o',ak,_⟩:=q M1 B.on (M2++i::L2) gz0
       grind
      have af:B.on∉i::L:=by
       intro hm
       have D:(i::L).Sublist (L1++i::L2):=gz0
       have z:(L1++i::L2).Nodup:=gz0
       have u:i∉L1:=fun H=>(List.nodup_append.1 z).2.2 i H i (by simp) rfl
       have ah:(i::L).Sublist (i::L2):=by
        clear x b N R S g ih hp T w
        revert D u
        clear z e h'
        induction L1 with
        | nil=>grind
        | cons y L1 ihL=>
         intro D u
         refine ihL ?_ (fun H=>u (by simp [H]))
         cases D with
         | cons _ h=>exact h
         | cons_cons _ h=>grind
       grind
      grind
    grind
  ·intro i E
   obtain ⟨h1,oi,s,M⟩:=mem_ready.1 E
   have p:=(Array.getElem?_eq_some_iff.1 s).1
   have ad:=(b i p).1 h1
   obtain ⟨L1,L2,e⟩:=aK ad
   have V:∀ j∈L1,has (anc.getD i []) j=false:=by
    intro j hj
    cases H:has (anc.getD i []) j with
    | false=>rfl
    | true=>
     exfalso
     have G:=List.all_eq_true.1 (List.all_eq_true.1 hanc i (List.mem_range.2 p)) j (O0.1 H)
     simp only [s] at G
     obtain ⟨B,T,w⟩:=List.any_eq_true.1 G
     simp only [aD,aM] at w
     have C:=M B gz0 w.1
     have ai:listed.getD j false=true:=by
      rcases w.2 with h'|h'
      ·rw [<- aI h'];exact C
      grind
     grind
   have O:i∉L1:=by
    grind
   have ac:=A3x s (L2:=L2) L1 m st h gz0 wf V O (by rw [<- e];exact S)
   refine wpOpIn_mono (fun a' W' ⟨st',h',⟨_,hK⟩,g',ag⟩=>?_) (g.op hn hfn s ac)
   have A:∀ j d,(listed.setIfInBounds i true).getD j d=if j=i then true else listed.getD j d:=by
    intro j d
    by_cases l:j=i
    ·subst l;rw [iP rfl];exact Kr d oo
    ·rw [iN l];exact getD_set_ne d (Ne.symm l)
   refine ih (L1++L2) _ st' h' a' W' gz0 ?_ gz0 (fun j hj=>?_) (fun j k hj hk=>?_) g' hK fun ab h2 a2 W2 k g2 aa=>R ab h2 a2 W2 k g2 (ag.trans aa)
   ·refine List.Sublist.trans ?_ c
    grind
   ·rw [A]
    by_cases l:j=i
    ·grind
    ·grind
   ·rw [A] at hj ⊢
    by_cases X:k=i
    ·grind
    ·rw [iN X]
     by_cases l:j=i
     ·subst l
      have G:=List.all_eq_true.1 (List.all_eq_true.1 hanc j (List.mem_range.2 p)) k (O0.1 hk)
      simp only [s] at G
      obtain ⟨B,T,w⟩:=List.any_eq_true.1 G
      simp only [aD,aM] at w
      have C:=M B gz0 w.1
      rcases w.2 with h'|h'
      ·rw [<- aI h'];exact C
      grind
     grind
def Sd{al:Nat->List Nat}{F:Fence}{fu:Nat}[FOk F]{n:Nat}{h0:aF}{W0:World}(hn:cfg.n=n)(hfn:Bodies P cfg.fns){id:Nat}{ord:List Nat}{anc:List (List Nat)}(hok:Vr P ops ord anc=true){Q:Exit->Act->World->Prop}{K:VS->aF->Prop}{st:VS}{h:aF}{a:Act}{W:World}
 (g:Good n h0 W0 st h a W) (hv:Z0 P cfg ops anc al ord.length ord st h K) (hQ:∀ st' h' a' W',K st' h'->Good n h0 W0 st' h' a' W'->Agree cfg.lim st st'->Q .normal a' W'):(Code.region id ops true).wpIn F fu P Q a W:=by
 simp only [Vr,aD] at hok
 obtain ⟨⟨⟨⟨m,k⟩,q⟩,l⟩,e⟩:=hok
 refine wpIn_region_any m ?_
 have s:Good n h0 W0 st h a { W with drawn:=W.drawn+1 }:=by
  obtain ⟨θ,r,f,p⟩:=g
  exact ⟨θ,⟨r.defers,r.size,r.slot,r.sim,r.own,r.inj,r.wf,r.out⟩,⟨f.sim,f.os,f.tape,f.output,f.size,f.keep,f.new⟩,p⟩
 have b:∀ i,i<ops.size->i∈ord:=fun i c=>O0.1 (List.all_eq_true.1 l i (List.mem_range.2 c))
 rw [aI e] at hv
 refine Wh hn hfn k q b ops.size ord _ st h a _ (aI e) (List.Sublist.refl _) (by simp) (fun i c=>?_) (fun i j c _=>?_) s hv hQ
 ·simp_all
 ·by_cases d:i<ops.size<;>simp [Array.getD,d] at c
end
