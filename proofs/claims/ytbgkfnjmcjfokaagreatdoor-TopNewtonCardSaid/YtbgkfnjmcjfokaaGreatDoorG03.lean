/- A part. -/
import Derived.Test.YtbgkfnjmcjfokaaGreatDoorG02
set_option linter.all false
open Bool renaming and_eq_true->aE,or_eq_true->aP
open List renaming mem_append_left->aL,append_of_mem->aN,cons_append->aO
open Nat renaming eq_of_beq_eq_true->aK,beq->aR
open _root_.Go.Op renaming operands->aC
open _root_.Go renaming Oper->aH,Value->aJ,Program->aT,Operand->aU,TypeId->aV
open _root_.Go.Proofs.YtbgkfnjmcjfokaaGreatDoor renaming Heap->aF,put_self->aI,AVal->aQ
namespace Go.Proofs.YtbgkfnjmcjfokaaGreatDoor
open Go
def T4(cfg:Cfg)(o:aH):Bool:=
 match o.op with
 | .alloc _ | .box _ _=>Mh cfg o.dst
 | _=>false
def Bh(P:aT)(cfg:Cfg)(o:aH):Bool:=Sa P o||T4 cfg o
def B07(ops:Array aH)(rem:List Nat)(y:Nat):Bool:=rem.all fun i=>match ops[i]? with
 | some o=>(match o.dst with
  | some d=> !aR d y
  | none=>true)
 | none=>true
def Ua(cfg:Cfg)(o:aH):Bool:=
 match o.op with
 | .call c=>
  match c.callee with
  | .value (.func g)=>has cfg.wr g
  | .value (.tmp _)=>true
  | .builtin .copy=>true
  | .builtin .append=>has cfg.wr 1000000000
  | _=>false
 | .mapUpdate _ _ _ _ | .next _ _=>true
 | _=>false
def Fm(o:aH)(st:VS):Bool:=
 match o.op with
 | .load _ a=>(match C9 st a with
  | .own _ _=>false
  | _=>true)
 | _=>false
def Pa(cfg:Cfg)(ops:Array aH)(rem:List Nat)(oj oi:aH)(st:VS):Bool:=
 !(Ua cfg oi&&Fm oj st) &&
 match oi.op with
 | .store _ (.tmp y) _=>
  match oj.op with
  | .load _ a=>B07 ops rem y&&(match C9 st a,st.env y with
   | .own k _,.own k' _=> !aR k k'
   | .val _,.own _ _=>true
   | .own _ _,.val _=>true
   | _,_=>false)
  | _=>true
 | .store _ _ _=>false
 | _=>true
def B2s(P:aT)(cfg:Cfg)(al:Nat->List Nat)(oj:aH)(j:Nat):Bool:=Bh P cfg oj&&(al j).isEmpty
def A91(P:aT)(cfg:Cfg)(ops:Array aH)(anc:List (List Nat))(al:Nat->List Nat)(rem:List Nat)(st:VS)(oj:aH)(j i:Nat):Bool:=
 has (anc.getD i []) j ||
 match ops[i]? with
 | some oi=>B2s P cfg al oj j&&oj.apart ops oi&&Pa cfg ops rem oj oi st
 | none=>false
def Dc(cfg:Cfg)(o:aH):Bool:=
 match o.op with
 | .store _ _ _=>false
 | _=> !Ua cfg o
def Xt(P:aT)(cfg:Cfg)(ops:Array aH)(anc:List (List Nat))(al:Nat->List Nat)(rem:List Nat)(st:VS)(oj:aH)(j i:Nat):Bool:=
 A91 P cfg ops anc al rem st oj j i||(!B2s P cfg al oj j&&has (al j) i)
def B9q(i:Nat):List Nat->List Nat
 | []=>[]
 | x::L=>bif aR x i then [] else x::B9q i L
def del(i:Nat):List Nat->List Nat
 | []=>[]
 | x::L=>bif aR x i then L else x::del i L
def A20(P:aT)(cfg:Cfg)(anc:List (List Nat))(al:Nat->List Nat)(oj:aH)(j:Nat)(L:List Nat):List Nat:=
 match B2s P cfg al oj j with
 | true=>[]
 | false=>(al j).filter fun i=>has L i&&(B9q i L).all (fun x=> !has (anc.getD i []) x) && !has (anc.getD i []) j
def C58(f:Nat->Prop):Nat->List Nat->Prop
 | i,[]=>f i
 | i,k::r=>f i/\C58 f k r
def C59(A:Prop)(f:Nat->Prop):List Nat->Prop
 | []=>A
 | i::r=>A/\C58 f i r
def Fg(P:aT)(cfg:Cfg)(ops:Array aH)(anc:List (List Nat))(al:Nat->List Nat):Nat->List Nat->VS->aF->(VS->aF->Prop)->Prop
 | _,[],st,h,K=>K st h
 | 0,_::_,_,_,_=>False
 | n+1,j::L,st,h,K=>
  match ops[j]? with
  | none=>False
  | some o=>When (L.all (Xt P cfg ops anc al L st o j))
   (C59 (Pn P cfg ops o (Dc cfg o) st h fun st' h'=>Fg P cfg ops anc al n L st' h' K)
    (fun i=>
     match ops[i]? with
     | none=>False
     | some oi=>Pn P cfg ops oi (Dc cfg oi) st h fun st' h'=>Fg P cfg ops anc al n (j::del i L) st' h' K)
    (A20 P cfg anc al o j L))
def B1e{f:Nat->Prop}{i:Nat}: ∀ {k:Nat} {r:List Nat},C58 f k r->i∈k::r->f i
 | k,[],x,h=>by rw [List.mem_singleton.1 h];exact x
 | k,m::r,x,h=>by
  rcases List.mem_cons.1 h with rfl|h
  ·exact x.1
  ·exact B1e x.2 h
def A5g{A:Prop}{f:Nat->Prop}: ∀ {r:List Nat},C59 A f r->A
 | [],x=>x
 | _::_,x=>x.1
def B8z{A:Prop}{f:Nat->Prop}{i:Nat}: ∀ {r:List Nat},C59 A f r->i∈r->f i
 | [],_,h=>by cases h
 | _::_,x,h=>B1e x.2 h
def A4d{i:Nat}{L2:List Nat}: ∀ {L1:List Nat},i∉L1->B9q i (L1++i::L2)=L1/\del i (L1++i::L2)=L1++L2
 | [],_=>by simp [B9q,del]
 | x::L1,h=>by
  have hx:aR x i=false:=by
   cases e:aR x i with
   | false=>rfl
   | true=>
    simp_all
  obtain ⟨a,c⟩:=A4d (L2:=L2) (L1:=L1) (i:=i) (fun b=>h (List.mem_cons_of_mem _ b))
  simp only [aO,B9q,del,hx,a,c,cond_false,and_self]
def C2y(ops:Array aH)(anc:List (List Nat)):Bool:=
 (List.range ops.size).all fun i=>(anc.getD i []).all fun j=>
  match ops[i]? with
  | some o=>o.after.toList.any fun e=>Region.binds .any e&&(aR e.on j||has (anc.getD e.on []) j)
  | none=>false
def A94(ops:Array aH):List Nat->List Nat->Bool
 | _,[]=>true
 | done,i::L=>
  (match ops[i]? with
   | some o=>o.after.toList.all fun e=> !Region.binds .any e||has done e.on
   | none=>false) && !has done i&&A94 ops (i::done) L
def B0q(P:aT)(ops:Array aH)(ord:List Nat)(anc:List (List Nat)):Bool:=
 P.follows .mixedOrders&&C2y ops anc&&A94 ops [] ord&&(List.range ops.size).all (has ord)&&aR ord.length ops.size
section
variable {P:aT} {cfg:Cfg} {ops:Array aH}
structure AgreeOn (cfg:Cfg) (ops:Array aH) (o:aH) (st st':VS):Prop where
 env:∀ x∈o.looksAt ops,st'.env x=st.env x
 load:∀ t a k off,o.op= .load t a->C9 st a= .own k off->st'.own k=st.own k
 alloc:∀ d,T4 cfg o=true->o.dst=some d->st.own d=none->st'.own d=none
def AgreeOn.eval{o:aH}{st st':VS}(ag:AgreeOn cfg ops o st st'){x:aU}(hx:x∈o.op.operands):C9 st' x=C9 st x:=by
 cases x with
 | tmp t=>
  refine ag.env t ?_
  exact aL _ (List.mem_filterMap.2 ⟨.tmp t,gz0,rfl⟩)
 | _=>rfl
def AgreeOn.rho{o:aH}{st st':VS}(ag:AgreeOn cfg ops o st st'){x:aU}(hx:x∈o.op.operands):rho st' x=rho st x:=by
 unfold Go.Proofs.YtbgkfnjmcjfokaaGreatDoor.rho;rw [ag.eval hx]
def A59{z:aJ}{K K':aJ->Prop}(x:exV z K)(hk:∀ v,K v->K' v):exV z K':=by
 cases z<;>(unfold exV at x ⊢)<;>first
  | grind
  | grind
def B40{zs:List aJ}: ∀ {K K':List aJ->Prop},exL zs K->(∀ v,K v->K' v)->exL zs K':=by
 induction zs with
 | nil=>exact fun x a=>a _ x
 | cons z zs ih=>exact fun x a=>A59 x fun v y=>ih y fun b=>a _
def B0b{z:aJ}{K:aJ->Prop}(x:exV z K):∃ v,K v/\∀ K':aJ->Prop,K' v->exV z K':=by
 cases z<;>(unfold exV at x)<;>first
  | (obtain ⟨n,a⟩:=x;exact ⟨_,a,fun K' y=>⟨_,y⟩⟩)
  | (obtain ⟨p,n,c,a⟩:=x;exact ⟨_,a,fun K' y=>⟨_,_,_,y⟩⟩)
def B8e{zs:List aJ}: ∀ {K:List aJ->Prop},exL zs K->∃ vs,K vs/\∀ K':List aJ->Prop,K' vs->exL zs K':=by
 induction zs with
 | nil=>exact fun x=>⟨[],x,fun _ y=>y⟩
 | cons z zs ih=>
  intro K x
  obtain ⟨v,c,b⟩:=B0b x
  obtain ⟨vs,a,d⟩:=ih c
  exact ⟨v::vs,a,fun K' y=>b _ (d _ y)⟩
def A3w{h:aF}{a:Addr}: ∀ {vs:List aJ} {j:Nat} {X:Prop},cellsAt h a j vs X->X/\∀ h' (Y:Prop),h.le h'->Y->cellsAt h' a j vs Y:=by
 intro vs
 induction vs with
 | nil=>exact fun x=>⟨x,fun _ _ _ y=>y⟩
 | cons v vs ih=>
  intro j X ⟨h1,h2⟩
  obtain ⟨c,d⟩:=ih h2
  exact ⟨c,fun h' Y b y=>⟨B7 b h1,d h' Y b y⟩⟩
def A1d{h:aF}{t:aV}{a:Addr}{C:aQ->Prop}(x:Y6 P t a h C):∃ u,C (.val u)/\∀ h' (C':aQ->Prop),h.le h'->C' (.val u)->Y6 P t a h' C':=by
 cases hag:Mi P t with
 | none=>simp only [Y6,hag] at x
 | some b=>
  cases b with
  | true=>
   simp only [Y6,hag] at x
   split at x
   ·rename_i zs l
    obtain ⟨k,x⟩:=x.both
    obtain ⟨m,c,e⟩:=B8e x
    obtain ⟨g,n⟩:=A3w c
    refine ⟨_,g,fun h' C' d y=>?_⟩
    simp only [Y6,hag,l,k]
    grind
   grind
  | false=>
   simp only [Y6,hag] at x
   obtain ⟨v,⟨j,i⟩,e⟩:=B0b x
   refine ⟨_,i,fun h' C' d y=>?_⟩
   simp only [Y6,hag]
   exact e _ ⟨B7 d j,y⟩
def A3i{t:aV}{cs:List aJ}{off:Nat}{C:aQ->Prop}(x:Y4 P t cs off C):∃ u,C (.val u)/\∀ C':aQ->Prop,C' (.val u)->Y4 P t cs off C':=by
 cases hag:Mi P t with
 | none=>simp only [Y4,hag] at x
 | some b=>
  cases b with
  | true=>
   simp only [Y4,hag] at x
   obtain ⟨c,x⟩:=x.both
   exact ⟨_,x,fun C' y=>by simp only [Y4,hag,c];exact y⟩
  | false=>
   simp only [Y4,hag] at x
   split at x
   ·rename_i v a
    exact ⟨_,x,fun C' y=>by simp only [Y4,hag,a];exact y⟩
   grind
def Z6{v:Option aQ}{dflt y:Nat}{C:Nat->Prop}(x:slBound v dflt y C):∃ m,C m/\∀ C':Nat->Prop,C' m->slBound v dflt y C':=by
 rcases x.out with ⟨rfl,a⟩|⟨k,i,rfl,c,b,a⟩
 ·exact ⟨_,a,fun _ z=>z⟩
 ·exact ⟨_,a,fun _ z=>⟨⟨c,b⟩,z⟩⟩
def A2j{t:aV}{x:aQ}{lo hi:Option aQ}{C:aQ->Prop}(hv:Ep P t x lo hi C):∃ u,C (.val u)/\∀ C':aQ->Prop,C' (.val u)->Ep P t x lo hi C':=by
 unfold Ep at hv
 split at hv
 ·rename_i s d
  obtain ⟨m,b,j⟩:=Z6 hv
  obtain ⟨l,g,k⟩:=Z6 b
  exact ⟨_,g,fun C' y=>by simp only [Ep,d];grind⟩
 ·rename_i e A n c d
  obtain ⟨i,hv⟩:=hv.both
  obtain ⟨m,b,j⟩:=Z6 hv
  obtain ⟨l,g,k⟩:=Z6 b
  exact ⟨_,g,fun C' y=>by simp only [Ep,d,i];grind⟩
 ·rename_i n e a d
  obtain ⟨i,hv⟩:=hv.both
  obtain ⟨m,b,j⟩:=Z6 hv
  obtain ⟨l,g,k⟩:=Z6 b
  exact ⟨_,g,fun C' y=>by simp only [Ep,d,i];grind⟩
 grind
def Wl{b:Bool}{X Y:Prop}(x:Br b X Y):(b=true/\X)\/(b=false/\Y):=by
 cases b
 ·exact .inr ⟨rfl,x⟩
 ·exact .inl ⟨rfl,x⟩
def Rl{t:aV}{x i:aQ}{C:aQ->Prop}(hv:P8 P t x i C):
 ∃ v,C v/\(∀ k off,v= .own k off->∃ off',x= .own k off')/\∀ C':aQ->Prop,C' v->P8 P t x i C':=by
 unfold P8 at hv
 split at hv
 ·rename_i len e k off _ n b
  obtain ⟨d,hv⟩:=hv.both
  rcases Wl hv with ⟨e,hv⟩|⟨_,hv⟩
  ·exact ⟨_,hv,(fun j off' g=>gz0),fun C' y=>by simp only [P8,b,d,e];exact y⟩
  grind
 ·rename_i len e a _ n b
  obtain ⟨d,l,hv⟩:=hv.both
  exact ⟨_,hv,(fun j off' g=>by cases g),fun C' y=>by simp only [P8,b,d];grind⟩
 ·rename_i e A n c _ i b
  obtain ⟨d,a,l,m,p,hv⟩:=hv.both
  exact ⟨_,hv,(fun j off' g=>by cases g),fun C' y=>by simp only [P8,b,d];simp_all⟩
 grind
def K4{st st':VS}{xs:List aU}(h:∀ x∈xs,C9 st' x=C9 st x):I0 st' xs=I0 st xs:=by
 unfold I0
 grind
def Np{o:aH}{st:VS}(hsel:∀ cs b,o.op ≠ .select cs b){C:aQ->Prop}(hv:Kq P o st C):∃ u,C (.val u)/\∀ st' (C':aQ->Prop),AgreeOn cfg ops o st st'->C' (.val u)->Kq P o st' C':=by
 unfold Kq at hv
 split at hv
 ·rename_i e
  split at hv
  ·refine ⟨_,hv,fun st' C' a y=>?_⟩
   unfold Kq
   have d:I0 st' o.op.operands.toList=true:=by rw [K4 (fun x c=>a.eval gz0)];exact e
   have g:execOp (rho st') o=execOp (rho st) o:=execOp_congr o hsel fun x c=>a.rho c
   grind
  grind
 grind
def Zr{t:aV}{xs ys:Array aJ}{C:Bool->Prop}(hv:Zs P t xs ys C):∃ b,C b/\∀ C':Bool->Prop,C' b->Zs P t xs ys C':=by
 unfold Zs at hv
 split at hv
 ·rename_i e a
  obtain ⟨c,hv⟩:=hv.both
  split at hv
  ·rename_i b d
   exact ⟨b,hv,fun C' y=>by simp only [Zs,a,c,d];exact y⟩
  grind
 grind
def A7j{o:aH}{st:VS}{op:BinOp}{t t':aV}{x z:aU}(hop:o.op= .binOp op t x z t'){C:aQ->Prop}(hv:Iy P o st op t (C9 st x) (C9 st z) C):
 ∃ u,C (.val u)/\∀ st' (C':aQ->Prop),AgreeOn cfg ops o st st'->C' (.val u)->Iy P o st' op t (C9 st' x) (C9 st' z) C':=by
 have j:∀ cs b,o.op ≠ .select cs b:=gz0
 have g:∀ st',AgreeOn cfg ops o st st'->C9 st' x=C9 st x/\C9 st' z=C9 st z:=fun st' a=>⟨a.eval (by rw [hop];simp [aC]),a.eval (by rw [hop];simp [aC])⟩
 unfold Iy at hv
 split at hv
 ·rename_i d c
  obtain ⟨b,k,l⟩:=Zr hv
  exact ⟨_,k,fun st' C' a y=>by simp only [Iy,d,c];grind⟩
 ·rename_i d c
  obtain ⟨b,k,l⟩:=Zr hv
  exact ⟨_,k,fun st' C' a y=>by simp only [Iy,d,c];grind⟩
 ·rename_i d c
  obtain ⟨i,hv⟩:=hv.both
  exact ⟨_,hv,fun st' C' a y=>by rw [(g st' a).1,(g st' a).2];simp only [Iy,d,c,i];exact y⟩
 ·rename_i d c
  obtain ⟨i,hv⟩:=hv.both
  exact ⟨_,hv,fun st' C' a y=>by rw [(g st' a).1,(g st' a).2];simp only [Iy,d,c,i];exact y⟩
 ·rename_i d c
  obtain ⟨i,hv⟩:=hv.both
  rcases Wl hv with ⟨e,hv⟩|⟨e,hv⟩
  ·exact hv.elim
  ·exact ⟨_,hv,fun st' C' a y=>by rw [(g st' a).1,(g st' a).2];simp only [Iy,d,c,i,e];exact y⟩
 ·rename_i d c
  obtain ⟨i,hv⟩:=hv.both
  rcases Wl hv with ⟨e,hv⟩|⟨e,hv⟩
  ·exact hv.elim
  ·exact ⟨_,hv,fun st' C' a y=>by rw [(g st' a).1,(g st' a).2];simp only [Iy,d,c,i,e];exact y⟩
 ·rename_i d c
  rcases Wl hv with ⟨e,hv⟩|⟨e,hv⟩
  ·exact hv.elim
  ·exact ⟨_,hv,fun st' C' a y=>by rw [(g st' a).1,(g st' a).2];simp only [Iy,d,c,e];exact y⟩
 ·rename_i d c
  rcases Wl hv with ⟨e,hv⟩|⟨e,hv⟩
  ·exact hv.elim
  ·exact ⟨_,hv,fun st' C' a y=>by rw [(g st' a).1,(g st' a).2];simp only [Iy,d,c,e];exact y⟩
 ·rename_i d c
  exact ⟨_,hv.2,fun st' C' a y=>by simp only [Iy,d,c];grind⟩
 ·obtain ⟨u,m,l⟩:=Np (cfg:=cfg) (ops:=ops) j hv
  refine ⟨u,m,fun st' C' a y=>?_⟩
  unfold Iy
  grind
def B6e{o:aH}{st:VS}{h:aF}(hsel:∀ cs b,o.op ≠ .select cs b){C:aQ->Prop}(hv:vcQ P o st h C):
 ∃ v,C v/\(∀ k off,v= .own k off->∃ x off',x∈o.op.operands/\C9 st x= .own k off')/\∀ st' h' C',(Fm o st=true->h.le h')->AgreeOn cfg ops o st st'->C' v->vcQ P o st' h' C':=by
 unfold vcQ at hv
 split at hv
 ·rename_i x a
  refine ⟨_,hv,(fun k off e=>⟨x,off,(by rw [a];simp [aC]),e⟩),fun st' h' C' g d y=>?_⟩
  unfold vcQ;simp only [a,d.eval (x:=x) (by rw [a];simp [aC])];exact y
 ·rename_i x a
  refine ⟨_,hv,(fun k off e=>⟨x,off,(by rw [a];simp [aC]),e⟩),fun st' h' C' g d y=>?_⟩
  unfold vcQ;simp only [a,d.eval (x:=x) (by rw [a];simp [aC])];exact y
 ·rename_i c x z a
  split at hv
  ·rename_i b B
   have O:∀ st',AgreeOn cfg ops o st st'->C9 st' c= .val (.bool b)/\C9 st' x=C9 st x/\C9 st' z=C9 st z:=fun st' d=>
    ⟨by rw [d.eval (x:=c) (by rw [a];simp [aC])];exact B,d.eval (by rw [a];simp [aC]),d.eval (by rw [a];simp [aC])⟩
   rcases Wl hv with ⟨e,hv⟩|⟨e,hv⟩
   ·refine ⟨_,hv,(fun k off e=>⟨x,off,(by rw [a];simp [aC]),e⟩),fun st' h' C' g d y=>?_⟩
    obtain ⟨G,F,H⟩:=O st' d
    unfold vcQ;simp only [a,G,F,H,e];exact y
   ·refine ⟨_,hv,(fun k off e=>⟨z,off,(by rw [a];simp [aC]),e⟩),fun st' h' C' g d y=>?_⟩
    obtain ⟨G,F,H⟩:=O st' d
    unfold vcQ;simp only [a,G,F,H,e];exact y
  grind
 ·rename_i t x a
  have p:∀ st',AgreeOn cfg ops o st st'->C9 st' x=C9 st x:=fun st' d=>d.eval (by rw [a];simp [aC])
  split at hv
  ·rename_i k off n
   split at hv
   ·rename_i cs N
    obtain ⟨u,j,q⟩:=A3i hv
    refine ⟨_,j,(fun k off e=>by cases e),fun st' h' C' g d y=>?_⟩
    unfold vcQ;simp only [a,p st' d,n,d.load t x k off a n,N];grind
   grind
  ·rename_i R n
   obtain ⟨u,j,q⟩:=A1d hv
   refine ⟨_,j,(fun k off e=>by cases e),fun st' h' C' g d y=>?_⟩
   unfold vcQ;simp only [a,p st' d,n];exact q h' C' (g (by simp only [Fm,a,n])) y
  grind
 ·rename_i s x f a
  have p:∀ st',AgreeOn cfg ops o st st'->C9 st' x=C9 st x:=fun st' d=>d.eval (by rw [a];simp [aC])
  split at hv
  ·rename_i k off n
   split at hv
   ·split at hv
    ·obtain ⟨B,hv⟩:=hv.both
     refine ⟨_,hv,(fun M off' e=>by cases e;exact ⟨x,off,(by rw [a];simp [aC]),n⟩),fun st' h' C' g d y=>?_⟩
     unfold vcQ;grind
    grind
   grind
  ·split at hv
   ·split at hv
    ·obtain ⟨B,hv⟩:=hv.both
     refine ⟨_,hv,(fun M off' e=>by cases e),fun st' h' C' g d y=>?_⟩
     unfold vcQ;grind
    grind
   grind
  grind
 ·rename_i x a
  have p:∀ st',AgreeOn cfg ops o st st'->C9 st' x=C9 st x:=fun st' d=>d.eval (by rw [a];simp [aC])
  split at hv
  ·rename_i k off n
   refine ⟨_,hv,(fun M off' e=>by cases e;exact ⟨x,off,(by rw [a];simp [aC]),n⟩),fun st' h' C' g d y=>?_⟩
   unfold vcQ;grind
  ·obtain ⟨R,hp,hv⟩:=hv
   refine ⟨_,hv,(fun M off' e=>by cases e),fun st' h' C' g d y=>?_⟩
   unfold vcQ;grind
  grind
 ·rename_i t x i a
  obtain ⟨v,j,S,q⟩:=Rl hv
  refine ⟨_,j,(fun k off e=>let ⟨off',e'⟩:=S k off e;⟨x,off',(by rw [a];simp [aC]),e'⟩),fun st' h' C' g d y=>?_⟩
  unfold vcQ;simp only [a,d.eval (x:=x) (by rw [a];simp [aC]),d.eval (x:=i) (by rw [a];simp [aC])];grind
 ·rename_i t x i a
  have p:∀ st',AgreeOn cfg ops o st st'->C9 st' x=C9 st x/\C9 st' i=C9 st i:=fun st' d=>⟨d.eval (by rw [a];simp [aC]),d.eval (by rw [a];simp [aC])⟩
  split at hv
  ·obtain ⟨c,W,hv⟩:=hv
   refine ⟨_,hv,(fun k off e=>by cases e),fun st' h' C' g d y=>?_⟩
   unfold vcQ;grind
  ·obtain ⟨u,j,q⟩:=Np (cfg:=cfg) (ops:=ops) hsel hv
   refine ⟨_,j,(fun k off e=>by cases e),fun st' h' C' g d y=>?_⟩
   unfold vcQ;grind
 ·rename_i t x w r a
  obtain ⟨u,j,q⟩:=A2j hv
  refine ⟨_,j,(fun k off e=>by cases e),fun st' h' C' g d y=>?_⟩
  have p:C9 st' x=C9 st x:=d.eval (by rw [a];simp [aC])
  have E:w.map (C9 st')=w.map (C9 st):=by
   cases w with
   | none=>rfl
   | some z=>simp only [Option.map_some];rw [d.eval (x:=z) (by rw [a];simp [aC])]
  have D:r.map (C9 st')=r.map (C9 st):=by
   cases r with
   | none=>rfl
   | some z=>simp only [Option.map_some];rw [d.eval (x:=z) (by rw [a];simp [aC])]
  unfold vcQ;grind
 ·rename_i t x w r mx a
  have ev:∀ st',AgreeOn cfg ops o st st'->C9 st' x=C9 st x/\C9 st' w=C9 st w/\C9 st' r=C9 st r/\C9 st' mx=C9 st mx:=fun st' d=>⟨d.eval (by rw [a];simp [aC]),d.eval (by rw [a];simp [aC]),d.eval (by rw [a];simp [aC]),d.eval (by rw [a];simp [aC])⟩
  unfold Kp at hv
  split at hv
  ·rename_i e A m c T l k2 h' X b Q p E D L
   obtain ⟨B,G,F,H,hv⟩:=hv.both
   refine ⟨_,hv,(fun k off e=>by cases e),fun st' h' C' g d y=>?_⟩
   unfold vcQ;simp only [a,(ev st' d).1,(ev st' d).2.1,(ev st' d).2.2.1,(ev st' d).2.2.2,p,E,D,L,Kp,Q,B]
   grind
  grind
 ·rename_i op t x z V a
  obtain ⟨u,j,q⟩:=A7j (cfg:=cfg) (ops:=ops) a hv
  refine ⟨_,j,(fun k off e=>by cases e),fun st' h' C' g d y=>?_⟩
  unfold vcQ;grind
 ·exact hv.elim
 ·obtain ⟨u,j,q⟩:=Np (cfg:=cfg) (ops:=ops) hsel hv
  refine ⟨_,j,(fun k off e=>by cases e),fun st' h' C' g d y=>?_⟩
  unfold vcQ
  grind
inductive Upd where
 | put (d:Option Nat) (v:aQ)
 | own (d:Nat) (cs:List aJ)
def Upd.app:Upd->VS->VS
 | .put d v,s=>s.putO d v
 | .own d cs,s=>(s.put d (.own d 0)).setOwn d cs
def Upd.dst:Upd->Option Nat
 | .put d _=>d
 | .own d _=>some d
def Kf{o:aH}{j:Nat}{want:Bool}{g:Nat}(hg:o.guard=some (j,want))(hd:(ops[j]?).bind (·.dst)=some g):g∈o.looksAt ops:=by
 unfold Oper.looksAt
 grind
def Yy{o:aH}{st:VS}{h:aF}{gr:Bool}{K:VS->aF->Prop}(hs:Bh P cfg o=true)(hv:X5 P cfg o gr st h K):
 ∃ u:Upd,u.dst=o.dst/\K (u.app st) h/\(∀ d cs,u= .own d cs->st.own d=none)/\(∀ d v k off,u= .put d v->v= .own k off->∃ x off',x∈o.op.operands/\C9 st x= .own k off')/\(∀ d cs,u= .own d cs->T4 cfg o=true)/\
  ∀ st' h' (K':VS->aF->Prop),(Fm o st=true->h.le h')->AgreeOn cfg ops o st st'->K' (u.app st') h'->X5 P cfg o gr st' h' K':=by
 obtain ⟨C,hv⟩:=hv.both
 split at hv
 ·rename_i m
  have n:∀ cs b,o.op ≠ .select cs b:=fun cs b e=>by simp [Sa,e] at m
  obtain ⟨v,D,O,s⟩:=B6e (cfg:=cfg) (ops:=ops) n hv
  refine ⟨.put o.dst v,rfl,D,(fun d cs e=>by cases e),(fun d L k off e M=>gz0),(fun d cs e=>by cases e),fun st' h' K' p j y=>?_⟩
  unfold X5;rw [C];simp only [When,m];exact s st' h' _ p j y
 ·rename_i m
  have a:T4 cfg o=true:=by simpa [Bh,m] using hs
  have l:∀ cells:List aJ,Gn cfg o.dst cells st h K->∃ u:Upd,u.dst=o.dst/\K (u.app st) h/\(∀ d cs,u= .own d cs->st.own d=none)/\(∀ d v k off,u= .put d v->v= .own k off->∃ x off',x∈o.op.operands/\C9 st x= .own k off')/\(∀ d cs,u= .own d cs->T4 cfg o=true)/\
   ∀ st' h' (K':VS->aF->Prop),(Fm o st=true->h.le h')->AgreeOn cfg ops o st st'->K' (u.app st') h'->Gn cfg o.dst cells st' h' K':=by
   intro cells hv
   unfold Gn at hv
   split at hv
   ·rename_i d i
    obtain ⟨g,hv⟩:=hv.both
    simp only [aE,Option.isNone_iff_eq_none] at g
    refine ⟨.own d cells,i.symm,hv,(fun F cs e=>gz0),(fun F v k off e _=>by cases e),(fun _ _ _=>a),fun st' h' K' p j y=>?_⟩
    have H:st'.own d=none:=j.alloc d a i g.2
    rw [i]
    simp only [Gn,g.1.1,g.1.2,H,Option.isNone_none,Bool.and_self,When]
    exact y
   grind
  unfold T4 at a
  split at hv
  ·rename_i t c
   rw [c] at a
   simp only [a] at hv
   obtain ⟨N,hv⟩:=hv.both
   obtain ⟨u,z,r,A,w,B,E⟩:=l _ hv
   refine ⟨u,z,r,A,w,B,fun st' h' K' p j y=>?_⟩
   unfold X5;grind
  ·rename_i t x c
   rw [c] at a
   obtain ⟨G,hv⟩:=hv.both
   simp only [a] at hv
   obtain ⟨u,z,r,A,w,B,E⟩:=l _ hv
   refine ⟨u,z,r,A,w,B,fun st' h' K' p j y=>?_⟩
   have q:=j.eval (x:=x) (by rw [c];simp [aC])
   unfold X5;simp only [When,m,c,a,q,G,j.rho (x:=x) (by rw [c];simp [aC])];grind
  all_goals grind
def B5o{o:aH}{st:VS}{h:aF}{gr:Bool}{K:VS->aF->Prop}(hs:Bh P cfg o=true)(hv:Pn P cfg ops o gr st h K):
 ∃ u:Upd,u.dst=o.dst/\K (u.app st) h/\(∀ d cs,u= .own d cs->st.own d=none)/\(∀ d v k off,u= .put d v->v= .own k off->∃ x off',x∈o.op.operands/\C9 st x= .own k off')/\(∀ d cs,u= .own d cs->T4 cfg o=true)/\
  ∀ st' h' (K':VS->aF->Prop),(Fm o st=true->h.le h')->AgreeOn cfg ops o st st'->K' (u.app st') h'->Pn P cfg ops o gr st' h' K':=by
 unfold Pn at hv
 split at hv
 ·obtain ⟨u,z,r,C,w,D,F⟩:=Yy (ops:=ops) hs hv
  exact ⟨u,z,r,C,w,D,fun st' h' K' B m y=>by unfold Pn;grind⟩
 ·rename_i j s p
  split at hv
  ·exact hv.elim
  ·rename_i i g
   split at hv
   ·rename_i b n
    have c:=Kf p g
    have skip:∀ E:Bool,b=E->When (Q7 cfg o.dst) (K ((st.put i (.val (.bool E))).putO o.dst (.val undef)) h)->Q7 cfg o.dst=true/\K (st.putO o.dst (.val undef)) h:=by
     intro E e x
     subst e
     rw [aI st n] at x
     exact x.both
    cases b<;>cases s
    ·have l:X5 P cfg o gr (st.put i (.val (.bool false))) h K:=hv
     rw [aI st n] at l
     obtain ⟨u,z,r,C,w,D,F⟩:=Yy (ops:=ops) hs l
     refine ⟨u,z,r,C,w,D,fun st' h' K' B m y=>?_⟩
     have a:st'.env i= .val (.bool false):=by rw [m.env i c];exact n
     unfold Pn;simp only [p,g,a,Br]
     rw [aI st' a];grind
    ·obtain ⟨q,A⟩:=skip false rfl hv
     refine ⟨.put o.dst (.val undef),rfl,A,(fun d cs e=>by cases e),(fun d v k off e G=>gz0),(fun d cs e=>by cases e),fun st' h' K' B m y=>?_⟩
     have a:st'.env i= .val (.bool false):=by rw [m.env i c];exact n
     unfold Pn;simp only [p,g,a,Br]
     rw [aI st' a,q];exact y
    ·obtain ⟨q,A⟩:=skip true rfl hv
     refine ⟨.put o.dst (.val undef),rfl,A,(fun d cs e=>by cases e),(fun d v k off e G=>gz0),(fun d cs e=>by cases e),fun st' h' K' B m y=>?_⟩
     have a:st'.env i= .val (.bool true):=by rw [m.env i c];exact n
     unfold Pn;simp only [p,g,a,Br]
     rw [aI st' a,q];exact y
    ·have l:X5 P cfg o gr (st.put i (.val (.bool true))) h K:=hv
     rw [aI st n] at l
     obtain ⟨u,z,r,C,w,D,F⟩:=Yy (ops:=ops) hs l
     refine ⟨u,z,r,C,w,D,fun st' h' K' B m y=>?_⟩
     have a:st'.env i= .val (.bool true):=by rw [m.env i c];exact n
     unfold Pn;simp only [p,g,a,Br]
     rw [aI st' a];grind
   ·rename_i H n
    have c:=Kf p g
    obtain ⟨q,A⟩:=hv.both
    refine ⟨.put o.dst (.val undef),rfl,A,(fun d cs e=>by cases e),(fun d v k off e G=>gz0),(fun d cs e=>by cases e),fun st' h' K' B m y=>?_⟩
    have a:st'.env i= .val (.tuple H):=by rw [m.env i c];exact n
    unfold Pn;simp only [p,g,a]
    rw [q];exact y
   grind
def Iu{z:aJ}{K K':aJ->Prop}(x:exT z K)(hk:∀ v,K v->K' v):exT z K':=by
 unfold exT at x ⊢
 split at x
 ·exact B40 x fun a=>hk _
 ·exact A59 x hk
def B0c{zs:List aJ}: ∀ {K K':List aJ->Prop},exTs zs K->(∀ v,K v->K' v)->exTs zs K':=by
 induction zs with
 | nil=>exact fun x a=>a _ x
 | cons z zs ih=>exact fun x a=>Iu x fun v y=>ih y fun b=>a _
def Hp{t:aV}{K K':aJ->Prop}(x:exRt P t K)(hk:∀ v,K v->K' v):exRt P t K':=by
 unfold exRt at x ⊢
 split at x
 ·exact B0c x fun a=>hk _
 ·exact Iu x hk
def WFs(st:VS):Prop:=∀ i k off,st.env i= .own k off->(st.own k).isSome=true
structure Frm (o:aH) (st st':VS):Prop where
 env:∀ x,o.dst≠some x->st'.env x=st.env x
 own:∀ k,(o.dst=some k->(st.own k).isSome=true)->(∀ t a b off,o.op= .store t a b->C9 st a ≠ .own k off)->st'.own k=st.own k
 wf:WFs st'
def Yq{st:VS}(wf:WFs st){x:aU}{k off:Nat}(e:C9 st x= .own k off):(st.own k).isSome=true:=by
 cases x with
 | tmp t=>exact wf t k off e
 | _=>cases e
def Nx(st:VS)(d:Option Nat)(v:aQ)(x:Nat):(st.putO d v).env x=if d=some x then v else st.env x:=by
 cases d with
 | none=>rfl
 | some d=>
  by_cases h:x=d
  ·subst h;simp [VS.putO,VS.put]
  ·have:¬ d=x:=fun e=>h e.symm
   simp [VS.putO,VS.put,Ef h,this]
def J3{o:aH}{st:VS}(wf:WFs st)(u:aJ):Frm o st (st.putO o.dst (.val u)):=by
 refine ⟨fun x b=>by rw [Nx,iN b],fun k _ _=>by rw [O5],fun i k a e=>?_⟩
 rw [Nx] at e
 rw [O5]
 split at e
 ·cases e
 ·exact wf i k a e
def Ek{u:Upd}{st:VS}{x:Nat}(h:u.dst≠some x):(u.app st).env x=st.env x:=by
 cases u with
 | put d v=>simp only [Upd.app,Nx];rw [iN (show d≠some x from h)]
 | own d cs=>
  have:x≠d:=fun e=>h (by rw [e];rfl)
  simp [Upd.app,VS.setOwn,VS.put,Ef this]
def Bp{u:Upd}{st:VS}{k:Nat}(h:∀ d cs,u= .own d cs->k≠d):(u.app st).own k=st.own k:=by
 cases u with
 | put d v=>simp only [Upd.app,O5]
 | own d cs=>exact F9 _ _ (h d cs rfl)
def Ps(st:VS){d e:Nat}(v u:aQ)(h:d≠e):(st.put d v).put e u=(st.put e u).put d v:=by
 unfold VS.put
 congr 1
 funext i
 by_cases a:i=d
 ·subst a;simp [Ef h]
 ·by_cases b:i=e
  ·simp [Ef a]
  ·simp [Ef a,Ef b]
def E5{u:Upd}{st:VS}{d:Option Nat}{v:aQ}(h:∀ x,u.dst=some x->d≠some x):(u.app st).putO d v=u.app (st.putO d v):=by
 cases d with
 | none=>rfl
 | some d=>
  cases u with
  | put e w=>
   cases e with
   | none=>rfl
   | some e=>exact Ps st w v (fun x=>h e rfl (congrArg some x.symm))
  | own e cs=>
   have:=Ps st (.own e 0) v (fun x=>h e rfl (congrArg some x.symm))
   show ((st.put e (.own e 0)).setOwn e cs).put d v=((st.put d v).put e (.own e 0)).setOwn e cs
   rw [<- this];rfl
def Ij{u:Upd}{st:VS}{k:Nat}{cs:List aJ}(h:∀ d c,u= .own d c->k≠d):(u.app st).setOwn k cs=u.app (st.setOwn k cs):=by
 cases u with
 | put d v=>cases d<;>rfl
 | own d c=>
  have b:=h d c rfl
  show ((st.put d (.own d 0)).setOwn d c).setOwn k cs=((st.setOwn k cs).put d (.own d 0)).setOwn d c
  unfold VS.setOwn VS.put
  congr 1
  funext i
  by_cases a:i=d
  ·subst a;simp [Ef (Ne.symm b)]
  ·by_cases e:i=k
   ·simp [Ef a]
   ·simp [Ef a,Ef e]
def Upd.comm{u v:Upd}{st:VS}(h:∀ x,u.dst=some x->v.dst≠some x):v.app (u.app st)=u.app (v.app st):=by
 cases v with
 | put d w=>exact E5 h
 | own d cs=>
  have a:(u.app st).put d (.own d 0)=u.app (st.put d (.own d 0)):=E5 (d:=some d) h
  show ((u.app st).put d (.own d 0)).setOwn d cs=_
  rw [a,Ij (fun e c eq=>by subst eq;exact fun x=>h e rfl (by rw [<- x];rfl))];rfl
def Frm.upd{o:aH}{u:Upd}{st:VS}(hd:u.dst=o.dst)(wf:WFs st)(hv:∀ d v k off,u= .put d v->v= .own k off->∃ x off',C9 st x= .own k off')(hn:∀ d cs,u= .own d cs->st.own d=none):Frm o st (u.app st):=by
 refine ⟨fun x b=>Ek gz0,fun k c _=>Bp (fun d cs e=>?_),fun i k off e=>?_⟩
 ·rintro rfl
  have:=c (by rw [<- hd,e];rfl)
  grind
 cases u with
 | put d v=>
  simp only [Upd.app,O5] at e ⊢
  rw [Nx] at e
  split at e
  ·obtain ⟨x,off',b⟩:=hv d v k off rfl e
   exact Yq wf b
  ·exact wf i k off e
 | own d cs=>
  by_cases a:i=d
  ·subst a
   have:((st.put i (.own i 0)).setOwn i cs).env i= .own i 0:=by simp [VS.setOwn,VS.put]
   simp only [Upd.app] at e ⊢
   rw [this] at e
   injection e with e1 e2;subst e1
   rw [Z7];rfl
  ·rw [Ek (u:=.own d cs) (fun x=>a (by cases x;rfl))] at e
   have:=wf i k off e
   rw [Bp (u:=.own d cs) (fun j g l=>gz0)];exact this
structure Before (cfg:Cfg) (ops:Array aH) (u:Upd) (o:aH) (st:VS):Prop where
 look:∀ x,u.dst=some x->x∉o.looksAt ops
 dst:∀ x,u.dst=some x->o.dst≠some x
 free:∀ d cs,u= .own d cs->st.own d=none
 wf:WFs st
def Before.eval{u:Upd}{o:aH}{st:VS}(b:Before cfg ops u o st){x:aU}(hx:x∈o.op.operands):C9 (u.app st) x=C9 st x:=by
 cases x with
 | tmp t=>
  refine Ek fun e=>b.look t e ?_
  exact aL _ (List.mem_filterMap.2 ⟨.tmp t,gz0,rfl⟩)
 | _=>rfl
def Before.rho{u:Upd}{o:aH}{st:VS}(b:Before cfg ops u o st){x:aU}(hx:x∈o.op.operands):rho (u.app st) x=rho st x:=by
 unfold Go.Proofs.YtbgkfnjmcjfokaaGreatDoor.rho;rw [b.eval hx]
def Before.key{u:Upd}{o:aH}{st:VS}(b:Before cfg ops u o st){x:aU}{k off:Nat}(e:C9 st x= .own k off):∀ d cs,u= .own d cs->k≠d:=by
 rintro d cs a rfl
 have:=Yq b.wf e
 rw [b.free k cs a] at this;cases this
def Grw(cfg:Cfg)(o:aH)(st:VS)(h h':aF):Prop:=Ua cfg o=false->(∀ t a b,o.op= .store t a b->∃ k off,C9 st a= .own k off)->h.le h'
def Grw.of{cfg:Cfg}{o:aH}{st:VS}{h h':aF}(x:h.le h'):Grw cfg o st h h':=fun _ _=>x
def Grow.map{gr:Bool}{h h':aF}{X Y:Prop}(x:Grow gr h h' X)(f:X->(gr=true->h.le h')->Y):Grow gr h h' Y:=by
 cases gr
 ·exact f x (fun e=>by cases e)
 ·exact ⟨x.1,f x.2 (fun _=>x.1)⟩
def Mm{u:Upd}{o:aH}{st:VS}(b:Before cfg ops u o st){s:Sem aJ}{h:aF}{K:VS->aF->Prop}{K':VS->aF->Prop}(hk:∀ st' h',K (u.app st') h'->Grw cfg o st h h'->Frm o st st'->K' st' h')(x:effV P s o true (u.app st) h K):
 effV P s o true st h K':=by
 refine S8 s x fun v h' y=>Iu y fun w ⟨c,a,d⟩=>⟨c,a,hk _ _ ?_ (Grw.of a) (J3 b.wf w)⟩
 rwa [E5 (fun z e=>b.dst z e)] at d
def Ou{u:Upd}{o:aH}{st:VS}{gr:Bool}(b:Before cfg ops u o st)(hgw:Ua cfg o=false->gr=true){s:Sem aJ}{h:aF}{K:VS->aF->Prop}{K':VS->aF->Prop}(hk:∀ st' h',K (u.app st') h'->Grw cfg o st h h'->Frm o st st'->K' st' h')(x:effV P s o gr (u.app st) h K):
 effV P s o gr st h K':=by
 refine S8 s x fun v h' y=>Iu y fun w ⟨d,a⟩=>⟨d,a.map fun g c=>hk _ _ ?_ (fun e _=>c (hgw e)) (J3 b.wf w)⟩
 rwa [E5 (fun z i=>b.dst z i)] at g
def B0k{u:Upd}{o:aH}{st:VS}(b:Before cfg ops u o st){s:Sem aJ}{h:aF}{K:VS->aF->Prop}{K':VS->aF->Prop}(hk:∀ st' h',K (u.app st') h'->Grw cfg o st h h'->Frm o st st'->K' st' h')(x:effT P s o true (u.app st) h K):
 effT P s o true st h K':=by
 refine S8 s x fun v h' y=>Hp y fun w ⟨c,a,d⟩=>⟨c,a,hk _ _ ?_ (Grw.of a) (J3 b.wf w)⟩
 rwa [E5 (fun z e=>b.dst z e)] at d
def B0l{u:Upd}{o:aH}{st:VS}(b:Before cfg ops u o st)(hw:Ua cfg o=true){s:Sem aJ}{h:aF}{K:VS->aF->Prop}{K':VS->aF->Prop}(hk:∀ st' h',K (u.app st') h'->Grw cfg o st h h'->Frm o st st'->K' st' h')(x:effN P s o false (u.app st) h K):
 effN P s o false st h K':=by
 refine S8 s x fun v h' y=>?_
 rcases y with ⟨c,a⟩|⟨k,w,c,a⟩
 ·refine .inl ⟨c,hk _ _ ?_ (fun e=>by rw [hw] at e;cases e) (J3 b.wf _)⟩
  have a:K ((u.app st).putO o.dst (.val (.tuple #[.bool false]))) h':=a
  rwa [E5 (fun z d=>b.dst z d)] at a
 ·refine .inr ⟨k,w,c,hk _ _ ?_ (fun e=>by rw [hw] at e;cases e) (J3 b.wf _)⟩
  have a:K ((u.app st).putO o.dst (.val (.tuple #[.bool true,k,w]))) h':=a
  rwa [E5 (fun z d=>b.dst z d)] at a
def B0m{tk tx:aV}{u:Upd}{o:aH}{st:VS}(b:Before cfg ops u o st){s:Sem aJ}{h:aF}{K:VS->aF->Prop}{K':VS->aF->Prop}(hk:∀ st' h',K (u.app st') h'->Grw cfg o st h h'->Frm o st st'->K' st' h')(x:effE P tk tx s o true (u.app st) h K):
 effE P tk tx s o true st h K':=by
 refine S8 s x fun v h' y=>Iu y fun k y=>Iu y fun w ⟨c,a,d⟩=>⟨c,a,hk _ _ ?_ (Grw.of a) (J3 b.wf _)⟩
 rwa [E5 (fun z e=>b.dst z e)] at d
def B0i{u:Upd}{o:aH}{st:VS}(b:Before cfg ops u o st)(hw:Ua cfg o=true){s:Sem Unit}{h:aF}{K:VS->aF->Prop}{K':VS->aF->Prop}(hk:∀ st' h',K (u.app st') h'->Grw cfg o st h h'->Frm o st st'->K' st' h')(x:effU P s o false (u.app st) h K):
 effU P s o false st h K':=by
 refine S8 s x fun v h' a=>?_
 have a:K ((u.app st).putO o.dst (.val undef)) h':=a
 rw [E5 (fun z c=>b.dst z c)] at a
 exact hk _ _ a (fun e=>by rw [hw] at e;cases e) (J3 b.wf _)
def Ta{u:Upd}{o:aH}{st:VS}(b:Before cfg ops u o st){s:Sem aJ}{h:aF}{K:VS->aF->Prop}{K':VS->aF->Prop}(hk:∀ st' h',K (u.app st') h'->Grw cfg o st h h'->Frm o st st'->K' st' h')(x:effP P s o true (u.app st) h K):
 effP P s o true st h K':=by
 refine S8 s x fun v h' ⟨w,c,a,d⟩=>⟨w,c,a,hk _ _ ?_ (Grw.of a) (J3 b.wf _)⟩
 rwa [E5 (fun z e=>b.dst z e)] at d
def B0j{u:Upd}{o:aH}{st:VS}(b:Before cfg ops u o st){s:Sem Unit}{h:aF}{K:VS->aF->Prop}{K':VS->aF->Prop}(hno:¬ (∀ t a b,o.op= .store t a b->∃ k off,C9 st a= .own k off))(hk:∀ st' h',K (u.app st') h'->Grw cfg o st h h'->Frm o st st'->K' st' h')(x:effU P s o false (u.app st) h K):
 effU P s o false st h K':=by
 refine S8 s x fun v h' c=>?_
 rw [E5 (fun z e=>b.dst z e)] at c
 exact hk _ _ c (fun _ d=>absurd d hno) (J3 b.wf _)
def Ti{u:Upd}{o:aH}{st:VS}(b:Before cfg ops u o st)(hs:Bh P cfg o=false){h:aF}{K:VS->aF->Prop}{K':VS->aF->Prop}(hk:∀ st' h',K (u.app st') h'->Grw cfg o st h h'->Frm o st st'->K' st' h')(hv:X5 P cfg o (Dc cfg o) (u.app st) h K):X5 P cfg o (Dc cfg o) st h K':=by
 unfold X5 at hv ⊢
 obtain ⟨hd,hv⟩:=hv.both
 rw [hd]
 simp only [Bh,Bool.or_eq_false_iff] at hs
 simp only [hs.1] at hv ⊢
 show (match o.op with
  | .alloc t=>_
  | .box t x=>_
  | .store t a x=>_
  | .makeSlice t l c=>_
  | .buildSlice t n ps=>_
  | .convert s d x=>_
  | .call c=>_
  | .makeMap t none=>_
  | .lookup t x i ok=>_
  | .mapUpdate t m k v=>_
  | .range t x=>_
  | .next it s=>_
  | .entry it=>_
  | _=>_)
 split at hv
 ·rename_i t g
  have j:Dc cfg o=true:=by simp [Dc,Ua,g]
  rw [j] at hv ⊢
  have:Mh cfg o.dst=false:=by simpa [T4,g] using hs.2
  simp only [g,this] at hv ⊢
  exact Ta b hk hv
 ·rename_i t x g
  have j:Dc cfg o=true:=by simp [Dc,Ua,g]
  rw [j] at hv ⊢
  have:Mh cfg o.dst=false:=by simpa [T4,g] using hs.2
  have G:x∈o.op.operands:=by rw [g];simp [aC]
  simp only [g,this,b.eval G,b.rho G] at hv ⊢
  obtain ⟨q,hv⟩:=hv.both
  rw [q]
  exact Ta b hk hv
 ·rename_i t a x g
  have j:Dc cfg o=false:=by simp [Dc,g]
  rw [j] at hv ⊢
  have B:a∈o.op.operands:=by rw [g];simp [aC]
  have G:x∈o.op.operands:=by rw [g];simp [aC]
  simp only [g]
  unfold A2i at hv ⊢
  rw [b.eval B] at hv
  split at hv
  ·rename_i k ab X
   have M:=b.key X
   rw [Bp M] at hv
   try simp only [X]
   split at hv
   ·try simp only [hcs]
    rw [b.eval G,b.rho G] at hv
    obtain ⟨q,hv⟩:=hv.both
    rw [q]
    rw [Ij M,E5 (fun z H=>b.dst z H)] at hv
    refine hk _ _ hv (Grw.of (B0 h)) (⟨fun y A=>by rw [Nx,iN A];rfl,fun k' _ L=>?_,fun i k' R e=>?_⟩)
    ·rw [O5,F9]
     grind
    ·rw [Nx] at e
     rw [O5]
     split at e
     ·cases e
     ·have:=b.wf i k' R e
      by_cases T:k'=k
      ·subst T;rw [Z7];rfl
      ·rw [F9 _ _ T];exact this
   omega
  ·try simp only [W]
   rw [b.eval G,b.rho G] at hv
   obtain ⟨q,hv⟩:=hv.both
   rw [q]
   exact B0j b (fun G=>gz0) hk hv
  omega
 ·rename_i t l c g
  have j:Dc cfg o=true:=by simp [Dc,Ua,g]
  rw [j] at hv ⊢
  have hl:l∈o.op.operands:=by rw [g];simp [aC]
  have hc:c∈o.op.operands:=by rw [g];simp [aC]
  have B:I0 (u.app st) [l,c]=I0 st [l,c]:=K4 fun y A=>by
   simp only [List.mem_cons,List.not_mem_nil,or_false] at A
   rcases A with rfl|rfl
   ·exact b.eval hl
   ·exact b.eval hc
  simp only [g]
  rw [B,b.rho hl,b.rho hc] at hv
  obtain ⟨q,hv⟩:=hv.both
  rw [q]
  exact Mm b hk hv
 ·rename_i t n ps g
  have j:Dc cfg o=true:=by simp [Dc,Ua,g]
  rw [j] at hv ⊢
  have W:∀ p∈ps,p.2∈o.op.operands:=fun p W=>by
   simp only [aC,List.mem_toArray,List.mem_map,Array.mem_toList_iff]
   grind
  have B:I0 (u.app st) (ps.toList.map (·.2))=I0 st (ps.toList.map (·.2)):=K4 fun y A=>by
   obtain ⟨p,V,rfl⟩:=List.mem_map.1 A
   exact b.eval (W p gz0)
  have N:(ps.map fun (i,x)=>(i,rho (u.app st) x))=ps.map fun (i,x)=>(i,rho st x):=by
   apply Array.map_congr_left
   intro p V
   simp only [b.rho (W p V)]
  simp only [g]
  rw [B,N] at hv
  obtain ⟨q,hv⟩:=hv.both
  rw [q]
  exact Mm b hk hv
 ·rename_i s d x g
  have j:Dc cfg o=true:=by simp [Dc,Ua,g]
  rw [j] at hv ⊢
  have G:x∈o.op.operands:=by rw [g];simp [aC]
  have B:I0 (u.app st) [x]=I0 st [x]:=K4 fun y A=>by
   simp only [List.mem_cons,List.not_mem_nil,or_false] at A
   rw [A];exact b.eval G
  simp only [g]
  rw [B,b.rho G] at hv
  obtain ⟨q,hv⟩:=hv.both
  rw [q]
  exact Mm b hk hv
 ·rename_i c g
  generalize j:Dc cfg o=gr at hv ⊢
  have D:Ua cfg o=false->gr=true:=fun e=>by rw [<- j];simp [Dc,g,e]
  have F:∀ y∈c.args,y∈o.op.operands:=fun y A=>by
   simp only [aC,Call.operands];grind
  have B:I0 (u.app st) c.args.toList=I0 st c.args.toList:=K4 fun y A=>b.eval (F y gz0)
  have N:c.args.map (rho (u.app st))=c.args.map (rho st):=Array.map_congr_left fun y A=>b.rho (F y A)
  simp only [g]
  split at hv
  ·rename_i f E
   try simp only [E]
   unfold A4c at hv ⊢
   have hf:f∈o.op.operands:=by rw [g];simp [aC,Call.operands,E]
   rw [b.eval hf] at hv
   split at hv
   ·try simp only [hfe]
    split at hv
    ·rw [B,N] at hv
     obtain ⟨q,hv⟩:=hv.both
     try simp only [hhas]
     rw [q]
     refine FCall.mono hv fun r h' y=>Hp y fun w ⟨q,L⟩=>⟨q,L.map fun Q O=>hk _ _ ?_ (fun e _=>O (D e)) (J3 b.wf w)⟩
     rwa [E5 (fun z H=>b.dst z H)] at Q
    ·rw [B,N] at hv
     obtain ⟨q,hv⟩:=hv.both
     try simp only [hhas]
     rw [q]
     refine ECall.mono hv fun r h' y=>Hp y fun w ⟨q,L⟩=>⟨q,L.map fun Q O=>hk _ _ ?_ (fun e _=>O (D e)) (J3 b.wf w)⟩
     rwa [E5 (fun z H=>b.dst z H)] at Q
   ·try simp only [hfe]
    rw [B,N] at hv
    obtain ⟨q,hv⟩:=hv.both
    rw [q]
    refine YCall.mono hv fun r h' y=>Hp y fun w ⟨q,L⟩=>⟨q,L.map fun Q O=>hk _ _ ?_ (fun e _=>O (D e)) (J3 b.wf w)⟩
    rwa [E5 (fun z H=>b.dst z H)] at Q
   omega
  ·try simp only [E]
   rw [B,N] at hv
   obtain ⟨q,hv⟩:=hv.both
   rw [q]
   exact Ou b D hk hv
  ·try simp only [E]
   rw [B,N] at hv
   obtain ⟨q,hv⟩:=hv.both
   rw [q]
   exact Ou b D hk hv
  ·try simp only [E]
   unfold Wq at hv ⊢
   have S:∀ y∈o.op.operands,C9 (u.app st) y=C9 st y:=fun y A=>b.eval A
   rw [K4 (fun y A=>S y (by simpa using A)),execOp_congr (ρ:=Go.Proofs.YtbgkfnjmcjfokaaGreatDoor.rho (u.app st)) (ρ':=Go.Proofs.YtbgkfnjmcjfokaaGreatDoor.rho st) o (fun cs b e=>by rw [g] at e;cases e) (fun y A=>b.rho A)] at hv
   obtain ⟨q,hv⟩:=hv.both
   rw [q]
   split at hv
   ·rename_i gf aa W
    refine FCall.mono hv fun r h' y=>Hp y fun w ⟨q,L⟩=>⟨q,L.map fun Q O=>hk _ _ ?_ (fun e _=>O (D e)) (J3 b.wf w)⟩
    rwa [E5 (fun z H=>b.dst z H)] at Q
   ·exact hv.elim
  ·try simp only [E]
   rw [B,N] at hv
   obtain ⟨q,hv⟩:=hv.both
   rw [q]
   exact Ou b D hk hv
  omega
 ·rename_i t g
  have j:Dc cfg o=true:=by simp [Dc,Ua,g]
  rw [j] at hv ⊢
  simp only [g]
  exact Mm b hk hv
 ·rename_i t x i ok g
  have j:Dc cfg o=true:=by simp [Dc,Ua,g]
  rw [j] at hv ⊢
  have C:∀ y∈[x,i],y∈o.op.operands:=fun y A=>by rw [g];simpa [aC] using A
  have B:I0 (u.app st) [x,i]=I0 st [x,i]:=K4 fun y A=>b.eval (C y A)
  simp only [g]
  rw [B,b.rho (C x (by simp)),b.rho (C i (by simp))] at hv
  obtain ⟨q,hv⟩:=hv.both
  rw [q]
  exact B0k b hk hv
 ·rename_i t m k v g
  have j:Dc cfg o=false:=by simp [Dc,Ua,g]
  rw [j] at hv ⊢
  have C:∀ y∈[m,k,v],y∈o.op.operands:=fun y A=>by rw [g];simpa [aC] using A
  have B:I0 (u.app st) [m,k,v]=I0 st [m,k,v]:=K4 fun y A=>b.eval (C y A)
  simp only [g]
  rw [B,b.rho (C m (by simp)),b.rho (C k (by simp)),b.rho (C v (by simp))] at hv
  obtain ⟨q,hv⟩:=hv.both
  rw [q]
  exact B0i b (by simp [Ua,g]) hk hv
 ·rename_i t x g
  have j:Dc cfg o=true:=by simp [Dc,Ua,g]
  rw [j] at hv ⊢
  have C:∀ y∈[x],y∈o.op.operands:=fun y A=>by rw [g];simpa [aC] using A
  have B:I0 (u.app st) [x]=I0 st [x]:=K4 fun y A=>b.eval (C y A)
  simp only [g]
  rw [B,b.rho (C x (by simp))] at hv
  obtain ⟨q,hv⟩:=hv.both
  rw [q]
  exact Ta b hk hv
 ·rename_i it s g
  have j:Dc cfg o=false:=by simp [Dc,Ua,g]
  rw [j] at hv ⊢
  have C:∀ y∈[it],y∈o.op.operands:=fun y A=>by rw [g];simpa [aC] using A
  have B:I0 (u.app st) [it]=I0 st [it]:=K4 fun y A=>b.eval (C y A)
  simp only [g]
  rw [B,b.rho (C it (by simp))] at hv
  obtain ⟨q,hv⟩:=hv.both
  rw [q]
  exact B0l b (by simp [Ua,g]) hk hv
 ·rename_i it g
  have j:Dc cfg o=true:=by simp [Dc,Ua,g]
  rw [j] at hv ⊢
  have C:∀ y∈[it],y∈o.op.operands:=fun y A=>by rw [g];simpa [aC] using A
  have B:I0 (u.app st) [it]=I0 st [it]:=K4 fun y A=>b.eval (C y A)
  simp only [g]
  rw [B,b.rho (C it (by simp))] at hv
  obtain ⟨q,hv⟩:=hv.both
  rw [q]
  exact B0m b hk hv
 grind
def A96{u:Upd}{o:aH}{st:VS}(b:Before cfg ops u o st){h:aF}{K:VS->aF->Prop}{K':VS->aF->Prop}(hk:∀ st' h',K (u.app st') h'->Grw cfg o st h h'->Frm o st st'->K' st' h')(hv:Pn P cfg ops o (Dc cfg o) (u.app st) h K):Pn P cfg ops o (Dc cfg o) st h K':=by
 cases hs:Bh P cfg o with
 | true=>
  obtain ⟨v,m,l,S,N,V,O⟩:=B5o (ops:=ops) hs hv
  have T:AgreeOn cfg ops o (u.app st) st:=by
   refine ⟨fun x y=>(Ek fun e=>b.look x e y).symm,fun t a k s A e=>?_,fun d _ L F=>(Bp fun R H e=>?_).symm.trans F⟩
   ·rw [b.eval (by rw [A];simp [aC])] at e
    exact (Bp (b.key e)).symm
   ·rintro rfl
    exact b.dst d (by rw [e];rfl) L
  refine O st h _ (fun _=>B0 h) T (hk _ _ ?_ (Grw.of (B0 h)) (Frm.upd m b.wf (fun d w k s e B=>?_) (fun d H e=>?_)))
  ·rw [<- Upd.comm (fun x y=>by rw [m];exact b.dst x y)];exact l
  ·obtain ⟨x,p,y,E⟩:=N d w k s e B
   exact ⟨x,p,by rw [<- b.eval y];exact E⟩
  ·have:=S d H e
   rwa [Bp (fun R Q B=>by
    rintro rfl
    exact b.dst d (by rw [B];rfl) (by rw [<- m,e];rfl))] at this
 | false=>
  unfold Pn at hv ⊢
  split at hv
  ·exact Ti b hs hk hv
  ·rename_i j r M
   split at hv
   ·exact hv.elim
   ·rename_i i D
    have q:=Kf (o:=o) M D
    have E:(u.app st).env i=st.env i:=Ek fun e=>b.look i e q
    rw [E] at hv
    split at hv
    ·rename_i G n
     have g:(u.app st).env i= .val (.bool G):=gz0
     have skip:Q7 cfg o.dst=true/\K ((u.app st).putO o.dst (.val undef)) h->When (Q7 cfg o.dst) (K' (st.putO o.dst (.val undef)) h):=by
      rintro ⟨m,l⟩
      rw [m]
      rw [E5 (fun z C=>b.dst z C)] at l
      exact hk _ _ l (Grw.of (B0 h)) (J3 b.wf _)
     try simp only [n]
     cases G<;>cases r
     ·have c:X5 P cfg o (Dc cfg o) ((u.app st).put i (.val (.bool false))) h K:=hv
      rw [aI _ g] at c
      rw [aI st n]
      exact Ti b hs hk c
     ·have c:When (Q7 cfg o.dst) (K (((u.app st).put i (.val (.bool false))).putO o.dst (.val undef)) h):=hv
      rw [aI _ g] at c
      rw [aI st n]
      exact skip c.both
     ·have c:When (Q7 cfg o.dst) (K (((u.app st).put i (.val (.bool true))).putO o.dst (.val undef)) h):=hv
      rw [aI _ g] at c
      rw [aI st n]
      exact skip c.both
     ·have c:X5 P cfg o (Dc cfg o) ((u.app st).put i (.val (.bool true))) h K:=hv
      rw [aI _ g] at c
      rw [aI st n]
      exact Ti b hs hk c
    ·try simp only [n]
     obtain ⟨m,l⟩:=hv.both
     rw [m]
     rw [E5 (fun z C=>b.dst z C)] at l
     exact hk _ _ l (Grw.of (B0 h)) (J3 b.wf _)
    omega
def Sg{o:aH}{st:VS}(wf:WFs st){h:aF}{K K':VS->aF->Prop}(hv:Pn P cfg ops o (Dc cfg o) st h K)(hk:∀ st' h',K st' h'->Grw cfg o st h h'->Frm o st st'->K' st' h'):Pn P cfg ops o (Dc cfg o) st h K':=
 A96 (u:=.put none (.val undef)) ⟨(fun x e=>by cases e),(fun x e=>by cases e),(fun d a e=>by cases e),wf⟩ hk hv
def B4f{oj oi x:aH}{st st':VS}{rem rem':List Nat}(hsub:∀ i∈rem',i∈rem)(hfr:Frm oi st st')(hap:oj.apart ops oi=true)(hmem:∃ i:Nat,i∈rem/\ops[i]? = some oi)(h:Pa cfg ops rem oj x st=true):Pa cfg ops rem' oj x st'=true:=by
 obtain ⟨_,_,k⟩:=Oper.apart_spec hap
 unfold Pa at h ⊢
 simp only [aE] at h ⊢
 obtain ⟨p,h⟩:=h
 have d:Fm oj st'=Fm oj st:=by
  unfold Fm
  split
  ·rename_i l a c
   have j:C9 st' a=C9 st a:=by
    cases a with
    | tmp z=>
     refine hfr.env z fun e=>k z e ?_
     exact aL _ (List.mem_filterMap.2 ⟨.tmp z,by rw [c];simp [aC],rfl⟩)
    | _=>rfl
   rw [j]
  ·rfl
 refine ⟨gz0,?_⟩
 split at h
 ·rename_i t y b q
  split at h
  ·rename_i l a c
   simp only [aE] at h ⊢
   refine ⟨List.all_eq_true.2 fun i g=>List.all_eq_true.1 h.1 i (hsub i g),?_⟩
   have j:C9 st' a=C9 st a:=by
    cases a with
    | tmp z=>
     refine hfr.env z fun e=>k z e ?_
     exact aL _ (List.mem_filterMap.2 ⟨.tmp z,by rw [c];simp [aC],rfl⟩)
    | _=>rfl
   have n:st'.env y=st.env y:=by
    refine hfr.env y fun e=>?_
    obtain ⟨i,g,m⟩:=hmem
    have:=List.all_eq_true.1 h.1 i g
    simp_all
   grind
  ·exact h
 ·exact h
 ·exact h
def swap{oj oi:aH}{st:VS}{rem:List Nat}(wf:WFs st)(hs:Bh P cfg oj=true)(hap:oj.apart ops oi=true)(hc:Pa cfg ops rem oj oi st=true){h:aF}{K:VS->aF->Prop}
 (hv:Pn P cfg ops oj (Dc cfg oj) st h fun st1 h1=>Pn P cfg ops oi (Dc cfg oi) st1 h1 K):Pn P cfg ops oi (Dc cfg oi) st h fun st1 h1=>Frm oi st st1/\Pn P cfg ops oj (Dc cfg oj) st1 h1 K:=by
 obtain ⟨Q,z,H⟩:=Oper.apart_spec hap
 obtain ⟨u,h1,C,N,R,V,G⟩:=B5o (ops:=ops) hs hv
 have b:Before cfg ops u oi st:=⟨fun x e=>Q x gz0,fun x e=>z x gz0,N,wf⟩
 have p:=hc
 unfold Pa at p
 have L:Fm oj st=true->Ua cfg oi=false:=fun e=>by
  grind
 refine A96 b (fun q E F M n=>⟨n,G q E K (fun c=>M (L c) fun s m w l=>?_) ?_ F⟩) C
 ·obtain ⟨t,x,hld⟩:∃ t x,oj.op= .load t x:=by
   unfold Fm at c
   grind
  cases m with
  | tmp y=>
   show ∃ k g,st.env y= .own k g
   have B:∀ k g,C9 st x ≠ .own k g:=by
    intro k g e
    unfold Fm at c
    grind
   grind
  | _=>grind
 refine ⟨fun x O=>n.env x fun e=>H x e O,fun t a k g D e=>n.own k (fun _=>Yq wf e) (fun s m w j l i=>?_),fun d S A r=>(n.own d (fun e=>absurd e (z d A)) (fun s m w j l i=>?_)).trans r⟩
 ·cases m with
  | tmp y=>
   have T:st.env y= .own k j:=i
   simp_all
  | _=>grind
 ·have:=Yq wf i
  grind
def C2q{anc:List (List Nat)}{al:Nat->List Nat}{i:Nat}{oi:aH}(hi:ops[i]? = some oi){L2:List Nat}{K:VS->aF->Prop}: ∀ (L1:List Nat) (n:Nat) (st:VS) (h:aF),n=L1.length+L2.length->WFs st->(∀ j∈L1,has (anc.getD i []) j=false)->i∉L1->
 Fg P cfg ops anc al (n+1) (L1++i::L2) st h K->Pn P cfg ops oi (Dc cfg oi) st h fun st' h'=>WFs st'/\Fg P cfg ops anc al n (L1++L2) st' h' K:=by
 intro L1
 induction L1 with
 | nil=>
  intro n st h _ wf _ _ l
  simp only [List.nil_append,Fg,hi] at l
  exact Sg wf (A5g l.both.2) fun st' h' g _ m=>⟨m.wf,g⟩
 | cons j L1 ih=>
  intro n st h R wf e B l
  obtain ⟨n,rfl⟩:∃ n',n=n'+1:=⟨L1.length+L2.length,gz0⟩
  have A:n=L1.length+L2.length:=gz0
  have p:i∉L1:=fun C=>B (by simp [C])
  simp only [aO,Fg] at l
  split at l
  ·exact l.elim
  ·rename_i u E
   obtain ⟨c,l⟩:=l.both
   have c:=List.all_eq_true.1 c
   have b:=c i (by simp)
   unfold Xt at b
   rw [aP] at b
   rcases b with b|b
   ·unfold A91 at b
    rw [e j (by simp),hi] at b
    simp only [Bool.false_or,aE] at b
    obtain ⟨⟨q,w⟩,N⟩:=b
    have L:Bh P cfg u=true:=by
     unfold B2s at q
     grind
    have s:Pn P cfg ops u (Dc cfg u) st h fun d s=>Pn P cfg ops oi (Dc cfg oi) d s fun r D=>WFs r/\Fg P cfg ops anc al n (L1++L2) r D K:=
     Sg wf (A5g l) fun d s g _ m=>ih n d s A m.wf (fun k F=>e k (by simp [F])) p g
    refine Sg wf (swap wf L w N s) fun d s ⟨m,g⟩ _ _=>⟨m.wf,?_⟩
    simp only [aO,Fg,E]
    have z:(L1++L2).all (Xt P cfg ops anc al (L1++L2) d u j)=true:=by
     refine List.all_eq_true.2 fun x Q=>?_
     have a:=c x (by
      grind)
     unfold Xt at a ⊢
     rw [q] at a ⊢
     simp only [Bool.not_true,Bool.false_and,Bool.or_false] at a ⊢
     unfold A91 at a ⊢
     simp only [aP] at a ⊢
     rcases a with a|a
     ·grind
     ·refine .inr ?_
      split at a
      ·simp only [aE] at a ⊢
       exact ⟨a.1,B4f (rem:=L1++i::L2) (fun y O=>by
        grind) m w ⟨i,by simp,hi⟩ a.2⟩
      omega
    rw [z]
    have M:A20 P cfg anc al u j (L1++L2)=[]:=by unfold A20;rw [q]
    rw [M]
    exact Sg m.wf g fun r D ⟨_,g⟩ _ _=>g
   ·simp only [aE,Bool.not_eq_true'] at b
    obtain ⟨H,G⟩:=A4d (L2:=L2) p
    have C:i∈A20 P cfg anc al u j (L1++i::L2):=by
     unfold A20
     rw [b.1]
     refine List.mem_filter.2 ⟨Ab.1 b.2,?_⟩
     rw [H,Ab.2 (show i∈L1++i::L2 by simp),e j (by simp)]
     grind
    have:=B8z l C
    simp only [hi] at this
    rw [G] at this
    exact Sg wf this fun st' h' g _ m=>⟨m.wf,by simp only [aO,Fg,E] at g ⊢;exact g⟩
def A66:∀ {L done:List Nat},A94 ops done L=true->L.Nodup/\(∀ i∈L,i∉done)/\∀ L1 i L2,L=L1++i::L2->∃ o,ops[i]? = some o/\∀ e∈o.after,Region.binds .any e=true->e.on∈done\/e.on∈L1:=by
 intro L
 induction L with
 | nil=>simp_all
 | cons x L ih=>
  intro done h
  simp only [A94,aE,Bool.not_eq_true'] at h
  obtain ⟨⟨b,c⟩,j⟩:=h
  obtain ⟨l,d,m⟩:=ih j
  have q:x∉done:=fun a=>by rw [Ab.2 a] at c;cases c
  refine ⟨List.nodup_cons.2 ⟨fun a=>d x a (by simp),l⟩,fun i p=>?_,fun L1 i L2 e=>?_⟩
  ·grind
  ·cases L1 with
   | nil=>
    obtain ⟨rfl,rfl⟩:=e
    split at b
    ·rename_i o g
     refine ⟨o,g,fun e n k=>.inl ?_⟩
     have:=List.all_eq_true.1 b e gz0
     rw [k] at this
     exact Ab.1 (by assumption)
    ·cases b
   | cons y L1=>
    grind
def Ym{listed:Array Bool}{i:Nat}(d:Bool)(h:i<listed.size):(listed.setIfInBounds i true).getD i d=true:=by
 simp [h]
def B1d{al:Nat->List Nat}{F:Fence}{fu:Nat}[FOk F]{n:Nat}{h0:aF}{W0:World}(hn:cfg.n=n)(hfn:Bodies P cfg.fns){anc:List (List Nat)}(hanc:C2y ops anc=true){Q:Exit->Act->World->Prop}{K:VS->aF->Prop}{ord:List Nat}(hord:A94 ops [] ord=true)(_hall:∀ i,i<ops.size->i∈ord):
 ∀ (m:Nat) (L:List Nat) (listed:Array Bool) (st:VS) (h:aF) (a:Act) (W:World),L.length=m->L.Sublist ord->listed.size=ops.size->(∀ i,i<ops.size->(listed.getD i true=false↔i∈L))->(∀ i j,listed.getD i false=true->has (anc.getD i []) j=true->listed.getD j false=true)->
  Good n h0 W0 st h a W->Fg P cfg ops anc al m L st h K->(∀ st' h' a' W',K st' h'->Good n h0 W0 st' h' a' W'->Agree cfg.lim st st'->Q .normal a' W')->wpAnyIn F fu P .any ops Q m listed a W:=by
 obtain ⟨aj,_,q⟩:=A66 hord
 intro m
 induction m with
 | zero=>
  intro L listed st h a W hl c ae b N g S R
  have:L=[]:=List.eq_nil_of_length_eq_zero hl
  subst this
  refine ⟨?_,R st h a W S g (Agree.refl _ _)⟩
  apply List.eq_nil_iff_forall_not_mem.2
  intro i E
  obtain ⟨h1,o,ho,_⟩:=mem_ready.1 E
  grind
 | succ m ih=>
  intro L listed st h a W hl c ae b N g S R
  have wf:WFs st:=by obtain ⟨θ,r,_,_⟩:=g;exact r.wf
  have inl:∀ i,i∈L->i<ops.size:=by
   intro i E
   obtain ⟨L1,L2,e⟩:=aN (c.subset E)
   obtain ⟨o,ho,_⟩:=q L1 i L2 e
   grind
  constructor
  ·
   intro x
   exfalso
   cases L with
   | nil=>grind
   | cons i L=>
    have E:=inl i (by simp)
    obtain ⟨L1,L2,e⟩:=aN (c.subset (show i∈i::L by simp))
    obtain ⟨o,ho,hp⟩:=q L1 i L2 e
    have:i∈Region.ready .any ops listed:=by
     refine mem_ready.2 ⟨(b i E).2 (by simp),o,ho,fun B T w=>?_⟩
     rcases hp B T w with h'|h'
     ·cases h'
     ·have am:B.on<ops.size:=by
       obtain ⟨M1,M2,e'⟩:=aN h'
       obtain ⟨o',ak,_⟩:=q M1 B.on (M2++i::L2) gz0
       grind
      have af:B.on∉i::L:=by
       intro hm
       have D:(i::L).Sublist (L1++i::L2):=gz0
       have z:(L1++i::L2).Nodup:=gz0
       have u:i∉L1:=fun H=>(List.nodup_append.1 z).2.2 i H i (by simp) rfl
       have ah:(i::L).Sublist (i::L2):=by
        clear x b N R S g ih hp T w
        revert D u
        clear z e h'
        induction L1 with
        | nil=>grind
        | cons y L1 ihL=>
         intro D u
         refine ihL ?_ (fun H=>u (by simp [H]))
         cases D with
         | cons _ h=>exact h
         | cons_cons _ h=>grind
       grind
      grind
    grind
  ·intro i E
   obtain ⟨h1,oi,s,M⟩:=mem_ready.1 E
   have p:=(Array.getElem?_eq_some_iff.1 s).1
   have ad:=(b i p).1 h1
   obtain ⟨L1,L2,e⟩:=aN ad
   have V:∀ j∈L1,has (anc.getD i []) j=false:=by
    intro j hj
    cases H:has (anc.getD i []) j with
    | false=>rfl
    | true=>
     exfalso
     have G:=List.all_eq_true.1 (List.all_eq_true.1 hanc i (List.mem_range.2 p)) j (Ab.1 H)
     simp only [s] at G
     obtain ⟨B,T,w⟩:=List.any_eq_true.1 G
     simp only [aE,aP] at w
     have C:=M B gz0 w.1
     have ai:listed.getD j false=true:=by
      rcases w.2 with h'|h'
      ·rw [<- aK h'];exact C
      grind
     grind
   have O:i∉L1:=by
    grind
   have ac:=C2q s (L2:=L2) L1 m st h gz0 wf V O (by rw [<- e];exact S)
   refine wpOpIn_mono (fun a' W' ⟨st',h',⟨_,hK⟩,g',ag⟩=>?_) (g.op hn hfn s ac)
   have A:∀ j d,(listed.setIfInBounds i true).getD j d=if j=i then true else listed.getD j d:=by
    intro j d
    by_cases l:j=i
    ·subst l;rw [iP rfl];exact Ym d oo
    ·rw [iN l];exact getD_set_ne d (Ne.symm l)
   refine ih (L1++L2) _ st' h' a' W' gz0 ?_ gz0 (fun j hj=>?_) (fun j k hj hk=>?_) g' hK fun ab h2 a2 W2 k g2 aa=>R ab h2 a2 W2 k g2 (ag.trans aa)
   ·refine List.Sublist.trans ?_ c
    grind
   ·rw [A]
    by_cases l:j=i
    ·grind
    ·grind
   ·rw [A] at hj ⊢
    by_cases X:k=i
    ·grind
    ·rw [iN X]
     by_cases l:j=i
     ·subst l
      have G:=List.all_eq_true.1 (List.all_eq_true.1 hanc j (List.mem_range.2 p)) k (Ab.1 hk)
      simp only [s] at G
      obtain ⟨B,T,w⟩:=List.any_eq_true.1 G
      simp only [aE,aP] at w
      have C:=M B gz0 w.1
      rcases w.2 with h'|h'
      ·rw [<- aK h'];exact C
      grind
     grind
def A6l{al:Nat->List Nat}{F:Fence}{fu:Nat}[FOk F]{n:Nat}{h0:aF}{W0:World}(hn:cfg.n=n)(hfn:Bodies P cfg.fns){id:Nat}{ord:List Nat}{anc:List (List Nat)}(hok:B0q P ops ord anc=true){Q:Exit->Act->World->Prop}{K:VS->aF->Prop}{st:VS}{h:aF}{a:Act}{W:World}
 (g:Good n h0 W0 st h a W) (hv:Fg P cfg ops anc al ord.length ord st h K) (hQ:∀ st' h' a' W',K st' h'->Good n h0 W0 st' h' a' W'->Agree cfg.lim st st'->Q .normal a' W'):(Code.region id ops true).wpIn F fu P Q a W:=by
 simp only [B0q,aE] at hok
 obtain ⟨⟨⟨⟨m,k⟩,q⟩,l⟩,e⟩:=hok
 refine wpIn_region_any m ?_
 have s:Good n h0 W0 st h a { W with drawn:=W.drawn+1 }:=by
  obtain ⟨θ,r,f,p⟩:=g
  exact ⟨θ,⟨r.defers,r.size,r.slot,r.sim,r.own,r.inj,r.wf,r.out⟩,⟨f.sim,f.os,f.tape,f.output,f.size,f.keep,f.new⟩,p⟩
 have b:∀ i,i<ops.size->i∈ord:=fun i c=>Ab.1 (List.all_eq_true.1 l i (List.mem_range.2 c))
 rw [aK e] at hv
 refine B1d hn hfn k q b ops.size ord _ st h a _ (aK e) (List.Sublist.refl _) (by simp) (fun i c=>?_) (fun i j c _=>?_) s hv hQ
 ·simp_all
 ·by_cases d:i<ops.size<;>simp [Array.getD,d] at c
end
