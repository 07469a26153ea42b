/- A part. -/
import Derived.Test.YtkfhdoblhajcbaaGreatDoorG02
set_option linter.all false
open Bool renaming and_eq_true->aD,or_eq_true->aM
open List renaming mem_append_left->aJ,append_of_mem->aK,cons_append->aL
open Nat renaming eq_of_beq_eq_true->aI,beq->aO
open _root_.Go.Op renaming operands->aC
open _root_.Go renaming Oper->aE,Value->aH,Program->aP,Operand->aQ,TypeId->aR
open _root_.Go.Proofs.YtkfhdoblhajcbaaGreatDoor renaming Heap->aF,put_self->aG,AVal->aN
namespace Go.Proofs.YtkfhdoblhajcbaaGreatDoor
open Go
def T5(cfg:Cfg)(o:aE):Bool:=
 match o.op with
 | .alloc _ | .box _ _=>Mm cfg o.dst
 | _=>false
def Bm(P:aP)(cfg:Cfg)(o:aE):Bool:=Ry P o||T5 cfg o
def B0t(ops:Array aE)(rem:List Nat)(y:Nat):Bool:=rem.all fun i=>match ops[i]? with
 | some o=>(match o.dst with
  | some d=> !aO d y
  | none=>true)
 | none=>true
def A8e(cfg:Cfg)(o:aE):Bool:=
 match o.op with
 | .call c=>
  match c.callee with
  | .value (.func g)=>has cfg.wr g
  | .value (.tmp _)=>true
  | .builtin .copy=>true
  | .builtin .append=>has cfg.wr 1000000000
  | _=>false
 | _=>false
def Gk(o:aE)(st:VS):Bool:=
 match o.op with
 | .load _ a=>(match D6 st a with
  | .own _ _=>false
  | _=>true)
 | _=>false
def Pb(cfg:Cfg)(ops:Array aE)(rem:List Nat)(oj oi:aE)(st:VS):Bool:=
 !(A8e cfg oi&&Gk oj st) &&
 match oi.op with
 | .store _ (.tmp y) _=>
  match oj.op with
  | .load _ a=>B0t ops rem y&&(match D6 st a,st.env y with
   | .own k _,.own k' _=> !aO k k'
   | .val _,.own _ _=>true
   | .own _ _,.val _=>true
   | _,_=>false)
  | _=>true
 | .store _ _ _=>false
 | _=>true
def B2p(P:aP)(cfg:Cfg)(al:Nat->List Nat)(oj:aE)(j:Nat):Bool:=Bm P cfg oj&&(al j).isEmpty
def A9v(P:aP)(cfg:Cfg)(ops:Array aE)(anc:List (List Nat))(al:Nat->List Nat)(rem:List Nat)(st:VS)(oj:aE)(j i:Nat):Bool:=
 has (anc.getD i []) j ||
 match ops[i]? with
 | some oi=>B2p P cfg al oj j&&oj.apart ops oi&&Pb cfg ops rem oj oi st
 | none=>false
def Kg(cfg:Cfg)(o:aE):Bool:=
 match o.op with
 | .store _ _ _=>false
 | _=> !A8e cfg o
def Xv(P:aP)(cfg:Cfg)(ops:Array aE)(anc:List (List Nat))(al:Nat->List Nat)(rem:List Nat)(st:VS)(oj:aE)(j i:Nat):Bool:=
 A9v P cfg ops anc al rem st oj j i||(!B2p P cfg al oj j&&has (al j) i)
def B88(i:Nat):List Nat->List Nat
 | []=>[]
 | x::L=>bif aO x i then [] else x::B88 i L
def del(i:Nat):List Nat->List Nat
 | []=>[]
 | x::L=>bif aO x i then L else x::del i L
def A2f(P:aP)(cfg:Cfg)(anc:List (List Nat))(al:Nat->List Nat)(oj:aE)(j:Nat)(L:List Nat):List Nat:=
 match B2p P cfg al oj j with
 | true=>[]
 | false=>(al j).filter fun i=>has L i&&(B88 i L).all (fun x=> !has (anc.getD i []) x) && !has (anc.getD i []) j
def C31(f:Nat->Prop):Nat->List Nat->Prop
 | i,[]=>f i
 | i,k::r=>f i/\C31 f k r
def C32(A:Prop)(f:Nat->Prop):List Nat->Prop
 | []=>A
 | i::r=>A/\C31 f i r
def Gf(P:aP)(cfg:Cfg)(ops:Array aE)(anc:List (List Nat))(al:Nat->List Nat):Nat->List Nat->VS->aF->(VS->aF->Prop)->Prop
 | _,[],st,h,K=>K st h
 | 0,_::_,_,_,_=>False
 | n+1,j::L,st,h,K=>
  match ops[j]? with
  | none=>False
  | some o=>When (L.all (Xv P cfg ops anc al L st o j))
   (C32 (Pm P cfg ops o (Kg cfg o) st h fun st' h'=>Gf P cfg ops anc al n L st' h' K)
    (fun i=>
     match ops[i]? with
     | none=>False
     | some oi=>Pm P cfg ops oi (Kg cfg oi) st h fun st' h'=>Gf P cfg ops anc al n (j::del i L) st' h' K)
    (A2f P cfg anc al o j L))
def B1p{f:Nat->Prop}{i:Nat}: ∀ {k:Nat} {r:List Nat},C31 f k r->i∈k::r->f i
 | k,[],x,h=>by rw [List.mem_singleton.1 h];exact x
 | k,m::r,x,h=>by
  rcases List.mem_cons.1 h with rfl|h
  ·exact x.1
  ·exact B1p x.2 h
def A65{A:Prop}{f:Nat->Prop}: ∀ {r:List Nat},C32 A f r->A
 | [],x=>x
 | _::_,x=>x.1
def B7n{A:Prop}{f:Nat->Prop}{i:Nat}: ∀ {r:List Nat},C32 A f r->i∈r->f i
 | [],_,h=>by cases h
 | _::_,x,h=>B1p x.2 h
def A4v{i:Nat}{L2:List Nat}: ∀ {L1:List Nat},i∉L1->B88 i (L1++i::L2)=L1/\del i (L1++i::L2)=L1++L2
 | [],_=>by simp [B88,del]
 | x::L1,h=>by
  have hx:aO x i=false:=by
   cases e:aO x i with
   | false=>rfl
   | true=>
    simp_all
  obtain ⟨a,c⟩:=A4v (L2:=L2) (L1:=L1) (i:=i) (fun b=>h (List.mem_cons_of_mem _ b))
  simp only [aL,B88,del,hx,a,c,cond_false,and_self]
def C12(ops:Array aE)(anc:List (List Nat)):Bool:=
 (List.range ops.size).all fun i=>(anc.getD i []).all fun j=>
  match ops[i]? with
  | some o=>o.after.toList.any fun e=>Region.binds .any e&&(aO e.on j||has (anc.getD e.on []) j)
  | none=>false
def A9y(ops:Array aE):List Nat->List Nat->Bool
 | _,[]=>true
 | done,i::L=>
  (match ops[i]? with
   | some o=>o.after.toList.all fun e=> !Region.binds .any e||has done e.on
   | none=>false) && !has done i&&A9y ops (i::done) L
def B15(P:aP)(ops:Array aE)(ord:List Nat)(anc:List (List Nat)):Bool:=
 P.follows .mixedOrders&&C12 ops anc&&A9y ops [] ord&&(List.range ops.size).all (has ord)&&aO ord.length ops.size
section
variable {P:aP} {cfg:Cfg} {ops:Array aE}
structure AgreeOn (cfg:Cfg) (ops:Array aE) (o:aE) (st st':VS):Prop where
 env:∀ x∈o.looksAt ops,st'.env x=st.env x
 load:∀ t a k off,o.op= .load t a->D6 st a= .own k off->st'.own k=st.own k
 alloc:∀ d,T5 cfg o=true->o.dst=some d->st.own d=none->st'.own d=none
def AgreeOn.eval{o:aE}{st st':VS}(ag:AgreeOn cfg ops o st st'){x:aQ}(hx:x∈o.op.operands):D6 st' x=D6 st x:=by
 cases x with
 | tmp t=>
  refine ag.env t ?_
  exact aJ _ (List.mem_filterMap.2 ⟨.tmp t,gz0,rfl⟩)
 | _=>rfl
def AgreeOn.rho{o:aE}{st st':VS}(ag:AgreeOn cfg ops o st st'){x:aQ}(hx:x∈o.op.operands):rho st' x=rho st x:=by
 unfold Go.Proofs.YtkfhdoblhajcbaaGreatDoor.rho;rw [ag.eval hx]
def A5w{z:aH}{K K':aH->Prop}(x:exV z K)(hk:∀ v,K v->K' v):exV z K':=by
 cases z<;>(unfold exV at x ⊢)<;>first
  | grind
  | grind
def B3t{zs:List aH}: ∀ {K K':List aH->Prop},exL zs K->(∀ v,K v->K' v)->exL zs K':=by
 induction zs with
 | nil=>exact fun x a=>a _ x
 | cons z zs ih=>exact fun x a=>A5w x fun v y=>ih y fun b=>a _
def B0w{z:aH}{K:aH->Prop}(x:exV z K):∃ v,K v/\∀ K':aH->Prop,K' v->exV z K':=by
 cases z<;>(unfold exV at x)<;>first
  | (obtain ⟨n,a⟩:=x;exact ⟨_,a,fun K' y=>⟨_,y⟩⟩)
  | (obtain ⟨p,n,c,a⟩:=x;exact ⟨_,a,fun K' y=>⟨_,_,_,y⟩⟩)
def B79{zs:List aH}: ∀ {K:List aH->Prop},exL zs K->∃ vs,K vs/\∀ K':List aH->Prop,K' vs->exL zs K':=by
 induction zs with
 | nil=>exact fun x=>⟨[],x,fun _ y=>y⟩
 | cons z zs ih=>
  intro K x
  obtain ⟨v,c,b⟩:=B0w x
  obtain ⟨vs,a,d⟩:=ih c
  exact ⟨v::vs,a,fun K' y=>b _ (d _ y)⟩
def A4f{h:aF}{a:Addr}: ∀ {vs:List aH} {j:Nat} {X:Prop},cellsAt h a j vs X->X/\∀ h' (Y:Prop),h.le h'->Y->cellsAt h' a j vs Y:=by
 intro vs
 induction vs with
 | nil=>exact fun x=>⟨x,fun _ _ _ y=>y⟩
 | cons v vs ih=>
  intro j X ⟨h1,h2⟩
  obtain ⟨c,d⟩:=ih h2
  exact ⟨c,fun h' Y b y=>⟨C2 b h1,d h' Y b y⟩⟩
def A1m{h:aF}{t:aR}{a:Addr}{C:aN->Prop}(x:Y4 P t a h C):∃ u,C (.val u)/\∀ h' (C':aN->Prop),h.le h'->C' (.val u)->Y4 P t a h' C':=by
 cases hag:Mo P t with
 | none=>simp only [Y4,hag] at x
 | some b=>
  cases b with
  | true=>
   simp only [Y4,hag] at x
   split at x
   ·rename_i zs k
    obtain ⟨j,x⟩:=x.both
    obtain ⟨l,c,e⟩:=B79 x
    obtain ⟨f,m⟩:=A4f c
    refine ⟨_,f,fun h' C' d y=>?_⟩
    simp only [Y4,hag,k,j]
    grind
   grind
  | false=>
   simp only [Y4,hag] at x
   obtain ⟨v,⟨i,g⟩,e⟩:=B0w x
   refine ⟨_,g,fun h' C' d y=>?_⟩
   simp only [Y4,hag]
   exact e _ ⟨C2 d i,y⟩
def A3v{t:aR}{cs:List aH}{off:Nat}{C:aN->Prop}(x:X9 P t cs off C):∃ u,C (.val u)/\∀ C':aN->Prop,C' (.val u)->X9 P t cs off C':=by
 cases hag:Mo P t with
 | none=>simp only [X9,hag] at x
 | some b=>
  cases b with
  | true=>
   simp only [X9,hag] at x
   obtain ⟨c,x⟩:=x.both
   exact ⟨_,x,fun C' y=>by simp only [X9,hag,c];exact y⟩
  | false=>
   simp only [X9,hag] at x
   split at x
   ·rename_i v a
    exact ⟨_,x,fun C' y=>by simp only [X9,hag,a];exact y⟩
   grind
def Z5{v:Option aN}{dflt y:Nat}{C:Nat->Prop}(x:slBound v dflt y C):∃ m,C m/\∀ C':Nat->Prop,C' m->slBound v dflt y C':=by
 rcases x.out with ⟨rfl,a⟩|⟨k,i,rfl,c,b,a⟩
 ·exact ⟨_,a,fun _ z=>z⟩
 ·exact ⟨_,a,fun _ z=>⟨⟨c,b⟩,z⟩⟩
def A2z{t:aR}{x:aN}{lo hi:Option aN}{C:aN->Prop}(hv:Fh P t x lo hi C):∃ u,C (.val u)/\∀ C':aN->Prop,C' (.val u)->Fh P t x lo hi C':=by
 unfold Fh at hv
 split at hv
 ·rename_i s d
  obtain ⟨m,b,i⟩:=Z5 hv
  obtain ⟨l,f,j⟩:=Z5 b
  exact ⟨_,f,fun C' y=>by simp only [Fh,d];grind⟩
 ·rename_i e A n c d
  obtain ⟨g,hv⟩:=hv.both
  obtain ⟨m,b,i⟩:=Z5 hv
  obtain ⟨l,f,j⟩:=Z5 b
  exact ⟨_,f,fun C' y=>by simp only [Fh,d,g];grind⟩
 ·rename_i n e a d
  obtain ⟨g,hv⟩:=hv.both
  obtain ⟨m,b,i⟩:=Z5 hv
  obtain ⟨l,f,j⟩:=Z5 b
  exact ⟨_,f,fun C' y=>by simp only [Fh,d,g];grind⟩
 grind
def Wx{b:Bool}{X Y:Prop}(x:Br b X Y):(b=true/\X)\/(b=false/\Y):=by
 cases b
 ·exact .inr ⟨rfl,x⟩
 ·exact .inl ⟨rfl,x⟩
def Rg{t:aR}{x i:aN}{C:aN->Prop}(hv:N9 P t x i C):
 ∃ v,C v/\(∀ k off,v= .own k off->∃ off',x= .own k off')/\∀ C':aN->Prop,C' v->N9 P t x i C':=by
 unfold N9 at hv
 split at hv
 ·rename_i len e k off _ n b
  obtain ⟨d,hv⟩:=hv.both
  rcases Wx hv with ⟨e,hv⟩|⟨_,hv⟩
  ·exact ⟨_,hv,(fun g off' f=>gz0),fun C' y=>by simp only [N9,b,d,e];exact y⟩
  grind
 ·rename_i len e a _ n b
  obtain ⟨d,j,hv⟩:=hv.both
  exact ⟨_,hv,(fun g off' f=>by cases f),fun C' y=>by simp only [N9,b,d];grind⟩
 ·rename_i e A n c _ i b
  obtain ⟨d,a,j,l,m,hv⟩:=hv.both
  exact ⟨_,hv,(fun g off' f=>by cases f),fun C' y=>by simp only [N9,b,d];simp_all⟩
 grind
def Az{st st':VS}{xs:List aQ}(h:∀ x∈xs,D6 st' x=D6 st x):R6 st' xs=R6 st xs:=by
 unfold R6
 grind
def Nw{o:aE}{st:VS}(hsel:∀ cs b,o.op ≠ .select cs b){C:aN->Prop}(hv:Kq P o st C):∃ u,C (.val u)/\∀ st' (C':aN->Prop),AgreeOn cfg ops o st st'->C' (.val u)->Kq P o st' C':=by
 unfold Kq at hv
 split at hv
 ·rename_i e
  split at hv
  ·refine ⟨_,hv,fun st' C' a y=>?_⟩
   unfold Kq
   have d:R6 st' o.op.operands.toList=true:=by rw [Az (fun x c=>a.eval gz0)];exact e
   have f:execOp (rho st') o=execOp (rho st) o:=execOp_congr o hsel fun x c=>a.rho c
   grind
  grind
 grind
def Zz{t:aR}{xs ys:Array aH}{C:Bool->Prop}(hv:A00 P t xs ys C):∃ b,C b/\∀ C':Bool->Prop,C' b->A00 P t xs ys C':=by
 unfold A00 at hv
 split at hv
 ·rename_i e a
  obtain ⟨c,hv⟩:=hv.both
  split at hv
  ·rename_i b d
   exact ⟨b,hv,fun C' y=>by simp only [A00,a,c,d];exact y⟩
  grind
 grind
def A8g{o:aE}{st:VS}{op:BinOp}{t t':aR}{x z:aQ}(hop:o.op= .binOp op t x z t'){C:aN->Prop}(hv:Ix P o st op t (D6 st x) (D6 st z) C):
 ∃ u,C (.val u)/\∀ st' (C':aN->Prop),AgreeOn cfg ops o st st'->C' (.val u)->Ix P o st' op t (D6 st' x) (D6 st' z) C':=by
 have i:∀ cs b,o.op ≠ .select cs b:=gz0
 have f:∀ st',AgreeOn cfg ops o st st'->D6 st' x=D6 st x/\D6 st' z=D6 st z:=fun st' a=>⟨a.eval (by rw [hop];simp [aC]),a.eval (by rw [hop];simp [aC])⟩
 unfold Ix at hv
 split at hv
 ·rename_i d c
  obtain ⟨b,j,k⟩:=Zz hv
  exact ⟨_,j,fun st' C' a y=>by simp only [Ix,d,c];grind⟩
 ·rename_i d c
  obtain ⟨b,j,k⟩:=Zz hv
  exact ⟨_,j,fun st' C' a y=>by simp only [Ix,d,c];grind⟩
 ·rename_i d c
  obtain ⟨g,hv⟩:=hv.both
  exact ⟨_,hv,fun st' C' a y=>by rw [(f st' a).1,(f st' a).2];simp only [Ix,d,c,g];exact y⟩
 ·rename_i d c
  obtain ⟨g,hv⟩:=hv.both
  exact ⟨_,hv,fun st' C' a y=>by rw [(f st' a).1,(f st' a).2];simp only [Ix,d,c,g];exact y⟩
 ·rename_i d c
  obtain ⟨g,hv⟩:=hv.both
  rcases Wx hv with ⟨e,hv⟩|⟨e,hv⟩
  ·exact hv.elim
  ·exact ⟨_,hv,fun st' C' a y=>by rw [(f st' a).1,(f st' a).2];simp only [Ix,d,c,g,e];exact y⟩
 ·rename_i d c
  obtain ⟨g,hv⟩:=hv.both
  rcases Wx hv with ⟨e,hv⟩|⟨e,hv⟩
  ·exact hv.elim
  ·exact ⟨_,hv,fun st' C' a y=>by rw [(f st' a).1,(f st' a).2];simp only [Ix,d,c,g,e];exact y⟩
 ·rename_i d c
  rcases Wx hv with ⟨e,hv⟩|⟨e,hv⟩
  ·exact hv.elim
  ·exact ⟨_,hv,fun st' C' a y=>by rw [(f st' a).1,(f st' a).2];simp only [Ix,d,c,e];exact y⟩
 ·rename_i d c
  rcases Wx hv with ⟨e,hv⟩|⟨e,hv⟩
  ·exact hv.elim
  ·exact ⟨_,hv,fun st' C' a y=>by rw [(f st' a).1,(f st' a).2];simp only [Ix,d,c,e];exact y⟩
 ·rename_i d c
  exact ⟨_,hv.2,fun st' C' a y=>by simp only [Ix,d,c];grind⟩
 ·obtain ⟨u,l,k⟩:=Nw (cfg:=cfg) (ops:=ops) i hv
  refine ⟨u,l,fun st' C' a y=>?_⟩
  unfold Ix
  grind
def B5k{o:aE}{st:VS}{h:aF}(hsel:∀ cs b,o.op ≠ .select cs b){C:aN->Prop}(hv:vcQ P o st h C):
 ∃ v,C v/\(∀ k off,v= .own k off->∃ x off',x∈o.op.operands/\D6 st x= .own k off')/\∀ st' h' C',(Gk o st=true->h.le h')->AgreeOn cfg ops o st st'->C' v->vcQ P o st' h' C':=by
 unfold vcQ at hv
 split at hv
 ·rename_i x a
  refine ⟨_,hv,(fun k off e=>⟨x,off,(by rw [a];simp [aC]),e⟩),fun st' h' C' g d y=>?_⟩
  unfold vcQ;simp only [a,d.eval (x:=x) (by rw [a];simp [aC])];exact y
 ·rename_i x a
  refine ⟨_,hv,(fun k off e=>⟨x,off,(by rw [a];simp [aC]),e⟩),fun st' h' C' g d y=>?_⟩
  unfold vcQ;simp only [a,d.eval (x:=x) (by rw [a];simp [aC])];exact y
 ·rename_i c x z a
  split at hv
  ·rename_i b B
   have O:∀ st',AgreeOn cfg ops o st st'->D6 st' c= .val (.bool b)/\D6 st' x=D6 st x/\D6 st' z=D6 st z:=fun st' d=>
    ⟨by rw [d.eval (x:=c) (by rw [a];simp [aC])];exact B,d.eval (by rw [a];simp [aC]),d.eval (by rw [a];simp [aC])⟩
   rcases Wx hv with ⟨e,hv⟩|⟨e,hv⟩
   ·refine ⟨_,hv,(fun k off e=>⟨x,off,(by rw [a];simp [aC]),e⟩),fun st' h' C' g d y=>?_⟩
    obtain ⟨G,F,H⟩:=O st' d
    unfold vcQ;simp only [a,G,F,H,e];exact y
   ·refine ⟨_,hv,(fun k off e=>⟨z,off,(by rw [a];simp [aC]),e⟩),fun st' h' C' g d y=>?_⟩
    obtain ⟨G,F,H⟩:=O st' d
    unfold vcQ;simp only [a,G,F,H,e];exact y
  grind
 ·rename_i t x a
  have p:∀ st',AgreeOn cfg ops o st st'->D6 st' x=D6 st x:=fun st' d=>d.eval (by rw [a];simp [aC])
  split at hv
  ·rename_i k off n
   split at hv
   ·rename_i cs N
    obtain ⟨u,j,q⟩:=A3v hv
    refine ⟨_,j,(fun k off e=>by cases e),fun st' h' C' g d y=>?_⟩
    unfold vcQ;simp only [a,p st' d,n,d.load t x k off a n,N];grind
   grind
  ·rename_i R n
   obtain ⟨u,j,q⟩:=A1m hv
   refine ⟨_,j,(fun k off e=>by cases e),fun st' h' C' g d y=>?_⟩
   unfold vcQ;simp only [a,p st' d,n];exact q h' C' (g (by simp only [Gk,a,n])) y
  grind
 ·rename_i s x f a
  have p:∀ st',AgreeOn cfg ops o st st'->D6 st' x=D6 st x:=fun st' d=>d.eval (by rw [a];simp [aC])
  split at hv
  ·rename_i k off n
   split at hv
   ·split at hv
    ·obtain ⟨B,hv⟩:=hv.both
     refine ⟨_,hv,(fun M off' e=>by cases e;exact ⟨x,off,(by rw [a];simp [aC]),n⟩),fun st' h' C' g d y=>?_⟩
     unfold vcQ;grind
    grind
   grind
  ·split at hv
   ·split at hv
    ·obtain ⟨B,hv⟩:=hv.both
     refine ⟨_,hv,(fun M off' e=>by cases e),fun st' h' C' g d y=>?_⟩
     unfold vcQ;grind
    grind
   grind
  grind
 ·rename_i x a
  have p:∀ st',AgreeOn cfg ops o st st'->D6 st' x=D6 st x:=fun st' d=>d.eval (by rw [a];simp [aC])
  split at hv
  ·rename_i k off n
   refine ⟨_,hv,(fun M off' e=>by cases e;exact ⟨x,off,(by rw [a];simp [aC]),n⟩),fun st' h' C' g d y=>?_⟩
   unfold vcQ;grind
  ·obtain ⟨R,hp,hv⟩:=hv
   refine ⟨_,hv,(fun M off' e=>by cases e),fun st' h' C' g d y=>?_⟩
   unfold vcQ;grind
  grind
 ·rename_i t x i a
  obtain ⟨v,j,S,q⟩:=Rg hv
  refine ⟨_,j,(fun k off e=>let ⟨off',e'⟩:=S k off e;⟨x,off',(by rw [a];simp [aC]),e'⟩),fun st' h' C' g d y=>?_⟩
  unfold vcQ;simp only [a,d.eval (x:=x) (by rw [a];simp [aC]),d.eval (x:=i) (by rw [a];simp [aC])];grind
 ·rename_i t x i a
  have p:∀ st',AgreeOn cfg ops o st st'->D6 st' x=D6 st x/\D6 st' i=D6 st i:=fun st' d=>⟨d.eval (by rw [a];simp [aC]),d.eval (by rw [a];simp [aC])⟩
  split at hv
  ·obtain ⟨c,W,hv⟩:=hv
   refine ⟨_,hv,(fun k off e=>by cases e),fun st' h' C' g d y=>?_⟩
   unfold vcQ;grind
  ·obtain ⟨u,j,q⟩:=Nw (cfg:=cfg) (ops:=ops) hsel hv
   refine ⟨_,j,(fun k off e=>by cases e),fun st' h' C' g d y=>?_⟩
   unfold vcQ;grind
 ·rename_i t x w r a
  obtain ⟨u,j,q⟩:=A2z hv
  refine ⟨_,j,(fun k off e=>by cases e),fun st' h' C' g d y=>?_⟩
  have p:D6 st' x=D6 st x:=d.eval (by rw [a];simp [aC])
  have E:w.map (D6 st')=w.map (D6 st):=by
   cases w with
   | none=>rfl
   | some z=>simp only [Option.map_some];rw [d.eval (x:=z) (by rw [a];simp [aC])]
  have D:r.map (D6 st')=r.map (D6 st):=by
   cases r with
   | none=>rfl
   | some z=>simp only [Option.map_some];rw [d.eval (x:=z) (by rw [a];simp [aC])]
  unfold vcQ;grind
 ·rename_i t x w r mx a
  have ev:∀ st',AgreeOn cfg ops o st st'->D6 st' x=D6 st x/\D6 st' w=D6 st w/\D6 st' r=D6 st r/\D6 st' mx=D6 st mx:=fun st' d=>⟨d.eval (by rw [a];simp [aC]),d.eval (by rw [a];simp [aC]),d.eval (by rw [a];simp [aC]),d.eval (by rw [a];simp [aC])⟩
  unfold Kp at hv
  split at hv
  ·rename_i e A m c T l k2 h' X b Q p E D L
   obtain ⟨B,G,F,H,hv⟩:=hv.both
   refine ⟨_,hv,(fun k off e=>by cases e),fun st' h' C' g d y=>?_⟩
   unfold vcQ;simp only [a,(ev st' d).1,(ev st' d).2.1,(ev st' d).2.2.1,(ev st' d).2.2.2,p,E,D,L,Kp,Q,B]
   grind
  grind
 ·rename_i op t x z V a
  obtain ⟨u,j,q⟩:=A8g (cfg:=cfg) (ops:=ops) a hv
  refine ⟨_,j,(fun k off e=>by cases e),fun st' h' C' g d y=>?_⟩
  unfold vcQ;grind
 ·exact hv.elim
 ·obtain ⟨u,j,q⟩:=Nw (cfg:=cfg) (ops:=ops) hsel hv
  refine ⟨_,j,(fun k off e=>by cases e),fun st' h' C' g d y=>?_⟩
  unfold vcQ
  grind
inductive Upd where
 | put (d:Option Nat) (v:aN)
 | own (d:Nat) (cs:List aH)
def Upd.app:Upd->VS->VS
 | .put d v,s=>s.putO d v
 | .own d cs,s=>(s.put d (.own d 0)).setOwn d cs
def Upd.dst:Upd->Option Nat
 | .put d _=>d
 | .own d _=>some d
def Kf{o:aE}{j:Nat}{want:Bool}{g:Nat}(hg:o.guard=some (j,want))(hd:(ops[j]?).bind (·.dst)=some g):g∈o.looksAt ops:=by
 unfold Oper.looksAt
 grind
def Zd{o:aE}{st:VS}{h:aF}{gr:Bool}{K:VS->aF->Prop}(hs:Bm P cfg o=true)(hv:W6 P cfg o gr st h K):
 ∃ u:Upd,u.dst=o.dst/\K (u.app st) h/\(∀ d cs,u= .own d cs->st.own d=none)/\(∀ d v k off,u= .put d v->v= .own k off->∃ x off',x∈o.op.operands/\D6 st x= .own k off')/\(∀ d cs,u= .own d cs->T5 cfg o=true)/\
  ∀ st' h' (K':VS->aF->Prop),(Gk o st=true->h.le h')->AgreeOn cfg ops o st st'->K' (u.app st') h'->W6 P cfg o gr st' h' K':=by
 obtain ⟨B,hv⟩:=hv.both
 split at hv
 ·rename_i l
  have m:∀ cs b,o.op ≠ .select cs b:=fun cs b e=>by simp [Ry,e] at l
  obtain ⟨v,C,N,r⟩:=B5k (cfg:=cfg) (ops:=ops) m hv
  refine ⟨.put o.dst v,rfl,C,(fun d cs e=>by cases e),(fun d H k off e L=>gz0),(fun d cs e=>by cases e),fun st' h' K' n i y=>?_⟩
  unfold W6;rw [B];simp only [When,l];exact r st' h' _ n i y
 ·rename_i l
  have a:T5 cfg o=true:=by simpa [Bm,l] using hs
  have j:∀ cells:List aH,Hf cfg o.dst cells st h K->∃ u:Upd,u.dst=o.dst/\K (u.app st) h/\(∀ d cs,u= .own d cs->st.own d=none)/\(∀ d v k off,u= .put d v->v= .own k off->∃ x off',x∈o.op.operands/\D6 st x= .own k off')/\(∀ d cs,u= .own d cs->T5 cfg o=true)/\
   ∀ st' h' (K':VS->aF->Prop),(Gk o st=true->h.le h')->AgreeOn cfg ops o st st'->K' (u.app st') h'->Hf cfg o.dst cells st' h' K':=by
   intro cells hv
   unfold Hf at hv
   split at hv
   ·rename_i d g
    obtain ⟨f,hv⟩:=hv.both
    simp only [aD,Option.isNone_iff_eq_none] at f
    refine ⟨.own d cells,g.symm,hv,(fun E cs e=>gz0),(fun E v k off e _=>by cases e),(fun _ _ _=>a),fun st' h' K' n i y=>?_⟩
    have G:st'.own d=none:=i.alloc d a g f.2
    rw [g]
    simp only [Hf,f.1.1,f.1.2,G,Option.isNone_none,Bool.and_self,When]
    exact y
   grind
  unfold T5 at a
  split at hv
  ·rename_i t c
   rw [c] at a
   simp only [a] at hv
   obtain ⟨M,hv⟩:=hv.both
   obtain ⟨u,w,q,z,s,A,D⟩:=j _ hv
   refine ⟨u,w,q,z,s,A,fun st' h' K' n i y=>?_⟩
   unfold W6;grind
  ·rename_i t x c
   rw [c] at a
   obtain ⟨F,hv⟩:=hv.both
   simp only [a] at hv
   obtain ⟨u,w,q,z,s,A,D⟩:=j _ hv
   refine ⟨u,w,q,z,s,A,fun st' h' K' n i y=>?_⟩
   have p:=i.eval (x:=x) (by rw [c];simp [aC])
   unfold W6;simp only [When,l,c,a,p,F,i.rho (x:=x) (by rw [c];simp [aC])];grind
  all_goals grind
def B4y{o:aE}{st:VS}{h:aF}{gr:Bool}{K:VS->aF->Prop}(hs:Bm P cfg o=true)(hv:Pm P cfg ops o gr st h K):
 ∃ u:Upd,u.dst=o.dst/\K (u.app st) h/\(∀ d cs,u= .own d cs->st.own d=none)/\(∀ d v k off,u= .put d v->v= .own k off->∃ x off',x∈o.op.operands/\D6 st x= .own k off')/\(∀ d cs,u= .own d cs->T5 cfg o=true)/\
  ∀ st' h' (K':VS->aF->Prop),(Gk o st=true->h.le h')->AgreeOn cfg ops o st st'->K' (u.app st') h'->Pm P cfg ops o gr st' h' K':=by
 unfold Pm at hv
 split at hv
 ·obtain ⟨u,t,q,A,s,B,D⟩:=Zd (ops:=ops) hs hv
  exact ⟨u,t,q,A,s,B,fun st' h' K' z l y=>by unfold Pm;grind⟩
 ·rename_i j r n
  split at hv
  ·exact hv.elim
  ·rename_i g f
   split at hv
   ·rename_i b m
    have c:=Kf n f
    have skip:∀ C:Bool,b=C->When (S9 cfg o.dst) (K ((st.put g (.val (.bool C))).putO o.dst (.val undef)) h)->S9 cfg o.dst=true/\K (st.putO o.dst (.val undef)) h:=by
     intro C e x
     subst e
     rw [aG st m] at x
     exact x.both
    cases b<;>cases r
    ·have i:W6 P cfg o gr (st.put g (.val (.bool false))) h K:=hv
     rw [aG st m] at i
     obtain ⟨u,t,q,A,s,B,D⟩:=Zd (ops:=ops) hs i
     refine ⟨u,t,q,A,s,B,fun st' h' K' z l y=>?_⟩
     have a:st'.env g= .val (.bool false):=by rw [l.env g c];exact m
     unfold Pm;simp only [n,f,a,Br]
     rw [aG st' a];grind
    ·obtain ⟨p,w⟩:=skip false rfl hv
     refine ⟨.put o.dst (.val undef),rfl,w,(fun d cs e=>by cases e),(fun d v k off e E=>gz0),(fun d cs e=>by cases e),fun st' h' K' z l y=>?_⟩
     have a:st'.env g= .val (.bool false):=by rw [l.env g c];exact m
     unfold Pm;simp only [n,f,a,Br]
     rw [aG st' a,p];exact y
    ·obtain ⟨p,w⟩:=skip true rfl hv
     refine ⟨.put o.dst (.val undef),rfl,w,(fun d cs e=>by cases e),(fun d v k off e E=>gz0),(fun d cs e=>by cases e),fun st' h' K' z l y=>?_⟩
     have a:st'.env g= .val (.bool true):=by rw [l.env g c];exact m
     unfold Pm;simp only [n,f,a,Br]
     rw [aG st' a,p];exact y
    ·have i:W6 P cfg o gr (st.put g (.val (.bool true))) h K:=hv
     rw [aG st m] at i
     obtain ⟨u,t,q,A,s,B,D⟩:=Zd (ops:=ops) hs i
     refine ⟨u,t,q,A,s,B,fun st' h' K' z l y=>?_⟩
     have a:st'.env g= .val (.bool true):=by rw [l.env g c];exact m
     unfold Pm;simp only [n,f,a,Br]
     rw [aG st' a];grind
   ·rename_i F m
    have c:=Kf n f
    obtain ⟨p,w⟩:=hv.both
    refine ⟨.put o.dst (.val undef),rfl,w,(fun d cs e=>by cases e),(fun d v k off e E=>gz0),(fun d cs e=>by cases e),fun st' h' K' z l y=>?_⟩
    have a:st'.env g= .val (.tuple F):=by rw [l.env g c];exact m
    unfold Pm;simp only [n,f,a]
    rw [p];exact y
   grind
def Qz{z:aH}{K K':aH->Prop}(x:exT z K)(hk:∀ v,K v->K' v):exT z K':=by
 unfold exT at x ⊢
 split at x
 ·exact B3t x fun a=>hk _
 ·exact A5w x hk
def B0x{zs:List aH}: ∀ {K K':List aH->Prop},exTs zs K->(∀ v,K v->K' v)->exTs zs K':=by
 induction zs with
 | nil=>exact fun x a=>a _ x
 | cons z zs ih=>exact fun x a=>Qz x fun v y=>ih y fun b=>a _
def Te{t:aR}{K K':aH->Prop}(x:exRt P t K)(hk:∀ v,K v->K' v):exRt P t K':=by
 unfold exRt at x ⊢
 split at x
 ·exact B0x x fun a=>hk _
 ·exact Qz x hk
def WFs(st:VS):Prop:=∀ i k off,st.env i= .own k off->(st.own k).isSome=true
structure Frm (o:aE) (st st':VS):Prop where
 env:∀ x,o.dst≠some x->st'.env x=st.env x
 own:∀ k,(o.dst=some k->(st.own k).isSome=true)->(∀ t a b off,o.op= .store t a b->D6 st a ≠ .own k off)->st'.own k=st.own k
 wf:WFs st'
def Yv{st:VS}(wf:WFs st){x:aQ}{k off:Nat}(e:D6 st x= .own k off):(st.own k).isSome=true:=by
 cases x with
 | tmp t=>exact wf t k off e
 | _=>cases e
def Oe(st:VS)(d:Option Nat)(v:aN)(x:Nat):(st.putO d v).env x=if d=some x then v else st.env x:=by
 cases d with
 | none=>rfl
 | some d=>
  by_cases h:x=d
  ·subst h;simp [VS.putO,VS.put]
  ·have:¬ d=x:=fun e=>h e.symm
   simp [VS.putO,VS.put,Ez h,this]
def T7{o:aE}{st:VS}(wf:WFs st)(u:aH):Frm o st (st.putO o.dst (.val u)):=by
 refine ⟨fun x a=>by rw [Oe,iN a],fun k _ _=>by rw [O2],fun i k off e=>?_⟩
 rw [Oe] at e
 rw [O2]
 split at e
 ·cases e
 ·exact wf i k off e
def Fe{u:Upd}{st:VS}{x:Nat}(h:u.dst≠some x):(u.app st).env x=st.env x:=by
 cases u with
 | put d v=>simp only [Upd.app,Oe];rw [iN (show d≠some x from h)]
 | own d cs=>
  have:x≠d:=fun e=>h (by rw [e];rfl)
  simp [Upd.app,VS.setOwn,VS.put,Ez this]
def By{u:Upd}{st:VS}{k:Nat}(h:∀ d cs,u= .own d cs->k≠d):(u.app st).own k=st.own k:=by
 cases u with
 | put d v=>simp only [Upd.app,O2]
 | own d cs=>exact F9 _ _ (h d cs rfl)
def Pr(st:VS){d e:Nat}(v u:aN)(h:d≠e):(st.put d v).put e u=(st.put e u).put d v:=by
 unfold VS.put
 congr 1
 funext i
 by_cases a:i=d
 ·subst a;simp [Ez h]
 ·by_cases b:i=e
  ·simp [Ez a]
  ·simp [Ez a,Ez b]
def I8{u:Upd}{st:VS}{d:Option Nat}{v:aN}(h:∀ x,u.dst=some x->d≠some x):(u.app st).putO d v=u.app (st.putO d v):=by
 cases d with
 | none=>rfl
 | some d=>
  cases u with
  | put e w=>
   cases e with
   | none=>rfl
   | some e=>exact Pr st w v (fun x=>h e rfl (congrArg some x.symm))
  | own e cs=>
   have:=Pr st (.own e 0) v (fun x=>h e rfl (congrArg some x.symm))
   show ((st.put e (.own e 0)).setOwn e cs).put d v=((st.put d v).put e (.own e 0)).setOwn e cs
   rw [<- this];rfl
def Ie{u:Upd}{st:VS}{k:Nat}{cs:List aH}(h:∀ d c,u= .own d c->k≠d):(u.app st).setOwn k cs=u.app (st.setOwn k cs):=by
 cases u with
 | put d v=>cases d<;>rfl
 | own d c=>
  have b:=h d c rfl
  show ((st.put d (.own d 0)).setOwn d c).setOwn k cs=((st.setOwn k cs).put d (.own d 0)).setOwn d c
  unfold VS.setOwn VS.put
  congr 1
  funext i
  by_cases a:i=d
  ·subst a;simp [Ez (Ne.symm b)]
  ·by_cases e:i=k
   ·simp [Ez a]
   ·simp [Ez a,Ez e]
def Upd.comm{u v:Upd}{st:VS}(h:∀ x,u.dst=some x->v.dst≠some x):v.app (u.app st)=u.app (v.app st):=by
 cases v with
 | put d w=>exact I8 h
 | own d cs=>
  have a:(u.app st).put d (.own d 0)=u.app (st.put d (.own d 0)):=I8 (d:=some d) h
  show ((u.app st).put d (.own d 0)).setOwn d cs=_
  rw [a,Ie (fun e c eq=>by subst eq;exact fun x=>h e rfl (by rw [<- x];rfl))];rfl
def Frm.upd{o:aE}{u:Upd}{st:VS}(hd:u.dst=o.dst)(wf:WFs st)(hv:∀ d v k off,u= .put d v->v= .own k off->∃ x off',D6 st x= .own k off')(hn:∀ d cs,u= .own d cs->st.own d=none):Frm o st (u.app st):=by
 refine ⟨fun x b=>Fe gz0,fun k c _=>By (fun d cs e=>?_),fun i k off e=>?_⟩
 ·rintro rfl
  have:=c (by rw [<- hd,e];rfl)
  grind
 cases u with
 | put d v=>
  simp only [Upd.app,O2] at e ⊢
  rw [Oe] at e
  split at e
  ·obtain ⟨x,off',b⟩:=hv d v k off rfl e
   exact Yv wf b
  ·exact wf i k off e
 | own d cs=>
  by_cases a:i=d
  ·subst a
   have:((st.put i (.own i 0)).setOwn i cs).env i= .own i 0:=by simp [VS.setOwn,VS.put]
   simp only [Upd.app] at e ⊢
   rw [this] at e
   injection e with e1 e2;subst e1
   rw [Z6];rfl
  ·rw [Fe (u:=.own d cs) (fun x=>a (by cases x;rfl))] at e
   have:=wf i k off e
   rw [By (u:=.own d cs) (fun g f j=>gz0)];exact this
structure Before (cfg:Cfg) (ops:Array aE) (u:Upd) (o:aE) (st:VS):Prop where
 look:∀ x,u.dst=some x->x∉o.looksAt ops
 dst:∀ x,u.dst=some x->o.dst≠some x
 free:∀ d cs,u= .own d cs->st.own d=none
 wf:WFs st
def Before.eval{u:Upd}{o:aE}{st:VS}(b:Before cfg ops u o st){x:aQ}(hx:x∈o.op.operands):D6 (u.app st) x=D6 st x:=by
 cases x with
 | tmp t=>
  refine Fe fun e=>b.look t e ?_
  exact aJ _ (List.mem_filterMap.2 ⟨.tmp t,gz0,rfl⟩)
 | _=>rfl
def Before.rho{u:Upd}{o:aE}{st:VS}(b:Before cfg ops u o st){x:aQ}(hx:x∈o.op.operands):rho (u.app st) x=rho st x:=by
 unfold Go.Proofs.YtkfhdoblhajcbaaGreatDoor.rho;rw [b.eval hx]
def Before.key{u:Upd}{o:aE}{st:VS}(b:Before cfg ops u o st){x:aQ}{k off:Nat}(e:D6 st x= .own k off):∀ d cs,u= .own d cs->k≠d:=by
 rintro d cs a rfl
 have:=Yv b.wf e
 rw [b.free k cs a] at this;cases this
def Grw(cfg:Cfg)(o:aE)(st:VS)(h h':aF):Prop:=A8e cfg o=false->(∀ t a b,o.op= .store t a b->∃ k off,D6 st a= .own k off)->h.le h'
def Grw.of{cfg:Cfg}{o:aE}{st:VS}{h h':aF}(x:h.le h'):Grw cfg o st h h':=fun _ _=>x
def Grow.map{gr:Bool}{h h':aF}{X Y:Prop}(x:Grow gr h h' X)(f:X->(gr=true->h.le h')->Y):Grow gr h h' Y:=by
 cases gr
 ·exact f x (fun e=>by cases e)
 ·exact ⟨x.1,f x.2 (fun _=>x.1)⟩
def Tf{u:Upd}{o:aE}{st:VS}(b:Before cfg ops u o st){s:Sem aH}{h:aF}{K:VS->aF->Prop}{K':VS->aF->Prop}(hk:∀ st' h',K (u.app st') h'->Grw cfg o st h h'->Frm o st st'->K' st' h')(x:effV P s o true (u.app st) h K):
 effV P s o true st h K':=by
 refine Ig s x fun v h' y=>Qz y fun w ⟨c,a,d⟩=>⟨c,a,hk _ _ ?_ (Grw.of a) (T7 b.wf w)⟩
 rwa [I8 (fun z e=>b.dst z e)] at d
def Wg{u:Upd}{o:aE}{st:VS}{gr:Bool}(b:Before cfg ops u o st)(hgw:A8e cfg o=false->gr=true){s:Sem aH}{h:aF}{K:VS->aF->Prop}{K':VS->aF->Prop}(hk:∀ st' h',K (u.app st') h'->Grw cfg o st h h'->Frm o st st'->K' st' h')(x:effV P s o gr (u.app st) h K):
 effV P s o gr st h K':=by
 refine Ig s x fun v h' y=>Qz y fun w ⟨d,a⟩=>⟨d,a.map fun f c=>hk _ _ ?_ (fun e _=>c (hgw e)) (T7 b.wf w)⟩
 rwa [I8 (fun z g=>b.dst z g)] at f
def A20{u:Upd}{o:aE}{st:VS}(b:Before cfg ops u o st){s:Sem aH}{h:aF}{K:VS->aF->Prop}{K':VS->aF->Prop}(hk:∀ st' h',K (u.app st') h'->Grw cfg o st h h'->Frm o st st'->K' st' h')(x:effP P s o true (u.app st) h K):
 effP P s o true st h K':=by
 refine Ig s x fun v h' ⟨w,c,a,d⟩=>⟨w,c,a,hk _ _ ?_ (Grw.of a) (T7 b.wf _)⟩
 rwa [I8 (fun z e=>b.dst z e)] at d
def B10{u:Upd}{o:aE}{st:VS}(b:Before cfg ops u o st){s:Sem Unit}{h:aF}{K:VS->aF->Prop}{K':VS->aF->Prop}(hno:¬ (∀ t a b,o.op= .store t a b->∃ k off,D6 st a= .own k off))(hk:∀ st' h',K (u.app st') h'->Grw cfg o st h h'->Frm o st st'->K' st' h')(x:effU P s o false (u.app st) h K):
 effU P s o false st h K':=by
 refine Ig s x fun v h' c=>?_
 rw [I8 (fun z e=>b.dst z e)] at c
 exact hk _ _ c (fun _ d=>absurd d hno) (T7 b.wf _)
def Tn{u:Upd}{o:aE}{st:VS}(b:Before cfg ops u o st)(hs:Bm P cfg o=false){h:aF}{K:VS->aF->Prop}{K':VS->aF->Prop}(hk:∀ st' h',K (u.app st') h'->Grw cfg o st h h'->Frm o st st'->K' st' h')(hv:W6 P cfg o (Kg cfg o) (u.app st) h K):W6 P cfg o (Kg cfg o) st h K':=by
 unfold W6 at hv ⊢
 obtain ⟨hd,hv⟩:=hv.both
 rw [hd]
 simp only [Bm,Bool.or_eq_false_iff] at hs
 simp only [hs.1] at hv ⊢
 show (match o.op with
  | .alloc t=>_
  | .box t x=>_
  | .store t a x=>_
  | .makeSlice t l c=>_
  | .buildSlice t n ps=>_
  | .convert s d x=>_
  | .call c=>_
  | _=>_)
 split at hv
 ·rename_i t g
  have m:Kg cfg o=true:=by simp [Kg,A8e,g]
  rw [m] at hv ⊢
  have:Mm cfg o.dst=false:=by simpa [T5,g] using hs.2
  simp only [g,this] at hv ⊢
  exact A20 b hk hv
 ·rename_i t x g
  have m:Kg cfg o=true:=by simp [Kg,A8e,g]
  rw [m] at hv ⊢
  have:Mm cfg o.dst=false:=by simpa [T5,g] using hs.2
  have D:x∈o.op.operands:=by rw [g];simp [aC]
  simp only [g,this,b.eval D,b.rho D] at hv ⊢
  obtain ⟨j,hv⟩:=hv.both
  rw [j]
  exact A20 b hk hv
 ·rename_i t a x g
  have m:Kg cfg o=false:=by simp [Kg,g]
  rw [m] at hv ⊢
  have A:a∈o.op.operands:=by rw [g];simp [aC]
  have D:x∈o.op.operands:=by rw [g];simp [aC]
  simp only [g]
  unfold A2y at hv ⊢
  rw [b.eval A] at hv
  split at hv
  ·rename_i k off S
   have F:=b.key S
   rw [By F] at hv
   try simp only [S]
   split at hv
   ·try simp only [hcs]
    rw [b.eval D,b.rho D] at hv
    obtain ⟨j,hv⟩:=hv.both
    rw [j]
    rw [Ie F,I8 (fun z G=>b.dst z G)] at hv
    refine hk _ _ hv (Grw.of (B7 h)) (⟨fun y q=>by rw [Oe,iN q];rfl,fun V _ L=>?_,fun i V M e=>?_⟩)
    ·rw [O2,F9]
     grind
    ·rw [Oe] at e
     rw [O2]
     split at e
     ·cases e
     ·have:=b.wf i V M e
      by_cases N:V=k
      ·subst N;rw [Z6];rfl
      ·rw [F9 _ _ N];exact this
   omega
  ·try simp only [T]
   rw [b.eval D,b.rho D] at hv
   obtain ⟨j,hv⟩:=hv.both
   rw [j]
   exact B10 b (fun D=>gz0) hk hv
  omega
 ·rename_i t l c g
  have m:Kg cfg o=true:=by simp [Kg,A8e,g]
  rw [m] at hv ⊢
  have W:l∈o.op.operands:=by rw [g];simp [aC]
  have X:c∈o.op.operands:=by rw [g];simp [aC]
  have A:R6 (u.app st) [l,c]=R6 st [l,c]:=Az fun y q=>by
   simp only [List.mem_cons,List.not_mem_nil,or_false] at q
   rcases q with rfl|rfl
   ·exact b.eval W
   ·exact b.eval X
  simp only [g]
  rw [A,b.rho W,b.rho X] at hv
  obtain ⟨j,hv⟩:=hv.both
  rw [j]
  exact Tf b hk hv
 ·rename_i t n ps g
  have m:Kg cfg o=true:=by simp [Kg,A8e,g]
  rw [m] at hv ⊢
  have T:∀ p∈ps,p.2∈o.op.operands:=fun p T=>by
   simp only [aC,List.mem_toArray,List.mem_map,Array.mem_toList_iff]
   grind
  have A:R6 (u.app st) (ps.toList.map (·.2))=R6 st (ps.toList.map (·.2)):=Az fun y q=>by
   obtain ⟨p,O,rfl⟩:=List.mem_map.1 q
   exact b.eval (T p gz0)
  have H:(ps.map fun (i,x)=>(i,rho (u.app st) x))=ps.map fun (i,x)=>(i,rho st x):=by
   apply Array.map_congr_left
   intro p O
   simp only [b.rho (T p O)]
  simp only [g]
  rw [A,H] at hv
  obtain ⟨j,hv⟩:=hv.both
  rw [j]
  exact Tf b hk hv
 ·rename_i s d x g
  have m:Kg cfg o=true:=by simp [Kg,A8e,g]
  rw [m] at hv ⊢
  have D:x∈o.op.operands:=by rw [g];simp [aC]
  have A:R6 (u.app st) [x]=R6 st [x]:=Az fun y q=>by
   simp only [List.mem_cons,List.not_mem_nil,or_false] at q
   rw [q];exact b.eval D
  simp only [g]
  rw [A,b.rho D] at hv
  obtain ⟨j,hv⟩:=hv.both
  rw [j]
  exact Tf b hk hv
 ·rename_i c g
  generalize m:Kg cfg o=gr at hv ⊢
  have B:A8e cfg o=false->gr=true:=fun e=>by rw [<- m];simp [Kg,g,e]
  have C:∀ y∈c.args,y∈o.op.operands:=fun y q=>by
   simp only [aC,Call.operands];grind
  have A:R6 (u.app st) c.args.toList=R6 st c.args.toList:=Az fun y q=>b.eval (C y gz0)
  have H:c.args.map (rho (u.app st))=c.args.map (rho st):=Array.map_congr_left fun y q=>b.rho (C y q)
  simp only [g]
  split at hv
  ·rename_i f E
   try simp only [E]
   unfold A4t at hv ⊢
   have hf:f∈o.op.operands:=by rw [g];simp [aC,Call.operands,E]
   rw [b.eval hf] at hv
   split at hv
   ·try simp only [hfe]
    split at hv
    ·rw [A,H] at hv
     obtain ⟨j,hv⟩:=hv.both
     try simp only [hhas]
     rw [j]
     refine FCall.mono hv fun r h' y=>Te y fun w ⟨j,L⟩=>⟨j,L.map fun R Q=>hk _ _ ?_ (fun e _=>Q (B e)) (T7 b.wf w)⟩
     rwa [I8 (fun z G=>b.dst z G)] at R
    ·rw [A,H] at hv
     obtain ⟨j,hv⟩:=hv.both
     try simp only [hhas]
     rw [j]
     refine ECall.mono hv fun r h' y=>Te y fun w ⟨j,L⟩=>⟨j,L.map fun R Q=>hk _ _ ?_ (fun e _=>Q (B e)) (T7 b.wf w)⟩
     rwa [I8 (fun z G=>b.dst z G)] at R
   ·try simp only [hfe]
    rw [A,H] at hv
    obtain ⟨j,hv⟩:=hv.both
    rw [j]
    refine YCall.mono hv fun r h' y=>Te y fun w ⟨j,L⟩=>⟨j,L.map fun R Q=>hk _ _ ?_ (fun e _=>Q (B e)) (T7 b.wf w)⟩
    rwa [I8 (fun z G=>b.dst z G)] at R
   omega
  ·try simp only [E]
   rw [A,H] at hv
   obtain ⟨j,hv⟩:=hv.both
   rw [j]
   exact Wg b B hk hv
  ·try simp only [E]
   rw [A,H] at hv
   obtain ⟨j,hv⟩:=hv.both
   rw [j]
   exact Wg b B hk hv
  omega
 grind
def B00{u:Upd}{o:aE}{st:VS}(b:Before cfg ops u o st){h:aF}{K:VS->aF->Prop}{K':VS->aF->Prop}(hk:∀ st' h',K (u.app st') h'->Grw cfg o st h h'->Frm o st st'->K' st' h')(hv:Pm P cfg ops o (Kg cfg o) (u.app st) h K):Pm P cfg ops o (Kg cfg o) st h K':=by
 cases hs:Bm P cfg o with
 | true=>
  obtain ⟨v,l,i,O,H,R,L⟩:=B4y (ops:=ops) hs hv
  have Q:AgreeOn cfg ops o (u.app st) st:=by
   refine ⟨fun x r=>(Fe fun e=>b.look x e r).symm,fun t a k off s e=>?_,fun d _ F D=>(By fun N cs e=>?_).symm.trans D⟩
   ·rw [b.eval (by rw [s];simp [aC])] at e
    exact (By (b.key e)).symm
   ·rintro rfl
    exact b.dst d (by rw [e];rfl) F
  refine L st h _ (fun _=>B7 h) Q (hk _ _ ?_ (Grw.of (B7 h)) (Frm.upd l b.wf (fun d w k off e y=>?_) (fun d cs e=>?_)))
  ·rw [<- Upd.comm (fun x r=>by rw [l];exact b.dst x r)];exact i
  ·obtain ⟨x,n,r,C⟩:=H d w k off e y
   exact ⟨x,n,by rw [<- b.eval r];exact C⟩
  ·have:=O d cs e
   rwa [By (fun N M y=>by
    rintro rfl
    exact b.dst d (by rw [y];rfl) (by rw [<- l,e];rfl))] at this
 | false=>
  unfold Pm at hv ⊢
  split at hv
  ·exact Tn b hs hk hv
  ·rename_i j q G
   split at hv
   ·exact hv.elim
   ·rename_i g B
    have p:=Kf (o:=o) G B
    have C:(u.app st).env g=st.env g:=Fe fun e=>b.look g e p
    rw [C] at hv
    split at hv
    ·rename_i E m
     have f:(u.app st).env g= .val (.bool E):=gz0
     have skip:S9 cfg o.dst=true/\K ((u.app st).putO o.dst (.val undef)) h->When (S9 cfg o.dst) (K' (st.putO o.dst (.val undef)) h):=by
      rintro ⟨l,i⟩
      rw [l]
      rw [I8 (fun z A=>b.dst z A)] at i
      exact hk _ _ i (Grw.of (B7 h)) (T7 b.wf _)
     try simp only [m]
     cases E<;>cases q
     ·have c:W6 P cfg o (Kg cfg o) ((u.app st).put g (.val (.bool false))) h K:=hv
      rw [aG _ f] at c
      rw [aG st m]
      exact Tn b hs hk c
     ·have c:When (S9 cfg o.dst) (K (((u.app st).put g (.val (.bool false))).putO o.dst (.val undef)) h):=hv
      rw [aG _ f] at c
      rw [aG st m]
      exact skip c.both
     ·have c:When (S9 cfg o.dst) (K (((u.app st).put g (.val (.bool true))).putO o.dst (.val undef)) h):=hv
      rw [aG _ f] at c
      rw [aG st m]
      exact skip c.both
     ·have c:W6 P cfg o (Kg cfg o) ((u.app st).put g (.val (.bool true))) h K:=hv
      rw [aG _ f] at c
      rw [aG st m]
      exact Tn b hs hk c
    ·try simp only [m]
     obtain ⟨l,i⟩:=hv.both
     rw [l]
     rw [I8 (fun z A=>b.dst z A)] at i
     exact hk _ _ i (Grw.of (B7 h)) (T7 b.wf _)
    omega
def Sd{o:aE}{st:VS}(wf:WFs st){h:aF}{K K':VS->aF->Prop}(hv:Pm P cfg ops o (Kg cfg o) st h K)(hk:∀ st' h',K st' h'->Grw cfg o st h h'->Frm o st st'->K' st' h'):Pm P cfg ops o (Kg cfg o) st h K':=
 B00 (u:=.put none (.val undef)) ⟨(fun x e=>by cases e),(fun x e=>by cases e),(fun d cs e=>by cases e),wf⟩ hk hv
def B44{oj oi x:aE}{st st':VS}{rem rem':List Nat}(hsub:∀ i∈rem',i∈rem)(hfr:Frm oi st st')(hap:oj.apart ops oi=true)(hmem:∃ i:Nat,i∈rem/\ops[i]? = some oi)(h:Pb cfg ops rem oj x st=true):Pb cfg ops rem' oj x st'=true:=by
 obtain ⟨_,_,j⟩:=Oper.apart_spec hap
 unfold Pb at h ⊢
 simp only [aD] at h ⊢
 obtain ⟨n,h⟩:=h
 have d:Gk oj st'=Gk oj st:=by
  unfold Gk
  split
  ·rename_i k a c
   have g:D6 st' a=D6 st a:=by
    cases a with
    | tmp z=>
     refine hfr.env z fun e=>j z e ?_
     exact aJ _ (List.mem_filterMap.2 ⟨.tmp z,by rw [c];simp [aC],rfl⟩)
    | _=>rfl
   rw [g]
  ·rfl
 refine ⟨gz0,?_⟩
 split at h
 ·rename_i t y b p
  split at h
  ·rename_i k a c
   simp only [aD] at h ⊢
   refine ⟨List.all_eq_true.2 fun i f=>List.all_eq_true.1 h.1 i (hsub i f),?_⟩
   have g:D6 st' a=D6 st a:=by
    cases a with
    | tmp z=>
     refine hfr.env z fun e=>j z e ?_
     exact aJ _ (List.mem_filterMap.2 ⟨.tmp z,by rw [c];simp [aC],rfl⟩)
    | _=>rfl
   have m:st'.env y=st.env y:=by
    refine hfr.env y fun e=>?_
    obtain ⟨i,f,l⟩:=hmem
    have:=List.all_eq_true.1 h.1 i f
    simp_all
   grind
  ·exact h
 ·exact h
 ·exact h
def swap{oj oi:aE}{st:VS}{rem:List Nat}(wf:WFs st)(hs:Bm P cfg oj=true)(hap:oj.apart ops oi=true)(hc:Pb cfg ops rem oj oi st=true){h:aF}{K:VS->aF->Prop}
 (hv:Pm P cfg ops oj (Kg cfg oj) st h fun st1 h1=>Pm P cfg ops oi (Kg cfg oi) st1 h1 K):Pm P cfg ops oi (Kg cfg oi) st h fun st1 h1=>Frm oi st st1/\Pm P cfg ops oj (Kg cfg oj) st1 h1 K:=by
 obtain ⟨N,s,F⟩:=Oper.apart_spec hap
 obtain ⟨u,h1,A,L,O,S,E⟩:=B4y (ops:=ops) hs hv
 have b:Before cfg ops u oi st:=⟨fun x e=>N x gz0,fun x e=>s x gz0,L,wf⟩
 have m:=hc
 unfold Pb at m
 have G:Gk oj st=true->A8e cfg oi=false:=fun e=>by
  grind
 refine B00 b (fun n C D H l=>⟨l,E n C K (fun c=>H (G c) fun q j r i=>?_) ?_ D⟩) A
 ·obtain ⟨t,x,hld⟩:∃ t x,oj.op= .load t x:=by
   unfold Gk at c
   grind
  cases j with
  | tmp y=>
   show ∃ k off,st.env y= .own k off
   have z:∀ k off,D6 st x ≠ .own k off:=by
    intro k off e
    unfold Gk at c
    grind
   grind
  | _=>grind
 refine ⟨fun x M=>l.env x fun e=>F x e M,fun t a k off B e=>l.own k (fun _=>Yv wf e) (fun q j r g i f=>?_),fun d Q w p=>(l.own d (fun e=>absurd e (s d w)) (fun q j r g i f=>?_)).trans p⟩
 ·cases j with
  | tmp y=>
   have R:st.env y= .own k g:=f
   simp_all
  | _=>grind
 ·have:=Yv wf f
  grind
def C0y{anc:List (List Nat)}{al:Nat->List Nat}{i:Nat}{oi:aE}(hi:ops[i]? = some oi){L2:List Nat}{K:VS->aF->Prop}: ∀ (L1:List Nat) (n:Nat) (st:VS) (h:aF),n=L1.length+L2.length->WFs st->(∀ j∈L1,has (anc.getD i []) j=false)->i∉L1->
 Gf P cfg ops anc al (n+1) (L1++i::L2) st h K->Pm P cfg ops oi (Kg cfg oi) st h fun st' h'=>WFs st'/\Gf P cfg ops anc al n (L1++L2) st' h' K:=by
 intro L1
 induction L1 with
 | nil=>
  intro n st h _ wf _ _ g
  simp only [List.nil_append,Gf,hi] at g
  exact Sd wf (A65 g.both.2) fun st' h' f _ l=>⟨l.wf,f⟩
 | cons j L1 ih=>
  intro n st h O wf e z g
  obtain ⟨n,rfl⟩:∃ n',n=n'+1:=⟨L1.length+L2.length,gz0⟩
  have w:n=L1.length+L2.length:=gz0
  have m:i∉L1:=fun A=>z (by simp [A])
  simp only [aL,Gf] at g
  split at g
  ·exact g.elim
  ·rename_i s C
   obtain ⟨c,g⟩:=g.both
   have c:=List.all_eq_true.1 c
   have b:=c i (by simp)
   unfold Xv at b
   rw [aM] at b
   rcases b with b|b
   ·unfold A9v at b
    rw [e j (by simp),hi] at b
    simp only [Bool.false_or,aD] at b
    obtain ⟨⟨p,t⟩,L⟩:=b
    have G:Bm P cfg s=true:=by
     unfold B2p at p
     grind
    have r:Pm P cfg ops s (Kg cfg s) st h fun d r=>Pm P cfg ops oi (Kg cfg oi) d r fun q B=>WFs q/\Gf P cfg ops anc al n (L1++L2) q B K:=
     Sd wf (A65 g) fun d r f _ l=>ih n d r w l.wf (fun k D=>e k (by simp [D])) m f
    refine Sd wf (swap wf G t L r) fun d r ⟨l,f⟩ _ _=>⟨l.wf,?_⟩
    simp only [aL,Gf,C]
    have u:(L1++L2).all (Xv P cfg ops anc al (L1++L2) d s j)=true:=by
     refine List.all_eq_true.2 fun x N=>?_
     have a:=c x (by
      grind)
     unfold Xv at a ⊢
     rw [p] at a ⊢
     simp only [Bool.not_true,Bool.false_and,Bool.or_false] at a ⊢
     unfold A9v at a ⊢
     simp only [aM] at a ⊢
     rcases a with a|a
     ·grind
     ·refine .inr ?_
      split at a
      ·simp only [aD] at a ⊢
       exact ⟨a.1,B44 (rem:=L1++i::L2) (fun y M=>by
        grind) l t ⟨i,by simp,hi⟩ a.2⟩
      omega
    rw [u]
    have H:A2f P cfg anc al s j (L1++L2)=[]:=by unfold A2f;rw [p]
    rw [H]
    exact Sd l.wf f fun q B ⟨_,f⟩ _ _=>f
   ·simp only [aD,Bool.not_eq_true'] at b
    obtain ⟨F,E⟩:=A4v (L2:=L2) m
    have A:i∈A2f P cfg anc al s j (L1++i::L2):=by
     unfold A2f
     rw [b.1]
     refine List.mem_filter.2 ⟨Ae.1 b.2,?_⟩
     rw [F,Ae.2 (show i∈L1++i::L2 by simp),e j (by simp)]
     grind
    have:=B7n g A
    simp only [hi] at this
    rw [E] at this
    exact Sd wf this fun st' h' f _ l=>⟨l.wf,by simp only [aL,Gf,C] at f ⊢;exact f⟩
def A71:∀ {L done:List Nat},A9y ops done L=true->L.Nodup/\(∀ i∈L,i∉done)/\∀ L1 i L2,L=L1++i::L2->∃ o,ops[i]? = some o/\∀ e∈o.after,Region.binds .any e=true->e.on∈done\/e.on∈L1:=by
 intro L
 induction L with
 | nil=>simp_all
 | cons x L ih=>
  intro done h
  simp only [A9y,aD,Bool.not_eq_true'] at h
  obtain ⟨⟨b,c⟩,g⟩:=h
  obtain ⟨k,d,l⟩:=ih g
  have p:x∉done:=fun a=>by rw [Ae.2 a] at c;cases c
  refine ⟨List.nodup_cons.2 ⟨fun a=>d x a (by simp),k⟩,fun i n=>?_,fun L1 i L2 e=>?_⟩
  ·grind
  ·cases L1 with
   | nil=>
    obtain ⟨rfl,rfl⟩:=e
    split at b
    ·rename_i o f
     refine ⟨o,f,fun e m j=>.inl ?_⟩
     have:=List.all_eq_true.1 b e gz0
     rw [j] at this
     exact Ae.1 (by assumption)
    ·cases b
   | cons y L1=>
    grind
def Yo{listed:Array Bool}{i:Nat}(d:Bool)(h:i<listed.size):(listed.setIfInBounds i true).getD i d=true:=by
 simp [h]
def B1o{al:Nat->List Nat}{F:Fence}{fu:Nat}[FOk F]{n:Nat}{h0:aF}{W0:World}(hn:cfg.n=n)(hfn:Bodies P cfg.fns){anc:List (List Nat)}(hanc:C12 ops anc=true){Q:Exit->Act->World->Prop}{K:VS->aF->Prop}{ord:List Nat}(hord:A9y ops [] ord=true)(_hall:∀ i,i<ops.size->i∈ord):
 ∀ (m:Nat) (L:List Nat) (listed:Array Bool) (st:VS) (h:aF) (a:Act) (W:World),L.length=m->L.Sublist ord->listed.size=ops.size->(∀ i,i<ops.size->(listed.getD i true=false↔i∈L))->(∀ i j,listed.getD i false=true->has (anc.getD i []) j=true->listed.getD j false=true)->
  Good n h0 W0 st h a W->Gf P cfg ops anc al m L st h K->(∀ st' h' a' W',K st' h'->Good n h0 W0 st' h' a' W'->Agree cfg.lim st st'->Q .normal a' W')->wpAnyIn F fu P .any ops Q m listed a W:=by
 obtain ⟨aj,_,p⟩:=A71 hord
 intro m
 induction m with
 | zero=>
  intro L listed st h a W hl c ae b M g R O
  have:L=[]:=List.eq_nil_of_length_eq_zero hl
  subst this
  refine ⟨?_,O st h a W R g (Agree.refl _ _)⟩
  apply List.eq_nil_iff_forall_not_mem.2
  intro i D
  obtain ⟨h1,o,ho,_⟩:=mem_ready.1 D
  grind
 | succ m ih=>
  intro L listed st h a W hl c ae b M g R O
  have wf:WFs st:=by obtain ⟨θ,r,_,_⟩:=g;exact r.wf
  have inl:∀ i,i∈L->i<ops.size:=by
   intro i D
   obtain ⟨L1,L2,e⟩:=aK (c.subset D)
   obtain ⟨o,ho,_⟩:=p L1 i L2 e
   grind
  constructor
  ·
   intro u
   exfalso
   cases L with
   | nil=>grind
   | cons i L=>
    have D:=inl i (by simp)
    obtain ⟨L1,L2,e⟩:=aK (c.subset (show i∈i::L by simp))
    obtain ⟨o,ho,hp⟩:=p L1 i L2 e
    have:i∈Region.ready .any ops listed:=by
     refine mem_ready.2 ⟨(b i D).2 (by simp),o,ho,fun A S t=>?_⟩
     rcases hp A S t with h'|h'
     ·cases h'
     ·have am:A.on<ops.size:=by
       obtain ⟨M1,M2,e'⟩:=aK h'
       obtain ⟨o',ak,_⟩:=p M1 A.on (M2++i::L2) gz0
       grind
      have af:A.on∉i::L:=by
       intro hm
       have C:(i::L).Sublist (L1++i::L2):=gz0
       have w:(L1++i::L2).Nodup:=gz0
       have s:i∉L1:=fun G=>(List.nodup_append.1 w).2.2 i G i (by simp) rfl
       have ah:(i::L).Sublist (i::L2):=by
        clear u b M O R g ih hp S t
        revert C s
        clear w e h'
        induction L1 with
        | nil=>grind
        | cons y L1 ihL=>
         intro C s
         refine ihL ?_ (fun G=>s (by simp [G]))
         cases C with
         | cons _ h=>exact h
         | cons_cons _ h=>grind
       grind
      grind
    grind
  ·intro i D
   obtain ⟨h1,oi,q,H⟩:=mem_ready.1 D
   have l:=(Array.getElem?_eq_some_iff.1 q).1
   have ad:=(b i l).1 h1
   obtain ⟨L1,L2,e⟩:=aK ad
   have T:∀ j∈L1,has (anc.getD i []) j=false:=by
    intro j hj
    cases G:has (anc.getD i []) j with
    | false=>rfl
    | true=>
     exfalso
     have E:=List.all_eq_true.1 (List.all_eq_true.1 hanc i (List.mem_range.2 l)) j (Ae.1 G)
     simp only [q] at E
     obtain ⟨A,S,t⟩:=List.any_eq_true.1 E
     simp only [aD,aM] at t
     have B:=H A gz0 t.1
     have ai:listed.getD j false=true:=by
      rcases t.2 with h'|h'
      ·rw [<- aI h'];exact B
      grind
     grind
   have N:i∉L1:=by
    grind
   have ac:=C0y q (L2:=L2) L1 m st h gz0 wf T N (by rw [<- e];exact R)
   refine wpOpIn_mono (fun a' W' ⟨st',h',⟨_,hK⟩,g',ag⟩=>?_) (g.op hn hfn q ac)
   have z:∀ j d,(listed.setIfInBounds i true).getD j d=if j=i then true else listed.getD j d:=by
    intro j d
    by_cases f:j=i
    ·subst f;rw [iP rfl];exact Yo d oo
    ·rw [iN f];exact getD_set_ne d (Ne.symm f)
   refine ih (L1++L2) _ st' h' a' W' gz0 ?_ gz0 (fun j hj=>?_) (fun j k hj hk=>?_) g' hK fun aa h2 a2 W2 k g2 X=>O aa h2 a2 W2 k g2 (ag.trans X)
   ·refine List.Sublist.trans ?_ c
    grind
   ·rw [z]
    by_cases f:j=i
    ·grind
    ·grind
   ·rw [z] at hj ⊢
    by_cases V:k=i
    ·grind
    ·rw [iN V]
     by_cases f:j=i
     ·subst f
      have E:=List.all_eq_true.1 (List.all_eq_true.1 hanc j (List.mem_range.2 l)) k (Ae.1 hk)
      simp only [q] at E
      obtain ⟨A,S,t⟩:=List.any_eq_true.1 E
      simp only [aD,aM] at t
      have B:=H A gz0 t.1
      rcases t.2 with h'|h'
      ·rw [<- aI h'];exact B
      grind
     grind
def A7r{al:Nat->List Nat}{F:Fence}{fu:Nat}[FOk F]{n:Nat}{h0:aF}{W0:World}(hn:cfg.n=n)(hfn:Bodies P cfg.fns){id:Nat}{ord:List Nat}{anc:List (List Nat)}(hok:B15 P ops ord anc=true){Q:Exit->Act->World->Prop}{K:VS->aF->Prop}{st:VS}{h:aF}{a:Act}{W:World}
 (g:Good n h0 W0 st h a W) (hv:Gf P cfg ops anc al ord.length ord st h K) (hQ:∀ st' h' a' W',K st' h'->Good n h0 W0 st' h' a' W'->Agree cfg.lim st st'->Q .normal a' W'):(Code.region id ops true).wpIn F fu P Q a W:=by
 simp only [B15,aD] at hok
 obtain ⟨⟨⟨⟨m,k⟩,q⟩,l⟩,e⟩:=hok
 refine wpIn_region_any m ?_
 have s:Good n h0 W0 st h a { W with drawn:=W.drawn+1 }:=by
  obtain ⟨θ,r,f,p⟩:=g
  exact ⟨θ,⟨r.defers,r.size,r.slot,r.sim,r.own,r.inj,r.wf,r.out⟩,⟨f.sim,f.os,f.tape,f.output,f.size,f.keep,f.new⟩,p⟩
 have b:∀ i,i<ops.size->i∈ord:=fun i c=>Ae.1 (List.all_eq_true.1 l i (List.mem_range.2 c))
 rw [aI e] at hv
 refine B1o hn hfn k q b ops.size ord _ st h a _ (aI e) (List.Sublist.refl _) (by simp) (fun i c=>?_) (fun i j c _=>?_) s hv hQ
 ·simp_all
 ·by_cases d:i<ops.size<;>simp [Array.getD,d] at c
end
