/- A part. -/
import Derived.Test.YteppbhimdjmabaaGreatDoorG02
set_option linter.all false
open Bool renaming and_eq_true->aE,or_eq_true->aO
open List renaming mem_append_left->aL,append_of_mem->aM,cons_append->aN
open Nat renaming eq_of_beq_eq_true->aK,beq->aQ
open _root_.Go.Op renaming operands->aC
open _root_ renaming Nat->J,List->Z
open _root_.Go renaming Oper->aF,Value->aJ,Program->aR,Operand->aS,TypeId->aT
open _root_.Go.Proofs.YteppbhimdjmabaaGreatDoor renaming Heap->aH,put_self->aI,AVal->aP
namespace Go.Proofs.YteppbhimdjmabaaGreatDoor
open Go
def W5(cfg:Cfg)(o:aF):Bool:=
 match o.op with
 |.alloc _ |.box _ _=>Pi cfg o.dst
 |_=>false
def Cq(P:aR)(cfg:Cfg)(o:aF):Bool:=Vk P o||W5 cfg o
def B3t(ops:Array aF)(rem:Z J)(y:J):Bool:=rem.all fun i=>match ops[i]? with
 |some o=>(match o.dst with
  |some d=>!aQ d y
  |none=>true)
 |none=>true
def B1h(cfg:Cfg)(o:aF):Bool:=
 match o.op with
 |.call c=>
  match c.callee with
  |.value (.func g)=>has cfg.wr g
  |.value (.tmp _)=>true
  |.builtin .copy=>true
  |.builtin .append=>has cfg.wr 1000000000
  |_=>false
 |_=>false
def Hx(o:aF)(st:VS):Bool:=
 match o.op with
 |.load _ a=>(match D6 st a with
  |.val (.pointer (some _))=>true
  |_=>false)
 |_=>false
def Rt(cfg:Cfg)(ops:Array aF)(rem:Z J)(oj oi:aF)(st:VS):Bool:=
 !(B1h cfg oi&&Hx oj st) &&
 match oi.op with
 |.store _ (.tmp y) _=>
  match oj.op with
  |.load _ a=>B3t ops rem y&&(match D6 st a,st.env y with
   |.own k _,.own k' _=>!aQ k k'
   |.val _,.own _ _=>true
   |.own _ _,.val _=>true
   |_,_=>false)
  |_=>true
 |.store _ _ _=>false
 |_=>true
def B6a(P:aR)(cfg:Cfg)(al:J->Z J)(oj:aF)(j:J):Bool:=Cq P cfg oj&&(al j).isEmpty
def B2u(P:aR)(cfg:Cfg)(ops:Array aF)(anc:Z (Z J))(al:J->Z J)(rem:Z J)(st:VS)(oj:aF)(j i:J):Bool:=
 has (anc.getD i []) j ||
 match ops[i]? with
 |some oi=>B6a P cfg al oj j&&oj.apart ops oi&&Rt cfg ops rem oj oi st
 |none=>false
def Nj(cfg:Cfg)(o:aF):Bool:=
 match o.op with
 |.store _ _ _=>false
 |_=>!B1h cfg o
def A1g(P:aR)(cfg:Cfg)(ops:Array aF)(anc:Z (Z J))(al:J->Z J)(rem:Z J)(st:VS)(oj:aF)(j i:J):Bool:=B2u P cfg ops anc al rem st oj j i||(!B6a P cfg al oj j&&has (al j) i)
def C2t(i:J):Z J->Z J
 | []=>[]
 |x::L=>bif aQ x i then []else x::C2t i L
def del(i:J):Z J->Z J
 | []=>[]
 |x::L=>bif aQ x i then L else x::del i L
def A5e(P:aR)(cfg:Cfg)(anc:Z (Z J))(al:J->Z J)(oj:aF)(j:J)(L:Z J):Z J:=
 match B6a P cfg al oj j with
 |true=>[]
 |false=>(al j).filter fun i=>has L i&&(C2t i L).all (fun x=>!has (anc.getD i []) x) && !has (anc.getD i []) j
def C81(f:J->Prop):J->Z J->Prop
 |i,[]=>f i
 |i,k::r=>f i/\C81 f k r
def C82(A:Prop)(f:J->Prop):Z J->Prop
 | []=>A
 |i::r=>A/\C81 f i r
def Hr(P:aR)(cfg:Cfg)(ops:Array aF)(anc:Z (Z J))(al:J->Z J):J->Z J->VS->aH->(VS->aH->Prop)->Prop
 |_,[],st,h,K=>K st h
 |0,_::_,_,_,_=>False
 |n+1,j::L,st,h,K=>
  match ops[j]? with
  |none=>False
  |some o=>When (L.all (A1g P cfg ops anc al L st o j))
   (C82 (Sj P cfg ops o (Nj cfg o) st h fun st' h'=>Hr P cfg ops anc al n L st' h' K)
    (fun i=>
     match ops[i]? with
     |none=>False
     |some oi=>Sj P cfg ops oi (Nj cfg oi) st h fun st' h'=>Hr P cfg ops anc al n (j::del i L) st' h' K)
    (A5e P cfg anc al o j L))
def B53{f:J->Prop}{i:J}:∀{k:J} {r:Z J},C81 f k r->i∈k::r->f i
 |k,[],x,h=>by rw[List.mem_singleton.1 h];exact x
 |k,m::r,x,h=>by
  rcases List.mem_cons.1 h with rfl|h;·exact x.1
  ·exact B53 x.2 h
def A95{A:Prop}{f:J->Prop}:∀{r:Z J},C82 A f r->A
 | [],x=>x
 |_::_,x=>x.1
def C21{A:Prop}{f:J->Prop}{i:J}:∀{r:Z J},C82 A f r->i∈r->f i
 | [],_,h=>by cases h
 |_::_,x,h=>B53 x.2 h
def A7u{i:J}{L2:Z J}:∀{L1:Z J},i∉L1->C2t i (L1++i::L2)=L1/\del i (L1++i::L2)=L1++L2
 | [],_=>by simp[C2t,del]
 |x::L1,h=>by
  have hx:aQ x i=false:=by
   cases e:aQ x i with
   |false=>rfl
   |true=>
    simp_all
  obtain⟨a,c⟩:=A7u (L2:=L2) (L1:=L1) (i:=i) (fun b=>h (List.mem_cons_of_mem _ b));simp only[aN,C2t,del,hx,a,c,cond_false,and_self]
def C5w(ops:Array aF)(anc:Z (Z J)):Bool:=
 (List.range ops.size).all fun i=>(anc.getD i []).all fun j=>
  match ops[i]? with
  |some o=>o.after.toList.any fun e=>Region.binds .any e&&(aQ e.on j||has (anc.getD e.on []) j)
  |none=>false
def B2x(ops:Array aF):Z J->Z J->Bool
 |_,[]=>true
 |done,i::L=>
  (match ops[i]? with
   |some o=>o.after.toList.all fun e=>!Region.binds .any e||has done e.on
   |none=>false) && !has done i&&B2x ops (i::done) L
def B47(P:aR)(ops:Array aF)(ord:Z J)(anc:Z (Z J)):Bool:=P.follows .mixedOrders&&C5w ops anc&&B2x ops [] ord&&(List.range ops.size).all (has ord)&&aQ ord.length ops.size
section
variable {P:aR} {cfg:Cfg} {ops:Array aF}
structure AgreeOn (cfg:Cfg) (ops:Array aF) (o:aF) (st st':VS):Prop where
 env:∀ x∈o.looksAt ops,st'.env x=st.env x
 load:∀ t a k off,o.op= .load t a->D6 st a= .own k off->st'.own k=st.own k
 alloc:∀ d,W5 cfg o=true->o.dst=some d->st.own d=none->st'.own d=none
def AgreeOn.eval{o:aF}{st st':VS}(ag:AgreeOn cfg ops o st st'){x:aS}(hx:x∈o.op.operands):D6 st' x=D6 st x:=by
 cases x with
 |tmp t=>
  refine ag.env t ?_;exact aL _ (List.mem_filterMap.2 ⟨.tmp t,gz0,rfl⟩)
 |_=>rfl
def AgreeOn.rho{o:aF}{st st':VS}(ag:AgreeOn cfg ops o st st'){x:aS}(hx:x∈o.op.operands):rho st' x=rho st x:=by unfold Go.Proofs.YteppbhimdjmabaaGreatDoor.rho;rw[ag.eval hx]
def A8t{z:aJ}{K K':aJ->Prop}(x:exV z K)(hk:∀v,K v->K' v):exV z K':=by cases z<;>(unfold exV at x ⊢)<;>first |grind |grind
def B7g{zs:Z aJ}:∀{K K':Z aJ->Prop},exL zs K->(∀v,K v->K' v)->exL zs K':=by
 induction zs with
 |nil=>exact fun x a=>a _ x
 |cons z zs ih=>exact fun x a=>A8t x fun v y=>ih y fun b=>a _
def B3x{z:aJ}{K:aJ->Prop}(x:exV z K):∃v,K v/\∀K':aJ->Prop,K' v->exV z K':=by cases z<;>(unfold exV at x)<;>first | (obtain⟨n,a⟩:=x;exact⟨_,a,fun K' y=>⟨_,y⟩⟩) | (obtain⟨p,n,c,a⟩:=x;exact⟨_,a,fun K' y=>⟨_,_,_,y⟩⟩)
def C1m{zs:Z aJ}:∀{K:Z aJ->Prop},exL zs K->∃vs,K vs/\∀K':Z aJ->Prop,K' vs->exL zs K':=by
 induction zs with
 |nil=>exact fun x=>⟨[],x,fun _ y=>y⟩
 |cons z zs ih=>
  intro K x;obtain⟨v,c,b⟩:=B3x x;obtain⟨vs,a,d⟩:=ih c;exact⟨v::vs,a,fun K' y=>b _ (d _ y)⟩
def A7f{h:aH}{a:Addr}:∀{vs:Z aJ} {j:J} {X:Prop},cellsAt h a j vs X->X/\∀h' (yq9:Prop),h.le h'->yq9->cellsAt h' a j vs yq9:=by
 intro vs
 induction vs with
 |nil=>exact fun x=>⟨x,fun _ _ _ y=>y⟩
 |cons v vs ih=>
  intro j X ⟨h1,h2⟩;obtain⟨b,c⟩:=ih h2;exact⟨b,fun h' yq9 hl y=>⟨C2 hl h1,c h' yq9 hl y⟩⟩
def A4k{h:aH}{t:aT}{a:Addr}{C:aP->Prop}(x:Aj P t a h C):∃u,C (.val u)/\∀h' (C':aP->Prop),h.le h'->C' (.val u)->Aj P t a h' C':=by
 cases hag:Pj P t with
 |none=>simp only[Aj,hag]at x
 |some b=>
  cases b with
  |true=>
   simp only[Aj,hag]at x;split at x
   ·rename_i zs j;obtain⟨i,x⟩:=x.both;obtain⟨k,c,d⟩:=C1m x;obtain⟨e,l⟩:=A7f c;refine⟨_,e,fun h' C' hl y=>?_⟩;simp only[Aj,hag,j,i];grind
   grind
  |false=>
   simp only[Aj,hag]at x;obtain⟨v,⟨g,f⟩,d⟩:=B3x x;refine⟨_,f,fun h' C' hl y=>?_⟩;simp only[Aj,hag];exact d _ ⟨C2 hl g,y⟩
def A6v{t:aT}{cs:Z aJ}{off:J}{C:aP->Prop}(x:Af P t cs off C):∃u,C (.val u)/\∀C':aP->Prop,C' (.val u)->Af P t cs off C':=by
 cases hag:Pj P t with
 |none=>simp only[Af,hag]at x
 |some b=>
  cases b with
  |true=>
   simp only[Af,hag]at x;obtain⟨c,x⟩:=x.both;exact⟨_,x,fun C' y=>by simp only[Af,hag,c];exact y⟩
  |false=>
   simp only[Af,hag]at x;split at x
   ·rename_i v a;exact⟨_,x,fun C' y=>by simp only[Af,hag,a];exact y⟩
   grind
def Az{v:Option aP}{dflt y:J}{C:J->Prop}(x:slBound v dflt y C):∃m,C m/\∀C':J->Prop,C' m->slBound v dflt y C':=by rcases x.out with⟨rfl,a⟩|⟨k,i,rfl,c,b,a⟩;{exact⟨_,a,fun _ z=>z⟩};·exact⟨_,a,fun _ z=>⟨⟨c,b⟩,z⟩⟩
def A5y{t:aT}{x:aP}{lo hi:Option aP}{C:aP->Prop}(hv:Gu P t x lo hi C):∃u,C (.val u)/\∀C':aP->Prop,C' (.val u)->Gu P t x lo hi C':=by unfold Gu at hv;split at hv;{rename_i s d;obtain⟨m,b,i⟩:=Az hv;obtain⟨l,f,j⟩:=Az b;exact⟨_,f,fun C' y=>by simp only[Gu,d];grind⟩};{rename_i e A n c d;obtain⟨g,hv⟩:=hv.both;obtain⟨m,b,i⟩:=Az hv;obtain⟨l,f,j⟩:=Az b;exact⟨_,f,fun C' y=>by simp only[Gu,d,g];grind⟩};{rename_i n e a d;obtain⟨g,hv⟩:=hv.both;obtain⟨m,b,i⟩:=Az hv;obtain⟨l,f,j⟩:=Az b;exact⟨_,f,fun C' y=>by simp only[Gu,d,g];grind⟩};grind
def A09{b:Bool}{X yq9:Prop}(x:Br b X yq9):(b=true/\X)\/(b=false/\yq9):=by cases b;{exact .inr ⟨rfl,x⟩};·exact .inl ⟨rfl,x⟩
def Ug{t:aT}{x i:aP}{C:aP->Prop}(hv:S5 P t x i C):∃v,C v/\(∀k off,v= .own k off->∃off',x= .own k off')/\∀C':aP->Prop,C' v->S5 P t x i C':=by unfold S5 at hv;split at hv;{rename_i len e k off _ n b;obtain⟨d,hv⟩:=hv.both;rcases A09 hv with⟨e,hv⟩|⟨_,hv⟩;{exact⟨_,hv,(fun g off' f=>gz0),fun C' y=>by simp only[S5,b,d,e];exact y⟩};grind};{rename_i len e a _ n b;obtain⟨d,j,hv⟩:=hv.both;exact⟨_,hv,(fun g off' f=>by cases f),fun C' y=>by simp only[S5,b,d];grind⟩};{rename_i e A n c _ i b;obtain⟨d,a,j,l,m,hv⟩:=hv.both;exact⟨_,hv,(fun g off' f=>by cases f),fun C' y=>by simp only[S5,b,d];simp_all⟩};grind
def Ca{st st':VS}{xs:Z aS}(h:∀x∈xs,D6 st' x=D6 st x):T9 st' xs=T9 st xs:=by unfold T9;grind
def Qm{o:aF}{st:VS}(hsel:∀cs b,o.op ≠ .select cs b){C:aP->Prop}(hv:Nt P o st C):∃u,C (.val u)/\∀st' (C':aP->Prop),AgreeOn cfg ops o st st'->C' (.val u)->Nt P o st' C':=by unfold Nt at hv;split at hv;{rename_i e;split at hv;{refine⟨_,hv,fun st' C' a y=>?_⟩;unfold Nt;have d:T9 st' o.op.operands.toList=true:=by{rw[Ca (fun x c=>a.eval gz0)];exact e};have f:execOp (rho st') o=execOp (rho st) o:=execOp_congr o hsel fun x c=>a.rho c;grind};grind};grind
def A2q{t:aT}{xs ys:Array aJ}{C:Bool->Prop}(hv:A2r P t xs ys C):∃b,C b/\∀C':Bool->Prop,C' b->A2r P t xs ys C':=by unfold A2r at hv;split at hv;{rename_i e a;obtain⟨c,hv⟩:=hv.both;split at hv;{rename_i b d;exact⟨b,hv,fun C' y=>by simp only[A2r,a,c,d];exact y⟩};grind};grind
def B1j{o:aF}{st:VS}{op:BinOp}{t t':aT}{x z:aS}(hop:o.op= .binOp op t x z t'){C:aP->Prop}(hv:Ky P o st op t (D6 st x) (D6 st z) C):∃u,C (.val u)/\∀st' (C':aP->Prop),AgreeOn cfg ops o st st'->C' (.val u)->Ky P o st' op t (D6 st' x) (D6 st' z) C':=by have i:∀cs b,o.op ≠ .select cs b:=gz0;have f:∀st',AgreeOn cfg ops o st st'->D6 st' x=D6 st x/\D6 st' z=D6 st z:=fun st' a=>⟨a.eval (by rw[hop];simp[aC]),a.eval (by rw[hop];simp[aC])⟩;unfold Ky at hv;split at hv;{rename_i d c;obtain⟨b,j,hs⟩:=A2q hv;exact⟨_,j,fun st' C' a y=>by simp only[Ky,d,c];grind⟩};{rename_i d c;obtain⟨b,j,hs⟩:=A2q hv;exact⟨_,j,fun st' C' a y=>by simp only[Ky,d,c];grind⟩};{rename_i d c;obtain⟨g,hv⟩:=hv.both;exact⟨_,hv,fun st' C' a y=>by rw[(f st' a).1,(f st' a).2];simp only[Ky,d,c,g];exact y⟩};{rename_i d c;obtain⟨g,hv⟩:=hv.both;exact⟨_,hv,fun st' C' a y=>by rw[(f st' a).1,(f st' a).2];simp only[Ky,d,c,g];exact y⟩};{rename_i d c;obtain⟨g,hv⟩:=hv.both;rcases A09 hv with⟨e,hv⟩|⟨e,hv⟩;{exact hv.elim};·exact⟨_,hv,fun st' C' a y=>by rw[(f st' a).1,(f st' a).2];simp only[Ky,d,c,g,e];exact y⟩};{rename_i d c;obtain⟨g,hv⟩:=hv.both;rcases A09 hv with⟨e,hv⟩|⟨e,hv⟩;{exact hv.elim};·exact⟨_,hv,fun st' C' a y=>by rw[(f st' a).1,(f st' a).2];simp only[Ky,d,c,g,e];exact y⟩};{rename_i d c;rcases A09 hv with⟨e,hv⟩|⟨e,hv⟩;{exact hv.elim};·exact⟨_,hv,fun st' C' a y=>by rw[(f st' a).1,(f st' a).2];simp only[Ky,d,c,e];exact y⟩};{rename_i d c;rcases A09 hv with⟨e,hv⟩|⟨e,hv⟩;{exact hv.elim};·exact⟨_,hv,fun st' C' a y=>by rw[(f st' a).1,(f st' a).2];simp only[Ky,d,c,e];exact y⟩};{rename_i d c;exact⟨_,hv.2,fun st' C' a y=>by simp only[Ky,d,c];grind⟩};·obtain⟨u,k,hs⟩:=Qm (cfg:=cfg) (ops:=ops) i hv;refine⟨u,k,fun st' C' a y=>?_⟩;unfold Ky;grind
def B9j{o:aF}{st:VS}{h:aH}(hsel:∀cs b,o.op ≠ .select cs b){C:aP->Prop}(hv:vcQ P o st h C):
 ∃v,C v/\(∀k off,v= .own k off->∃x off',x∈o.op.operands/\D6 st x= .own k off')/\∀st' h' C',(Hx o st=true->h.le h')->AgreeOn cfg ops o st st'->C' v->vcQ P o st' h' C':=by
 unfold vcQ at hv;split at hv
 ·rename_i x a;refine⟨_,hv,(fun k off e=>⟨x,off,(by rw[a];simp[aC]),e⟩),fun st' h' C' hl d y=>?_⟩;unfold vcQ;simp only[a,d.eval (x:=x) (by rw[a];simp[aC])];exact y
 ·rename_i x a;refine⟨_,hv,(fun k off e=>⟨x,off,(by rw[a];simp[aC]),e⟩),fun st' h' C' hl d y=>?_⟩;unfold vcQ;simp only[a,d.eval (x:=x) (by rw[a];simp[aC])];exact y
 ·rename_i c x z a;split at hv
  ·rename_i b r
   have M:∀st',AgreeOn cfg ops o st st'->D6 st' c= .val (.bool b)/\D6 st' x=D6 st x/\D6 st' z=D6 st z:=fun st' d=>
    ⟨by rw[d.eval (x:=c) (by rw[a];simp[aC])];exact r,d.eval (by rw[a];simp[aC]),d.eval (by rw[a];simp[aC])⟩;rcases A09 hv with⟨e,hv⟩|⟨e,hv⟩
   ·refine⟨_,hv,(fun k off e=>⟨x,off,(by rw[a];simp[aC]),e⟩),fun st' h' C' hl d y=>?_⟩;obtain⟨E,D,F⟩:=M st' d;unfold vcQ;simp only[a,E,D,F,e];exact y
   ·refine⟨_,hv,(fun k off e=>⟨z,off,(by rw[a];simp[aC]),e⟩),fun st' h' C' hl d y=>?_⟩;obtain⟨E,D,F⟩:=M st' d;unfold vcQ;simp only[a,E,D,F,e];exact y
  grind
 ·rename_i t x a;have n:∀st',AgreeOn cfg ops o st st'->D6 st' x=D6 st x:=fun st' d=>d.eval (by rw[a];simp[aC]);split at hv
  ·rename_i k off j;split at hv
   ·rename_i cs L;obtain⟨u,g,hs⟩:=A6v hv;refine⟨_,g,(fun k off e=>by cases e),fun st' h' C' hl d y=>?_⟩;unfold vcQ;simp only[a,n st' d,j,d.load t x k off a j,L];grind
   grind
  ·rename_i O j;obtain⟨u,g,hs⟩:=A4k hv;refine⟨_,g,(fun k off e=>by cases e),fun st' h' C' hl d y=>?_⟩;unfold vcQ;simp only[a,n st' d,j];exact hs h' C' (hl (by simp only[Hx,a,j])) y
  grind
 ·rename_i s x f a;have n:∀st',AgreeOn cfg ops o st st'->D6 st' x=D6 st x:=fun st' d=>d.eval (by rw[a];simp[aC]);split at hv
  ·rename_i k off j;split at hv
   ·split at hv
    ·obtain⟨r,hv⟩:=hv.both;refine⟨_,hv,(fun H off' e=>by cases e;exact⟨x,off,(by rw[a];simp[aC]),j⟩),fun st' h' C' hl d y=>?_⟩;unfold vcQ;grind
    grind
   grind
  ·split at hv
   ·split at hv
    ·obtain⟨r,hv⟩:=hv.both;refine⟨_,hv,(fun H off' e=>by cases e),fun st' h' C' hl d y=>?_⟩;unfold vcQ;grind
    grind
   grind
  grind
 ·rename_i x a;have n:∀st',AgreeOn cfg ops o st st'->D6 st' x=D6 st x:=fun st' d=>d.eval (by rw[a];simp[aC]);split at hv
  ·rename_i k off j;refine⟨_,hv,(fun H off' e=>by cases e;exact⟨x,off,(by rw[a];simp[aC]),j⟩),fun st' h' C' hl d y=>?_⟩;unfold vcQ;grind
  ·obtain⟨O,W,hv⟩:=hv;refine⟨_,hv,(fun H off' e=>by cases e),fun st' h' C' hl d y=>?_⟩;unfold vcQ;grind
  grind
 ·rename_i t x i a;obtain⟨v,g,Q,hs⟩:=Ug hv;refine⟨_,g,(fun k off e=>let ⟨off',e'⟩:=Q k off e;⟨x,off',(by rw[a];simp[aC]),e'⟩),fun st' h' C' hl d y=>?_⟩
  unfold vcQ;simp only[a,d.eval (x:=x) (by rw[a];simp[aC]),d.eval (x:=i) (by rw[a];simp[aC])];grind
 ·rename_i t x i a;have n:∀st',AgreeOn cfg ops o st st'->D6 st' x=D6 st x/\D6 st' i=D6 st i:=fun st' d=>⟨d.eval (by rw[a];simp[aC]),d.eval (by rw[a];simp[aC])⟩;split at hv
  ·obtain⟨c,T,hv⟩:=hv;refine⟨_,hv,(fun k off e=>by cases e),fun st' h' C' hl d y=>?_⟩;unfold vcQ;grind
  ·obtain⟨u,g,hs⟩:=Qm (cfg:=cfg) (ops:=ops) hsel hv;refine⟨_,g,(fun k off e=>by cases e),fun st' h' C' hl d y=>?_⟩;unfold vcQ;grind
 ·rename_i t x q p a;obtain⟨u,g,hs⟩:=A5y hv;refine⟨_,g,(fun k off e=>by cases e),fun st' h' C' hl d y=>?_⟩;have n:D6 st' x=D6 st x:=d.eval (by rw[a];simp[aC])
  have B:q.map (D6 st')=q.map (D6 st):=by
   cases q with
   |none=>rfl
   |some z=>simp only[Option.map_some];rw[d.eval (x:=z) (by rw[a];simp[aC])]
  have w:p.map (D6 st')=p.map (D6 st):=by
   cases p with
   |none=>rfl
   |some z=>simp only[Option.map_some];rw[d.eval (x:=z) (by rw[a];simp[aC])]
  unfold vcQ;grind
 ·rename_i t x q p mx a;have ev:∀st',AgreeOn cfg ops o st st'->D6 st' x=D6 st x/\D6 st' q=D6 st q/\D6 st' p=D6 st p/\D6 st' mx=D6 st mx:=fun st' d=>⟨d.eval (by rw[a];simp[aC]),d.eval (by rw[a];simp[aC]),d.eval (by rw[a];simp[aC]),d.eval (by rw[a];simp[aC])⟩;unfold Ns at hv;split at hv
  ·rename_i e A m c R l X h' V b N n B w G;obtain⟨r,E,D,F,hv⟩:=hv.both;refine⟨_,hv,(fun k off e=>by cases e),fun st' h' C' hl d y=>?_⟩;unfold vcQ;simp only[a,(ev st' d).1,(ev st' d).2.1,(ev st' d).2.2.1,(ev st' d).2.2.2,n,B,w,G,Ns,N,r];grind
  grind
 ·rename_i op t x z S a;obtain⟨u,g,hs⟩:=B1j (cfg:=cfg) (ops:=ops) a hv;refine⟨_,g,(fun k off e=>by cases e),fun st' h' C' hl d y=>?_⟩;unfold vcQ;grind
 ·exact hv.elim
 ·obtain⟨u,g,hs⟩:=Qm (cfg:=cfg) (ops:=ops) hsel hv;refine⟨_,g,(fun k off e=>by cases e),fun st' h' C' hl d y=>?_⟩;unfold vcQ;grind
inductive Upd where
 | put (d:Option J) (v:aP)
 | own (d:J) (cs:Z aJ)
def Upd.app:Upd->VS->VS
 |.put d v,s=>s.putO d v
 |.own d cs,s=>(s.put d (.own d 0)).setOwn d cs
def Upd.dst:Upd->Option J
 |.put d _=>d
 |.own d _=>some d
def Ni{o:aF}{j:J}{want:Bool}{g:J}(hg:o.guard=some (j,want))(hd:(ops[j]?).bind (·.dst)=some g):g∈o.looksAt ops:=by unfold Oper.looksAt;grind
def A22{o:aF}{st:VS}{h:aH}{gr:Bool}{K:VS->aH->Prop}(hs:Cq P cfg o=true)(hv:Ab P cfg o gr st h K):∃u:Upd,u.dst=o.dst/\K (u.app st) h/\(∀d cs,u= .own d cs->st.own d=none)/\(∀d v k off,u= .put d v->v= .own k off->∃x off',x∈o.op.operands/\D6 st x= .own k off')/\(∀d cs,u= .own d cs->W5 cfg o=true)/\∀st' h' (K':VS->aH->Prop),(Hx o st=true->h.le h')->AgreeOn cfg ops o st st'->K' (u.app st') h'->Ab P cfg o gr st' h' K':=by obtain⟨z,hv⟩:=hv.both;split at hv;{rename_i j;have l:∀cs b,o.op ≠ .select cs b:=fun cs b e=>by{simp[Vk,e]at j};obtain⟨v,A,L,p⟩:=B9j (cfg:=cfg) (ops:=ops) l hv;refine⟨.put o.dst v,rfl,A,(fun d cs e=>by cases e),(fun d F k off e G=>gz0),(fun d cs e=>by cases e),fun st' h' K' hl i y=>?_⟩;unfold Ab;rw[z];simp only[When,j];exact p st' h' _ hl i y};·rename_i j;have a:W5 cfg o=true:=by{simpa[Cq,j]using hs};have fin:∀cells:Z aJ,Ir cfg o.dst cells st h K->∃u:Upd,u.dst=o.dst/\K (u.app st) h/\(∀d cs,u= .own d cs->st.own d=none)/\(∀d v k off,u= .put d v->v= .own k off->∃x off',x∈o.op.operands/\D6 st x= .own k off')/\(∀d cs,u= .own d cs->W5 cfg o=true)/\∀st' h' (K':VS->aH->Prop),(Hx o st=true->h.le h')->AgreeOn cfg ops o st st'->K' (u.app st') h'->Ir cfg o.dst cells st' h' K':=by{intro cells hv;unfold Ir at hv;split at hv;{rename_i d g;obtain⟨f,hv⟩:=hv.both;simp only[aE,Option.isNone_iff_eq_none]at f;refine⟨.own d cells,g.symm,hv,(fun C cs e=>gz0),(fun C v k off e _=>by cases e),(fun _ _ _=>a),fun st' h' K' hl i y=>?_⟩;have E:st'.own d=none:=i.alloc d a g f.2;rw[g];simp only[Ir,f.1.1,f.1.2,E,Option.isNone_none,Bool.and_self,When];exact y};grind};unfold W5 at a;split at hv;{rename_i t c;rw[c]at a;simp only[a]at hv;obtain⟨H,hv⟩:=hv.both;obtain⟨u,r,n,s,q,w,B⟩:=fin _ hv;refine⟨u,r,n,s,q,w,fun st' h' K' hl i y=>?_⟩;unfold Ab;grind};{rename_i t x c;rw[c]at a;obtain⟨D,hv⟩:=hv.both;simp only[a]at hv;obtain⟨u,r,n,s,q,w,B⟩:=fin _ hv;refine⟨u,r,n,s,q,w,fun st' h' K' hl i y=>?_⟩;have m:=i.eval (x:=x) (by rw[c];simp[aC]);unfold Ab;simp only[When,j,c,a,m,D,i.rho (x:=x) (by rw[c];simp[aC])];grind};all_goals grind
def B8p{o:aF}{st:VS}{h:aH}{gr:Bool}{K:VS->aH->Prop}(hs:Cq P cfg o=true)(hv:Sj P cfg ops o gr st h K):∃u:Upd,u.dst=o.dst/\K (u.app st) h/\(∀d cs,u= .own d cs->st.own d=none)/\(∀d v k off,u= .put d v->v= .own k off->∃x off',x∈o.op.operands/\D6 st x= .own k off')/\(∀d cs,u= .own d cs->W5 cfg o=true)/\∀st' h' (K':VS->aH->Prop),(Hx o st=true->h.le h')->AgreeOn cfg ops o st st'->K' (u.app st') h'->Sj P cfg ops o gr st' h' K':=by unfold Sj at hv;split at hv;{obtain⟨u,t,q,z,s,A,C⟩:=A22 (ops:=ops) hs hv;exact⟨u,t,q,z,s,A,fun st' h' K' hl l y=>by unfold Sj;grind⟩};·rename_i j r n;split at hv;{exact hv.elim};·rename_i g f;split at hv;{rename_i b m;have c:=Ni n f;have skip:∀B:Bool,b=B->When (V4 cfg o.dst) (K ((st.put g (.val (.bool B))).putO o.dst (.val undef)) h)->V4 cfg o.dst=true/\K (st.putO o.dst (.val undef)) h:=by{intro B e x;subst e;rw[aI st m]at x;exact x.both};cases b<;>cases r;{have i:Ab P cfg o gr (st.put g (.val (.bool false))) h K:=hv;rw[aI st m]at i;obtain⟨u,t,q,z,s,A,C⟩:=A22 (ops:=ops) hs i;refine⟨u,t,q,z,s,A,fun st' h' K' hl l y=>?_⟩;have a:st'.env g= .val (.bool false):=by{rw[l.env g c];exact m};unfold Sj;simp only[n,f,a,Br];rw[aI st' a];grind};{obtain⟨p,w⟩:=skip false rfl hv;refine⟨.put o.dst (.val undef),rfl,w,(fun d cs e=>by cases e),(fun d v k off e D=>gz0),(fun d cs e=>by cases e),fun st' h' K' hl l y=>?_⟩;have a:st'.env g= .val (.bool false):=by{rw[l.env g c];exact m};unfold Sj;simp only[n,f,a,Br];rw[aI st' a,p];exact y};{obtain⟨p,w⟩:=skip true rfl hv;refine⟨.put o.dst (.val undef),rfl,w,(fun d cs e=>by cases e),(fun d v k off e D=>gz0),(fun d cs e=>by cases e),fun st' h' K' hl l y=>?_⟩;have a:st'.env g= .val (.bool true):=by{rw[l.env g c];exact m};unfold Sj;simp only[n,f,a,Br];rw[aI st' a,p];exact y};·have i:Ab P cfg o gr (st.put g (.val (.bool true))) h K:=hv;rw[aI st m]at i;obtain⟨u,t,q,z,s,A,C⟩:=A22 (ops:=ops) hs i;refine⟨u,t,q,z,s,A,fun st' h' K' hl l y=>?_⟩;have a:st'.env g= .val (.bool true):=by{rw[l.env g c];exact m};unfold Sj;simp only[n,f,a,Br];rw[aI st' a];grind};{rename_i E m;have c:=Ni n f;obtain⟨p,w⟩:=hv.both;refine⟨.put o.dst (.val undef),rfl,w,(fun d cs e=>by cases e),(fun d v k off e D=>gz0),(fun d cs e=>by cases e),fun st' h' K' hl l y=>?_⟩;have a:st'.env g= .val (.tuple E):=by{rw[l.env g c];exact m};unfold Sj;simp only[n,f,a];rw[p];exact y};grind
def Uc{z:aJ}{K K':aJ->Prop}(x:exT z K)(hk:∀v,K v->K' v):exT z K':=by unfold exT at x ⊢;split at x;{exact B7g x fun a=>hk _};·exact A8t x hk
def B3y{zs:Z aJ}:∀{K K':Z aJ->Prop},exTs zs K->(∀v,K v->K' v)->exTs zs K':=by
 induction zs with
 |nil=>exact fun x a=>a _ x
 |cons z zs ih=>exact fun x a=>Uc x fun v y=>ih y fun b=>a _
def Ws{t:aT}{K K':aJ->Prop}(x:exRt P t K)(hk:∀v,K v->K' v):exRt P t K':=by unfold exRt at x ⊢;split at x;{exact B3y x fun a=>hk _};·exact Uc x hk
def WFs(st:VS):Prop:=∀i k off,st.env i= .own k off->(st.own k).isSome=true
structure Frm (o:aF) (st st':VS):Prop where
 env:∀ x,o.dst≠some x->st'.env x=st.env x
 own:∀ k,(o.dst=some k->(st.own k).isSome=true)->(∀ t a b off,o.op= .store t a b->D6 st a ≠ .own k off)->st'.own k=st.own k
 wf:WFs st'
def A1x{st:VS}(wf:WFs st){x:aS}{k off:J}(e:D6 st x= .own k off):(st.own k).isSome=true:=by
 cases x with
 |tmp t=>exact wf t k off e
 |_=>cases e
def Qy(st:VS)(d:Option J)(v:aP)(x:J):(st.putO d v).env x=if d=some x then v else st.env x:=by
 cases d with
 |none=>rfl
 |some d=>
  by_cases h:x=d;·subst h;simp[VS.putO,VS.put]
  ·have:¬d=x:=fun e=>h e.symm;simp[VS.putO,VS.put,Gg h,this]
def W8{o:aF}{st:VS}(wf:WFs st)(u:aJ):Frm o st (st.putO o.dst (.val u)):=by refine⟨fun x a=>by rw[Qy,iN a],fun k _ _=>by rw[S7],fun i k off e=>?_⟩;rw[Qy]at e;rw[S7];split at e;{cases e};·exact wf i k off e
def Gm{u:Upd}{st:VS}{x:J}(h:u.dst≠some x):(u.app st).env x=st.env x:=by
 cases u with
 |put d v=>simp only[Upd.app,Qy];rw[iN (show d≠some x from h)]
 |own d cs=>
  have:x≠d:=fun e=>h (by rw[e];rfl);simp[Upd.app,VS.setOwn,VS.put,Gg this]
def Dd{u:Upd}{st:VS}{k:J}(h:∀d cs,u= .own d cs->k≠d):(u.app st).own k=st.own k:=by
 cases u with
 |put d v=>simp only[Upd.app,S7]
 |own d cs=>exact H1 _ _ (h d cs rfl)
def Ss(st:VS){d e:J}(v u:aP)(h:d≠e):(st.put d v).put e u=(st.put e u).put d v:=by unfold VS.put;congr 1;funext i;by_cases a:i=d;{subst a;simp[Gg h]};·by_cases b:i=e;{simp[Gg a]};·simp[Gg a,Gg b]
def J7{u:Upd}{st:VS}{d:Option J}{v:aP}(h:∀x,u.dst=some x->d≠some x):(u.app st).putO d v=u.app (st.putO d v):=by
 cases d with
 |none=>rfl
 |some d=>
  cases u with
  |put e w=>
   cases e with
   |none=>rfl
   |some e=>exact Ss st w v (fun x=>h e rfl (congrArg some x.symm))
  |own e cs=>
   have:=Ss st (.own e 0) v (fun x=>h e rfl (congrArg some x.symm));show((st.put e (.own e 0)).setOwn e cs).put d v=((st.put d v).put e (.own e 0)).setOwn e cs;rw[<- this];rfl
def Kb{u:Upd}{st:VS}{k:J}{cs:Z aJ}(h:∀d c,u= .own d c->k≠d):(u.app st).setOwn k cs=u.app (st.setOwn k cs):=by
 cases u with
 |put d v=>cases d<;>rfl
 |own d c=>
  have b:=h d c rfl;show((st.put d (.own d 0)).setOwn d c).setOwn k cs=((st.setOwn k cs).put d (.own d 0)).setOwn d c;unfold VS.setOwn VS.put;congr 1;funext i;by_cases a:i=d;·subst a;simp[Gg (Ne.symm b)]
  ·by_cases e:i=k;·simp[Gg a]
   ·simp[Gg a,Gg e]
def B85{u v:Upd}{st:VS}(h:∀x,u.dst=some x->v.dst≠some x):v.app (u.app st)=u.app (v.app st):=by
 cases v with
 |put d w=>exact J7 h
 |own d cs=>
  have a:(u.app st).put d (.own d 0)=u.app (st.put d (.own d 0)):=J7 (d:=some d) h;show((u.app st).put d (.own d 0)).setOwn d cs=_;rw[a,Kb (fun e c eq=>by subst eq;exact fun x=>h e rfl (by rw[<- x];rfl))];rfl
def Frm.upd{o:aF}{u:Upd}{st:VS}(hd:u.dst=o.dst)(wf:WFs st)(hv:∀d v k off,u= .put d v->v= .own k off->∃x off',D6 st x= .own k off')(hn:∀d cs,u= .own d cs->st.own d=none):Frm o st (u.app st):=by
 refine⟨fun x b=>Gm gz0,fun k c _=>Dd (fun d cs e=>?_),fun i k off e=>?_⟩
 ·rintro rfl;have:=c (by rw[<- hd,e];rfl);grind
 cases u with
 |put d v=>
  simp only[Upd.app,S7]at e ⊢;rw[Qy]at e;split at e
  ·obtain⟨x,off',b⟩:=hv d v k off rfl e;exact A1x wf b
  ·exact wf i k off e
 |own d cs=>
  by_cases a:i=d
  ·subst a;have:((st.put i (.own i 0)).setOwn i cs).env i= .own i 0:=by simp[VS.setOwn,VS.put]
   simp only[Upd.app]at e ⊢;rw[this]at e;injection e with e1 e2;subst e1;rw[Ba];rfl
  ·rw[Gm (u:=.own d cs) (fun x=>a (by cases x;rfl))]at e;have:=wf i k off e;rw[Dd (u:=.own d cs) (fun g f j=>gz0)];exact this
structure Before (cfg:Cfg) (ops:Array aF) (u:Upd) (o:aF) (st:VS):Prop where
 look:∀ x,u.dst=some x->x∉o.looksAt ops
 dst:∀ x,u.dst=some x->o.dst≠some x
 free:∀ d cs,u= .own d cs->st.own d=none
 wf:WFs st
def Before.eval{u:Upd}{o:aF}{st:VS}(b:Before cfg ops u o st){x:aS}(hx:x∈o.op.operands):D6 (u.app st) x=D6 st x:=by
 cases x with
 |tmp t=>
  refine Gm fun e=>b.look t e ?_;exact aL _ (List.mem_filterMap.2 ⟨.tmp t,gz0,rfl⟩)
 |_=>rfl
def Before.rho{u:Upd}{o:aF}{st:VS}(b:Before cfg ops u o st){x:aS}(hx:x∈o.op.operands):rho (u.app st) x=rho st x:=by unfold Go.Proofs.YteppbhimdjmabaaGreatDoor.rho;rw[b.eval hx]
def Before.key{u:Upd}{o:aF}{st:VS}(b:Before cfg ops u o st){x:aS}{k off:J}(e:D6 st x= .own k off):∀d cs,u= .own d cs->k≠d:=by rintro d cs a rfl;have:=A1x b.wf e;rw[b.free k cs a]at this;cases this
def Grw(cfg:Cfg)(o:aF)(st:VS)(h h':aH):Prop:=B1h cfg o=false->(∀t a b,o.op= .store t a b->∃k off,D6 st a= .own k off)->h.le h'
def Grw.of{cfg:Cfg}{o:aF}{st:VS}{h h':aH}(x:h.le h'):Grw cfg o st h h':=fun _ _=>x
def Grow.map{gr:Bool}{h h':aH}{X yq9:Prop}(x:Grow gr h h' X)(f:X->(gr=true->h.le h')->yq9):Grow gr h h' yq9:=by cases gr;{exact f x (fun e=>by cases e)};·exact⟨x.1,f x.2 (fun _=>x.1)⟩
def Wt{u:Upd}{o:aF}{st:VS}(b:Before cfg ops u o st){s:Sem aJ}{h:aH}{K:VS->aH->Prop}{K':VS->aH->Prop}(hk:∀st' h',K (u.app st') h'->Grw cfg o st h h'->Frm o st st'->K' st' h')(x:effV P s o true (u.app st) h K): effV P s o true st h K':=by refine Ke s x fun v h' y=>Uc y fun w ⟨c,a,d⟩=>⟨c,a,hk _ _ ?_ (Grw.of a) (W8 b.wf w)⟩;rwa [J7 (fun z e=>b.dst z e)]at d
def Zr{u:Upd}{o:aF}{st:VS}{gr:Bool}(b:Before cfg ops u o st)(hgw:B1h cfg o=false->gr=true){s:Sem aJ}{h:aH}{K:VS->aH->Prop}{K':VS->aH->Prop}(hk:∀st' h',K (u.app st') h'->Grw cfg o st h h'->Frm o st st'->K' st' h')(x:effV P s o gr (u.app st) h K): effV P s o gr st h K':=by refine Ke s x fun v h' y=>Uc y fun w ⟨d,a⟩=>⟨d,a.map fun f c=>hk _ _ ?_ (fun e _=>c (hgw e)) (W8 b.wf w)⟩;rwa [J7 (fun z g=>b.dst z g)]at f
def A4z{u:Upd}{o:aF}{st:VS}(b:Before cfg ops u o st){s:Sem aJ}{h:aH}{K:VS->aH->Prop}{K':VS->aH->Prop}(hk:∀st' h',K (u.app st') h'->Grw cfg o st h h'->Frm o st st'->K' st' h')(x:effP P s o true (u.app st) h K): effP P s o true st h K':=by refine Ke s x fun v h' ⟨w,c,a,d⟩=>⟨w,c,a,hk _ _ ?_ (Grw.of a) (W8 b.wf _)⟩;rwa [J7 (fun z e=>b.dst z e)]at d
def B43{u:Upd}{o:aF}{st:VS}(b:Before cfg ops u o st){s:Sem Unit}{h:aH}{K:VS->aH->Prop}{K':VS->aH->Prop}(hno:¬(∀t a b,o.op= .store t a b->∃k off,D6 st a= .own k off))(hk:∀st' h',K (u.app st') h'->Grw cfg o st h h'->Frm o st st'->K' st' h')(x:effU P s o false (u.app st) h K): effU P s o false st h K':=by refine Ke s x fun v h' c=>?_;rw[J7 (fun z d=>b.dst z d)]at c;exact hk _ _ c (fun _ hs=>absurd hs hno) (W8 b.wf _)
def Xd{u:Upd}{o:aF}{st:VS}(b:Before cfg ops u o st)(hs:Cq P cfg o=false){h:aH}{K:VS->aH->Prop}{K':VS->aH->Prop}(hk:∀st' h',K (u.app st') h'->Grw cfg o st h h'->Frm o st st'->K' st' h')(hv:Ab P cfg o (Nj cfg o) (u.app st) h K):Ab P cfg o (Nj cfg o) st h K':=by
 unfold Ab at hv ⊢;obtain⟨X,hv⟩:=hv.both;rw[X];simp only[Cq,Bool.or_eq_false_iff]at hs;simp only[hs.1]at hv ⊢
 show(match o.op with
  |.alloc t=>_
  |.box t x=>_
  |.store t a x=>_
  |.makeSlice t l c=>_
  |.buildSlice t n ps=>_
  |.convert s d x=>_
  |.call c=>_
  |_=>_)
 split at hv
 ·rename_i t g;have m:Nj cfg o=true:=by simp[Nj,B1h,g]
  rw[m]at hv ⊢;have:Pi cfg o.dst=false:=by simpa[W5,g]using hs.2
  simp only[g,this]at hv ⊢;exact A4z b hk hv
 ·rename_i t x g;have m:Nj cfg o=true:=by simp[Nj,B1h,g]
  rw[m]at hv ⊢;have:Pi cfg o.dst=false:=by simpa[W5,g]using hs.2
  have D:x∈o.op.operands:=by rw[g];simp[aC]
  simp only[g,this,b.eval D,b.rho D]at hv ⊢;obtain⟨j,hv⟩:=hv.both;rw[j];exact A4z b hk hv
 ·rename_i t a x g;have m:Nj cfg o=false:=by simp[Nj,g]
  rw[m]at hv ⊢;have A:a∈o.op.operands:=by rw[g];simp[aC]
  have D:x∈o.op.operands:=by rw[g];simp[aC]
  simp only[g];unfold A5x at hv ⊢;rw[b.eval A]at hv;split at hv
  ·rename_i k off S;have F:=b.key S;rw[Dd F]at hv;try simp only[S]
   split at hv
   ·try simp only[hcs]
    rw[b.eval D,b.rho D]at hv;obtain⟨j,hv⟩:=hv.both;rw[j];rw[Kb F,J7 (fun z G=>b.dst z G)]at hv;refine hk _ _ hv (Grw.of (B8 h)) (⟨fun y q=>by rw[Qy,iN q];rfl,fun V _ L=>?_,fun i V M e=>?_⟩)
    ·rw[S7,H1];grind
    ·rw[Qy]at e;rw[S7];split at e;·cases e
     ·have:=b.wf i V M e;by_cases N:V=k;·subst N;rw[Ba];rfl
      ·rw[H1 _ _ N];exact this
   omega
  ·try simp only[T]
   rw[b.eval D,b.rho D]at hv;obtain⟨j,hv⟩:=hv.both;rw[j];exact B43 b (fun D=>gz0) hk hv
  omega
 ·rename_i t l c g;have m:Nj cfg o=true:=by simp[Nj,B1h,g]
  rw[m]at hv ⊢;have hl:l∈o.op.operands:=by rw[g];simp[aC]
  have W:c∈o.op.operands:=by rw[g];simp[aC]
  have A:T9 (u.app st) [l,c]=T9 st [l,c]:=Ca fun y q=>by
   simp only[List.mem_cons,List.not_mem_nil,or_false]at q;rcases q with rfl|rfl;·exact b.eval hl
   ·exact b.eval W
  simp only[g];rw[A,b.rho hl,b.rho W]at hv;obtain⟨j,hv⟩:=hv.both;rw[j];exact Wt b hk hv
 ·rename_i t n ps g;have m:Nj cfg o=true:=by simp[Nj,B1h,g]
  rw[m]at hv ⊢
  have T:∀p∈ps,p.2∈o.op.operands:=fun p T=>by
   simp only[aC,List.mem_toArray,List.mem_map,Array.mem_toList_iff];grind
  have A:T9 (u.app st) (ps.toList.map (·.2))=T9 st (ps.toList.map (·.2)):=Ca fun y q=>by
   obtain⟨p,O,rfl⟩:=List.mem_map.1 q;exact b.eval (T p gz0)
  have H:(ps.map fun(i,x)=>(i,rho (u.app st) x))=ps.map fun(i,x)=>(i,rho st x):=by
   apply Array.map_congr_left;intro p O;simp only[b.rho (T p O)]
  simp only[g];rw[A,H]at hv;obtain⟨j,hv⟩:=hv.both;rw[j];exact Wt b hk hv
 ·rename_i s d x g;have m:Nj cfg o=true:=by simp[Nj,B1h,g]
  rw[m]at hv ⊢;have D:x∈o.op.operands:=by rw[g];simp[aC]
  have A:T9 (u.app st) [x]=T9 st [x]:=Ca fun y q=>by
   simp only[List.mem_cons,List.not_mem_nil,or_false]at q;rw[q];exact b.eval D
  simp only[g];rw[A,b.rho D]at hv;obtain⟨j,hv⟩:=hv.both;rw[j];exact Wt b hk hv
 ·rename_i c g;generalize m:Nj cfg o=gr at hv ⊢;have B:B1h cfg o=false->gr=true:=fun e=>by rw[<- m];simp[Nj,g,e]
  have C:∀y∈c.args,y∈o.op.operands:=fun y q=>by
   simp only[aC,Call.operands];grind
  have A:T9 (u.app st) c.args.toList=T9 st c.args.toList:=Ca fun y q=>b.eval (C y gz0);have H:c.args.map (rho (u.app st))=c.args.map (rho st):=Array.map_congr_left fun y q=>b.rho (C y q);simp only[g];split at hv
  ·rename_i f E;try simp only[E]
   unfold A7s at hv ⊢;have hf:f∈o.op.operands:=by rw[g];simp[aC,Call.operands,E]
   rw[b.eval hf]at hv;split at hv
   ·try simp only[hfe]
    split at hv
    ·rw[A,H]at hv;obtain⟨j,hv⟩:=hv.both;try simp only[hhas]
     rw[j];refine FCall.mono hv fun r h' y=>Ws y fun w ⟨j,L⟩=>⟨j,L.map fun R Q=>hk _ _ ?_ (fun e _=>Q (B e)) (W8 b.wf w)⟩;rwa [J7 (fun z G=>b.dst z G)]at R
    ·rw[A,H]at hv;obtain⟨j,hv⟩:=hv.both;try simp only[hhas]
     rw[j];refine ECall.mono hv fun r h' y=>Ws y fun w ⟨j,L⟩=>⟨j,L.map fun R Q=>hk _ _ ?_ (fun e _=>Q (B e)) (W8 b.wf w)⟩;rwa [J7 (fun z G=>b.dst z G)]at R
   ·try simp only[hfe]
    rw[A,H]at hv;obtain⟨j,hv⟩:=hv.both;rw[j];refine YCall.mono hv fun r h' y=>Ws y fun w ⟨j,L⟩=>⟨j,L.map fun R Q=>hk _ _ ?_ (fun e _=>Q (B e)) (W8 b.wf w)⟩;rwa [J7 (fun z G=>b.dst z G)]at R
   omega
  ·try simp only[E]
   rw[A,H]at hv;obtain⟨j,hv⟩:=hv.both;rw[j];exact Zr b B hk hv
  ·try simp only[E]
   rw[A,H]at hv;obtain⟨j,hv⟩:=hv.both;rw[j];exact Zr b B hk hv
  omega
 grind
def B30{u:Upd}{o:aF}{st:VS}(b:Before cfg ops u o st){h:aH}{K:VS->aH->Prop}{K':VS->aH->Prop}(hk:∀st' h',K (u.app st') h'->Grw cfg o st h h'->Frm o st st'->K' st' h')(hv:Sj P cfg ops o (Nj cfg o) (u.app st) h K):Sj P cfg ops o (Nj cfg o) st h K':=by
 cases hs:Cq P cfg o with
 |true=>
  obtain⟨v,l,i,O,H,R,L⟩:=B8p (ops:=ops) hs hv
  have Q:AgreeOn cfg ops o (u.app st) st:=by
   refine⟨fun x r=>(Gm fun e=>b.look x e r).symm,fun t a k off s e=>?_,fun d _ F D=>(Dd fun N cs e=>?_).symm.trans D⟩
   ·rw[b.eval (by rw[s];simp[aC])]at e;exact(Dd (b.key e)).symm
   ·rintro rfl;exact b.dst d (by rw[e];rfl) F
  refine L st h _ (fun _=>B8 h) Q (hk _ _ ?_ (Grw.of (B8 h)) (Frm.upd l b.wf (fun d w k off e y=>?_) (fun d cs e=>?_)));·rw[<- B85 (fun x r=>by rw[l];exact b.dst x r)];exact i
  ·obtain⟨x,n,r,C⟩:=H d w k off e y;exact⟨x,n,by rw[<- b.eval r];exact C⟩
  ·have:=O d cs e
   rwa [Dd (fun N M y=>by
    rintro rfl;exact b.dst d (by rw[y];rfl) (by rw[<- l,e];rfl))]at this
 |false=>
  unfold Sj at hv ⊢;split at hv;·exact Xd b hs hk hv
  ·rename_i j q G;split at hv;·exact hv.elim
   ·rename_i g B;have p:=Ni (o:=o) G B;have C:(u.app st).env g=st.env g:=Gm fun e=>b.look g e p;rw[C]at hv;split at hv
    ·rename_i E m;have f:(u.app st).env g= .val (.bool E):=gz0
     have skip:V4 cfg o.dst=true/\K ((u.app st).putO o.dst (.val undef)) h->When (V4 cfg o.dst) (K' (st.putO o.dst (.val undef)) h):=by
      rintro⟨l,i⟩;rw[l];rw[J7 (fun z A=>b.dst z A)]at i;exact hk _ _ i (Grw.of (B8 h)) (W8 b.wf _)
     try simp only[m]
     cases E<;>cases q
     ·have c:Ab P cfg o (Nj cfg o) ((u.app st).put g (.val (.bool false))) h K:=hv;rw[aI _ f]at c;rw[aI st m];exact Xd b hs hk c
     ·have c:When (V4 cfg o.dst) (K (((u.app st).put g (.val (.bool false))).putO o.dst (.val undef)) h):=hv;rw[aI _ f]at c;rw[aI st m];exact skip c.both
     ·have c:When (V4 cfg o.dst) (K (((u.app st).put g (.val (.bool true))).putO o.dst (.val undef)) h):=hv;rw[aI _ f]at c;rw[aI st m];exact skip c.both
     ·have c:Ab P cfg o (Nj cfg o) ((u.app st).put g (.val (.bool true))) h K:=hv;rw[aI _ f]at c;rw[aI st m];exact Xd b hs hk c
    ·try simp only[m]
     obtain⟨l,i⟩:=hv.both;rw[l];rw[J7 (fun z A=>b.dst z A)]at i;exact hk _ _ i (Grw.of (B8 h)) (W8 b.wf _)
    omega
def Vw{o:aF}{st:VS}(wf:WFs st){h:aH}{K K':VS->aH->Prop}(hv:Sj P cfg ops o (Nj cfg o) st h K)(hk:∀st' h',K st' h'->Grw cfg o st h h'->Frm o st st'->K' st' h'):Sj P cfg ops o (Nj cfg o) st h K':=B30 (u:=.put none (.val undef)) ⟨(fun x e=>by cases e),(fun x e=>by cases e),(fun d cs e=>by cases e),wf⟩ hk hv
def B7s{oj oi x:aF}{st st':VS}{rem rem':Z J}(hsub:∀i∈rem',i∈rem)(hfr:Frm oi st st')(hap:oj.apart ops oi=true)(hmem:∃i:J,i∈rem/\ops[i]? = some oi)(h:Rt cfg ops rem oj x st=true):Rt cfg ops rem' oj x st'=true:=by
 obtain⟨_,_,j⟩:=Oper.apart_spec hap;unfold Rt at h ⊢;simp only[aE]at h ⊢;obtain⟨n,h⟩:=h
 have d:Hx oj st'=Hx oj st:=by
  unfold Hx;split
  ·rename_i k a c
   have g:D6 st' a=D6 st a:=by
    cases a with
    |tmp z=>
     refine hfr.env z fun e=>j z e ?_;exact aL _ (List.mem_filterMap.2 ⟨.tmp z,by rw[c];simp[aC],rfl⟩)
    |_=>rfl
   rw[g]
  ·rfl
 refine⟨gz0,?_⟩;split at h
 ·rename_i t y b p;split at h
  ·rename_i k a c;simp only[aE]at h ⊢;refine⟨List.all_eq_true.2 fun i f=>List.all_eq_true.1 h.1 i (hsub i f),?_⟩
   have g:D6 st' a=D6 st a:=by
    cases a with
    |tmp z=>
     refine hfr.env z fun e=>j z e ?_;exact aL _ (List.mem_filterMap.2 ⟨.tmp z,by rw[c];simp[aC],rfl⟩)
    |_=>rfl
   have m:st'.env y=st.env y:=by
    refine hfr.env y fun e=>?_;obtain⟨i,f,l⟩:=hmem;have:=List.all_eq_true.1 h.1 i f;simp_all
   grind
  ·exact h
 ·exact h
 ·exact h
def swap{oj oi:aF}{st:VS}{rem:Z J}(wf:WFs st)(hs:Cq P cfg oj=true)(hap:oj.apart ops oi=true)(hc:Rt cfg ops rem oj oi st=true){h:aH}{K:VS->aH->Prop}
 (hv:Sj P cfg ops oj (Nj cfg oj) st h fun st1 h1=>Sj P cfg ops oi (Nj cfg oi) st1 h1 K):Sj P cfg ops oi (Nj cfg oi) st h fun st1 h1=>Frm oi st st1/\Sj P cfg ops oj (Nj cfg oj) st1 h1 K:=by
 obtain⟨M,s,F⟩:=Oper.apart_spec hap;obtain⟨u,h1,A,H,N,R,E⟩:=B8p (ops:=ops) hs hv;have b:Before cfg ops u oi st:=⟨fun x e=>M x gz0,fun x e=>s x gz0,H,wf⟩;have m:=hc;unfold Rt at m
 have G:Hx oj st=true->B1h cfg oi=false:=fun e=>by
  grind
 refine B30 b (fun n C D hl l=>⟨l,E n C K (fun c=>hl (G c) fun q j r i=>?_) ?_ D⟩) A
 ·obtain⟨t,x,hld⟩:∃t x,oj.op= .load t x:=by
   unfold Hx at c;grind
  cases j with
  |tmp y=>
   show ∃k off,st.env y= .own k off
   have z:∀k off,D6 st x ≠ .own k off:=by
    intro k off e;unfold Hx at c;grind
   grind
  |_=>grind
 refine⟨fun x L=>l.env x fun e=>F x e L,fun t a k off B e=>l.own k (fun _=>A1x wf e) (fun q j r g i f=>?_),fun d O w p=>(l.own d (fun e=>absurd e (s d w)) (fun q j r g i f=>?_)).trans p⟩
 ·cases j with
  |tmp y=>
   have Q:st.env y= .own k g:=f;simp_all
  |_=>grind
 ·have:=A1x wf f;grind
def C5q{anc:Z (Z J)}{al:J->Z J}{i:J}{oi:aF}(hi:ops[i]? = some oi){L2:Z J}{K:VS->aH->Prop}:∀(L1:Z J) (n:J) (st:VS) (h:aH),n=L1.length+L2.length->WFs st->(∀j∈L1,has (anc.getD i []) j=false)->i∉L1->
 Hr P cfg ops anc al (n+1) (L1++i::L2) st h K->Sj P cfg ops oi (Nj cfg oi) st h fun st' h'=>WFs st'/\Hr P cfg ops anc al n (L1++L2) st' h' K:=by
 intro L1
 induction L1 with
 |nil=>
  intro n st h _ wf _ _ g;simp only[List.nil_append,Hr,hi]at g;exact Vw wf (A95 g.both.2) fun st' h' f _ l=>⟨l.wf,f⟩
 |cons j L1 ih=>
  intro n st h N wf e z g;obtain⟨n,rfl⟩:∃n',n=n'+1:=⟨L1.length+L2.length,gz0⟩;have w:n=L1.length+L2.length:=gz0;have m:i∉L1:=fun A=>z (by simp[A]);simp only[aN,Hr]at g;split at g;·exact g.elim
  ·rename_i s C;obtain⟨c,g⟩:=g.both;have c:=List.all_eq_true.1 c;have b:=c i (by simp);unfold A1g at b;rw[aO]at b;rcases b with b|b
   ·unfold B2u at b;rw[e j (by simp),hi]at b;simp only[Bool.false_or,aE]at b;obtain⟨⟨p,t⟩,H⟩:=b
    have hs:Cq P cfg s=true:=by
     unfold B6a at p;grind
    have r:Sj P cfg ops s (Nj cfg s) st h fun d r=>Sj P cfg ops oi (Nj cfg oi) d r fun q B=>WFs q/\Hr P cfg ops anc al n (L1++L2) q B K:=
     Vw wf (A95 g) fun d r f _ l=>ih n d r w l.wf (fun k D=>e k (by simp[D])) m f;refine Vw wf (swap wf hs t H r) fun d r ⟨l,f⟩ _ _=>⟨l.wf,?_⟩;simp only[aN,Hr,C]
    have u:(L1++L2).all (A1g P cfg ops anc al (L1++L2) d s j)=true:=by
     refine List.all_eq_true.2 fun x M=>?_
     have a:=c x (by
      grind);unfold A1g at a ⊢;rw[p]at a ⊢;simp only[Bool.not_true,Bool.false_and,Bool.or_false]at a ⊢;unfold B2u at a ⊢;simp only[aO]at a ⊢;rcases a with a|a;·grind
     ·refine .inr ?_;split at a
      ·simp only[aE]at a ⊢
       exact⟨a.1,B7s (rem:=L1++i::L2) (fun y L=>by
        grind) l t ⟨i,by simp,hi⟩ a.2⟩
      omega
    rw[u];have G:A5e P cfg anc al s j (L1++L2)=[]:=by unfold A5e;rw[p]
    rw[G];exact Vw l.wf f fun q B ⟨_,f⟩ _ _=>f
   ·simp only[aE,Bool.not_eq_true']at b;obtain⟨F,E⟩:=A7u (L2:=L2) m
    have A:i∈A5e P cfg anc al s j (L1++i::L2):=by
     unfold A5e;rw[b.1];refine List.mem_filter.2 ⟨Be.1 b.2,?_⟩;rw[F,Be.2 (show i∈L1++i::L2 by simp),e j (by simp)];grind
    have:=C21 g A;simp only[hi]at this;rw[E]at this;exact Vw wf this fun st' h' f _ l=>⟨l.wf,by simp only[aN,Hr,C]at f ⊢;exact f⟩
def B03:∀{L done:Z J},B2x ops done L=true->L.Nodup/\(∀i∈L,i∉done)/\∀L1 i L2,L=L1++i::L2->∃o,ops[i]? = some o/\∀e∈o.after,Region.binds .any e=true->e.on∈done\/e.on∈L1:=by
 intro L
 induction L with
 |nil=>simp_all
 |cons x L ih=>
  intro done h;simp only[B2x,aE,Bool.not_eq_true']at h;obtain⟨⟨b,c⟩,g⟩:=h;obtain⟨k,d,l⟩:=ih g;have p:x∉done:=fun a=>by rw[Be.2 a]at c;cases c
  refine⟨List.nodup_cons.2 ⟨fun a=>d x a (by simp),k⟩,fun i n=>?_,fun L1 i L2 e=>?_⟩;·grind
  ·cases L1 with
   |nil=>
    obtain⟨rfl,rfl⟩:=e;split at b
    ·rename_i o f;refine⟨o,f,fun e m j=>.inl ?_⟩;have:=List.all_eq_true.1 b e gz0;rw[j]at this;exact Be.1 (by assumption)
    ·cases b
   |cons y L1=>
    grind
def A1s{listed:Array Bool}{i:J}(d:Bool)(h:i<listed.size):(listed.setIfInBounds i true).getD i d=true:=by simp[h]
def B52{al:J->Z J}{F:Fence}{fu:J}[FOk F]{n:J}{h0:aH}{W0:World}(hn:cfg.n=n)(hfn:Bodies P cfg.fns){anc:Z (Z J)}(hanc:C5w ops anc=true){Q:Exit->Act->World->Prop}{K:VS->aH->Prop}{ord:Z J}(hord:B2x ops [] ord=true)(_hall:∀i,i<ops.size->i∈ord):
 ∀(m:J) (L:Z J) (listed:Array Bool) (st:VS) (h:aH) (a:Act) (W:World),L.length=m->L.Sublist ord->listed.size=ops.size->(∀i,i<ops.size->(listed.getD i true=false↔i∈L))->(∀i j,listed.getD i false=true->has (anc.getD i []) j=true->listed.getD j false=true)->
  Good n h0 W0 st h a W->Hr P cfg ops anc al m L st h K->(∀st' h' a' W',K st' h'->Good n h0 W0 st' h' a' W'->Agree cfg.lim st st'->Q .normal a' W')->wpAnyIn F fu P .any ops Q m listed a W:=by
 obtain⟨aj,_,p⟩:=B03 hord;intro m
 induction m with
 |zero=>
  intro L listed st h a W hl c ae b M g R O;have:L=[]:=List.eq_nil_of_length_eq_zero hl;subst this;refine⟨?_,O st h a W R g (Agree.refl _ _)⟩;apply List.eq_nil_iff_forall_not_mem.2;intro i D;obtain⟨h1,o,ho,_⟩:=mem_ready.1 D;grind
 |succ m ih=>
  intro L listed st h a W hl c ae b M g R O;have wf:WFs st:=by obtain⟨θ,r,_,_⟩:=g;exact r.wf
  have inl:∀i,i∈L->i<ops.size:=by
   intro i D;obtain⟨L1,L2,e⟩:=aM (c.subset D);obtain⟨o,ho,_⟩:=p L1 i L2 e;grind
  constructor
  ·
   intro u;exfalso
   cases L with
   |nil=>grind
   |cons i L=>
    have D:=inl i (by simp);obtain⟨L1,L2,e⟩:=aM (c.subset (show i∈i::L by simp));obtain⟨o,ho,hp⟩:=p L1 i L2 e
    have:i∈Region.ready .any ops listed:=by
     refine mem_ready.2 ⟨(b i D).2 (by simp),o,ho,fun A S t=>?_⟩;rcases hp A S t with h'|h';·cases h'
     ·have am:A.on<ops.size:=by
       obtain⟨M1,M2,e'⟩:=aM h';obtain⟨o',ak,_⟩:=p M1 A.on (M2++i::L2) gz0;grind
      have af:A.on∉i::L:=by
       intro hm;have C:(i::L).Sublist (L1++i::L2):=gz0;have w:(L1++i::L2).Nodup:=gz0;have s:i∉L1:=fun G=>(List.nodup_append.1 w).2.2 i G i (by simp) rfl
       have ah:(i::L).Sublist (i::L2):=by
        clear u b M O R g ih hp S t;revert C s;clear w e h'
        induction L1 with
        |nil=>grind
        |cons y L1 ihL=>
         intro C s;refine ihL ?_ (fun G=>s (by simp[G]))
         cases C with
         |cons _ h=>exact h
         |cons_cons _ h=>grind
       grind
      grind
    grind
  ·intro i D;obtain⟨h1,oi,q,H⟩:=mem_ready.1 D;have l:=(Array.getElem?_eq_some_iff.1 q).1;have ad:=(b i l).1 h1;obtain⟨L1,L2,e⟩:=aM ad
   have T:∀j∈L1,has (anc.getD i []) j=false:=by
    intro j hj
    cases G:has (anc.getD i []) j with
    |false=>rfl
    |true=>
     exfalso;have E:=List.all_eq_true.1 (List.all_eq_true.1 hanc i (List.mem_range.2 l)) j (Be.1 G);simp only[q]at E;obtain⟨A,S,t⟩:=List.any_eq_true.1 E;simp only[aE,aO]at t;have B:=H A gz0 t.1
     have ai:listed.getD j false=true:=by
      rcases t.2 with h'|h';·rw[<- aK h'];exact B
      grind
     grind
   have N:i∉L1:=by
    grind
   have ac:=C5q q (L2:=L2) L1 m st h gz0 wf T N (by rw[<- e];exact R);refine wpOpIn_mono (fun a' W' ⟨st',h',⟨_,hK⟩,g',ag⟩=>?_) (g.op hn hfn q ac)
   have z:∀j d,(listed.setIfInBounds i true).getD j d=if j=i then true else listed.getD j d:=by
    intro j d;by_cases f:j=i;·subst f;rw[iP rfl];exact A1s d oo
    ·rw[iN f];exact getD_set_ne d (Ne.symm f)
   refine ih (L1++L2) _ st' h' a' W' gz0 ?_ gz0 (fun j hj=>?_) (fun j k hj hk=>?_) g' hK fun aa h2 a2 W2 k g2 X=>O aa h2 a2 W2 k g2 (ag.trans X)
   ·refine List.Sublist.trans ?_ c;grind
   ·rw[z];by_cases f:j=i;·grind
    ·grind
   ·rw[z]at hj ⊢;by_cases V:k=i;·grind
    ·rw[iN V];by_cases f:j=i
     ·subst f;have E:=List.all_eq_true.1 (List.all_eq_true.1 hanc j (List.mem_range.2 l)) k (Be.1 hk);simp only[q]at E;obtain⟨A,S,t⟩:=List.any_eq_true.1 E;simp only[aE,aO]at t;have B:=H A gz0 t.1;rcases t.2 with h'|h';·rw[<- aK h'];exact B
      grind
     grind
def B0o{al:J->Z J}{F:Fence}{fu:J}[FOk F]{n:J}{h0:aH}{W0:World}(hn:cfg.n=n)(hfn:Bodies P cfg.fns){id:J}{ord:Z J}{anc:Z (Z J)}(hok:B47 P ops ord anc=true){Q:Exit->Act->World->Prop}{K:VS->aH->Prop}{st:VS}{h:aH}{a:Act}{W:World} (g:Good n h0 W0 st h a W) (hv:Hr P cfg ops anc al ord.length ord st h K) (hQ:∀st' h' a' W',K st' h'->Good n h0 W0 st' h' a' W'->Agree cfg.lim st st'->Q .normal a' W'):(Code.region id ops true).wpIn F fu P Q a W:=by simp only[B47,aE]at hok;obtain⟨⟨⟨⟨m,k⟩,q⟩,l⟩,e⟩:=hok;refine wpIn_region_any m ?_;have s:Good n h0 W0 st h a {W with drawn:=W.drawn+1 }:=by{obtain⟨θ,r,f,p⟩:=g;exact⟨θ,⟨r.defers,r.size,r.slot,r.sim,r.own,r.inj,r.wf,r.out⟩,⟨f.sim,f.os,f.tape,f.output,f.size,f.keep,f.new⟩,p⟩};have b:∀i,i<ops.size->i∈ord:=fun i c=>Be.1 (List.all_eq_true.1 l i (List.mem_range.2 c));rw[aK e]at hv;refine B52 hn hfn k q b ops.size ord _ st h a _ (aK e) (List.Sublist.refl _) (by simp) (fun i c=>?_) (fun i j c _=>?_) s hv hQ;{simp_all};·by_cases d:i<ops.size<;>simp[Array.getD,d]at c
end
