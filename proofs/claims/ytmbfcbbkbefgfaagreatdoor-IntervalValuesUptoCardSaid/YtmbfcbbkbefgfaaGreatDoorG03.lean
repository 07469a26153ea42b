/- A part. -/
import Derived.Test.YtmbfcbbkbefgfaaGreatDoorG02
set_option linter.all false
open _root_.Array renaming getD->aS
open Bool renaming and_eq_true->aD,or_eq_true->aN
open List renaming cons_append->aJ,mem_append_left->aK,append_of_mem->aL,mem_cons->aM
open Nat renaming eq_of_beq_eq_true->aH,beq->aP
open _root_.Go.Op renaming operands->aC
open _root_.Go renaming Oper->aE,Value->aI,Program->aQ,Operand->aR,TypeId->aT
open _root_.Go.Proofs.YtmbfcbbkbefgfaaGreatDoor renaming Heap->aF,put_self->aG,AVal->aO
namespace Go.Proofs.YtmbfcbbkbefgfaaGreatDoor
open Go
def O5(cfg:Cfg)(o:aE):Bool:=
 match o.op with
 | .alloc _ | .box _ _=>Ka cfg o.dst
 | _=>false
def Z6(P:aQ)(cfg:Cfg)(o:aE):Bool:=Px P o||O5 cfg o
def A80(ops:Array aE)(rem:List Nat)(y:Nat):Bool:=rem.all fun i=>match ops[i]? with
 | some o=>(match o.dst with
  | some d=> !aP d y
  | none=>true)
 | none=>true
def A69(cfg:Cfg)(o:aE):Bool:=
 match o.op with
 | .call c=>
  match c.callee with
  | .value (.func g)=>has cfg.wr g
  | .value (.tmp _)=>true
  | .builtin .copy=>true
  | .builtin .append=>has cfg.wr 1000000000
  | _=>false
 | _=>false
def Fn(o:aE)(st:VS):Bool:=
 match o.op with
 | .load _ a=>(match C7 st a with
  | .own _ _=>false
  | _=>true)
 | _=>false
def Mq(cfg:Cfg)(ops:Array aE)(rem:List Nat)(oj oi:aE)(st:VS):Bool:=
 !(A69 cfg oi&&Fn oj st) &&
 match oi.op with
 | .store _ (.tmp y) _=>
  match oj.op with
  | .load _ a=>A80 ops rem y&&(match C7 st a,st.env y with
   | .own k _,.own k' _=> !aP k k'
   | .val _,.own _ _=>true
   | _,_=>false)
  | _=>true
 | .store _ _ _=>false
 | _=>true
def B19(P:aQ)(cfg:Cfg)(al:Nat->List Nat)(oj:aE)(j:Nat):Bool:=Z6 P cfg oj&&(al j).isEmpty
def A76(P:aQ)(cfg:Cfg)(ops:Array aE)(anc:List (List Nat))(al:Nat->List Nat)(rem:List Nat)(st:VS)(oj:aE)(j i:Nat):Bool:=
 has (anc.getD i []) j ||
 match ops[i]? with
 | some oi=>B19 P cfg al oj j&&oj.apart ops oi&&Mq cfg ops rem oj oi st
 | none=>false
def Ik(cfg:Cfg)(o:aE):Bool:=
 match o.op with
 | .store _ _ _=>false
 | _=> !A69 cfg o
def Wf(P:aQ)(cfg:Cfg)(ops:Array aE)(anc:List (List Nat))(al:Nat->List Nat)(rem:List Nat)(st:VS)(oj:aE)(j i:Nat):Bool:=
 A76 P cfg ops anc al rem st oj j i||(!B19 P cfg al oj j&&has (al j) i)
def B71(i:Nat):List Nat->List Nat
 | []=>[]
 | x::L=>bif aP x i then [] else x::B71 i L
def del(i:Nat):List Nat->List Nat
 | []=>[]
 | x::L=>bif aP x i then L else x::del i L
def A0d(P:aQ)(cfg:Cfg)(anc:List (List Nat))(al:Nat->List Nat)(oj:aE)(j:Nat)(L:List Nat):List Nat:=
 match B19 P cfg al oj j with
 | true=>[]
 | false=>(al j).filter fun i=>has L i&&(B71 i L).all (fun x=> !has (anc.getD i []) x) && !has (anc.getD i []) j
def C1g(f:Nat->Prop):Nat->List Nat->Prop
 | i,[]=>f i
 | i,k::r=>f i/\C1g f k r
def C1h(A:Prop)(f:Nat->Prop):List Nat->Prop
 | []=>A
 | i::r=>A/\C1g f i r
def Ck(P:aQ)(cfg:Cfg)(ops:Array aE)(anc:List (List Nat))(al:Nat->List Nat):Nat->List Nat->VS->aF->(VS->aF->Prop)->Prop
 | _,[],st,h,K=>K st h
 | 0,_::_,_,_,_=>False
 | n+1,j::L,st,h,K=>
  match ops[j]? with
  | none=>False
  | some o=>When (L.all (Wf P cfg ops anc al L st o j))
   (C1h (Ni P cfg ops o (Ik cfg o) st h fun st' h'=>Ck P cfg ops anc al n L st' h' K)
    (fun i=>
     match ops[i]? with
     | none=>False
     | some oi=>Ni P cfg ops oi (Ik cfg oi) st h fun st' h'=>Ck P cfg ops anc al n (j::del i L) st' h' K)
    (A0d P cfg anc al o j L))
def A92{f:Nat->Prop}{i:Nat}: ∀ {k:Nat} {r:List Nat},C1g f k r->i∈k::r->f i
 | k,[],x,h=>by rw [List.mem_singleton.1 h];exact x
 | k,m::r,x,h=>by
  rcases List.mem_cons.1 h with rfl|h
  ·exact x.1
  ·exact A92 x.2 h
def A41{A:Prop}{f:Nat->Prop}: ∀ {r:List Nat},C1h A f r->A
 | [],x=>x
 | _::_,x=>x.1
def B5t{A:Prop}{f:Nat->Prop}{i:Nat}: ∀ {r:List Nat},C1h A f r->i∈r->f i
 | [],_,h=>by cases h
 | _::_,x,h=>A92 x.2 h
def A39{i:Nat}{L2:List Nat}: ∀ {L1:List Nat},i∉L1->B71 i (L1++i::L2)=L1/\del i (L1++i::L2)=L1++L2
 | [],_=>by simp [B71,del]
 | x::L1,h=>by
  have hx:aP x i=false:=by
   cases e:aP x i with
   | false=>rfl
   | true=>
    have b:=aH e
    subst b
    exact absurd List.mem_cons_self h
  obtain ⟨d,c⟩:=A39 (L2:=L2) (L1:=L1) (i:=i) (fun a=>h (List.mem_cons_of_mem _ a))
  simp only [aJ,B71,del,hx,d,c,cond_false,and_self]
def B8s(ops:Array aE)(anc:List (List Nat)):Bool:=
 (List.range ops.size).all fun i=>(anc.getD i []).all fun j=>
  match ops[i]? with
  | some o=>o.after.toList.any fun e=>Region.binds .any e&&(aP e.on j||has (anc.getD e.on []) j)
  | none=>false
def A79(ops:Array aE):List Nat->List Nat->Bool
 | _,[]=>true
 | done,i::L=>
  (match ops[i]? with
   | some o=>o.after.toList.all fun e=> !Region.binds .any e||has done e.on
   | none=>false) && !has done i&&A79 ops (i::done) L
def A8j(P:aQ)(ops:Array aE)(ord:List Nat)(anc:List (List Nat)):Bool:=
 P.follows .mixedOrders&&B8s ops anc&&A79 ops [] ord&&(List.range ops.size).all (has ord)&&aP ord.length ops.size
section
variable {P:aQ} {cfg:Cfg} {ops:Array aE}
structure AgreeOn (cfg:Cfg) (ops:Array aE) (o:aE) (st st':VS):Prop where
 env:∀ x∈o.looksAt ops,st'.env x=st.env x
 load:∀ t a k off,o.op= .load t a->C7 st a= .own k off->st'.own k=st.own k
 alloc:∀ d,O5 cfg o=true->o.dst=some d->st.own d=none->st'.own d=none
def AgreeOn.eval{o:aE}{st st':VS}(ag:AgreeOn cfg ops o st st'){x:aR}(hx:x∈o.op.operands):C7 st' x=C7 st x:=by
 cases x with
 | tmp t=>
  refine ag.env t ?_
  unfold Oper.looksAt
  exact aK _ (List.mem_filterMap.2 ⟨.tmp t,by simpa using hx,rfl⟩)
 | _=>rfl
def AgreeOn.rho{o:aE}{st st':VS}(ag:AgreeOn cfg ops o st st'){x:aR}(hx:x∈o.op.operands):rho st' x=rho st x:=by
 unfold Go.Proofs.YtmbfcbbkbefgfaaGreatDoor.rho;rw [ag.eval hx]
def A3w{z:aI}{K K':aI->Prop}(x:exV z K)(hk:∀ v,K v->K' v):exV z K':=by
 cases z<;>(unfold exV at x ⊢)<;>first
  | (obtain ⟨n,a⟩:=x;exact ⟨n,hk _ a⟩)
  | (obtain ⟨p,n,c,a⟩:=x;exact ⟨p,n,c,hk _ a⟩)
def B21{zs:List aI}: ∀ {K K':List aI->Prop},exL zs K->(∀ v,K v->K' v)->exL zs K':=by
 induction zs with
 | nil=>exact fun x a=>a _ x
 | cons z zs ih=>exact fun x a=>A3w x fun v y=>ih y fun b=>a _
def A8c{z:aI}{K:aI->Prop}(x:exV z K):∃ v,K v/\∀ K':aI->Prop,K' v->exV z K':=by
 cases z<;>(unfold exV at x)<;>first
  | (obtain ⟨n,a⟩:=x;exact ⟨_,a,fun K' y=>⟨_,y⟩⟩)
  | (obtain ⟨p,n,c,a⟩:=x;exact ⟨_,a,fun K' y=>⟨_,_,_,y⟩⟩)
def B5i{zs:List aI}: ∀ {K:List aI->Prop},exL zs K->∃ vs,K vs/\∀ K':List aI->Prop,K' vs->exL zs K':=by
 induction zs with
 | nil=>exact fun x=>⟨[],x,fun _ y=>y⟩
 | cons z zs ih=>
  intro K x
  obtain ⟨v,b,d⟩:=A8c x
  obtain ⟨vs,a,c⟩:=ih b
  exact ⟨v::vs,a,fun K' y=>d _ (c _ y)⟩
def A2k{h:aF}{a:Addr}: ∀ {vs:List aI} {j:Nat} {X:Prop},cellsAt h a j vs X->X/\∀ h' (Y:Prop),h.le h'->Y->cellsAt h' a j vs Y:=by
 intro vs
 induction vs with
 | nil=>exact fun x=>⟨x,fun _ _ _ y=>y⟩
 | cons v vs ih=>
  intro j X ⟨h1,h2⟩
  obtain ⟨d,c⟩:=ih h2
  exact ⟨d,fun h' Y b y=>⟨C4 b h1,c h' Y b y⟩⟩
def Zz{h:aF}{t:aT}{a:Addr}{C:aO->Prop}(x:V5 P t a h C):∃ u,C (.val u)/\∀ h' (C':aO->Prop),h.le h'->C' (.val u)->V5 P t a h' C':=by
 cases hag:Kb P t with
 | none=>simp only [V5,hag] at x
 | some b=>
  cases b with
  | true=>
   simp only [V5,hag] at x
   split at x
   ·rename_i zs i
    obtain ⟨l,x⟩:=x.both
    obtain ⟨n,e,d⟩:=B5i x
    obtain ⟨j,k⟩:=A2k e
    refine ⟨_,j,fun h' C' c y=>?_⟩
    simp only [V5,hag,i,l]
    exact d _ (k h' _ c y)
   ·exact x.elim
  | false=>
   simp only [V5,hag] at x
   obtain ⟨v,⟨m,g⟩,d⟩:=A8c x
   refine ⟨_,g,fun h' C' c y=>?_⟩
   simp only [V5,hag]
   exact d _ ⟨C4 c m,y⟩
def A21{t:aT}{cs:List aI}{off:Nat}{C:aO->Prop}(x:U4 P t cs off C):∃ u,C (.val u)/\∀ C':aO->Prop,C' (.val u)->U4 P t cs off C':=by
 cases hag:Kb P t with
 | none=>simp only [U4,hag] at x
 | some b=>
  cases b with
  | true=>
   simp only [U4,hag] at x
   obtain ⟨c,x⟩:=x.both
   exact ⟨_,x,fun C' y=>by simp only [U4,hag,c];exact y⟩
  | false=>
   simp only [U4,hag] at x
   split at x
   ·rename_i v a
    exact ⟨_,x,fun C' y=>by simp only [U4,hag,a];exact y⟩
   ·exact x.elim
def U1{v:Option aO}{dflt y:Nat}{C:Nat->Prop}(x:slBound v dflt y C):∃ m,C m/\∀ C':Nat->Prop,C' m->slBound v dflt y C':=by
 rcases x.out with ⟨rfl,a⟩|⟨k,i,rfl,b,c,a⟩
 ·exact ⟨_,a,fun _ z=>z⟩
 ·exact ⟨_,a,fun _ z=>⟨⟨b,c⟩,z⟩⟩
def A1c{t:aT}{x:aO}{lo hi:Option aO}{C:aO->Prop}(hv:Dj P t x lo hi C):∃ u,C (.val u)/\∀ C':aO->Prop,C' (.val u)->Dj P t x lo hi C':=by
 unfold Dj at hv
 split at hv
 ·rename_i s i
  obtain ⟨m,j,b⟩:=U1 hv
  obtain ⟨l,d,g⟩:=U1 j
  exact ⟨_,d,fun C' y=>by simp only [Dj,i];exact b (fun h=>slBound lo 0 h fun l=>C' (.val (.string (s.extract l h)))) (g (fun l=>C' (.val (.string (s.extract l m)))) y)⟩
 ·rename_i e A n c i
  obtain ⟨k,hv⟩:=hv.both
  obtain ⟨m,j,b⟩:=U1 hv
  obtain ⟨l,d,g⟩:=U1 j
  exact ⟨_,d,fun C' y=>by simp only [Dj,i,k];exact b (fun h=>slBound lo 0 h fun l=>C' (.val (.slice (J6 A c l (P.cellsOf e)) (h-l) (c-l)))) (g (fun l=>C' (.val (.slice (J6 A c l (P.cellsOf e)) (m-l) (c-l)))) y)⟩
 ·rename_i n e a i
  obtain ⟨k,hv⟩:=hv.both
  obtain ⟨m,j,b⟩:=U1 hv
  obtain ⟨l,d,g⟩:=U1 j
  exact ⟨_,d,fun C' y=>by simp only [Dj,i,k];exact b (fun h=>slBound lo 0 h fun l=>C' (.val (.slice (J6 (some a) n l (P.cellsOf e)) (h-l) (n-l)))) (g (fun l=>C' (.val (.slice (J6 (some a) n l (P.cellsOf e)) (m-l) (n-l)))) y)⟩
 ·exact hv.elim
def Vo{b:Bool}{X Y:Prop}(x:Br b X Y):(b=true/\X)\/(b=false/\Y):=by
 cases b
 ·exact .inr ⟨rfl,x⟩
 ·exact .inl ⟨rfl,x⟩
def Pn{t:aT}{x i:aO}{C:aO->Prop}(hv:K4 P t x i C):
 ∃ v,C v/\(∀ k off,v= .own k off->∃ off',x= .own k off')/\∀ C':aO->Prop,C' v->K4 P t x i C':=by
 unfold K4 at hv
 split at hv
 ·rename_i len e k off _ n g
  obtain ⟨d,hv⟩:=hv.both
  rcases Vo hv with ⟨e,hv⟩|⟨_,hv⟩
  ·exact ⟨_,hv,(fun l off' b=>by cases b;exact ⟨off,rfl⟩),fun C' y=>by simp only [K4,g,d,e];exact y⟩
  ·exact hv.elim
 ·rename_i len e a _ n g
  obtain ⟨d,j,hv⟩:=hv.both
  exact ⟨_,hv,(fun l off' b=>by cases b),fun C' y=>by simp only [K4,g,d];exact ⟨j,y⟩⟩
 ·rename_i e A n c _ i g
  obtain ⟨d,a,j,m,o,hv⟩:=hv.both
  exact ⟨_,hv,(fun l off' b=>by cases b),fun C' y=>by simp only [K4,g,d];exact ⟨a,j,m,o,y⟩⟩
 ·exact hv.elim
def X6{st st':VS}{xs:List aR}(h:∀ x∈xs,C7 st' x=C7 st x):L9 st' xs=L9 st xs:=by
 unfold L9
 induction xs with
 | nil=>rfl
 | cons x xs ih=>simp only [List.all_cons,h x (by simp),ih (fun y a=>h y (by simp [a]))]
def Lk{o:aE}{st:VS}(hsel:∀ cs b,o.op ≠ .select cs b){C:aO->Prop}(hv:Je P o st C):∃ u,C (.val u)/\∀ st' (C':aO->Prop),AgreeOn cfg ops o st st'->C' (.val u)->Je P o st' C':=by
 unfold Je at hv
 split at hv
 ·rename_i e
  split at hv
  ·rename_i v g
   refine ⟨_,hv,fun st' C' c y=>?_⟩
   unfold Je
   have i:L9 st' o.op.operands.toList=true:=by rw [X6 (fun x a=>c.eval (by simpa using a))];exact e
   have d:execOp (rho st') o=execOp (rho st) o:=execOp_congr o hsel fun x a=>c.rho a
   rw [i]
   simp only [d,g]
   exact y
  ·exact hv.elim
 ·exact hv.elim
def Yo{t:aT}{xs ys:Array aI}{C:Bool->Prop}(hv:Yp P t xs ys C):∃ b,C b/\∀ C':Bool->Prop,C' b->Yp P t xs ys C':=by
 unfold Yp at hv
 split at hv
 ·rename_i e d
  obtain ⟨a,hv⟩:=hv.both
  split at hv
  ·rename_i b c
   exact ⟨b,hv,fun C' y=>by simp only [Yp,d,a,c];exact y⟩
  ·exact hv.elim
 ·exact hv.elim
def A6b{o:aE}{st:VS}{op:BinOp}{t t':aT}{x z:aR}(hop:o.op= .binOp op t x z t'){C:aO->Prop}(hv:Hj P o st op t (C7 st x) (C7 st z) C):
 ∃ u,C (.val u)/\∀ st' (C':aO->Prop),AgreeOn cfg ops o st st'->C' (.val u)->Hj P o st' op t (C7 st' x) (C7 st' z) C':=by
 have k:∀ cs b,o.op ≠ .select cs b:=by rw [hop];intro _ _ e;cases e
 have g:∀ st',AgreeOn cfg ops o st st'->C7 st' x=C7 st x/\C7 st' z=C7 st z:=fun st' d=>⟨d.eval (by rw [hop];simp [aC]),d.eval (by rw [hop];simp [aC])⟩
 unfold Hj at hv
 split at hv
 ·rename_i c a
  obtain ⟨b,l,j⟩:=Yo hv
  exact ⟨_,l,fun st' C' d y=>by rw [(g st' d).1,(g st' d).2];simp only [Hj,c,a];exact j (fun b=>C' (.val (.bool b))) y⟩
 ·rename_i c a
  obtain ⟨b,l,j⟩:=Yo hv
  exact ⟨_,l,fun st' C' d y=>by rw [(g st' d).1,(g st' d).2];simp only [Hj,c,a];exact j (fun b=>C' (.val (.bool (!b)))) y⟩
 ·rename_i c a
  obtain ⟨i,hv⟩:=hv.both
  exact ⟨_,hv,fun st' C' d y=>by rw [(g st' d).1,(g st' d).2];simp only [Hj,c,a,i];exact y⟩
 ·rename_i c a
  obtain ⟨i,hv⟩:=hv.both
  exact ⟨_,hv,fun st' C' d y=>by rw [(g st' d).1,(g st' d).2];simp only [Hj,c,a,i];exact y⟩
 ·rename_i c a
  obtain ⟨i,hv⟩:=hv.both
  rcases Vo hv with ⟨e,hv⟩|⟨e,hv⟩
  ·exact hv.elim
  ·exact ⟨_,hv,fun st' C' d y=>by rw [(g st' d).1,(g st' d).2];simp only [Hj,c,a,i,e];exact y⟩
 ·rename_i c a
  obtain ⟨i,hv⟩:=hv.both
  rcases Vo hv with ⟨e,hv⟩|⟨e,hv⟩
  ·exact hv.elim
  ·exact ⟨_,hv,fun st' C' d y=>by rw [(g st' d).1,(g st' d).2];simp only [Hj,c,a,i,e];exact y⟩
 ·rename_i c a
  rcases Vo hv with ⟨e,hv⟩|⟨e,hv⟩
  ·exact hv.elim
  ·exact ⟨_,hv,fun st' C' d y=>by rw [(g st' d).1,(g st' d).2];simp only [Hj,c,a,e];exact y⟩
 ·rename_i c a
  rcases Vo hv with ⟨e,hv⟩|⟨e,hv⟩
  ·exact hv.elim
  ·exact ⟨_,hv,fun st' C' d y=>by rw [(g st' d).1,(g st' d).2];simp only [Hj,c,a,e];exact y⟩
 ·rename_i c a
  exact ⟨_,hv.2,fun st' C' d y=>by rw [(g st' d).1,(g st' d).2];simp only [Hj,c,a];exact ⟨hv.1,y⟩⟩
 ·rename_i q p A s D w m B n
  obtain ⟨u,r,j⟩:=Lk (cfg:=cfg) (ops:=ops) k hv
  refine ⟨u,r,fun st' C' d y=>?_⟩
  rw [(g st' d).1,(g st' d).2]
  unfold Hj
  split
  ·rename_i c a;exact (q _ _ rfl c a).elim
  ·rename_i c a;exact (p _ _ rfl c a).elim
  ·rename_i c a;exact (A _ _ _ _ _ rfl c a).elim
  ·rename_i c a;exact (s _ _ _ _ _ rfl c a).elim
  ·rename_i c a;exact (D _ _ _ _ rfl c a).elim
  ·rename_i c a;exact (w _ _ _ _ rfl c a).elim
  ·rename_i c a;exact (m _ _ _ _ rfl c a).elim
  ·rename_i c a;exact (B _ _ _ _ rfl c a).elim
  ·rename_i c a;exact (n _ _ rfl c a).elim
  ·exact j st' C' d y
def B4h{o:aE}{st:VS}{h:aF}(hsel:∀ cs b,o.op ≠ .select cs b){C:aO->Prop}(hv:vcQ P o st h C):
 ∃ v,C v/\(∀ k off,v= .own k off->∃ x off',x∈o.op.operands/\C7 st x= .own k off')/\∀ st' h' C',(Fn o st=true->h.le h')->AgreeOn cfg ops o st st'->C' v->vcQ P o st' h' C':=by
 unfold vcQ at hv
 split at hv
 ·rename_i x a
  refine ⟨_,hv,(fun k off e=>⟨x,off,(by rw [a];simp [aC]),e⟩),fun st' h' C' g d y=>?_⟩
  unfold vcQ;simp only [a,d.eval (x:=x) (by rw [a];simp [aC])];exact y
 ·rename_i x a
  refine ⟨_,hv,(fun k off e=>⟨x,off,(by rw [a];simp [aC]),e⟩),fun st' h' C' g d y=>?_⟩
  unfold vcQ;simp only [a,d.eval (x:=x) (by rw [a];simp [aC])];exact y
 ·rename_i c x z a
  split at hv
  ·rename_i b D
   have hc:∀ st',AgreeOn cfg ops o st st'->C7 st' c= .val (.bool b)/\C7 st' x=C7 st x/\C7 st' z=C7 st z:=fun st' d=>
    ⟨by rw [d.eval (x:=c) (by rw [a];simp [aC])];exact D,d.eval (by rw [a];simp [aC]),d.eval (by rw [a];simp [aC])⟩
   rcases Vo hv with ⟨e,hv⟩|⟨e,hv⟩
   ·refine ⟨_,hv,(fun k off e=>⟨x,off,(by rw [a];simp [aC]),e⟩),fun st' h' C' g d y=>?_⟩
    obtain ⟨E,B,L⟩:=hc st' d
    unfold vcQ;simp only [a,E,B,L,e];exact y
   ·refine ⟨_,hv,(fun k off e=>⟨z,off,(by rw [a];simp [aC]),e⟩),fun st' h' C' g d y=>?_⟩
    obtain ⟨E,B,L⟩:=hc st' d
    unfold vcQ;simp only [a,E,B,L,e];exact y
  ·exact hv.elim
 ·rename_i t x a
  have n:∀ st',AgreeOn cfg ops o st st'->C7 st' x=C7 st x:=fun st' d=>d.eval (by rw [a];simp [aC])
  split at hv
  ·rename_i k off q
   split at hv
   ·rename_i cs S
    obtain ⟨u,r,w⟩:=A21 hv
    refine ⟨_,r,(fun k off e=>by cases e),fun st' h' C' g d y=>?_⟩
    unfold vcQ;simp only [a,n st' d,q,d.load t x k off a q,S];exact w C' y
   ·exact hv.elim
  ·rename_i O q
   obtain ⟨u,r,w⟩:=Zz hv
   refine ⟨_,r,(fun k off e=>by cases e),fun st' h' C' g d y=>?_⟩
   unfold vcQ;simp only [a,n st' d,q];exact w h' C' (g (by simp only [Fn,a,q])) y
  ·exact hv.elim
 ·rename_i s x f a
  have n:∀ st',AgreeOn cfg ops o st st'->C7 st' x=C7 st x:=fun st' d=>d.eval (by rw [a];simp [aC])
  split at hv
  ·rename_i k off q
   split at hv
   ·rename_i fs Q
    split at hv
    ·rename_i fd N
     obtain ⟨D,hv⟩:=hv.both
     refine ⟨_,hv,(fun V off' e=>by cases e;exact ⟨x,off,(by rw [a];simp [aC]),q⟩),fun st' h' C' g d y=>?_⟩
     unfold vcQ;simp only [a,n st' d,q,Q,N,D];exact y
    ·exact hv.elim
   ·exact hv.elim
  ·rename_i O q
   split at hv
   ·rename_i fs Q
    split at hv
    ·rename_i fd N
     obtain ⟨D,hv⟩:=hv.both
     refine ⟨_,hv,(fun V off' e=>by cases e),fun st' h' C' g d y=>?_⟩
     unfold vcQ;simp only [a,n st' d,q,Q,N,D];exact y
    ·exact hv.elim
   ·exact hv.elim
  ·exact hv.elim
 ·rename_i x a
  have n:∀ st',AgreeOn cfg ops o st st'->C7 st' x=C7 st x:=fun st' d=>d.eval (by rw [a];simp [aC])
  split at hv
  ·rename_i k off q
   refine ⟨_,hv,(fun V off' e=>by cases e;exact ⟨x,off,(by rw [a];simp [aC]),q⟩),fun st' h' C' g d y=>?_⟩
   unfold vcQ;simp only [a,n st' d,q];exact y
  ·rename_i p q
   obtain ⟨O,hp,hv⟩:=hv
   refine ⟨_,hv,(fun V off' e=>by cases e),fun st' h' C' g d y=>?_⟩
   unfold vcQ;simp only [a,n st' d,q];exact ⟨O,hp,y⟩
  ·exact hv.elim
 ·rename_i t x i a
  obtain ⟨v,r,hw,w⟩:=Pn hv
  refine ⟨_,r,(fun k off e=>let ⟨off',e'⟩:=hw k off e;⟨x,off',(by rw [a];simp [aC]),e'⟩),fun st' h' C' g d y=>?_⟩
  unfold vcQ;simp only [a,d.eval (x:=x) (by rw [a];simp [aC]),d.eval (x:=i) (by rw [a];simp [aC])];exact w C' y
 ·rename_i t x i a
  have n:∀ st',AgreeOn cfg ops o st st'->C7 st' x=C7 st x/\C7 st' i=C7 st i:=fun st' d=>⟨d.eval (by rw [a];simp [aC]),d.eval (by rw [a];simp [aC])⟩
  split at hv
  ·rename_i s _ j X E B
   obtain ⟨c,h0,hv⟩:=hv
   refine ⟨_,hv,(fun k off e=>by cases e),fun st' h' C' g d y=>?_⟩
   unfold vcQ;simp only [a,(n st' d).1,(n st' d).2,X,E,B];exact ⟨c,h0,y⟩
  ·rename_i Z
   obtain ⟨u,r,w⟩:=Lk (cfg:=cfg) (ops:=ops) hsel hv
   refine ⟨_,r,(fun k off e=>by cases e),fun st' h' C' g d y=>?_⟩
   unfold vcQ;simp only [a,(n st' d).1,(n st' d).2]
   exact w st' C' d y
 ·rename_i t x J H a
  obtain ⟨u,r,w⟩:=A1c hv
  refine ⟨_,r,(fun k off e=>by cases e),fun st' h' C' g d y=>?_⟩
  have n:C7 st' x=C7 st x:=d.eval (by rw [a];simp [aC])
  have G:J.map (C7 st')=J.map (C7 st):=by
   cases J with
   | none=>rfl
   | some z=>simp only [Option.map_some];rw [d.eval (x:=z) (by rw [a];simp [aC])]
  have F:H.map (C7 st')=H.map (C7 st):=by
   cases H with
   | none=>rfl
   | some z=>simp only [Option.map_some];rw [d.eval (x:=z) (by rw [a];simp [aC])]
  unfold vcQ;simp only [a,n,G,F];exact w C' y
 ·rename_i t x J H mx a
  have ev:∀ st',AgreeOn cfg ops o st st'->C7 st' x=C7 st x/\C7 st' J=C7 st J/\C7 st' H=C7 st H/\C7 st' mx=C7 st mx:=fun st' d=>⟨d.eval (by rw [a];simp [aC]),d.eval (by rw [a];simp [aC]),d.eval (by rw [a];simp [aC]),d.eval (by rw [a];simp [aC])⟩
  unfold Jd at hv
  split at hv
  ·rename_i e A m c k1 l k2 h' k3 b X n G F W
   obtain ⟨D,E,B,L,hv⟩:=hv.both
   refine ⟨_,hv,(fun k off e=>by cases e),fun st' h' C' g d y=>?_⟩
   unfold vcQ;simp only [a,(ev st' d).1,(ev st' d).2.1,(ev st' d).2.2.1,(ev st' d).2.2.2,n,G,F,W,Jd,X,D]
   exact ⟨E,B,L,y⟩
  ·exact hv.elim
 ·rename_i op t x z t' a
  obtain ⟨u,r,w⟩:=A6b (cfg:=cfg) (ops:=ops) a hv
  refine ⟨_,r,(fun k off e=>by cases e),fun st' h' C' g d y=>?_⟩
  unfold vcQ;simp only [a];exact w st' C' d y
 ·exact hv.elim
 ·rename_i Z n2 n3 n4 n5 n6 n7 n8 n9 T R M
  obtain ⟨u,r,w⟩:=Lk (cfg:=cfg) (ops:=ops) hsel hv
  refine ⟨_,r,(fun k off e=>by cases e),fun st' h' C' g d y=>?_⟩
  unfold vcQ
  split
  ·rename_i e;exact (Z _ e).elim
  ·rename_i e;exact (n2 _ e).elim
  ·rename_i e;exact (n3 _ _ _ e).elim
  ·rename_i e;exact (n4 _ _ e).elim
  ·rename_i e;exact (n5 _ _ _ e).elim
  ·rename_i e;exact (n6 _ e).elim
  ·rename_i e;exact (n7 _ _ _ e).elim
  ·rename_i e;exact (n8 _ _ _ e).elim
  ·rename_i e;exact (n9 _ _ _ _ e).elim
  ·rename_i e;exact (T _ _ _ _ _ e).elim
  ·rename_i e;exact (R _ _ _ _ _ e).elim
  ·rename_i e;exact (M _ e).elim
  ·exact w st' C' d y
inductive Upd where
 | put (d:Option Nat) (v:aO)
 | own (d:Nat) (cs:List aI)
def Upd.app:Upd->VS->VS
 | .put d v,s=>s.putO d v
 | .own d cs,s=>(s.put d (.own d 0)).setOwn d cs
def Upd.dst:Upd->Option Nat
 | .put d _=>d
 | .own d _=>some d
def Ij{o:aE}{j:Nat}{want:Bool}{g:Nat}(hg:o.guard=some (j,want))(hd:(ops[j]?).bind (·.dst)=some g):g∈o.looksAt ops:=by
 unfold Oper.looksAt
 refine List.mem_append_right _ ?_
 simp only [hg,hd,Option.toList_some,List.mem_singleton]
def Xo{o:aE}{st:VS}{h:aF}{gr:Bool}{K:VS->aF->Prop}(hs:Z6 P cfg o=true)(hv:P5 P cfg o gr st h K):
 ∃ u:Upd,u.dst=o.dst/\K (u.app st) h/\(∀ d cs,u= .own d cs->st.own d=none)/\(∀ d v k off,u= .put d v->v= .own k off->∃ x off',x∈o.op.operands/\C7 st x= .own k off')/\(∀ d cs,u= .own d cs->O5 cfg o=true)/\
  ∀ st' h' (K':VS->aF->Prop),(Fn o st=true->h.le h')->AgreeOn cfg ops o st st'->K' (u.app st') h'->P5 P cfg o gr st' h' K':=by
 unfold P5 at hv
 obtain ⟨r,hv⟩:=hv.both
 split at hv
 ·rename_i m
  have n:∀ cs b,o.op ≠ .select cs b:=fun cs b e=>by simp [Px,e] at m
  obtain ⟨v,F,L,D⟩:=B4h (cfg:=cfg) (ops:=ops) n hv
  refine ⟨.put o.dst v,rfl,F,(fun d cs e=>by cases e),(fun d O k off e H=>by cases e;exact L k off H),(fun d cs e=>by cases e),fun st' h' K' l i y=>?_⟩
  unfold P5;rw [r];simp only [When,m];exact D st' h' _ l i y
 ·rename_i m
  have a:O5 cfg o=true:=by simpa [Z6,m] using hs
  have p:∀ cells:List aI,Ez cfg o.dst cells st h K->∃ u:Upd,u.dst=o.dst/\K (u.app st) h/\(∀ d cs,u= .own d cs->st.own d=none)/\(∀ d v k off,u= .put d v->v= .own k off->∃ x off',x∈o.op.operands/\C7 st x= .own k off')/\(∀ d cs,u= .own d cs->O5 cfg o=true)/\
   ∀ st' h' (K':VS->aF->Prop),(Fn o st=true->h.le h')->AgreeOn cfg ops o st st'->K' (u.app st') h'->Ez cfg o.dst cells st' h' K':=by
   intro cells hv
   unfold Ez at hv
   split at hv
   ·rename_i d j
    obtain ⟨g,hv⟩:=hv.both
    simp only [aD,Option.isNone_iff_eq_none] at g
    refine ⟨.own d cells,j.symm,hv,(fun M cs e=>by cases e;exact g.2),(fun M v k off e _=>by cases e),(fun _ _ _=>a),fun st' h' K' l i y=>?_⟩
    have N:st'.own d=none:=i.alloc d a j g.2
    rw [j]
    simp only [Ez,g.1.1,g.1.2,N,Option.isNone_none,Bool.and_self,When]
    exact y
   ·exact hv.elim
  have C:=a
  unfold O5 at a
  split at hv
  ·rename_i t c
   rw [c] at a
   simp only [a] at hv
   obtain ⟨G,hv⟩:=hv.both
   obtain ⟨u,A,q,w,E,s,z⟩:=p _ hv
   refine ⟨u,A,q,w,E,s,fun st' h' K' l i y=>?_⟩
   unfold P5;rw [r];simp only [When,m,c,a,G];exact z st' h' K' l i y
  ·rename_i t x c
   rw [c] at a
   obtain ⟨J,hv⟩:=hv.both
   simp only [a] at hv
   obtain ⟨u,A,q,w,E,s,z⟩:=p _ hv
   refine ⟨u,A,q,w,E,s,fun st' h' K' l i y=>?_⟩
   have B:=i.eval (x:=x) (by rw [c];simp [aC])
   unfold P5;rw [r];simp only [When,m,c,a,B,J,i.rho (x:=x) (by rw [c];simp [aC])];exact z st' h' K' l i y
  all_goals (rename_i c;simp [c] at a)
def B38{o:aE}{st:VS}{h:aF}{gr:Bool}{K:VS->aF->Prop}(hs:Z6 P cfg o=true)(hv:Ni P cfg ops o gr st h K):
 ∃ u:Upd,u.dst=o.dst/\K (u.app st) h/\(∀ d cs,u= .own d cs->st.own d=none)/\(∀ d v k off,u= .put d v->v= .own k off->∃ x off',x∈o.op.operands/\C7 st x= .own k off')/\(∀ d cs,u= .own d cs->O5 cfg o=true)/\
  ∀ st' h' (K':VS->aF->Prop),(Fn o st=true->h.le h')->AgreeOn cfg ops o st st'->K' (u.app st') h'->Ni P cfg ops o gr st' h' K':=by
 unfold Ni at hv
 split at hv
 ·rename_i n
  obtain ⟨u,E,s,C,G,B,D⟩:=Xo (ops:=ops) hs hv
  exact ⟨u,E,s,C,G,B,fun st' h' K' q l y=>by unfold Ni;simp only [n];exact D st' h' K' q l y⟩
 ·rename_i j F n
  split at hv
  ·exact hv.elim
  ·rename_i i g
   split at hv
   ·rename_i b p
    have c:=Ij n g
    have r:∀ H:Bool,b=H->When (N8 cfg o.dst) (K ((st.put i (.val (.bool H))).putO o.dst (.val undef)) h)->N8 cfg o.dst=true/\K (st.putO o.dst (.val undef)) h:=by
     intro H e x
     subst e
     rw [aG st p] at x
     exact x.both
    cases b<;>cases F
    ·have m:P5 P cfg o gr (st.put i (.val (.bool false))) h K:=hv
     rw [aG st p] at m
     obtain ⟨u,E,s,C,G,B,D⟩:=Xo (ops:=ops) hs m
     refine ⟨u,E,s,C,G,B,fun st' h' K' q l y=>?_⟩
     have a:st'.env i= .val (.bool false):=by rw [l.env i c];exact p
     unfold Ni;simp only [n,g,a,Br]
     rw [aG st' a];exact D st' h' K' q l y
    ·obtain ⟨z,w⟩:=r false rfl hv
     refine ⟨.put o.dst (.val undef),rfl,w,(fun d cs e=>by cases e),(fun d v k off e A=>by cases e;cases A),(fun d cs e=>by cases e),fun st' h' K' q l y=>?_⟩
     have a:st'.env i= .val (.bool false):=by rw [l.env i c];exact p
     unfold Ni;simp only [n,g,a,Br]
     rw [aG st' a,z];exact y
    ·obtain ⟨z,w⟩:=r true rfl hv
     refine ⟨.put o.dst (.val undef),rfl,w,(fun d cs e=>by cases e),(fun d v k off e A=>by cases e;cases A),(fun d cs e=>by cases e),fun st' h' K' q l y=>?_⟩
     have a:st'.env i= .val (.bool true):=by rw [l.env i c];exact p
     unfold Ni;simp only [n,g,a,Br]
     rw [aG st' a,z];exact y
    ·have m:P5 P cfg o gr (st.put i (.val (.bool true))) h K:=hv
     rw [aG st p] at m
     obtain ⟨u,E,s,C,G,B,D⟩:=Xo (ops:=ops) hs m
     refine ⟨u,E,s,C,G,B,fun st' h' K' q l y=>?_⟩
     have a:st'.env i= .val (.bool true):=by rw [l.env i c];exact p
     unfold Ni;simp only [n,g,a,Br]
     rw [aG st' a];exact D st' h' K' q l y
   ·rename_i J p
    have c:=Ij n g
    obtain ⟨z,w⟩:=hv.both
    refine ⟨.put o.dst (.val undef),rfl,w,(fun d cs e=>by cases e),(fun d v k off e A=>by cases e;cases A),(fun d cs e=>by cases e),fun st' h' K' q l y=>?_⟩
    have a:st'.env i= .val (.tuple J):=by rw [l.env i c];exact p
    unfold Ni;simp only [n,g,a]
    rw [z];exact y
   ·exact hv.elim
def Pj{z:aI}{K K':aI->Prop}(x:exT z K)(hk:∀ v,K v->K' v):exT z K':=by
 unfold exT at x ⊢
 split at x
 ·exact B21 x fun a=>hk _
 ·exact A3w x hk
def A8d{zs:List aI}: ∀ {K K':List aI->Prop},exTs zs K->(∀ v,K v->K' v)->exTs zs K':=by
 induction zs with
 | nil=>exact fun x a=>a _ x
 | cons z zs ih=>exact fun x a=>Pj x fun v y=>ih y fun b=>a _
def Rd{t:aT}{K K':aI->Prop}(x:exRt P t K)(hk:∀ v,K v->K' v):exRt P t K':=by
 unfold exRt at x ⊢
 split at x
 ·exact A8d x fun a=>hk _
 ·exact Pj x hk
def WFs(st:VS):Prop:=∀ i k off,st.env i= .own k off->(st.own k).isSome=true
structure Frm (o:aE) (st st':VS):Prop where
 env:∀ x,o.dst≠some x->st'.env x=st.env x
 own:∀ k,(o.dst=some k->(st.own k).isSome=true)->(∀ t a b off,o.op= .store t a b->C7 st a ≠ .own k off)->st'.own k=st.own k
 wf:WFs st'
def Xj{st:VS}(wf:WFs st){x:aR}{k off:Nat}(e:C7 st x= .own k off):(st.own k).isSome=true:=by
 cases x with
 | tmp t=>exact wf t k off e
 | _=>cases e
def Lo(st:VS)(d:Option Nat)(v:aO)(x:Nat):(st.putO d v).env x=if d=some x then v else st.env x:=by
 cases d with
 | none=>simp [VS.putO]
 | some d=>
  by_cases h:x=d
  ·subst h;simp [VS.putO,VS.put]
  ·have:¬ d=x:=fun e=>h e.symm
   simp [VS.putO,VS.put,Bu h,this]
def P4{o:aE}{st:VS}(wf:WFs st)(u:aI):Frm o st (st.putO o.dst (.val u)):=by
 refine ⟨fun x b=>by rw [Lo,iN b],fun k _ _=>by rw [K6],fun i k a e=>?_⟩
 rw [Lo] at e
 rw [K6]
 split at e
 ·cases e
 ·exact wf i k a e
def Df{u:Upd}{st:VS}{x:Nat}(h:u.dst≠some x):(u.app st).env x=st.env x:=by
 cases u with
 | put d v=>simp only [Upd.app,Lo];rw [iN (show d≠some x from h)]
 | own d cs=>
  have:x≠d:=fun e=>h (by rw [e];rfl)
  simp [Upd.app,VS.setOwn,VS.put,Bu this]
def Aj{u:Upd}{st:VS}{k:Nat}(h:∀ d cs,u= .own d cs->k≠d):(u.app st).own k=st.own k:=by
 cases u with
 | put d v=>simp only [Upd.app,K6]
 | own d cs=>exact E3 _ _ (h d cs rfl)
def Nn(st:VS){d e:Nat}(v u:aO)(h:d≠e):(st.put d v).put e u=(st.put e u).put d v:=by
 unfold VS.put
 congr 1
 funext i
 by_cases a:i=d
 ·subst a;simp [Bu h]
 ·by_cases b:i=e
  ·subst b;simp [Bu a]
  ·simp [Bu a,Bu b]
def F7{u:Upd}{st:VS}{d:Option Nat}{v:aO}(h:∀ x,u.dst=some x->d≠some x):(u.app st).putO d v=u.app (st.putO d v):=by
 cases d with
 | none=>rfl
 | some d=>
  cases u with
  | put e w=>
   cases e with
   | none=>rfl
   | some e=>exact Nn st w v (fun x=>h e rfl (congrArg some x.symm))
  | own e cs=>
   have:=Nn st (.own e 0) v (fun x=>h e rfl (congrArg some x.symm))
   show ((st.put e (.own e 0)).setOwn e cs).put d v=((st.put d v).put e (.own e 0)).setOwn e cs
   rw [<- this];rfl
def Gh{u:Upd}{st:VS}{k:Nat}{cs:List aI}(h:∀ d c,u= .own d c->k≠d):(u.app st).setOwn k cs=u.app (st.setOwn k cs):=by
 cases u with
 | put d v=>cases d<;>rfl
 | own d c=>
  have e:=h d c rfl
  show ((st.put d (.own d 0)).setOwn d c).setOwn k cs=((st.setOwn k cs).put d (.own d 0)).setOwn d c
  unfold VS.setOwn VS.put
  congr 1
  funext i
  by_cases a:i=d
  ·subst a;simp [Bu (Ne.symm e)]
  ·by_cases b:i=k
   ·subst b;simp [Bu a]
   ·simp [Bu a,Bu b]
def B2l{u v:Upd}{st:VS}(h:∀ x,u.dst=some x->v.dst≠some x):v.app (u.app st)=u.app (v.app st):=by
 cases v with
 | put d w=>exact F7 h
 | own d cs=>
  have a:(u.app st).put d (.own d 0)=u.app (st.put d (.own d 0)):=F7 (d:=some d) h
  show ((u.app st).put d (.own d 0)).setOwn d cs=_
  rw [a,Gh (fun e c eq=>by subst eq;exact fun x=>h e rfl (by rw [<- x];rfl))];rfl
def Frm.upd{o:aE}{u:Upd}{st:VS}(hd:u.dst=o.dst)(wf:WFs st)(hv:∀ d v k off,u= .put d v->v= .own k off->∃ x off',C7 st x= .own k off')(hn:∀ d cs,u= .own d cs->st.own d=none):Frm o st (u.app st):=by
 refine ⟨fun x a=>Df (by rw [hd];exact a),fun k l _=>Aj (fun d cs e=>?_),fun i k off e=>?_⟩
 ·rintro rfl
  have:=l (by rw [<- hd,e];rfl)
  rw [hn k cs e] at this;cases this
 cases u with
 | put d v=>
  simp only [Upd.app,K6] at e ⊢
  rw [Lo] at e
  split at e
  ·obtain ⟨x,off',a⟩:=hv d v k off rfl e
   exact Xj wf a
  ·exact wf i k off e
 | own d cs=>
  have b:=hn d cs rfl
  by_cases c:i=d
  ·subst c
   have:((st.put i (.own i 0)).setOwn i cs).env i= .own i 0:=by simp [VS.setOwn,VS.put]
   simp only [Upd.app] at e ⊢
   rw [this] at e
   injection e with e1 e2;subst e1
   rw [U2];rfl
  ·rw [Df (u:=.own d cs) (fun x=>c (by cases x;rfl))] at e
   have:=wf i k off e
   have g:k≠d:=by rintro rfl;rw [b] at this;cases this
   rw [Aj (u:=.own d cs) (fun n m j=>by cases j;exact g)];exact this
structure Before (cfg:Cfg) (ops:Array aE) (u:Upd) (o:aE) (st:VS):Prop where
 look:∀ x,u.dst=some x->x∉o.looksAt ops
 dst:∀ x,u.dst=some x->o.dst≠some x
 free:∀ d cs,u= .own d cs->st.own d=none
 wf:WFs st
def Before.eval{u:Upd}{o:aE}{st:VS}(b:Before cfg ops u o st){x:aR}(hx:x∈o.op.operands):C7 (u.app st) x=C7 st x:=by
 cases x with
 | tmp t=>
  refine Df fun e=>b.look t e ?_
  unfold Oper.looksAt
  exact aK _ (List.mem_filterMap.2 ⟨.tmp t,by simpa using hx,rfl⟩)
 | _=>rfl
def Before.rho{u:Upd}{o:aE}{st:VS}(b:Before cfg ops u o st){x:aR}(hx:x∈o.op.operands):rho (u.app st) x=rho st x:=by
 unfold Go.Proofs.YtmbfcbbkbefgfaaGreatDoor.rho;rw [b.eval hx]
def Before.key{u:Upd}{o:aE}{st:VS}(b:Before cfg ops u o st){x:aR}{k off:Nat}(e:C7 st x= .own k off):∀ d cs,u= .own d cs->k≠d:=by
 rintro d cs a rfl
 have:=Xj b.wf e
 rw [b.free k cs a] at this;cases this
def Grw(cfg:Cfg)(o:aE)(st:VS)(h h':aF):Prop:=A69 cfg o=false->(∀ t a b,o.op= .store t a b->∃ k off,C7 st a= .own k off)->h.le h'
def Grw.of{cfg:Cfg}{o:aE}{st:VS}{h h':aF}(x:h.le h'):Grw cfg o st h h':=fun _ _=>x
def Grow.map{gr:Bool}{h h':aF}{X Y:Prop}(x:Grow gr h h' X)(f:X->(gr=true->h.le h')->Y):Grow gr h h' Y:=by
 cases gr
 ·exact f x (fun e=>by cases e)
 ·exact ⟨x.1,f x.2 (fun _=>x.1)⟩
def Re{u:Upd}{o:aE}{st:VS}(b:Before cfg ops u o st){s:Sem aI}{h:aF}{K:VS->aF->Prop}{K':VS->aF->Prop}(hk:∀ st' h',K (u.app st') h'->Grw cfg o st h h'->Frm o st st'->K' st' h')(x:effV P s o true (u.app st) h K):
 effV P s o true st h K':=by
 refine Gn s x fun v h' y=>Pj y fun w ⟨e,a,d⟩=>⟨e,a,hk _ _ ?_ (Grw.of a) (P4 b.wf w)⟩
 rwa [F7 (fun z c=>b.dst z c)] at d
def Un{u:Upd}{o:aE}{st:VS}{gr:Bool}(b:Before cfg ops u o st)(hgw:A69 cfg o=false->gr=true){s:Sem aI}{h:aF}{K:VS->aF->Prop}{K':VS->aF->Prop}(hk:∀ st' h',K (u.app st') h'->Grw cfg o st h h'->Frm o st st'->K' st' h')(x:effV P s o gr (u.app st) h K):
 effV P s o gr st h K':=by
 refine Gn s x fun v h' y=>Pj y fun w ⟨i,c⟩=>⟨i,c.map fun g d=>hk _ _ ?_ (fun e _=>d (hgw e)) (P4 b.wf w)⟩
 rwa [F7 (fun z a=>b.dst z a)] at g
def A06{u:Upd}{o:aE}{st:VS}(b:Before cfg ops u o st){s:Sem aI}{h:aF}{K:VS->aF->Prop}{K':VS->aF->Prop}(hk:∀ st' h',K (u.app st') h'->Grw cfg o st h h'->Frm o st st'->K' st' h')(x:effP P s o true (u.app st) h K):
 effP P s o true st h K':=by
 refine Gn s x fun v h' ⟨w,e,a,d⟩=>⟨w,e,a,hk _ _ ?_ (Grw.of a) (P4 b.wf _)⟩
 rwa [F7 (fun z c=>b.dst z c)] at d
def A8g{u:Upd}{o:aE}{st:VS}(b:Before cfg ops u o st){s:Sem Unit}{h:aF}{K:VS->aF->Prop}{K':VS->aF->Prop}(hno:¬ (∀ t a b,o.op= .store t a b->∃ k off,C7 st a= .own k off))(hk:∀ st' h',K (u.app st') h'->Grw cfg o st h h'->Frm o st st'->K' st' h')(x:effU P s o false (u.app st) h K):
 effU P s o false st h K':=by
 refine Gn s x fun v h' c=>?_
 have c:K ((u.app st).putO o.dst (.val undef)) h':=c
 rw [F7 (fun z d=>b.dst z d)] at c
 exact hk _ _ c (fun _ e=>absurd e hno) (P4 b.wf _)
def Ri{u:Upd}{o:aE}{st:VS}(b:Before cfg ops u o st)(hs:Z6 P cfg o=false){h:aF}{K:VS->aF->Prop}{K':VS->aF->Prop}(hk:∀ st' h',K (u.app st') h'->Grw cfg o st h h'->Frm o st st'->K' st' h')(hv:P5 P cfg o (Ik cfg o) (u.app st) h K):P5 P cfg o (Ik cfg o) st h K':=by
 unfold P5 at hv ⊢
 obtain ⟨hd,hv⟩:=hv.both
 rw [hd]
 simp only [Z6,Bool.or_eq_false_iff] at hs
 simp only [hs.1] at hv ⊢
 show (match o.op with
  | .alloc t=>_
  | .box t x=>_
  | .store t a x=>_
  | .makeSlice t l c=>_
  | .buildSlice t n T=>_
  | .convert s d x=>_
  | .call c=>_
  | _=>_)
 split at hv
 ·rename_i t j
  have m:Ik cfg o=true:=by simp [Ik,A69,j]
  rw [m] at hv ⊢
  have:Ka cfg o.dst=false:=by simpa [O5,j] using hs.2
  simp only [j,this] at hv ⊢
  exact A06 b hk hv
 ·rename_i t x j
  have m:Ik cfg o=true:=by simp [Ik,A69,j]
  rw [m] at hv ⊢
  have:Ka cfg o.dst=false:=by simpa [O5,j] using hs.2
  have E:x∈o.op.operands:=by rw [j];simp [aC]
  simp only [j,this,b.eval E,b.rho E] at hv ⊢
  obtain ⟨q,hv⟩:=hv.both
  rw [q]
  exact A06 b hk hv
 ·rename_i t a x j
  have m:Ik cfg o=false:=by simp [Ik,j]
  rw [m] at hv ⊢
  have B:a∈o.op.operands:=by rw [j];simp [aC]
  have E:x∈o.op.operands:=by rw [j];simp [aC]
  simp only [j]
  unfold A1b at hv ⊢
  rw [b.eval B] at hv
  split at hv
  ·rename_i k V M
   have J:=b.key M
   rw [Aj J] at hv
   try simp only [M]
   split at hv
   ·rename_i cs aa
    try simp only [aa]
    rw [b.eval E,b.rho E] at hv
    obtain ⟨q,hv⟩:=hv.both
    rw [q]
    rw [Gh J,F7 (fun z O=>b.dst z O)] at hv
    refine hk _ _ hv (Grw.of (B0 h)) (⟨fun y A=>by rw [Lo,iN A];rfl,fun k' _ L=>?_,fun i k' W e=>?_⟩)
    ·rw [K6,E3]
     rintro rfl;exact L t a x V j M
    ·rw [Lo] at e
     rw [K6]
     split at e
     ·cases e
     ·have:=b.wf i k' W e
      by_cases Z:k'=k
      ·subst Z;rw [U2];rfl
      ·rw [E3 _ _ Z];exact this
   ·exact hv.elim
  ·rename_i p S
   try simp only [S]
   rw [b.eval E,b.rho E] at hv
   obtain ⟨q,hv⟩:=hv.both
   rw [q]
   exact A8g b (fun E=>by obtain ⟨k,V,e⟩:=E _ _ _ j;rw [S] at e;cases e) hk hv
  ·exact hv.elim
 ·rename_i t l c j
  have m:Ik cfg o=true:=by simp [Ik,A69,j]
  rw [m] at hv ⊢
  have hl:l∈o.op.operands:=by rw [j];simp [aC]
  have hc:c∈o.op.operands:=by rw [j];simp [aC]
  have B:L9 (u.app st) [l,c]=L9 st [l,c]:=X6 fun y A=>by
   simp only [aM,List.not_mem_nil,or_false] at A
   rcases A with rfl|rfl
   ·exact b.eval hl
   ·exact b.eval hc
  simp only [j]
  rw [B,b.rho hl,b.rho hc] at hv
  obtain ⟨q,hv⟩:=hv.both
  rw [q]
  exact Re b hk hv
 ·rename_i t n T j
  have m:Ik cfg o=true:=by simp [Ik,A69,j]
  rw [m] at hv ⊢
  have S:∀ p∈T,p.2∈o.op.operands:=fun p S=>by
   rw [j];simp only [aC,List.mem_toArray,List.mem_map,Array.mem_toList_iff]
   exact ⟨p,S,rfl⟩
  have B:L9 (u.app st) (T.toList.map (·.2))=L9 st (T.toList.map (·.2)):=X6 fun y A=>by
   obtain ⟨p,N,rfl⟩:=List.mem_map.1 A
   exact b.eval (S p (by simpa using N))
  have R:(T.map fun (i,x)=>(i,rho (u.app st) x))=T.map fun (i,x)=>(i,rho st x):=by
   apply Array.map_congr_left
   intro p N
   simp only [b.rho (S p N)]
  simp only [j]
  rw [B,R] at hv
  obtain ⟨q,hv⟩:=hv.both
  rw [q]
  exact Re b hk hv
 ·rename_i s d x j
  have m:Ik cfg o=true:=by simp [Ik,A69,j]
  rw [m] at hv ⊢
  have E:x∈o.op.operands:=by rw [j];simp [aC]
  have B:L9 (u.app st) [x]=L9 st [x]:=X6 fun y A=>by
   simp only [aM,List.not_mem_nil,or_false] at A
   rw [A];exact b.eval E
  simp only [j]
  rw [B,b.rho E] at hv
  obtain ⟨q,hv⟩:=hv.both
  rw [q]
  exact Re b hk hv
 ·rename_i c j
  generalize m:Ik cfg o=gr at hv ⊢
  have G:A69 cfg o=false->gr=true:=fun e=>by rw [<- m];simp [Ik,j,e]
  have F:∀ y∈c.args,y∈o.op.operands:=fun y A=>by
   rw [j];simp only [aC,Call.operands];exact Array.mem_append.2 (.inr A)
  have B:L9 (u.app st) c.args.toList=L9 st c.args.toList:=X6 fun y A=>b.eval (F y (by simpa using A))
  have R:c.args.map (rho (u.app st))=c.args.map (rho st):=Array.map_congr_left fun y A=>b.rho (F y A)
  simp only [j]
  split at hv
  ·rename_i f C
   try simp only [C]
   unfold A38 at hv ⊢
   have hf:f∈o.op.operands:=by rw [j];simp [aC,Call.operands,C]
   rw [b.eval hf] at hv
   split at hv
   ·rename_i g first D Q
    try simp only [Q]
    split at hv
    ·rename_i H
     rw [B,R] at hv
     obtain ⟨q,hv⟩:=hv.both
     try simp only [H]
     rw [q]
     refine FCall.mono hv fun r h' y=>Rd y fun w ⟨q,L⟩=>⟨q,L.map fun X h4=>hk _ _ ?_ (fun e _=>h4 (G e)) (P4 b.wf w)⟩
     rwa [F7 (fun z O=>b.dst z O)] at X
    ·rename_i H
     rw [B,R] at hv
     obtain ⟨q,hv⟩:=hv.both
     try simp only [H]
     rw [q]
     refine ECall.mono hv fun r h' y=>Rd y fun w ⟨q,L⟩=>⟨q,L.map fun X h4=>hk _ _ ?_ (fun e _=>h4 (G e)) (P4 b.wf w)⟩
     rwa [F7 (fun z O=>b.dst z O)] at X
   ·rename_i l first D Q
    try simp only [Q]
    rw [B,R] at hv
    obtain ⟨q,hv⟩:=hv.both
    rw [q]
    refine YCall.mono hv fun r h' y=>Rd y fun w ⟨q,L⟩=>⟨q,L.map fun X h4=>hk _ _ ?_ (fun e _=>h4 (G e)) (P4 b.wf w)⟩
    rwa [F7 (fun z O=>b.dst z O)] at X
   ·exact hv.elim
  ·rename_i C
   try simp only [C]
   rw [B,R] at hv
   obtain ⟨q,hv⟩:=hv.both
   rw [q]
   exact Un b G hk hv
  ·rename_i C
   try simp only [C]
   rw [B,R] at hv
   obtain ⟨q,hv⟩:=hv.both
   rw [q]
   exact Un b G hk hv
  ·exact hv.elim
 ·exact hv.elim
def A7c{u:Upd}{o:aE}{st:VS}(b:Before cfg ops u o st){h:aF}{K:VS->aF->Prop}{K':VS->aF->Prop}(hk:∀ st' h',K (u.app st') h'->Grw cfg o st h h'->Frm o st st'->K' st' h')(hv:Ni P cfg ops o (Ik cfg o) (u.app st) h K):Ni P cfg ops o (Ik cfg o) st h K':=by
 cases hs:Z6 P cfg o with
 | true=>
  obtain ⟨v,p,n,N,T,V,O⟩:=B38 (ops:=ops) hs hv
  have R:AgreeOn cfg ops o (u.app st) st:=by
   refine ⟨fun x s=>(Df fun e=>b.look x e s).symm,fun t a k r F e=>?_,fun d _ M C=>(Aj fun S J e=>?_).symm.trans C⟩
   ·rw [b.eval (by rw [F];simp [aC])] at e
    exact (Aj (b.key e)).symm
   ·rintro rfl
    exact b.dst d (by rw [e];rfl) M
  refine O st h _ (fun _=>B0 h) R (hk _ _ ?_ (Grw.of (B0 h)) (Frm.upd p b.wf (fun d w k r e E=>?_) (fun d J e=>?_)))
  ·rw [<- B2l (fun x s=>by rw [p];exact b.dst x s)];exact n
  ·obtain ⟨x,q,s,B⟩:=T d w k r e E
   exact ⟨x,q,by rw [<- b.eval s];exact B⟩
  ·have:=N d J e
   rwa [Aj (fun S Q E=>by
    rintro rfl
    exact b.dst d (by rw [E];rfl) (by rw [<- p,e];rfl))] at this
 | false=>
  unfold Ni at hv ⊢
  split at hv
  ·rename_i H
   exact Ri b hs hk hv
  ·rename_i j A H
   split at hv
   ·exact hv.elim
   ·rename_i l G
    have y:=Ij (o:=o) H G
    have B:(u.app st).env l=st.env l:=Df fun e=>b.look l e y
    rw [B] at hv
    split at hv
    ·rename_i L i
     have g:(u.app st).env l= .val (.bool L):=by rw [B];exact i
     have m:N8 cfg o.dst=true/\K ((u.app st).putO o.dst (.val undef)) h->When (N8 cfg o.dst) (K' (st.putO o.dst (.val undef)) h):=by
      rintro ⟨p,n⟩
      rw [p]
      rw [F7 (fun z D=>b.dst z D)] at n
      exact hk _ _ n (Grw.of (B0 h)) (P4 b.wf _)
     try simp only [i]
     cases L<;>cases A
     ·have c:P5 P cfg o (Ik cfg o) ((u.app st).put l (.val (.bool false))) h K:=hv
      rw [aG _ g] at c
      simp only [Br];rw [aG st i]
      exact Ri b hs hk c
     ·have c:When (N8 cfg o.dst) (K (((u.app st).put l (.val (.bool false))).putO o.dst (.val undef)) h):=hv
      rw [aG _ g] at c
      simp only [Br];rw [aG st i]
      exact m c.both
     ·have c:When (N8 cfg o.dst) (K (((u.app st).put l (.val (.bool true))).putO o.dst (.val undef)) h):=hv
      rw [aG _ g] at c
      simp only [Br];rw [aG st i]
      exact m c.both
     ·have c:P5 P cfg o (Ik cfg o) ((u.app st).put l (.val (.bool true))) h K:=hv
      rw [aG _ g] at c
      simp only [Br];rw [aG st i]
      exact Ri b hs hk c
    ·rename_i W i
     try simp only [i]
     obtain ⟨p,n⟩:=hv.both
     rw [p]
     rw [F7 (fun z D=>b.dst z D)] at n
     exact hk _ _ n (Grw.of (B0 h)) (P4 b.wf _)
    ·exact hv.elim
def Qb{o:aE}{st:VS}(wf:WFs st){h:aF}{K K':VS->aF->Prop}(hv:Ni P cfg ops o (Ik cfg o) st h K)(hk:∀ st' h',K st' h'->Grw cfg o st h h'->Frm o st st'->K' st' h'):Ni P cfg ops o (Ik cfg o) st h K':=
 A7c (u:=.put none (.val undef)) ⟨(fun x e=>by cases e),(fun x e=>by cases e),(fun d a e=>by cases e),wf⟩ hk hv
def B28{oj oi x:aE}{st st':VS}{rem rem':List Nat}(hsub:∀ i∈rem',i∈rem)(hfr:Frm oi st st')(hap:oj.apart ops oi=true)(hmem:∃ i:Nat,i∈rem/\ops[i]? = some oi)(h:Mq cfg ops rem oj x st=true):Mq cfg ops rem' oj x st'=true:=by
 obtain ⟨_,_,l⟩:=Oper.apart_spec hap
 unfold Mq at h ⊢
 simp only [aD] at h ⊢
 obtain ⟨n,h⟩:=h
 have c:Fn oj st'=Fn oj st:=by
  unfold Fn
  split
  ·rename_i o a k
   have j:C7 st' a=C7 st a:=by
    cases a with
    | tmp z=>
     refine hfr.env z fun e=>l z e ?_
     unfold Oper.looksAt
     exact aK _ (List.mem_filterMap.2 ⟨.tmp z,by rw [k];simp [aC],rfl⟩)
    | _=>rfl
   rw [j]
  ·rfl
 refine ⟨by rw [c];exact n,?_⟩
 split at h
 ·rename_i t y b p
  split at h
  ·rename_i o a k
   simp only [aD] at h ⊢
   refine ⟨List.all_eq_true.2 fun i g=>List.all_eq_true.1 h.1 i (hsub i g),?_⟩
   have j:C7 st' a=C7 st a:=by
    cases a with
    | tmp z=>
     refine hfr.env z fun e=>l z e ?_
     unfold Oper.looksAt
     exact aK _ (List.mem_filterMap.2 ⟨.tmp z,by rw [k];simp [aC],rfl⟩)
    | _=>rfl
   have m:st'.env y=st.env y:=by
    refine hfr.env y fun e=>?_
    obtain ⟨i,g,d⟩:=hmem
    have:=List.all_eq_true.1 h.1 i g
    simp only [d,e] at this
    simp [Nat.beq_refl] at this
   rw [j,m];exact h.2
  ·exact h
 ·exact h
 ·exact h
def swap{oj oi:aE}{st:VS}{rem:List Nat}(wf:WFs st)(hs:Z6 P cfg oj=true)(hap:oj.apart ops oi=true)(hc:Mq cfg ops rem oj oi st=true){h:aF}{K:VS->aF->Prop}
 (hv:Ni P cfg ops oj (Ik cfg oj) st h fun st1 h1=>Ni P cfg ops oi (Ik cfg oi) st1 h1 K):Ni P cfg ops oi (Ik cfg oi) st h fun st1 h1=>Frm oi st st1/\Ni P cfg ops oj (Ik cfg oj) st1 h1 K:=by
 obtain ⟨L,w,D⟩:=Oper.apart_spec hap
 obtain ⟨u,h1,B,G,R,Q,H⟩:=B38 (ops:=ops) hs hv
 have b:Before cfg ops u oi st:=⟨fun x e=>L x (by rw [<- h1];exact e),fun x e=>w x (by rw [<- h1];exact e),G,wf⟩
 have i:=hc
 unfold Mq at i
 simp only [aD] at i
 have hc:=i.2
 have M:Fn oj st=true->A69 cfg oi=false:=fun e=>by
  have:=i.1
  rw [e] at this
  simpa using this
 refine A7c b (fun q N C A o=>⟨o,H q N K (fun c=>A (M c) fun z p s j=>?_) ?_ C⟩) B
 ·obtain ⟨t,x,hld⟩:∃ t x,oj.op= .load t x:=by
   unfold Fn at c
   split at c
   ·exact ⟨_,_,by assumption⟩
   ·cases c
  rw [j] at hc
  cases p with
  | tmp y=>
   simp only [hld,aD] at hc
   show ∃ k n,st.env y= .own k n
   revert hc
   cases C7 st x<;>cases st.env y<;>simp
  | _=>simp at hc
 refine ⟨fun x J=>o.env x fun e=>D x e J,fun t a k n r e=>o.own k (fun _=>Xj wf e) (fun z p s l j g=>?_),fun d O F m=>(o.own d (fun e=>absurd e (w d F)) (fun z p s l j g=>?_)).trans m⟩
 ·rw [j] at hc
  cases p with
  | tmp y=>
   simp only [r,aD] at hc
   have E:st.env y= .own k l:=g
   rw [e,E] at hc
   simp [Nat.beq_refl] at hc
  | _=>simp at hc
 ·have:=Xj wf g
  rw [m] at this;cases this
def B8m{anc:List (List Nat)}{al:Nat->List Nat}{i:Nat}{oi:aE}(hi:ops[i]? = some oi){L2:List Nat}{K:VS->aF->Prop}: ∀ (L1:List Nat) (n:Nat) (st:VS) (h:aF),n=L1.length+L2.length->WFs st->(∀ j∈L1,has (anc.getD i []) j=false)->i∉L1->
 Ck P cfg ops anc al (n+1) (L1++i::L2) st h K->Ni P cfg ops oi (Ik cfg oi) st h fun st' h'=>WFs st'/\Ck P cfg ops anc al n (L1++L2) st' h' K:=by
 intro L1
 induction L1 with
 | nil=>
  intro n st h _ wf _ _ m
  simp only [List.nil_append,Ck,hi] at m
  exact Qb wf (A41 m.both.2) fun st' h' l _ o=>⟨o.wf,l⟩
 | cons j L1 ih=>
  intro n st h G wf c D m
  obtain ⟨n,rfl⟩:∃ n',n=n'+1:=⟨L1.length+L2.length,by simp at G;omega⟩
  have B:n=L1.length+L2.length:=by simp at G;omega
  have p:i∉L1:=fun C=>D (by simp [C])
  simp only [aJ,Ck] at m
  split at m
  ·exact m.elim
  ·rename_i s F
   obtain ⟨d,m⟩:=m.both
   have d:=List.all_eq_true.1 d
   have b:=d i (by simp)
   unfold Wf at b
   rw [aN] at b
   rcases b with b|b
   ·unfold A76 at b
    rw [c j (by simp),hi] at b
    simp only [Bool.false_or,aD] at b
    obtain ⟨⟨g,z⟩,N⟩:=b
    have J:Z6 P cfg s=true:=by
     unfold B19 at g
     rw [aD] at g
     exact g.1
    have w:Ni P cfg ops s (Ik cfg s) st h fun e w=>Ni P cfg ops oi (Ik cfg oi) e w fun r E=>WFs r/\Ck P cfg ops anc al n (L1++L2) r E K:=
     Qb wf (A41 m) fun e w l _ o=>ih n e w B o.wf (fun k M=>c k (by simp [M])) p l
    refine Qb wf (swap wf J z N w) fun e w ⟨o,l⟩ _ _=>⟨o.wf,?_⟩
    simp only [aJ,Ck,F]
    have A:(L1++L2).all (Wf P cfg ops anc al (L1++L2) e s j)=true:=by
     refine List.all_eq_true.2 fun x q=>?_
     have a:=d x (by
      simp only [List.mem_append,aM] at q ⊢
      rcases q with q|q
      ·exact .inl q
      ·exact .inr (.inr q))
     unfold Wf at a ⊢
     rw [g] at a ⊢
     simp only [Bool.not_true,Bool.false_and,Bool.or_false] at a ⊢
     unfold A76 at a ⊢
     simp only [aN] at a ⊢
     rcases a with a|a
     ·exact .inl a
     ·refine .inr ?_
      split at a
      ·rename_i R H
       simp only [aD] at a ⊢
       exact ⟨a.1,B28 (rem:=L1++i::L2) (fun y u=>by
        simp only [List.mem_append,aM] at u ⊢
        rcases u with u|u
        ·exact .inl u
        ·exact .inr (.inr u)) o z ⟨i,by simp,hi⟩ a.2⟩
      ·cases a
    rw [A]
    have Q:A0d P cfg anc al s j (L1++L2)=[]:=by unfold A0d;rw [g]
    rw [Q]
    exact Qb o.wf l fun r E ⟨_,l⟩ _ _=>l
   ·simp only [aD,Bool.not_eq_true'] at b
    obtain ⟨O,L⟩:=A39 (L2:=L2) p
    have C:i∈A0d P cfg anc al s j (L1++i::L2):=by
     unfold A0d
     rw [b.1]
     refine List.mem_filter.2 ⟨U5.1 b.2,?_⟩
     rw [O,U5.2 (show i∈L1++i::L2 by simp),c j (by simp)]
     simp only [Bool.true_and,Bool.not_false,Bool.and_true]
     exact List.all_eq_true.2 fun x q=>by rw [c x (by simp [q])];rfl
    have:=B5t m C
    simp only [hi] at this
    rw [L] at this
    exact Qb wf this fun st' h' l _ o=>⟨o.wf,by simp only [aJ,Ck,F] at l ⊢;exact l⟩
def A4v:∀ {L done:List Nat},A79 ops done L=true->L.Nodup/\(∀ i∈L,i∉done)/\∀ L1 i L2,L=L1++i::L2->∃ o,ops[i]? = some o/\∀ e∈o.after,Region.binds .any e=true->e.on∈done\/e.on∈L1:=by
 intro L
 induction L with
 | nil=>exact fun _=>⟨List.nodup_nil,(fun i c=>by cases c),(fun L1 i L2 e=>by simp at e)⟩
 | cons x L ih=>
  intro done h
  simp only [A79,aD,Bool.not_eq_true'] at h
  obtain ⟨⟨l,m⟩,s⟩:=h
  obtain ⟨q,n,r⟩:=ih s
  have p:x∉done:=fun b=>by rw [U5.2 b] at m;cases m
  refine ⟨List.nodup_cons.2 ⟨fun b=>n x b (by simp),q⟩,fun i c=>?_,fun L1 i L2 e=>?_⟩
  ·cases c with
   | head=>exact p
   | tail _ c=>exact fun b=>n i c (by simp [b])
  ·cases L1 with
   | nil=>
    simp only [List.nil_append,List.cons.injEq] at e
    obtain ⟨rfl,rfl⟩:=e
    split at l
    ·rename_i o g
     refine ⟨o,g,fun e j k=>.inl ?_⟩
     have:=List.all_eq_true.1 l e (by simpa using j)
     rw [k] at this
     exact U5.1 (by simpa using this)
    ·cases l
   | cons y L1=>
    simp only [aJ,List.cons.injEq] at e
    obtain ⟨rfl,rfl⟩:=e
    obtain ⟨o,g,d⟩:=r L1 i L2 rfl
    refine ⟨o,g,fun e j k=>?_⟩
    rcases d e j k with a|a
    ·simp only [aM] at a
     rcases a with a|a
     ·exact .inr (by simp [a])
     ·exact .inl a
    ·exact .inr (by simp [a])
def Wt{listed:Array Bool}{i:Nat}(d:Bool)(h:i<listed.size):(listed.setIfInBounds i true).getD i d=true:=by
 simp [h]
def A91{al:Nat->List Nat}{F:Fence}{fu:Nat}[FOk F]{n:Nat}{h0:aF}{W0:World}(hn:cfg.n=n)(hfn:Bodies P cfg.fns){anc:List (List Nat)}(hanc:B8s ops anc=true){Q:Exit->Act->World->Prop}{K:VS->aF->Prop}{ord:List Nat}(hord:A79 ops [] ord=true)(_hall:∀ i,i<ops.size->i∈ord):
 ∀ (m:Nat) (L:List Nat) (listed:Array Bool) (st:VS) (h:aF) (a:Act) (W:World),L.length=m->L.Sublist ord->listed.size=ops.size->(∀ i,i<ops.size->(listed.getD i true=false↔i∈L))->(∀ i j,listed.getD i false=true->has (anc.getD i []) j=true->listed.getD j false=true)->
  Good n h0 W0 st h a W->Ck P cfg ops anc al m L st h K->(∀ st' h' a' W',K st' h'->Good n h0 W0 st' h' a' W'->Agree cfg.lim st st'->Q .normal a' W')->wpAnyIn F fu P .any ops Q m listed a W:=by
 obtain ⟨X,_,x⟩:=A4v hord
 intro m
 induction m with
 | zero=>
  intro L listed st h a W T l B b A g hv hQ
  have:L=[]:=List.eq_nil_of_length_eq_zero T
  subst this
  simp only [Ck] at hv
  refine ⟨?_,hQ st h a W hv g (Agree.refl _ _)⟩
  apply List.eq_nil_iff_forall_not_mem.2
  intro i S
  obtain ⟨h1,o,ho,_⟩:=mem_ready.1 S
  have:=(b i (Array.getElem?_eq_some_iff.1 ho).1).1 h1
  cases this
 | succ m ih=>
  intro L listed st h a W T l B b A g hv hQ
  have wf:WFs st:=by obtain ⟨θ,r,_,_⟩:=g;exact r.wf
  have inl:∀ i,i∈L->i<ops.size:=by
   intro i S
   obtain ⟨L1,L2,e⟩:=aL (l.subset S)
   obtain ⟨o,ho,_⟩:=x L1 i L2 e
   exact (Array.getElem?_eq_some_iff.1 ho).1
  constructor
  ·
   intro s
   exfalso
   cases L with
   | nil=>simp at T
   | cons i L=>
    have S:=inl i (by simp)
    obtain ⟨L1,L2,e⟩:=aL (l.subset (show i∈i::L by simp))
    obtain ⟨o,ho,hp⟩:=x L1 i L2 e
    have:i∈Region.ready .any ops listed:=by
     refine mem_ready.2 ⟨(b i S).2 (by simp),o,ho,fun w V E=>?_⟩
     rcases hp w V E with h'|h'
     ·cases h'
     ·have aa:w.on<ops.size:=by
       obtain ⟨M1,M2,e'⟩:=aL h'
       obtain ⟨o',aj,_⟩:=x M1 w.on (M2++i::L2) (by rw [e,e'];simp)
       exact (Array.getElem?_eq_some_iff.1 aj).1
      have ac:w.on∉i::L:=by
       intro hm
       have M:(i::L).Sublist (L1++i::L2):=by rw [<- e];exact l
       have C:(L1++i::L2).Nodup:=by rw [<- e];exact X
       have q:i∉L1:=fun G=>(List.nodup_append.1 C).2.2 i G i (by simp) rfl
       have ao:(i::L).Sublist (i::L2):=by
        clear s b A hQ hv g ih hp V E
        revert M q
        clear C e h'
        induction L1 with
        | nil=>exact fun h _=>h
        | cons y L1 ihL=>
         intro M q
         refine ihL ?_ (fun G=>q (by simp [G]))
         cases M with
         | cons _ h=>exact h
         | cons_cons _ h=>exact absurd (by simp) q
       have:=ao.subset hm
       exact (List.nodup_append.1 C).2.2 w.on h' w.on this rfl
      cases hg:listed.getD w.on false with
      | true=>rfl
      | false=>
       have:listed.getD w.on true=false:=by
        have R:w.on<listed.size:=by rw [B];exact aa
        simp [aS,R] at hg ⊢;exact hg
       exact absurd ((b _ aa).1 this) ac
    rw [s] at this;cases this
  ·intro i S
   obtain ⟨h1,oi,D,Z⟩:=mem_ready.1 S
   have u:=(Array.getElem?_eq_some_iff.1 D).1
   have am:=(b i u).1 h1
   obtain ⟨L1,L2,e⟩:=aL am
   have p:L.Nodup:=l.nodup X
   have ai:∀ j∈L1,has (anc.getD i []) j=false:=by
    intro j J
    cases G:has (anc.getD i []) j with
    | false=>rfl
    | true=>
     exfalso
     have O:j∈L:=by rw [e];simp [J]
     have ab:=(b j (inl j O)).2 O
     have hA:=List.all_eq_true.1 (List.all_eq_true.1 hanc i (List.mem_range.2 u)) j (U5.1 G)
     simp only [D] at hA
     obtain ⟨w,V,E⟩:=List.any_eq_true.1 hA
     simp only [aD,aN] at E
     have z:=Z w (by simpa using V) E.1
     have N:listed.getD j false=true:=by
      rcases E.2 with h'|h'
      ·rw [<- aH h'];exact z
      ·exact A _ j z h'
     have R:j<listed.size:=by rw [B];exact inl j O
     simp [aS,R] at ab N
     rw [ab] at N;cases N
   have ae:i∉L1:=by
    rw [e] at p
    exact fun G=>(List.nodup_append.1 p).2.2 i G i (by simp) rfl
   have an:=B8m D (L2:=L2) L1 m st h (by have:=T;rw [e,List.length_append,List.length_cons] at this;omega) wf ai ae (by rw [<- e];exact hv)
   refine wpOpIn_mono (fun a' W' ⟨st',h',⟨_,hK⟩,g',ag⟩=>?_) (g.op hn hfn D an)
   have H:∀ j d,(listed.setIfInBounds i true).getD j d=if j=i then true else listed.getD j d:=by
    intro j d
    by_cases c:j=i
    ·subst c;rw [iP rfl];exact Wt d (by rw [B];exact u)
    ·rw [iN c];exact getD_set_ne d (Ne.symm c)
   rw [e] at p
   have af:i∉L1:=fun G=>(List.nodup_append.1 p).2.2 i G i (by simp) rfl
   have ap:i∉L2:=(List.nodup_cons.1 (List.nodup_append.1 p).2.1).1
   refine ih (L1++L2) _ st' h' a' W' (by rw [e] at T;simp at T ⊢;omega) ?_ (by simpa using B) (fun j J=>?_) (fun j k J hk=>?_) g' hK fun ak h2 a2 W2 k g2 ah=>hQ ak h2 a2 W2 k g2 (ag.trans ah)
   ·refine List.Sublist.trans ?_ l
    rw [e]
    exact List.Sublist.append (List.Sublist.refl _) (List.sublist_cons_self _ _)
   ·rw [H]
    by_cases c:j=i
    ·subst c;simp [af,ap]
    ·rw [iN c,b j J,e];simp [c]
   ·rw [H] at J ⊢
    by_cases ad:k=i
    ·rw [iP ad]
    ·rw [iN ad]
     by_cases c:j=i
     ·subst c
      have hA:=List.all_eq_true.1 (List.all_eq_true.1 hanc j (List.mem_range.2 u)) k (U5.1 hk)
      simp only [D] at hA
      obtain ⟨w,V,E⟩:=List.any_eq_true.1 hA
      simp only [aD,aN] at E
      have z:=Z w (by simpa using V) E.1
      rcases E.2 with h'|h'
      ·rw [<- aH h'];exact z
      ·exact A _ k z h'
     ·rw [iN c] at J;exact A j k J hk
def A54{al:Nat->List Nat}{F:Fence}{fu:Nat}[FOk F]{n:Nat}{h0:aF}{W0:World}(hn:cfg.n=n)(hfn:Bodies P cfg.fns){id:Nat}{ord:List Nat}{anc:List (List Nat)}(hok:A8j P ops ord anc=true){Q:Exit->Act->World->Prop}{K:VS->aF->Prop}{st:VS}{h:aF}{a:Act}{W:World}
 (g:Good n h0 W0 st h a W) (hv:Ck P cfg ops anc al ord.length ord st h K) (hQ:∀ st' h' a' W',K st' h'->Good n h0 W0 st' h' a' W'->Agree cfg.lim st st'->Q .normal a' W'):(Code.region id ops true).wpIn F fu P Q a W:=by
 simp only [A8j,aD] at hok
 obtain ⟨⟨⟨⟨q,k⟩,p⟩,o⟩,e⟩:=hok
 refine wpIn_region_any q ?_
 have m:Good n h0 W0 st h a { W with drawn:=W.drawn+1 }:=by
  obtain ⟨θ,r,f,l⟩:=g
  exact ⟨θ,⟨r.defers,r.size,r.slot,r.sim,r.own,r.inj,r.wf,r.out⟩,⟨f.sim,f.os,f.tape,f.output,f.size,f.keep,f.new⟩,l⟩
 have b:∀ i,i<ops.size->i∈ord:=fun i c=>U5.1 (List.all_eq_true.1 o i (List.mem_range.2 c))
 rw [aH e] at hv
 refine A91 hn hfn k p b ops.size ord _ st h a _ (aH e) (List.Sublist.refl _) (by simp) (fun i c=>?_) (fun i j c _=>?_) m hv hQ
 ·simp [aS,c,b i c]
 ·by_cases d:i<ops.size<;>simp [aS,d] at c
end
