/- A part. -/
import Derived.Test.YtmbfcbbkbefgfaaGreatDoorG02
set_option linter.all false
open _root_.Array renaming getD->aS
open Bool renaming and_eq_true->aD,or_eq_true->aN
open List renaming cons_append->aJ,mem_append_left->aK,append_of_mem->aL,mem_cons->aM
open Nat renaming eq_of_beq_eq_true->aH,beq->aP
open _root_.Go.Op renaming operands->aC
open _root_.Go renaming Oper->aE,Value->aI,Program->aQ,Operand->aR,TypeId->aT
open _root_.Go.Proofs.YtmbfcbbkbefgfaaGreatDoor renaming Heap->aF,put_self->aG,AVal->aO
namespace Go.Proofs.YtmbfcbbkbefgfaaGreatDoor
open Go
def O1(cfg:Cfg)(o:aE):Bool:=
 match o.op with
 | .alloc _ | .box _ _=>Kk cfg o.dst
 | _=>false
def Z9(P:aQ)(cfg:Cfg)(o:aE):Bool:=Qy P o||O1 cfg o
def A9o(ops:Array aE)(rem:List Nat)(y:Nat):Bool:=rem.all fun i=>match ops[i]? with
 | some o=>(match o.dst with
  | some d=> !aP d y
  | none=>true)
 | none=>true
def A83(cfg:Cfg)(o:aE):Bool:=
 match o.op with
 | .call c=>
  match c.callee with
  | .value (.func g)=>has cfg.wr g
  | .value (.tmp _)=>true
  | .builtin .copy=>true
  | .builtin .append=>has cfg.wr 1000000000
  | _=>false
 | _=>false
def Ga(o:aE)(st:VS):Bool:=
 match o.op with
 | .load _ a=>(match C8 st a with
  | .own _ _=>false
  | _=>true)
 | _=>false
def Nr(cfg:Cfg)(ops:Array aE)(rem:List Nat)(oj oi:aE)(st:VS):Bool:=
 !(A83 cfg oi&&Ga oj st) &&
 match oi.op with
 | .store _ (.tmp y) _=>
  match oj.op with
  | .load _ a=>A9o ops rem y&&(match C8 st a,st.env y with
   | .own k _,.own k' _=> !aP k k'
   | .val _,.own _ _=>true
   | _,_=>false)
  | _=>true
 | .store _ _ _=>false
 | _=>true
def B33(P:aQ)(cfg:Cfg)(al:Nat->List Nat)(oj:aE)(j:Nat):Bool:=Z9 P cfg oj&&(al j).isEmpty
def A8y(P:aQ)(cfg:Cfg)(ops:Array aE)(anc:List (List Nat))(al:Nat->List Nat)(rem:List Nat)(st:VS)(oj:aE)(j i:Nat):Bool:=
 has (anc.getD i []) j ||
 match ops[i]? with
 | some oi=>B33 P cfg al oj j&&oj.apart ops oi&&Nr cfg ops rem oj oi st
 | none=>false
def Ja(cfg:Cfg)(o:aE):Bool:=
 match o.op with
 | .store _ _ _=>false
 | _=> !A83 cfg o
def Xp(P:aQ)(cfg:Cfg)(ops:Array aE)(anc:List (List Nat))(al:Nat->List Nat)(rem:List Nat)(st:VS)(oj:aE)(j i:Nat):Bool:=
 A8y P cfg ops anc al rem st oj j i||(!B33 P cfg al oj j&&has (al j) i)
def B8v(i:Nat):List Nat->List Nat
 | []=>[]
 | x::L=>bif aP x i then [] else x::B8v i L
def del(i:Nat):List Nat->List Nat
 | []=>[]
 | x::L=>bif aP x i then L else x::del i L
def A1s(P:aQ)(cfg:Cfg)(anc:List (List Nat))(al:Nat->List Nat)(oj:aE)(j:Nat)(L:List Nat):List Nat:=
 match B33 P cfg al oj j with
 | true=>[]
 | false=>(al j).filter fun i=>has L i&&(B8v i L).all (fun x=> !has (anc.getD i []) x) && !has (anc.getD i []) j
def C2f(f:Nat->Prop):Nat->List Nat->Prop
 | i,[]=>f i
 | i,k::r=>f i/\C2f f k r
def C2g(A:Prop)(f:Nat->Prop):List Nat->Prop
 | []=>A
 | i::r=>A/\C2f f i r
def Cq(P:aQ)(cfg:Cfg)(ops:Array aE)(anc:List (List Nat))(al:Nat->List Nat):Nat->List Nat->VS->aF->(VS->aF->Prop)->Prop
 | _,[],st,h,K=>K st h
 | 0,_::_,_,_,_=>False
 | n+1,j::L,st,h,K=>
  match ops[j]? with
  | none=>False
  | some o=>When (L.all (Xp P cfg ops anc al L st o j))
   (C2g (Oc P cfg ops o (Ja cfg o) st h fun st' h'=>Cq P cfg ops anc al n L st' h' K)
    (fun i=>
     match ops[i]? with
     | none=>False
     | some oi=>Oc P cfg ops oi (Ja cfg oi) st h fun st' h'=>Cq P cfg ops anc al n (j::del i L) st' h' K)
    (A1s P cfg anc al o j L))
def B0j{f:Nat->Prop}{i:Nat}: ∀ {k:Nat} {r:List Nat},C2f f k r->i∈k::r->f i
 | k,[],x,h=>by rw [List.mem_singleton.1 h];exact x
 | k,m::r,x,h=>by
  rcases List.mem_cons.1 h with rfl|h
  ·exact x.1
  ·exact B0j x.2 h
def A5n{A:Prop}{f:Nat->Prop}: ∀ {r:List Nat},C2g A f r->A
 | [],x=>x
 | _::_,x=>x.1
def B7p{A:Prop}{f:Nat->Prop}{i:Nat}: ∀ {r:List Nat},C2g A f r->i∈r->f i
 | [],_,h=>by cases h
 | _::_,x,h=>B0j x.2 h
def A4o{i:Nat}{L2:List Nat}: ∀ {L1:List Nat},i∉L1->B8v i (L1++i::L2)=L1/\del i (L1++i::L2)=L1++L2
 | [],_=>by simp [B8v,del]
 | x::L1,h=>by
  have hx:aP x i=false:=by
   cases e:aP x i with
   | false=>rfl
   | true=>
    have c:=aH e
    subst c
    exact absurd List.mem_cons_self h
  obtain ⟨d,b⟩:=A4o (L2:=L2) (L1:=L1) (i:=i) (fun a=>h (List.mem_cons_of_mem _ a))
  simp only [aJ,B8v,del,hx,d,b,cond_false,and_self]
def B9z(ops:Array aE)(anc:List (List Nat)):Bool:=
 (List.range ops.size).all fun i=>(anc.getD i []).all fun j=>
  match ops[i]? with
  | some o=>o.after.toList.any fun e=>Region.binds .any e&&(aP e.on j||has (anc.getD e.on []) j)
  | none=>false
def A91(ops:Array aE):List Nat->List Nat->Bool
 | _,[]=>true
 | done,i::L=>
  (match ops[i]? with
   | some o=>o.after.toList.all fun e=> !Region.binds .any e||has done e.on
   | none=>false) && !has done i&&A91 ops (i::done) L
def B02(P:aQ)(ops:Array aE)(ord:List Nat)(anc:List (List Nat)):Bool:=
 P.follows .mixedOrders&&B9z ops anc&&A91 ops [] ord&&(List.range ops.size).all (has ord)&&aP ord.length ops.size
section
variable {P:aQ} {cfg:Cfg} {ops:Array aE}
structure AgreeOn (cfg:Cfg) (ops:Array aE) (o:aE) (st st':VS):Prop where
 env:∀ x∈o.looksAt ops,st'.env x=st.env x
 load:∀ t a k off,o.op= .load t a->C8 st a= .own k off->st'.own k=st.own k
 alloc:∀ d,O1 cfg o=true->o.dst=some d->st.own d=none->st'.own d=none
def AgreeOn.eval{o:aE}{st st':VS}(ag:AgreeOn cfg ops o st st'){x:aR}(hx:x∈o.op.operands):C8 st' x=C8 st x:=by
 cases x with
 | tmp t=>
  refine ag.env t ?_
  unfold Oper.looksAt
  exact aK _ (List.mem_filterMap.2 ⟨.tmp t,by simpa using hx,rfl⟩)
 | _=>rfl
def AgreeOn.rho{o:aE}{st st':VS}(ag:AgreeOn cfg ops o st st'){x:aR}(hx:x∈o.op.operands):rho st' x=rho st x:=by
 unfold Go.Proofs.YtmbfcbbkbefgfaaGreatDoor.rho;rw [ag.eval hx]
def A5j{z:aI}{K K':aI->Prop}(x:exV z K)(hk:∀ v,K v->K' v):exV z K':=by
 cases z<;>(unfold exV at x ⊢)<;>first
  | (obtain ⟨n,a⟩:=x;exact ⟨n,hk _ a⟩)
  | (obtain ⟨p,n,c,a⟩:=x;exact ⟨p,n,c,hk _ a⟩)
def B3r{zs:List aI}: ∀ {K K':List aI->Prop},exL zs K->(∀ v,K v->K' v)->exL zs K':=by
 induction zs with
 | nil=>exact fun x a=>a _ x
 | cons z zs ih=>exact fun x a=>A5j x fun v y=>ih y fun b=>a _
def A9w{z:aI}{K:aI->Prop}(x:exV z K):∃ v,K v/\∀ K':aI->Prop,K' v->exV z K':=by
 cases z<;>(unfold exV at x)<;>first
  | (obtain ⟨n,a⟩:=x;exact ⟨_,a,fun K' y=>⟨_,y⟩⟩)
  | (obtain ⟨p,n,c,a⟩:=x;exact ⟨_,a,fun K' y=>⟨_,_,_,y⟩⟩)
def B7g{zs:List aI}: ∀ {K:List aI->Prop},exL zs K->∃ vs,K vs/\∀ K':List aI->Prop,K' vs->exL zs K':=by
 induction zs with
 | nil=>exact fun x=>⟨[],x,fun _ y=>y⟩
 | cons z zs ih=>
  intro K x
  obtain ⟨v,b,d⟩:=A9w x
  obtain ⟨vs,a,c⟩:=ih b
  exact ⟨v::vs,a,fun K' y=>d _ (c _ y)⟩
def A3y{h:aF}{a:Addr}: ∀ {vs:List aI} {j:Nat} {X:Prop},cellsAt h a j vs X->X/\∀ h' (Y:Prop),h.le h'->Y->cellsAt h' a j vs Y:=by
 intro vs
 induction vs with
 | nil=>exact fun x=>⟨x,fun _ _ _ y=>y⟩
 | cons v vs ih=>
  intro j X ⟨h1,h2⟩
  obtain ⟨c,d⟩:=ih h2
  exact ⟨c,fun h' Y b y=>⟨D4 b h1,d h' Y b y⟩⟩
def A1c{h:aF}{t:aT}{a:Addr}{C:aO->Prop}(x:V3 P t a h C):∃ u,C (.val u)/\∀ h' (C':aO->Prop),h.le h'->C' (.val u)->V3 P t a h' C':=by
 cases hag:Kl P t with
 | none=>simp only [V3,hag] at x
 | some b=>
  cases b with
  | true=>
   simp only [V3,hag] at x
   split at x
   ·rename_i zs g
    obtain ⟨k,x⟩:=x.both
    obtain ⟨n,e,d⟩:=B7g x
    obtain ⟨j,m⟩:=A3y e
    refine ⟨_,j,fun h' C' c y=>?_⟩
    simp only [V3,hag,g,k]
    exact d _ (m h' _ c y)
   ·exact x.elim
  | false=>
   simp only [V3,hag] at x
   obtain ⟨v,⟨l,i⟩,d⟩:=A9w x
   refine ⟨_,i,fun h' C' c y=>?_⟩
   simp only [V3,hag]
   exact d _ ⟨D4 c l,y⟩
def A3g{t:aT}{cs:List aI}{off:Nat}{C:aO->Prop}(x:T4 P t cs off C):∃ u,C (.val u)/\∀ C':aO->Prop,C' (.val u)->T4 P t cs off C':=by
 cases hag:Kl P t with
 | none=>simp only [T4,hag] at x
 | some b=>
  cases b with
  | true=>
   simp only [T4,hag] at x
   obtain ⟨c,x⟩:=x.both
   exact ⟨_,x,fun C' y=>by simp only [T4,hag,c];exact y⟩
  | false=>
   simp only [T4,hag] at x
   split at x
   ·rename_i v a
    exact ⟨_,x,fun C' y=>by simp only [T4,hag,a];exact y⟩
   ·exact x.elim
def T2{v:Option aO}{dflt y:Nat}{C:Nat->Prop}(x:slBound v dflt y C):∃ m,C m/\∀ C':Nat->Prop,C' m->slBound v dflt y C':=by
 rcases x.out with ⟨rfl,a⟩|⟨k,i,rfl,b,c,a⟩
 ·exact ⟨_,a,fun _ z=>z⟩
 ·exact ⟨_,a,fun _ z=>⟨⟨b,c⟩,z⟩⟩
def A2s{t:aT}{x:aO}{lo hi:Option aO}{C:aO->Prop}(hv:Dn P t x lo hi C):∃ u,C (.val u)/\∀ C':aO->Prop,C' (.val u)->Dn P t x lo hi C':=by
 unfold Dn at hv
 split at hv
 ·rename_i s i
  obtain ⟨m,j,b⟩:=T2 hv
  obtain ⟨l,g,d⟩:=T2 j
  exact ⟨_,g,fun C' y=>by simp only [Dn,i];exact b (fun h=>slBound lo 0 h fun l=>C' (.val (.string (s.extract l h)))) (d (fun l=>C' (.val (.string (s.extract l m)))) y)⟩
 ·rename_i e A n c i
  obtain ⟨k,hv⟩:=hv.both
  obtain ⟨m,j,b⟩:=T2 hv
  obtain ⟨l,g,d⟩:=T2 j
  exact ⟨_,g,fun C' y=>by simp only [Dn,i,k];exact b (fun h=>slBound lo 0 h fun l=>C' (.val (.slice (J4 A c l (P.cellsOf e)) (h-l) (c-l)))) (d (fun l=>C' (.val (.slice (J4 A c l (P.cellsOf e)) (m-l) (c-l)))) y)⟩
 ·rename_i n e a i
  obtain ⟨k,hv⟩:=hv.both
  obtain ⟨m,j,b⟩:=T2 hv
  obtain ⟨l,g,d⟩:=T2 j
  exact ⟨_,g,fun C' y=>by simp only [Dn,i,k];exact b (fun h=>slBound lo 0 h fun l=>C' (.val (.slice (J4 (some a) n l (P.cellsOf e)) (h-l) (n-l)))) (d (fun l=>C' (.val (.slice (J4 (some a) n l (P.cellsOf e)) (m-l) (n-l)))) y)⟩
 ·exact hv.elim
def Wz{b:Bool}{X Y:Prop}(x:Br b X Y):(b=true/\X)\/(b=false/\Y):=by
 cases b
 ·exact .inr ⟨rfl,x⟩
 ·exact .inl ⟨rfl,x⟩
def Qm{t:aT}{x i:aO}{C:aO->Prop}(hv:K7 P t x i C):
 ∃ v,C v/\(∀ k off,v= .own k off->∃ off',x= .own k off')/\∀ C':aO->Prop,C' v->K7 P t x i C':=by
 unfold K7 at hv
 split at hv
 ·rename_i len e k off _ n d
  obtain ⟨b,hv⟩:=hv.both
  rcases Wz hv with ⟨e,hv⟩|⟨_,hv⟩
  ·exact ⟨_,hv,(fun l off' g=>by cases g;exact ⟨off,rfl⟩),fun C' y=>by simp only [K7,d,b,e];exact y⟩
  ·exact hv.elim
 ·rename_i len e a _ n d
  obtain ⟨b,j,hv⟩:=hv.both
  exact ⟨_,hv,(fun l off' g=>by cases g),fun C' y=>by simp only [K7,d,b];exact ⟨j,y⟩⟩
 ·rename_i e A n c _ i d
  obtain ⟨b,a,j,m,o,hv⟩:=hv.both
  exact ⟨_,hv,(fun l off' g=>by cases g),fun C' y=>by simp only [K7,d,b];exact ⟨a,j,m,o,y⟩⟩
 ·exact hv.elim
def X9{st st':VS}{xs:List aR}(h:∀ x∈xs,C8 st' x=C8 st x):L8 st' xs=L8 st xs:=by
 unfold L8
 induction xs with
 | nil=>rfl
 | cons x xs ih=>simp only [List.all_cons,h x (by simp),ih (fun y a=>h y (by simp [a]))]
def Mj{o:aE}{st:VS}(hsel:∀ cs b,o.op ≠ .select cs b){C:aO->Prop}(hv:Jq P o st C):∃ u,C (.val u)/\∀ st' (C':aO->Prop),AgreeOn cfg ops o st st'->C' (.val u)->Jq P o st' C':=by
 unfold Jq at hv
 split at hv
 ·rename_i e
  split at hv
  ·rename_i v d
   refine ⟨_,hv,fun st' C' c y=>?_⟩
   unfold Jq
   have i:L8 st' o.op.operands.toList=true:=by rw [X9 (fun x a=>c.eval (by simpa using a))];exact e
   have g:execOp (rho st') o=execOp (rho st) o:=execOp_congr o hsel fun x a=>c.rho a
   rw [i]
   simp only [g,d]
   exact y
  ·exact hv.elim
 ·exact hv.elim
def A02{t:aT}{xs ys:Array aI}{C:Bool->Prop}(hv:A03 P t xs ys C):∃ b,C b/\∀ C':Bool->Prop,C' b->A03 P t xs ys C':=by
 unfold A03 at hv
 split at hv
 ·rename_i e a
  obtain ⟨d,hv⟩:=hv.both
  split at hv
  ·rename_i b c
   exact ⟨b,hv,fun C' y=>by simp only [A03,a,d,c];exact y⟩
  ·exact hv.elim
 ·exact hv.elim
def A85{o:aE}{st:VS}{op:BinOp}{t t':aT}{x z:aR}(hop:o.op= .binOp op t x z t'){C:aO->Prop}(hv:Hz P o st op t (C8 st x) (C8 st z) C):
 ∃ u,C (.val u)/\∀ st' (C':aO->Prop),AgreeOn cfg ops o st st'->C' (.val u)->Hz P o st' op t (C8 st' x) (C8 st' z) C':=by
 have j:∀ cs b,o.op ≠ .select cs b:=by rw [hop];intro _ _ e;cases e
 have g:∀ st',AgreeOn cfg ops o st st'->C8 st' x=C8 st x/\C8 st' z=C8 st z:=fun st' d=>⟨d.eval (by rw [hop];simp [aC]),d.eval (by rw [hop];simp [aC])⟩
 unfold Hz at hv
 split at hv
 ·rename_i c a
  obtain ⟨b,l,k⟩:=A02 hv
  exact ⟨_,l,fun st' C' d y=>by rw [(g st' d).1,(g st' d).2];simp only [Hz,c,a];exact k (fun b=>C' (.val (.bool b))) y⟩
 ·rename_i c a
  obtain ⟨b,l,k⟩:=A02 hv
  exact ⟨_,l,fun st' C' d y=>by rw [(g st' d).1,(g st' d).2];simp only [Hz,c,a];exact k (fun b=>C' (.val (.bool (!b)))) y⟩
 ·rename_i c a
  obtain ⟨i,hv⟩:=hv.both
  exact ⟨_,hv,fun st' C' d y=>by rw [(g st' d).1,(g st' d).2];simp only [Hz,c,a,i];exact y⟩
 ·rename_i c a
  obtain ⟨i,hv⟩:=hv.both
  exact ⟨_,hv,fun st' C' d y=>by rw [(g st' d).1,(g st' d).2];simp only [Hz,c,a,i];exact y⟩
 ·rename_i c a
  obtain ⟨i,hv⟩:=hv.both
  rcases Wz hv with ⟨e,hv⟩|⟨e,hv⟩
  ·exact hv.elim
  ·exact ⟨_,hv,fun st' C' d y=>by rw [(g st' d).1,(g st' d).2];simp only [Hz,c,a,i,e];exact y⟩
 ·rename_i c a
  obtain ⟨i,hv⟩:=hv.both
  rcases Wz hv with ⟨e,hv⟩|⟨e,hv⟩
  ·exact hv.elim
  ·exact ⟨_,hv,fun st' C' d y=>by rw [(g st' d).1,(g st' d).2];simp only [Hz,c,a,i,e];exact y⟩
 ·rename_i c a
  rcases Wz hv with ⟨e,hv⟩|⟨e,hv⟩
  ·exact hv.elim
  ·exact ⟨_,hv,fun st' C' d y=>by rw [(g st' d).1,(g st' d).2];simp only [Hz,c,a,e];exact y⟩
 ·rename_i c a
  rcases Wz hv with ⟨e,hv⟩|⟨e,hv⟩
  ·exact hv.elim
  ·exact ⟨_,hv,fun st' C' d y=>by rw [(g st' d).1,(g st' d).2];simp only [Hz,c,a,e];exact y⟩
 ·rename_i c a
  exact ⟨_,hv.2,fun st' C' d y=>by rw [(g st' d).1,(g st' d).2];simp only [Hz,c,a];exact ⟨hv.1,y⟩⟩
 ·rename_i w B p n s A r m D
  obtain ⟨u,q,k⟩:=Mj (cfg:=cfg) (ops:=ops) j hv
  refine ⟨u,q,fun st' C' d y=>?_⟩
  rw [(g st' d).1,(g st' d).2]
  unfold Hz
  split
  ·rename_i c a;exact (w _ _ rfl c a).elim
  ·rename_i c a;exact (B _ _ rfl c a).elim
  ·rename_i c a;exact (p _ _ _ _ _ rfl c a).elim
  ·rename_i c a;exact (n _ _ _ _ _ rfl c a).elim
  ·rename_i c a;exact (s _ _ _ _ rfl c a).elim
  ·rename_i c a;exact (A _ _ _ _ rfl c a).elim
  ·rename_i c a;exact (r _ _ _ _ rfl c a).elim
  ·rename_i c a;exact (m _ _ _ _ rfl c a).elim
  ·rename_i c a;exact (D _ _ rfl c a).elim
  ·exact k st' C' d y
def B6i{o:aE}{st:VS}{h:aF}(hsel:∀ cs b,o.op ≠ .select cs b){C:aO->Prop}(hv:vcQ P o st h C):
 ∃ v,C v/\(∀ k off,v= .own k off->∃ x off',x∈o.op.operands/\C8 st x= .own k off')/\∀ st' h' C',(Ga o st=true->h.le h')->AgreeOn cfg ops o st st'->C' v->vcQ P o st' h' C':=by
 unfold vcQ at hv
 split at hv
 ·rename_i x a
  refine ⟨_,hv,(fun k off e=>⟨x,off,(by rw [a];simp [aC]),e⟩),fun st' h' C' g d y=>?_⟩
  unfold vcQ;simp only [a,d.eval (x:=x) (by rw [a];simp [aC])];exact y
 ·rename_i x a
  refine ⟨_,hv,(fun k off e=>⟨x,off,(by rw [a];simp [aC]),e⟩),fun st' h' C' g d y=>?_⟩
  unfold vcQ;simp only [a,d.eval (x:=x) (by rw [a];simp [aC])];exact y
 ·rename_i c x z a
  split at hv
  ·rename_i b G
   have Z:∀ st',AgreeOn cfg ops o st st'->C8 st' c= .val (.bool b)/\C8 st' x=C8 st x/\C8 st' z=C8 st z:=fun st' d=>
    ⟨by rw [d.eval (x:=c) (by rw [a];simp [aC])];exact G,d.eval (by rw [a];simp [aC]),d.eval (by rw [a];simp [aC])⟩
   rcases Wz hv with ⟨e,hv⟩|⟨e,hv⟩
   ·refine ⟨_,hv,(fun k off e=>⟨x,off,(by rw [a];simp [aC]),e⟩),fun st' h' C' g d y=>?_⟩
    obtain ⟨D,E,L⟩:=Z st' d
    unfold vcQ;simp only [a,D,E,L,e];exact y
   ·refine ⟨_,hv,(fun k off e=>⟨z,off,(by rw [a];simp [aC]),e⟩),fun st' h' C' g d y=>?_⟩
    obtain ⟨D,E,L⟩:=Z st' d
    unfold vcQ;simp only [a,D,E,L,e];exact y
  ·exact hv.elim
 ·rename_i t x a
  have n:∀ st',AgreeOn cfg ops o st st'->C8 st' x=C8 st x:=fun st' d=>d.eval (by rw [a];simp [aC])
  split at hv
  ·rename_i k off q
   split at hv
   ·rename_i cs Q
    obtain ⟨u,w,r⟩:=A3g hv
    refine ⟨_,w,(fun k off e=>by cases e),fun st' h' C' g d y=>?_⟩
    unfold vcQ;simp only [a,n st' d,q,d.load t x k off a q,Q];exact r C' y
   ·exact hv.elim
  ·rename_i R q
   obtain ⟨u,w,r⟩:=A1c hv
   refine ⟨_,w,(fun k off e=>by cases e),fun st' h' C' g d y=>?_⟩
   unfold vcQ;simp only [a,n st' d,q];exact r h' C' (g (by simp only [Ga,a,q])) y
  ·exact hv.elim
 ·rename_i s x f a
  have n:∀ st',AgreeOn cfg ops o st st'->C8 st' x=C8 st x:=fun st' d=>d.eval (by rw [a];simp [aC])
  split at hv
  ·rename_i k off q
   split at hv
   ·rename_i fs N
    split at hv
    ·rename_i fd V
     obtain ⟨G,hv⟩:=hv.both
     refine ⟨_,hv,(fun W off' e=>by cases e;exact ⟨x,off,(by rw [a];simp [aC]),q⟩),fun st' h' C' g d y=>?_⟩
     unfold vcQ;simp only [a,n st' d,q,N,V,G];exact y
    ·exact hv.elim
   ·exact hv.elim
  ·rename_i R q
   split at hv
   ·rename_i fs N
    split at hv
    ·rename_i fd V
     obtain ⟨G,hv⟩:=hv.both
     refine ⟨_,hv,(fun W off' e=>by cases e),fun st' h' C' g d y=>?_⟩
     unfold vcQ;simp only [a,n st' d,q,N,V,G];exact y
    ·exact hv.elim
   ·exact hv.elim
  ·exact hv.elim
 ·rename_i x a
  have n:∀ st',AgreeOn cfg ops o st st'->C8 st' x=C8 st x:=fun st' d=>d.eval (by rw [a];simp [aC])
  split at hv
  ·rename_i k off q
   refine ⟨_,hv,(fun W off' e=>by cases e;exact ⟨x,off,(by rw [a];simp [aC]),q⟩),fun st' h' C' g d y=>?_⟩
   unfold vcQ;simp only [a,n st' d,q];exact y
  ·rename_i p q
   obtain ⟨R,hp,hv⟩:=hv
   refine ⟨_,hv,(fun W off' e=>by cases e),fun st' h' C' g d y=>?_⟩
   unfold vcQ;simp only [a,n st' d,q];exact ⟨R,hp,y⟩
  ·exact hv.elim
 ·rename_i t x i a
  obtain ⟨v,w,hw,r⟩:=Qm hv
  refine ⟨_,w,(fun k off e=>let ⟨off',e'⟩:=hw k off e;⟨x,off',(by rw [a];simp [aC]),e'⟩),fun st' h' C' g d y=>?_⟩
  unfold vcQ;simp only [a,d.eval (x:=x) (by rw [a];simp [aC]),d.eval (x:=i) (by rw [a];simp [aC])];exact r C' y
 ·rename_i t x i a
  have n:∀ st',AgreeOn cfg ops o st st'->C8 st' x=C8 st x/\C8 st' i=C8 st i:=fun st' d=>⟨d.eval (by rw [a];simp [aC]),d.eval (by rw [a];simp [aC])⟩
  split at hv
  ·rename_i s _ j T D E
   obtain ⟨c,h0,hv⟩:=hv
   refine ⟨_,hv,(fun k off e=>by cases e),fun st' h' C' g d y=>?_⟩
   unfold vcQ;simp only [a,(n st' d).1,(n st' d).2,T,D,E];exact ⟨c,h0,y⟩
  ·rename_i n1
   obtain ⟨u,w,r⟩:=Mj (cfg:=cfg) (ops:=ops) hsel hv
   refine ⟨_,w,(fun k off e=>by cases e),fun st' h' C' g d y=>?_⟩
   unfold vcQ;simp only [a,(n st' d).1,(n st' d).2]
   exact r st' C' d y
 ·rename_i t x H J a
  obtain ⟨u,w,r⟩:=A2s hv
  refine ⟨_,w,(fun k off e=>by cases e),fun st' h' C' g d y=>?_⟩
  have n:C8 st' x=C8 st x:=d.eval (by rw [a];simp [aC])
  have F:H.map (C8 st')=H.map (C8 st):=by
   cases H with
   | none=>rfl
   | some z=>simp only [Option.map_some];rw [d.eval (x:=z) (by rw [a];simp [aC])]
  have B:J.map (C8 st')=J.map (C8 st):=by
   cases J with
   | none=>rfl
   | some z=>simp only [Option.map_some];rw [d.eval (x:=z) (by rw [a];simp [aC])]
  unfold vcQ;simp only [a,n,F,B];exact r C' y
 ·rename_i t x H J mx a
  have ev:∀ st',AgreeOn cfg ops o st st'->C8 st' x=C8 st x/\C8 st' H=C8 st H/\C8 st' J=C8 st J/\C8 st' mx=C8 st mx:=fun st' d=>⟨d.eval (by rw [a];simp [aC]),d.eval (by rw [a];simp [aC]),d.eval (by rw [a];simp [aC]),d.eval (by rw [a];simp [aC])⟩
  unfold Jp at hv
  split at hv
  ·rename_i e A m c k1 l k2 h' k3 b T n F B S
   obtain ⟨G,D,E,L,hv⟩:=hv.both
   refine ⟨_,hv,(fun k off e=>by cases e),fun st' h' C' g d y=>?_⟩
   unfold vcQ;simp only [a,(ev st' d).1,(ev st' d).2.1,(ev st' d).2.2.1,(ev st' d).2.2.2,n,F,B,S,Jp,T,G]
   exact ⟨D,E,L,y⟩
  ·exact hv.elim
 ·rename_i op t x z t' a
  obtain ⟨u,w,r⟩:=A85 (cfg:=cfg) (ops:=ops) a hv
  refine ⟨_,w,(fun k off e=>by cases e),fun st' h' C' g d y=>?_⟩
  unfold vcQ;simp only [a];exact r st' C' d y
 ·exact hv.elim
 ·rename_i n1 n2 n3 n4 n5 n6 n7 n8 n9 X O M
  obtain ⟨u,w,r⟩:=Mj (cfg:=cfg) (ops:=ops) hsel hv
  refine ⟨_,w,(fun k off e=>by cases e),fun st' h' C' g d y=>?_⟩
  unfold vcQ
  split
  ·rename_i e;exact (n1 _ e).elim
  ·rename_i e;exact (n2 _ e).elim
  ·rename_i e;exact (n3 _ _ _ e).elim
  ·rename_i e;exact (n4 _ _ e).elim
  ·rename_i e;exact (n5 _ _ _ e).elim
  ·rename_i e;exact (n6 _ e).elim
  ·rename_i e;exact (n7 _ _ _ e).elim
  ·rename_i e;exact (n8 _ _ _ e).elim
  ·rename_i e;exact (n9 _ _ _ _ e).elim
  ·rename_i e;exact (X _ _ _ _ _ e).elim
  ·rename_i e;exact (O _ _ _ _ _ e).elim
  ·rename_i e;exact (M _ e).elim
  ·exact r st' C' d y
inductive Upd where
 | put (d:Option Nat) (v:aO)
 | own (d:Nat) (cs:List aI)
def Upd.app:Upd->VS->VS
 | .put d v,s=>s.putO d v
 | .own d cs,s=>(s.put d (.own d 0)).setOwn d cs
def Upd.dst:Upd->Option Nat
 | .put d _=>d
 | .own d _=>some d
def Iz{o:aE}{j:Nat}{want:Bool}{g:Nat}(hg:o.guard=some (j,want))(hd:(ops[j]?).bind (·.dst)=some g):g∈o.looksAt ops:=by
 unfold Oper.looksAt
 refine List.mem_append_right _ ?_
 simp only [hg,hd,Option.toList_some,List.mem_singleton]
def Yx{o:aE}{st:VS}{h:aF}{gr:Bool}{K:VS->aF->Prop}(hs:Z9 P cfg o=true)(hv:O6 P cfg o gr st h K):
 ∃ u:Upd,u.dst=o.dst/\K (u.app st) h/\(∀ d cs,u= .own d cs->st.own d=none)/\(∀ d v k off,u= .put d v->v= .own k off->∃ x off',x∈o.op.operands/\C8 st x= .own k off')/\(∀ d cs,u= .own d cs->O1 cfg o=true)/\
  ∀ st' h' (K':VS->aF->Prop),(Ga o st=true->h.le h')->AgreeOn cfg ops o st st'->K' (u.app st') h'->O6 P cfg o gr st' h' K':=by
 unfold O6 at hv
 obtain ⟨C,hv⟩:=hv.both
 split at hv
 ·rename_i m
  have p:∀ cs b,o.op ≠ .select cs b:=fun cs b e=>by simp [Qy,e] at m
  obtain ⟨v,G,M,s⟩:=B6i (cfg:=cfg) (ops:=ops) p hv
  refine ⟨.put o.dst v,rfl,G,(fun d cs e=>by cases e),(fun d O k off e L=>by cases e;exact M k off L),(fun d cs e=>by cases e),fun st' h' K' l i y=>?_⟩
  unfold O6;rw [C];simp only [When,m];exact s st' h' _ l i y
 ·rename_i m
  have a:O1 cfg o=true:=by simpa [Z9,m] using hs
  have n:∀ cells:List aI,Fl cfg o.dst cells st h K->∃ u:Upd,u.dst=o.dst/\K (u.app st) h/\(∀ d cs,u= .own d cs->st.own d=none)/\(∀ d v k off,u= .put d v->v= .own k off->∃ x off',x∈o.op.operands/\C8 st x= .own k off')/\(∀ d cs,u= .own d cs->O1 cfg o=true)/\
   ∀ st' h' (K':VS->aF->Prop),(Ga o st=true->h.le h')->AgreeOn cfg ops o st st'->K' (u.app st') h'->Fl cfg o.dst cells st' h' K':=by
   intro cells hv
   unfold Fl at hv
   split at hv
   ·rename_i d j
    obtain ⟨g,hv⟩:=hv.both
    simp only [aD,Option.isNone_iff_eq_none] at g
    refine ⟨.own d cells,j.symm,hv,(fun H cs e=>by cases e;exact g.2),(fun H v k off e _=>by cases e),(fun _ _ _=>a),fun st' h' K' l i y=>?_⟩
    have N:st'.own d=none:=i.alloc d a j g.2
    rw [j]
    simp only [Fl,g.1.1,g.1.2,N,Option.isNone_none,Bool.and_self,When]
    exact y
   ·exact hv.elim
  have z:=a
  unfold O1 at a
  split at hv
  ·rename_i t c
   rw [c] at a
   simp only [a] at hv
   obtain ⟨F,hv⟩:=hv.both
   obtain ⟨u,w,B,E,D,q,A⟩:=n _ hv
   refine ⟨u,w,B,E,D,q,fun st' h' K' l i y=>?_⟩
   unfold O6;rw [C];simp only [When,m,c,a,F];exact A st' h' K' l i y
  ·rename_i t x c
   rw [c] at a
   obtain ⟨J,hv⟩:=hv.both
   simp only [a] at hv
   obtain ⟨u,w,B,E,D,q,A⟩:=n _ hv
   refine ⟨u,w,B,E,D,q,fun st' h' K' l i y=>?_⟩
   have r:=i.eval (x:=x) (by rw [c];simp [aC])
   unfold O6;rw [C];simp only [When,m,c,a,r,J,i.rho (x:=x) (by rw [c];simp [aC])];exact A st' h' K' l i y
  all_goals (rename_i c;simp [c] at a)
def B57{o:aE}{st:VS}{h:aF}{gr:Bool}{K:VS->aF->Prop}(hs:Z9 P cfg o=true)(hv:Oc P cfg ops o gr st h K):
 ∃ u:Upd,u.dst=o.dst/\K (u.app st) h/\(∀ d cs,u= .own d cs->st.own d=none)/\(∀ d v k off,u= .put d v->v= .own k off->∃ x off',x∈o.op.operands/\C8 st x= .own k off')/\(∀ d cs,u= .own d cs->O1 cfg o=true)/\
  ∀ st' h' (K':VS->aF->Prop),(Ga o st=true->h.le h')->AgreeOn cfg ops o st st'->K' (u.app st') h'->Oc P cfg ops o gr st' h' K':=by
 unfold Oc at hv
 split at hv
 ·rename_i n
  obtain ⟨u,A,D,G,F,s,C⟩:=Yx (ops:=ops) hs hv
  exact ⟨u,A,D,G,F,s,fun st' h' K' q l y=>by unfold Oc;simp only [n];exact C st' h' K' q l y⟩
 ·rename_i j w n
  split at hv
  ·exact hv.elim
  ·rename_i i g
   split at hv
   ·rename_i b p
    have c:=Iz n g
    have r:∀ H:Bool,b=H->When (N2 cfg o.dst) (K ((st.put i (.val (.bool H))).putO o.dst (.val undef)) h)->N2 cfg o.dst=true/\K (st.putO o.dst (.val undef)) h:=by
     intro H e x
     subst e
     rw [aG st p] at x
     exact x.both
    cases b<;>cases w
    ·have m:O6 P cfg o gr (st.put i (.val (.bool false))) h K:=hv
     rw [aG st p] at m
     obtain ⟨u,A,D,G,F,s,C⟩:=Yx (ops:=ops) hs m
     refine ⟨u,A,D,G,F,s,fun st' h' K' q l y=>?_⟩
     have a:st'.env i= .val (.bool false):=by rw [l.env i c];exact p
     unfold Oc;simp only [n,g,a,Br]
     rw [aG st' a];exact C st' h' K' q l y
    ·obtain ⟨E,z⟩:=r false rfl hv
     refine ⟨.put o.dst (.val undef),rfl,z,(fun d cs e=>by cases e),(fun d v k off e B=>by cases e;cases B),(fun d cs e=>by cases e),fun st' h' K' q l y=>?_⟩
     have a:st'.env i= .val (.bool false):=by rw [l.env i c];exact p
     unfold Oc;simp only [n,g,a,Br]
     rw [aG st' a,E];exact y
    ·obtain ⟨E,z⟩:=r true rfl hv
     refine ⟨.put o.dst (.val undef),rfl,z,(fun d cs e=>by cases e),(fun d v k off e B=>by cases e;cases B),(fun d cs e=>by cases e),fun st' h' K' q l y=>?_⟩
     have a:st'.env i= .val (.bool true):=by rw [l.env i c];exact p
     unfold Oc;simp only [n,g,a,Br]
     rw [aG st' a,E];exact y
    ·have m:O6 P cfg o gr (st.put i (.val (.bool true))) h K:=hv
     rw [aG st p] at m
     obtain ⟨u,A,D,G,F,s,C⟩:=Yx (ops:=ops) hs m
     refine ⟨u,A,D,G,F,s,fun st' h' K' q l y=>?_⟩
     have a:st'.env i= .val (.bool true):=by rw [l.env i c];exact p
     unfold Oc;simp only [n,g,a,Br]
     rw [aG st' a];exact C st' h' K' q l y
   ·rename_i J p
    have c:=Iz n g
    obtain ⟨E,z⟩:=hv.both
    refine ⟨.put o.dst (.val undef),rfl,z,(fun d cs e=>by cases e),(fun d v k off e B=>by cases e;cases B),(fun d cs e=>by cases e),fun st' h' K' q l y=>?_⟩
    have a:st'.env i= .val (.tuple J):=by rw [l.env i c];exact p
    unfold Oc;simp only [n,g,a]
    rw [E];exact y
   ·exact hv.elim
def Qh{z:aI}{K K':aI->Prop}(x:exT z K)(hk:∀ v,K v->K' v):exT z K':=by
 unfold exT at x ⊢
 split at x
 ·exact B3r x fun a=>hk _
 ·exact A5j x hk
def A9x{zs:List aI}: ∀ {K K':List aI->Prop},exTs zs K->(∀ v,K v->K' v)->exTs zs K':=by
 induction zs with
 | nil=>exact fun x a=>a _ x
 | cons z zs ih=>exact fun x a=>Qh x fun v y=>ih y fun b=>a _
def Sg{t:aT}{K K':aI->Prop}(x:exRt P t K)(hk:∀ v,K v->K' v):exRt P t K':=by
 unfold exRt at x ⊢
 split at x
 ·exact A9x x fun a=>hk _
 ·exact Qh x hk
def WFs(st:VS):Prop:=∀ i k off,st.env i= .own k off->(st.own k).isSome=true
structure Frm (o:aE) (st st':VS):Prop where
 env:∀ x,o.dst≠some x->st'.env x=st.env x
 own:∀ k,(o.dst=some k->(st.own k).isSome=true)->(∀ t a b off,o.op= .store t a b->C8 st a ≠ .own k off)->st'.own k=st.own k
 wf:WFs st'
def Yr{st:VS}(wf:WFs st){x:aR}{k off:Nat}(e:C8 st x= .own k off):(st.own k).isSome=true:=by
 cases x with
 | tmp t=>exact wf t k off e
 | _=>cases e
def Mt(st:VS)(d:Option Nat)(v:aO)(x:Nat):(st.putO d v).env x=if d=some x then v else st.env x:=by
 cases d with
 | none=>simp [VS.putO]
 | some d=>
  by_cases h:x=d
  ·subst h;simp [VS.putO,VS.put]
  ·have:¬ d=x:=fun e=>h e.symm
   simp [VS.putO,VS.put,Ce h,this]
def O5{o:aE}{st:VS}(wf:WFs st)(u:aI):Frm o st (st.putO o.dst (.val u)):=by
 refine ⟨fun x b=>by rw [Mt,iN b],fun k _ _=>by rw [L0],fun i k a e=>?_⟩
 rw [Mt] at e
 rw [L0]
 split at e
 ·cases e
 ·exact wf i k a e
def Dl{u:Upd}{st:VS}{x:Nat}(h:u.dst≠some x):(u.app st).env x=st.env x:=by
 cases u with
 | put d v=>simp only [Upd.app,Mt];rw [iN (show d≠some x from h)]
 | own d cs=>
  have:x≠d:=fun e=>h (by rw [e];rfl)
  simp [Upd.app,VS.setOwn,VS.put,Ce this]
def At{u:Upd}{st:VS}{k:Nat}(h:∀ d cs,u= .own d cs->k≠d):(u.app st).own k=st.own k:=by
 cases u with
 | put d v=>simp only [Upd.app,L0]
 | own d cs=>exact E8 _ _ (h d cs rfl)
def Og(st:VS){d e:Nat}(v u:aO)(h:d≠e):(st.put d v).put e u=(st.put e u).put d v:=by
 unfold VS.put
 congr 1
 funext i
 by_cases a:i=d
 ·subst a;simp [Ce h]
 ·by_cases b:i=e
  ·subst b;simp [Ce a]
  ·simp [Ce a,Ce b]
def G6{u:Upd}{st:VS}{d:Option Nat}{v:aO}(h:∀ x,u.dst=some x->d≠some x):(u.app st).putO d v=u.app (st.putO d v):=by
 cases d with
 | none=>rfl
 | some d=>
  cases u with
  | put e w=>
   cases e with
   | none=>rfl
   | some e=>exact Og st w v (fun x=>h e rfl (congrArg some x.symm))
  | own e cs=>
   have:=Og st (.own e 0) v (fun x=>h e rfl (congrArg some x.symm))
   show ((st.put e (.own e 0)).setOwn e cs).put d v=((st.put d v).put e (.own e 0)).setOwn e cs
   rw [<- this];rfl
def Gz{u:Upd}{st:VS}{k:Nat}{cs:List aI}(h:∀ d c,u= .own d c->k≠d):(u.app st).setOwn k cs=u.app (st.setOwn k cs):=by
 cases u with
 | put d v=>cases d<;>rfl
 | own d c=>
  have e:=h d c rfl
  show ((st.put d (.own d 0)).setOwn d c).setOwn k cs=((st.setOwn k cs).put d (.own d 0)).setOwn d c
  unfold VS.setOwn VS.put
  congr 1
  funext i
  by_cases a:i=d
  ·subst a;simp [Ce (Ne.symm e)]
  ·by_cases b:i=k
   ·subst b;simp [Ce a]
   ·simp [Ce a,Ce b]
def B4b{u v:Upd}{st:VS}(h:∀ x,u.dst=some x->v.dst≠some x):v.app (u.app st)=u.app (v.app st):=by
 cases v with
 | put d w=>exact G6 h
 | own d cs=>
  have a:(u.app st).put d (.own d 0)=u.app (st.put d (.own d 0)):=G6 (d:=some d) h
  show ((u.app st).put d (.own d 0)).setOwn d cs=_
  rw [a,Gz (fun e c eq=>by subst eq;exact fun x=>h e rfl (by rw [<- x];rfl))];rfl
def Frm.upd{o:aE}{u:Upd}{st:VS}(hd:u.dst=o.dst)(wf:WFs st)(hv:∀ d v k off,u= .put d v->v= .own k off->∃ x off',C8 st x= .own k off')(hn:∀ d cs,u= .own d cs->st.own d=none):Frm o st (u.app st):=by
 refine ⟨fun x b=>Dl (by rw [hd];exact b),fun k j _=>At (fun d cs e=>?_),fun i k off e=>?_⟩
 ·rintro rfl
  have:=j (by rw [<- hd,e];rfl)
  rw [hn k cs e] at this;cases this
 cases u with
 | put d v=>
  simp only [Upd.app,L0] at e ⊢
  rw [Mt] at e
  split at e
  ·obtain ⟨x,off',b⟩:=hv d v k off rfl e
   exact Yr wf b
  ·exact wf i k off e
 | own d cs=>
  have a:=hn d cs rfl
  by_cases c:i=d
  ·subst c
   have:((st.put i (.own i 0)).setOwn i cs).env i= .own i 0:=by simp [VS.setOwn,VS.put]
   simp only [Upd.app] at e ⊢
   rw [this] at e
   injection e with e1 e2;subst e1
   rw [T3];rfl
  ·rw [Dl (u:=.own d cs) (fun x=>c (by cases x;rfl))] at e
   have:=wf i k off e
   have g:k≠d:=by rintro rfl;rw [a] at this;cases this
   rw [At (u:=.own d cs) (fun n m l=>by cases l;exact g)];exact this
structure Before (cfg:Cfg) (ops:Array aE) (u:Upd) (o:aE) (st:VS):Prop where
 look:∀ x,u.dst=some x->x∉o.looksAt ops
 dst:∀ x,u.dst=some x->o.dst≠some x
 free:∀ d cs,u= .own d cs->st.own d=none
 wf:WFs st
def Before.eval{u:Upd}{o:aE}{st:VS}(b:Before cfg ops u o st){x:aR}(hx:x∈o.op.operands):C8 (u.app st) x=C8 st x:=by
 cases x with
 | tmp t=>
  refine Dl fun e=>b.look t e ?_
  unfold Oper.looksAt
  exact aK _ (List.mem_filterMap.2 ⟨.tmp t,by simpa using hx,rfl⟩)
 | _=>rfl
def Before.rho{u:Upd}{o:aE}{st:VS}(b:Before cfg ops u o st){x:aR}(hx:x∈o.op.operands):rho (u.app st) x=rho st x:=by
 unfold Go.Proofs.YtmbfcbbkbefgfaaGreatDoor.rho;rw [b.eval hx]
def Before.key{u:Upd}{o:aE}{st:VS}(b:Before cfg ops u o st){x:aR}{k off:Nat}(e:C8 st x= .own k off):∀ d cs,u= .own d cs->k≠d:=by
 rintro d cs a rfl
 have:=Yr b.wf e
 rw [b.free k cs a] at this;cases this
def Grw(cfg:Cfg)(o:aE)(st:VS)(h h':aF):Prop:=A83 cfg o=false->(∀ t a b,o.op= .store t a b->∃ k off,C8 st a= .own k off)->h.le h'
def Grw.of{cfg:Cfg}{o:aE}{st:VS}{h h':aF}(x:h.le h'):Grw cfg o st h h':=fun _ _=>x
def Grow.map{gr:Bool}{h h':aF}{X Y:Prop}(x:Grow gr h h' X)(f:X->(gr=true->h.le h')->Y):Grow gr h h' Y:=by
 cases gr
 ·exact f x (fun e=>by cases e)
 ·exact ⟨x.1,f x.2 (fun _=>x.1)⟩
def Sh{u:Upd}{o:aE}{st:VS}(b:Before cfg ops u o st){s:Sem aI}{h:aF}{K:VS->aF->Prop}{K':VS->aF->Prop}(hk:∀ st' h',K (u.app st') h'->Grw cfg o st h h'->Frm o st st'->K' st' h')(x:effV P s o true (u.app st) h K):
 effV P s o true st h K':=by
 refine He s x fun v h' y=>Qh y fun w ⟨d,a,e⟩=>⟨d,a,hk _ _ ?_ (Grw.of a) (O5 b.wf w)⟩
 rwa [G6 (fun z c=>b.dst z c)] at e
def Vr{u:Upd}{o:aE}{st:VS}{gr:Bool}(b:Before cfg ops u o st)(hgw:A83 cfg o=false->gr=true){s:Sem aI}{h:aF}{K:VS->aF->Prop}{K':VS->aF->Prop}(hk:∀ st' h',K (u.app st') h'->Grw cfg o st h h'->Frm o st st'->K' st' h')(x:effV P s o gr (u.app st) h K):
 effV P s o gr st h K':=by
 refine He s x fun v h' y=>Qh y fun w ⟨i,c⟩=>⟨i,c.map fun g d=>hk _ _ ?_ (fun e _=>d (hgw e)) (O5 b.wf w)⟩
 rwa [G6 (fun z a=>b.dst z a)] at g
def A1k{u:Upd}{o:aE}{st:VS}(b:Before cfg ops u o st){s:Sem aI}{h:aF}{K:VS->aF->Prop}{K':VS->aF->Prop}(hk:∀ st' h',K (u.app st') h'->Grw cfg o st h h'->Frm o st st'->K' st' h')(x:effP P s o true (u.app st) h K):
 effP P s o true st h K':=by
 refine He s x fun v h' ⟨w,d,a,e⟩=>⟨w,d,a,hk _ _ ?_ (Grw.of a) (O5 b.wf _)⟩
 rwa [G6 (fun z c=>b.dst z c)] at e
def A9z{u:Upd}{o:aE}{st:VS}(b:Before cfg ops u o st){s:Sem Unit}{h:aF}{K:VS->aF->Prop}{K':VS->aF->Prop}(hno:¬ (∀ t a b,o.op= .store t a b->∃ k off,C8 st a= .own k off))(hk:∀ st' h',K (u.app st') h'->Grw cfg o st h h'->Frm o st st'->K' st' h')(x:effU P s o false (u.app st) h K):
 effU P s o false st h K':=by
 refine He s x fun v h' c=>?_
 have c:K ((u.app st).putO o.dst (.val undef)) h':=c
 rw [G6 (fun z d=>b.dst z d)] at c
 exact hk _ _ c (fun _ e=>absurd e hno) (O5 b.wf _)
def Sq{u:Upd}{o:aE}{st:VS}(b:Before cfg ops u o st)(hs:Z9 P cfg o=false){h:aF}{K:VS->aF->Prop}{K':VS->aF->Prop}(hk:∀ st' h',K (u.app st') h'->Grw cfg o st h h'->Frm o st st'->K' st' h')(hv:O6 P cfg o (Ja cfg o) (u.app st) h K):O6 P cfg o (Ja cfg o) st h K':=by
 unfold O6 at hv ⊢
 obtain ⟨hd,hv⟩:=hv.both
 rw [hd]
 simp only [Z9,Bool.or_eq_false_iff] at hs
 simp only [hs.1] at hv ⊢
 show (match o.op with
  | .alloc t=>_
  | .box t x=>_
  | .store t a x=>_
  | .makeSlice t l c=>_
  | .buildSlice t n T=>_
  | .convert s d x=>_
  | .call c=>_
  | _=>_)
 split at hv
 ·rename_i t j
  have q:Ja cfg o=true:=by simp [Ja,A83,j]
  rw [q] at hv ⊢
  have:Kk cfg o.dst=false:=by simpa [O1,j] using hs.2
  simp only [j,this] at hv ⊢
  exact A1k b hk hv
 ·rename_i t x j
  have q:Ja cfg o=true:=by simp [Ja,A83,j]
  rw [q] at hv ⊢
  have:Kk cfg o.dst=false:=by simpa [O1,j] using hs.2
  have E:x∈o.op.operands:=by rw [j];simp [aC]
  simp only [j,this,b.eval E,b.rho E] at hv ⊢
  obtain ⟨m,hv⟩:=hv.both
  rw [m]
  exact A1k b hk hv
 ·rename_i t a x j
  have q:Ja cfg o=false:=by simp [Ja,j]
  rw [q] at hv ⊢
  have D:a∈o.op.operands:=by rw [j];simp [aC]
  have E:x∈o.op.operands:=by rw [j];simp [aC]
  simp only [j]
  unfold A2r at hv ⊢
  rw [b.eval D] at hv
  split at hv
  ·rename_i k V M
   have J:=b.key M
   rw [At J] at hv
   try simp only [M]
   split at hv
   ·rename_i cs aa
    try simp only [aa]
    rw [b.eval E,b.rho E] at hv
    obtain ⟨m,hv⟩:=hv.both
    rw [m]
    rw [Gz J,G6 (fun z L=>b.dst z L)] at hv
    refine hk _ _ hv (Grw.of (B3 h)) (⟨fun y A=>by rw [Mt,iN A];rfl,fun k' _ R=>?_,fun i k' X e=>?_⟩)
    ·rw [L0,E8]
     rintro rfl;exact R t a x V j M
    ·rw [Mt] at e
     rw [L0]
     split at e
     ·cases e
     ·have:=b.wf i k' X e
      by_cases W:k'=k
      ·subst W;rw [T3];rfl
      ·rw [E8 _ _ W];exact this
   ·exact hv.elim
  ·rename_i p Q
   try simp only [Q]
   rw [b.eval E,b.rho E] at hv
   obtain ⟨m,hv⟩:=hv.both
   rw [m]
   exact A9z b (fun E=>by obtain ⟨k,V,e⟩:=E _ _ _ j;rw [Q] at e;cases e) hk hv
  ·exact hv.elim
 ·rename_i t l c j
  have q:Ja cfg o=true:=by simp [Ja,A83,j]
  rw [q] at hv ⊢
  have hl:l∈o.op.operands:=by rw [j];simp [aC]
  have hc:c∈o.op.operands:=by rw [j];simp [aC]
  have D:L8 (u.app st) [l,c]=L8 st [l,c]:=X9 fun y A=>by
   simp only [aM,List.not_mem_nil,or_false] at A
   rcases A with rfl|rfl
   ·exact b.eval hl
   ·exact b.eval hc
  simp only [j]
  rw [D,b.rho hl,b.rho hc] at hv
  obtain ⟨m,hv⟩:=hv.both
  rw [m]
  exact Sh b hk hv
 ·rename_i t n T j
  have q:Ja cfg o=true:=by simp [Ja,A83,j]
  rw [q] at hv ⊢
  have Q:∀ p∈T,p.2∈o.op.operands:=fun p Q=>by
   rw [j];simp only [aC,List.mem_toArray,List.mem_map,Array.mem_toList_iff]
   exact ⟨p,Q,rfl⟩
  have D:L8 (u.app st) (T.toList.map (·.2))=L8 st (T.toList.map (·.2)):=X9 fun y A=>by
   obtain ⟨p,O,rfl⟩:=List.mem_map.1 A
   exact b.eval (Q p (by simpa using O))
  have S:(T.map fun (i,x)=>(i,rho (u.app st) x))=T.map fun (i,x)=>(i,rho st x):=by
   apply Array.map_congr_left
   intro p O
   simp only [b.rho (Q p O)]
  simp only [j]
  rw [D,S] at hv
  obtain ⟨m,hv⟩:=hv.both
  rw [m]
  exact Sh b hk hv
 ·rename_i s d x j
  have q:Ja cfg o=true:=by simp [Ja,A83,j]
  rw [q] at hv ⊢
  have E:x∈o.op.operands:=by rw [j];simp [aC]
  have D:L8 (u.app st) [x]=L8 st [x]:=X9 fun y A=>by
   simp only [aM,List.not_mem_nil,or_false] at A
   rw [A];exact b.eval E
  simp only [j]
  rw [D,b.rho E] at hv
  obtain ⟨m,hv⟩:=hv.both
  rw [m]
  exact Sh b hk hv
 ·rename_i c j
  generalize q:Ja cfg o=gr at hv ⊢
  have G:A83 cfg o=false->gr=true:=fun e=>by rw [<- q];simp [Ja,j,e]
  have H:∀ y∈c.args,y∈o.op.operands:=fun y A=>by
   rw [j];simp only [aC,Call.operands];exact Array.mem_append.2 (.inr A)
  have D:L8 (u.app st) c.args.toList=L8 st c.args.toList:=X9 fun y A=>b.eval (H y (by simpa using A))
  have S:c.args.map (rho (u.app st))=c.args.map (rho st):=Array.map_congr_left fun y A=>b.rho (H y A)
  simp only [j]
  split at hv
  ·rename_i f C
   try simp only [C]
   unfold A4n at hv ⊢
   have hf:f∈o.op.operands:=by rw [j];simp [aC,Call.operands,C]
   rw [b.eval hf] at hv
   split at hv
   ·rename_i g first B N
    try simp only [N]
    split at hv
    ·rename_i F
     rw [D,S] at hv
     obtain ⟨m,hv⟩:=hv.both
     try simp only [F]
     rw [m]
     refine FCall.mono hv fun r h' y=>Sg y fun w ⟨m,R⟩=>⟨m,R.map fun h3 Z=>hk _ _ ?_ (fun e _=>Z (G e)) (O5 b.wf w)⟩
     rwa [G6 (fun z L=>b.dst z L)] at h3
    ·rename_i F
     rw [D,S] at hv
     obtain ⟨m,hv⟩:=hv.both
     try simp only [F]
     rw [m]
     refine ECall.mono hv fun r h' y=>Sg y fun w ⟨m,R⟩=>⟨m,R.map fun h3 Z=>hk _ _ ?_ (fun e _=>Z (G e)) (O5 b.wf w)⟩
     rwa [G6 (fun z L=>b.dst z L)] at h3
   ·rename_i l first B N
    try simp only [N]
    rw [D,S] at hv
    obtain ⟨m,hv⟩:=hv.both
    rw [m]
    refine YCall.mono hv fun r h' y=>Sg y fun w ⟨m,R⟩=>⟨m,R.map fun h3 Z=>hk _ _ ?_ (fun e _=>Z (G e)) (O5 b.wf w)⟩
    rwa [G6 (fun z L=>b.dst z L)] at h3
   ·exact hv.elim
  ·rename_i C
   try simp only [C]
   rw [D,S] at hv
   obtain ⟨m,hv⟩:=hv.both
   rw [m]
   exact Vr b G hk hv
  ·rename_i C
   try simp only [C]
   rw [D,S] at hv
   obtain ⟨m,hv⟩:=hv.both
   rw [m]
   exact Vr b G hk hv
  ·exact hv.elim
 ·exact hv.elim
def A94{u:Upd}{o:aE}{st:VS}(b:Before cfg ops u o st){h:aF}{K:VS->aF->Prop}{K':VS->aF->Prop}(hk:∀ st' h',K (u.app st') h'->Grw cfg o st h h'->Frm o st st'->K' st' h')(hv:Oc P cfg ops o (Ja cfg o) (u.app st) h K):Oc P cfg ops o (Ja cfg o) st h K':=by
 cases hs:Z9 P cfg o with
 | true=>
  obtain ⟨v,n,p,T,S,W,O⟩:=B57 (ops:=ops) hs hv
  have N:AgreeOn cfg ops o (u.app st) st:=by
   refine ⟨fun x A=>(Dl fun e=>b.look x e A).symm,fun t a k q C e=>?_,fun d _ R G=>(At fun M J e=>?_).symm.trans G⟩
   ·rw [b.eval (by rw [C];simp [aC])] at e
    exact (At (b.key e)).symm
   ·rintro rfl
    exact b.dst d (by rw [e];rfl) R
  refine O st h _ (fun _=>B3 h) N (hk _ _ ?_ (Grw.of (B3 h)) (Frm.upd n b.wf (fun d w k q e E=>?_) (fun d J e=>?_)))
  ·rw [<- B4b (fun x A=>by rw [n];exact b.dst x A)];exact p
  ·obtain ⟨x,y,A,B⟩:=S d w k q e E
   exact ⟨x,y,by rw [<- b.eval A];exact B⟩
  ·have:=T d J e
   rwa [At (fun M Q E=>by
    rintro rfl
    exact b.dst d (by rw [E];rfl) (by rw [<- n,e];rfl))] at this
 | false=>
  unfold Oc at hv ⊢
  split at hv
  ·rename_i H
   exact Sq b hs hk hv
  ·rename_i j r H
   split at hv
   ·exact hv.elim
   ·rename_i i F
    have s:=Iz (o:=o) H F
    have B:(u.app st).env i=st.env i:=Dl fun e=>b.look i e s
    rw [B] at hv
    split at hv
    ·rename_i L l
     have g:(u.app st).env i= .val (.bool L):=by rw [B];exact l
     have m:N2 cfg o.dst=true/\K ((u.app st).putO o.dst (.val undef)) h->When (N2 cfg o.dst) (K' (st.putO o.dst (.val undef)) h):=by
      rintro ⟨n,p⟩
      rw [n]
      rw [G6 (fun z D=>b.dst z D)] at p
      exact hk _ _ p (Grw.of (B3 h)) (O5 b.wf _)
     try simp only [l]
     cases L<;>cases r
     ·have c:O6 P cfg o (Ja cfg o) ((u.app st).put i (.val (.bool false))) h K:=hv
      rw [aG _ g] at c
      simp only [Br];rw [aG st l]
      exact Sq b hs hk c
     ·have c:When (N2 cfg o.dst) (K (((u.app st).put i (.val (.bool false))).putO o.dst (.val undef)) h):=hv
      rw [aG _ g] at c
      simp only [Br];rw [aG st l]
      exact m c.both
     ·have c:When (N2 cfg o.dst) (K (((u.app st).put i (.val (.bool true))).putO o.dst (.val undef)) h):=hv
      rw [aG _ g] at c
      simp only [Br];rw [aG st l]
      exact m c.both
     ·have c:O6 P cfg o (Ja cfg o) ((u.app st).put i (.val (.bool true))) h K:=hv
      rw [aG _ g] at c
      simp only [Br];rw [aG st l]
      exact Sq b hs hk c
    ·rename_i V l
     try simp only [l]
     obtain ⟨n,p⟩:=hv.both
     rw [n]
     rw [G6 (fun z D=>b.dst z D)] at p
     exact hk _ _ p (Grw.of (B3 h)) (O5 b.wf _)
    ·exact hv.elim
def Rc{o:aE}{st:VS}(wf:WFs st){h:aF}{K K':VS->aF->Prop}(hv:Oc P cfg ops o (Ja cfg o) st h K)(hk:∀ st' h',K st' h'->Grw cfg o st h h'->Frm o st st'->K' st' h'):Oc P cfg ops o (Ja cfg o) st h K':=
 A94 (u:=.put none (.val undef)) ⟨(fun x e=>by cases e),(fun x e=>by cases e),(fun d a e=>by cases e),wf⟩ hk hv
def B40{oj oi x:aE}{st st':VS}{rem rem':List Nat}(hsub:∀ i∈rem',i∈rem)(hfr:Frm oi st st')(hap:oj.apart ops oi=true)(hmem:∃ i:Nat,i∈rem/\ops[i]? = some oi)(h:Nr cfg ops rem oj x st=true):Nr cfg ops rem' oj x st'=true:=by
 obtain ⟨_,_,l⟩:=Oper.apart_spec hap
 unfold Nr at h ⊢
 simp only [aD] at h ⊢
 obtain ⟨m,h⟩:=h
 have c:Ga oj st'=Ga oj st:=by
  unfold Ga
  split
  ·rename_i o a j
   have d:C8 st' a=C8 st a:=by
    cases a with
    | tmp z=>
     refine hfr.env z fun e=>l z e ?_
     unfold Oper.looksAt
     exact aK _ (List.mem_filterMap.2 ⟨.tmp z,by rw [j];simp [aC],rfl⟩)
    | _=>rfl
   rw [d]
  ·rfl
 refine ⟨by rw [c];exact m,?_⟩
 split at h
 ·rename_i t y b p
  split at h
  ·rename_i o a j
   simp only [aD] at h ⊢
   refine ⟨List.all_eq_true.2 fun i k=>List.all_eq_true.1 h.1 i (hsub i k),?_⟩
   have d:C8 st' a=C8 st a:=by
    cases a with
    | tmp z=>
     refine hfr.env z fun e=>l z e ?_
     unfold Oper.looksAt
     exact aK _ (List.mem_filterMap.2 ⟨.tmp z,by rw [j];simp [aC],rfl⟩)
    | _=>rfl
   have n:st'.env y=st.env y:=by
    refine hfr.env y fun e=>?_
    obtain ⟨i,k,g⟩:=hmem
    have:=List.all_eq_true.1 h.1 i k
    simp only [g,e] at this
    simp [Nat.beq_refl] at this
   rw [d,n];exact h.2
  ·exact h
 ·exact h
 ·exact h
def swap{oj oi:aE}{st:VS}{rem:List Nat}(wf:WFs st)(hs:Z9 P cfg oj=true)(hap:oj.apart ops oi=true)(hc:Nr cfg ops rem oj oi st=true){h:aF}{K:VS->aF->Prop}
 (hv:Oc P cfg ops oj (Ja cfg oj) st h fun st1 h1=>Oc P cfg ops oi (Ja cfg oi) st1 h1 K):Oc P cfg ops oi (Ja cfg oi) st h fun st1 h1=>Frm oi st st1/\Oc P cfg ops oj (Ja cfg oj) st1 h1 K:=by
 obtain ⟨A,s,H⟩:=Oper.apart_spec hap
 obtain ⟨u,h1,J,N,Q,O,G⟩:=B57 (ops:=ops) hs hv
 have b:Before cfg ops u oi st:=⟨fun x e=>A x (by rw [<- h1];exact e),fun x e=>s x (by rw [<- h1];exact e),N,wf⟩
 have j:=hc
 unfold Nr at j
 simp only [aD] at j
 have hc:=j.2
 have M:Ga oj st=true->A83 cfg oi=false:=fun e=>by
  have:=j.1
  rw [e] at this
  simpa using this
 refine A94 b (fun r E C B o=>⟨o,G r E K (fun c=>B (M c) fun z p w i=>?_) ?_ C⟩) J
 ·obtain ⟨t,x,hld⟩:∃ t x,oj.op= .load t x:=by
   unfold Ga at c
   split at c
   ·exact ⟨_,_,by assumption⟩
   ·cases c
  rw [i] at hc
  cases p with
  | tmp y=>
   simp only [hld,aD] at hc
   show ∃ k m,st.env y= .own k m
   revert hc
   cases C8 st x<;>cases st.env y<;>simp
  | _=>simp at hc
 refine ⟨fun x D=>o.env x fun e=>H x e D,fun t a k m q e=>o.own k (fun _=>Yr wf e) (fun z p w l i g=>?_),fun d R L n=>(o.own d (fun e=>absurd e (s d L)) (fun z p w l i g=>?_)).trans n⟩
 ·rw [i] at hc
  cases p with
  | tmp y=>
   simp only [q,aD] at hc
   have F:st.env y= .own k l:=g
   rw [e,F] at hc
   simp [Nat.beq_refl] at hc
  | _=>simp at hc
 ·have:=Yr wf g
  rw [n] at this;cases this
def B9u{anc:List (List Nat)}{al:Nat->List Nat}{i:Nat}{oi:aE}(hi:ops[i]? = some oi){L2:List Nat}{K:VS->aF->Prop}: ∀ (L1:List Nat) (n:Nat) (st:VS) (h:aF),n=L1.length+L2.length->WFs st->(∀ j∈L1,has (anc.getD i []) j=false)->i∉L1->
 Cq P cfg ops anc al (n+1) (L1++i::L2) st h K->Oc P cfg ops oi (Ja cfg oi) st h fun st' h'=>WFs st'/\Cq P cfg ops anc al n (L1++L2) st' h' K:=by
 intro L1
 induction L1 with
 | nil=>
  intro n st h _ wf _ _ l
  simp only [List.nil_append,Cq,hi] at l
  exact Rc wf (A5n l.both.2) fun st' h' m _ o=>⟨o.wf,m⟩
 | cons j L1 ih=>
  intro n st h G wf d D l
  obtain ⟨n,rfl⟩:∃ n',n=n'+1:=⟨L1.length+L2.length,by simp at G;omega⟩
  have B:n=L1.length+L2.length:=by simp at G;omega
  have p:i∉L1:=fun C=>D (by simp [C])
  simp only [aJ,Cq] at l
  split at l
  ·exact l.elim
  ·rename_i s E
   obtain ⟨c,l⟩:=l.both
   have c:=List.all_eq_true.1 c
   have b:=c i (by simp)
   unfold Xp at b
   rw [aN] at b
   rcases b with b|b
   ·unfold A8y at b
    rw [d j (by simp),hi] at b
    simp only [Bool.false_or,aD] at b
    obtain ⟨⟨e,A⟩,L⟩:=b
    have J:Z9 P cfg s=true:=by
     unfold B33 at e
     rw [aD] at e
     exact e.1
    have u:Oc P cfg ops s (Ja cfg s) st h fun g u=>Oc P cfg ops oi (Ja cfg oi) g u fun r F=>WFs r/\Cq P cfg ops anc al n (L1++L2) r F K:=
     Rc wf (A5n l) fun g u m _ o=>ih n g u B o.wf (fun k M=>d k (by simp [M])) p m
    refine Rc wf (swap wf J A L u) fun g u ⟨o,m⟩ _ _=>⟨o.wf,?_⟩
    simp only [aJ,Cq,E]
    have z:(L1++L2).all (Xp P cfg ops anc al (L1++L2) g s j)=true:=by
     refine List.all_eq_true.2 fun x q=>?_
     have a:=c x (by
      simp only [List.mem_append,aM] at q ⊢
      rcases q with q|q
      ·exact .inl q
      ·exact .inr (.inr q))
     unfold Xp at a ⊢
     rw [e] at a ⊢
     simp only [Bool.not_true,Bool.false_and,Bool.or_false] at a ⊢
     unfold A8y at a ⊢
     simp only [aN] at a ⊢
     rcases a with a|a
     ·exact .inl a
     ·refine .inr ?_
      split at a
      ·rename_i R Q
       simp only [aD] at a ⊢
       exact ⟨a.1,B40 (rem:=L1++i::L2) (fun y w=>by
        simp only [List.mem_append,aM] at w ⊢
        rcases w with w|w
        ·exact .inl w
        ·exact .inr (.inr w)) o A ⟨i,by simp,hi⟩ a.2⟩
      ·cases a
    rw [z]
    have O:A1s P cfg anc al s j (L1++L2)=[]:=by unfold A1s;rw [e]
    rw [O]
    exact Rc o.wf m fun r F ⟨_,m⟩ _ _=>m
   ·simp only [aD,Bool.not_eq_true'] at b
    obtain ⟨H,N⟩:=A4o (L2:=L2) p
    have C:i∈A1s P cfg anc al s j (L1++i::L2):=by
     unfold A1s
     rw [b.1]
     refine List.mem_filter.2 ⟨T9.1 b.2,?_⟩
     rw [H,T9.2 (show i∈L1++i::L2 by simp),d j (by simp)]
     simp only [Bool.true_and,Bool.not_false,Bool.and_true]
     exact List.all_eq_true.2 fun x q=>by rw [d x (by simp [q])];rfl
    have:=B7p l C
    simp only [hi] at this
    rw [N] at this
    exact Rc wf this fun st' h' m _ o=>⟨o.wf,by simp only [aJ,Cq,E] at m ⊢;exact m⟩
def A6j:∀ {L done:List Nat},A91 ops done L=true->L.Nodup/\(∀ i∈L,i∉done)/\∀ L1 i L2,L=L1++i::L2->∃ o,ops[i]? = some o/\∀ e∈o.after,Region.binds .any e=true->e.on∈done\/e.on∈L1:=by
 intro L
 induction L with
 | nil=>exact fun _=>⟨List.nodup_nil,(fun i d=>by cases d),(fun L1 i L2 e=>by simp at e)⟩
 | cons x L ih=>
  intro done h
  simp only [A91,aD,Bool.not_eq_true'] at h
  obtain ⟨⟨l,m⟩,p⟩:=h
  obtain ⟨r,n,q⟩:=ih p
  have s:x∉done:=fun b=>by rw [T9.2 b] at m;cases m
  refine ⟨List.nodup_cons.2 ⟨fun b=>n x b (by simp),r⟩,fun i d=>?_,fun L1 i L2 e=>?_⟩
  ·cases d with
   | head=>exact s
   | tail _ d=>exact fun b=>n i d (by simp [b])
  ·cases L1 with
   | nil=>
    simp only [List.nil_append,List.cons.injEq] at e
    obtain ⟨rfl,rfl⟩:=e
    split at l
    ·rename_i o j
     refine ⟨o,j,fun e g k=>.inl ?_⟩
     have:=List.all_eq_true.1 l e (by simpa using g)
     rw [k] at this
     exact T9.1 (by simpa using this)
    ·cases l
   | cons y L1=>
    simp only [aJ,List.cons.injEq] at e
    obtain ⟨rfl,rfl⟩:=e
    obtain ⟨o,j,c⟩:=q L1 i L2 rfl
    refine ⟨o,j,fun e g k=>?_⟩
    rcases c e g k with a|a
    ·simp only [aM] at a
     rcases a with a|a
     ·exact .inr (by simp [a])
     ·exact .inl a
    ·exact .inr (by simp [a])
def Xy{listed:Array Bool}{i:Nat}(d:Bool)(h:i<listed.size):(listed.setIfInBounds i true).getD i d=true:=by
 simp [h]
def B0i{al:Nat->List Nat}{F:Fence}{fu:Nat}[FOk F]{n:Nat}{h0:aF}{W0:World}(hn:cfg.n=n)(hfn:Bodies P cfg.fns){anc:List (List Nat)}(hanc:B9z ops anc=true){Q:Exit->Act->World->Prop}{K:VS->aF->Prop}{ord:List Nat}(hord:A91 ops [] ord=true)(_hall:∀ i,i<ops.size->i∈ord):
 ∀ (m:Nat) (L:List Nat) (listed:Array Bool) (st:VS) (h:aF) (a:Act) (W:World),L.length=m->L.Sublist ord->listed.size=ops.size->(∀ i,i<ops.size->(listed.getD i true=false↔i∈L))->(∀ i j,listed.getD i false=true->has (anc.getD i []) j=true->listed.getD j false=true)->
  Good n h0 W0 st h a W->Cq P cfg ops anc al m L st h K->(∀ st' h' a' W',K st' h'->Good n h0 W0 st' h' a' W'->Agree cfg.lim st st'->Q .normal a' W')->wpAnyIn F fu P .any ops Q m listed a W:=by
 obtain ⟨af,_,D⟩:=A6j hord
 intro m
 induction m with
 | zero=>
  intro L listed st h a W T l B b z g hv hQ
  have:L=[]:=List.eq_nil_of_length_eq_zero T
  subst this
  simp only [Cq] at hv
  refine ⟨?_,hQ st h a W hv g (Agree.refl _ _)⟩
  apply List.eq_nil_iff_forall_not_mem.2
  intro i R
  obtain ⟨h1,o,ho,_⟩:=mem_ready.1 R
  have:=(b i (Array.getElem?_eq_some_iff.1 ho).1).1 h1
  cases this
 | succ m ih=>
  intro L listed st h a W T l B b z g hv hQ
  have wf:WFs st:=by obtain ⟨θ,r,_,_⟩:=g;exact r.wf
  have inl:∀ i,i∈L->i<ops.size:=by
   intro i R
   obtain ⟨L1,L2,e⟩:=aL (l.subset R)
   obtain ⟨o,ho,_⟩:=D L1 i L2 e
   exact (Array.getElem?_eq_some_iff.1 ho).1
  constructor
  ·
   intro u
   exfalso
   cases L with
   | nil=>simp at T
   | cons i L=>
    have R:=inl i (by simp)
    obtain ⟨L1,L2,e⟩:=aL (l.subset (show i∈i::L by simp))
    obtain ⟨o,ho,hp⟩:=D L1 i L2 e
    have:i∈Region.ready .any ops listed:=by
     refine mem_ready.2 ⟨(b i R).2 (by simp),o,ho,fun w V E=>?_⟩
     rcases hp w V E with h'|h'
     ·cases h'
     ·have ae:w.on<ops.size:=by
       obtain ⟨M1,M2,e'⟩:=aL h'
       obtain ⟨o',an,_⟩:=D M1 w.on (M2++i::L2) (by rw [e,e'];simp)
       exact (Array.getElem?_eq_some_iff.1 an).1
      have ac:w.on∉i::L:=by
       intro hm
       have S:(i::L).Sublist (L1++i::L2):=by rw [<- e];exact l
       have A:(L1++i::L2).Nodup:=by rw [<- e];exact af
       have s:i∉L1:=fun G=>(List.nodup_append.1 A).2.2 i G i (by simp) rfl
       have ai:(i::L).Sublist (i::L2):=by
        clear u b z hQ hv g ih hp V E
        revert S s
        clear A e h'
        induction L1 with
        | nil=>exact fun h _=>h
        | cons y L1 ihL=>
         intro S s
         refine ihL ?_ (fun G=>s (by simp [G]))
         cases S with
         | cons _ h=>exact h
         | cons_cons _ h=>exact absurd (by simp) s
       have:=ai.subset hm
       exact (List.nodup_append.1 A).2.2 w.on h' w.on this rfl
      cases hg:listed.getD w.on false with
      | true=>rfl
      | false=>
       have:listed.getD w.on true=false:=by
        have J:w.on<listed.size:=by rw [B];exact ae
        simp [aS,J] at hg ⊢;exact hg
       exact absurd ((b _ ae).1 this) ac
    rw [u] at this;cases this
  ·intro i R
   obtain ⟨h1,oi,x,ab⟩:=mem_ready.1 R
   have q:=(Array.getElem?_eq_some_iff.1 x).1
   have aj:=(b i q).1 h1
   obtain ⟨L1,L2,e⟩:=aL aj
   have p:L.Nodup:=l.nodup af
   have ao:∀ j∈L1,has (anc.getD i []) j=false:=by
    intro j M
    cases G:has (anc.getD i []) j with
    | false=>rfl
    | true=>
     exfalso
     have O:j∈L:=by rw [e];simp [M]
     have ad:=(b j (inl j O)).2 O
     have Z:=List.all_eq_true.1 (List.all_eq_true.1 hanc i (List.mem_range.2 q)) j (T9.1 G)
     simp only [x] at Z
     obtain ⟨w,V,E⟩:=List.any_eq_true.1 Z
     simp only [aD,aN] at E
     have C:=ab w (by simpa using V) E.1
     have N:listed.getD j false=true:=by
      rcases E.2 with h'|h'
      ·rw [<- aH h'];exact C
      ·exact z _ j C h'
     have J:j<listed.size:=by rw [B];exact inl j O
     simp [aS,J] at ad N
     rw [ad] at N;cases N
   have aa:i∉L1:=by
    rw [e] at p
    exact fun G=>(List.nodup_append.1 p).2.2 i G i (by simp) rfl
   have ap:=B9u x (L2:=L2) L1 m st h (by have:=T;rw [e,List.length_append,List.length_cons] at this;omega) wf ao aa (by rw [<- e];exact hv)
   refine wpOpIn_mono (fun a' W' ⟨st',h',⟨_,hK⟩,g',ag⟩=>?_) (g.op hn hfn x ap)
   have H:∀ j d,(listed.setIfInBounds i true).getD j d=if j=i then true else listed.getD j d:=by
    intro j d
    by_cases c:j=i
    ·subst c;rw [iP rfl];exact Xy d (by rw [B];exact q)
    ·rw [iN c];exact getD_set_ne d (Ne.symm c)
   rw [e] at p
   have am:i∉L1:=fun G=>(List.nodup_append.1 p).2.2 i G i (by simp) rfl
   have ak:i∉L2:=(List.nodup_cons.1 (List.nodup_append.1 p).2.1).1
   refine ih (L1++L2) _ st' h' a' W' (by rw [e] at T;simp at T ⊢;omega) ?_ (by simpa using B) (fun j M=>?_) (fun j k M hk=>?_) g' hK fun ah h2 a2 W2 k g2 aq=>hQ ah h2 a2 W2 k g2 (ag.trans aq)
   ·refine List.Sublist.trans ?_ l
    rw [e]
    exact List.Sublist.append (List.Sublist.refl _) (List.sublist_cons_self _ _)
   ·rw [H]
    by_cases c:j=i
    ·subst c;simp [am,ak]
    ·rw [iN c,b j M,e];simp [c]
   ·rw [H] at M ⊢
    by_cases X:k=i
    ·rw [iP X]
    ·rw [iN X]
     by_cases c:j=i
     ·subst c
      have Z:=List.all_eq_true.1 (List.all_eq_true.1 hanc j (List.mem_range.2 q)) k (T9.1 hk)
      simp only [x] at Z
      obtain ⟨w,V,E⟩:=List.any_eq_true.1 Z
      simp only [aD,aN] at E
      have C:=ab w (by simpa using V) E.1
      rcases E.2 with h'|h'
      ·rw [<- aH h'];exact C
      ·exact z _ k C h'
     ·rw [iN c] at M;exact z j k M hk
def A6q{al:Nat->List Nat}{F:Fence}{fu:Nat}[FOk F]{n:Nat}{h0:aF}{W0:World}(hn:cfg.n=n)(hfn:Bodies P cfg.fns){id:Nat}{ord:List Nat}{anc:List (List Nat)}(hok:B02 P ops ord anc=true){Q:Exit->Act->World->Prop}{K:VS->aF->Prop}{st:VS}{h:aF}{a:Act}{W:World}
 (g:Good n h0 W0 st h a W) (hv:Cq P cfg ops anc al ord.length ord st h K) (hQ:∀ st' h' a' W',K st' h'->Good n h0 W0 st' h' a' W'->Agree cfg.lim st st'->Q .normal a' W'):(Code.region id ops true).wpIn F fu P Q a W:=by
 simp only [B02,aD] at hok
 obtain ⟨⟨⟨⟨k,l⟩,p⟩,m⟩,e⟩:=hok
 refine wpIn_region_any k ?_
 have q:Good n h0 W0 st h a { W with drawn:=W.drawn+1 }:=by
  obtain ⟨θ,r,f,o⟩:=g
  exact ⟨θ,⟨r.defers,r.size,r.slot,r.sim,r.own,r.inj,r.wf,r.out⟩,⟨f.sim,f.os,f.tape,f.output,f.size,f.keep,f.new⟩,o⟩
 have b:∀ i,i<ops.size->i∈ord:=fun i c=>T9.1 (List.all_eq_true.1 m i (List.mem_range.2 c))
 rw [aH e] at hv
 refine B0i hn hfn l p b ops.size ord _ st h a _ (aH e) (List.Sublist.refl _) (by simp) (fun i c=>?_) (fun i j c _=>?_) q hv hQ
 ·simp [aS,c,b i c]
 ·by_cases d:i<ops.size<;>simp [aS,d] at c
end
